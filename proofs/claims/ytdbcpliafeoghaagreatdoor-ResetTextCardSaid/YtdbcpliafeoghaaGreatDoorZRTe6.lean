/- Models of functions with their proofs, by program (gen/xt.py), and plain laws, in one text. Conditions: none. -/
import Derived.Test.YtdbcpliafeoghaaGreatDoorZRTe4
import Derived.Test.YtdbcpliafeoghaaGreatDoorZRTe3
import Derived.Test.YtdbcpliafeoghaaGreatDoorZRTe5
import Derived.Test.YtdbcpliafeoghaaGreatDoorZRTe1
import Derived.OpenShut
import Derived.LaidLaws
import Derived.LaidHandle
import Derived.Lay
import Derived.MakeChecks
set_option linter.unusedVariables false
set_option linter.unusedSimpArgs false
set_option maxHeartbeats 4000000
set_option maxRecDepth 20000
section
namespace Go.Gx
open Go Go.Sx Go.RowKit
mutual
def shV (k:Nat):GV->GV
 | .ptr h o=> .ptr (k+h) o
 | .sl h o l s=> .sl (k+h) o l s
 | .map h=> .map (k+h)
 | .fn f a b=> .fn f (shL k a) (shL k b)
 | .agg cs=> .agg (shL k cs)
 | .tup vs=> .tup (shL k vs)
 | .int a b=> .int a b
 | .bool b=> .bool b
 | .str a b=> .str a b
 | .pnil=> .pnil
 | .snil=> .snil
 | .fnil=> .fnil
 | .inil=> .inil
 | .un=> .un
 | .bad=> .bad
def shL (k:Nat):List GV->List GV
 | []=>[]
 |v::r=>shV k v::shL k r
end
theorem shL_get (k:Nat):∀(l:List GV) (i:Nat),(shL k l)[i]? = (l[i]?).map (shV k)
 | [],i=>rfl
 |v::r,0=>rfl
 |v::r,i+1=>by simpa [shL]using shL_get k r i
theorem shL_len (k:Nat):∀(l:List GV),(shL k l).length=l.length
 | []=>rfl
 |v::r=>by simp[shL,shL_len k r]
def shO (k:Nat):GO->GO
 | .cells cs=> .cells (shL k cs)
 | .mp es=> .mp (es.map fun e=>(shV k e.1,shV k e.2))
def shLoc (k:Nat) (l:Loc):Loc:={l with o:=shO k l.o}
theorem Rl.shift {ρ ρ':Rho} {k:Nat} (hρ:∀h l,ρ h=some l->ρ' (k+h)=some (shLoc k l)) {g:GV} {v:Value} (h:Rl ρ g v):Rl ρ' (shV k g) v:=by
 have lst:∀{us:List GV} {us':List Value},(∀(i:Nat) g v,us[i]? = some g->us'[i]? = some v->Rl ρ' (shV k g) v)->∀(i:Nat) g v,(shL k us)[i]? = some g->us'[i]? = some v->Rl ρ' g v:=by
  intro us us' hh i g v hg hv
  rw[shL_get]at hg
  obtain⟨g0,h0,rfl⟩:=Option.map_eq_some_iff.1 hg
  exact hh i g0 v h0 hv
 induction h with
 |int a n=>simp only[shV];exact .int a n
 |bool b=>simp only[shV];exact .bool b
 |str s=>simp only[shV];exact .str s
 |ptr off h=>simp only[shV];exact .ptr (l:=shLoc k _) off (hρ _ _ h)
 |pnil=>simp only[shV];exact .pnil
 |sl h hc ha=>simp only[shV];exact .sl (l:=shLoc k _) (hρ _ _ h) hc ha
 |snil=>simp only[shV];exact .snil
 |map h=>simp only[shV];exact .map (l:=shLoc k _) (hρ _ _ h)
 |fn f h1 h2 h3 h4 ih2 ih4=>simp only[shV];exact .fn f (by rw[shL_len];exact h1) (lst ih2) (by rw[shL_len];exact h3) (lst ih4)
 |fnil=>simp only[shV];exact .fnil
 |inil=>simp only[shV];exact .inil
 |agg h1 h2 h3 ih=>simp only[shV];exact .agg (by rw[shL_len];exact h1) (lst ih) h3
 |tup h1 h2 ih=>simp only[shV];exact .tup (by rw[shL_len];exact h1) (lst ih)
 |un=>simp only[shV];exact .un
 |bad v=>simp only[shV];exact .bad v

abbrev OL:=List (Nat×Nat×GO)
def lkO:OL->Nat->Option (Nat×GO)
 | [],_=>none
 |x::r,h=>if h=x.1 then some x.2 else lkO r h
theorem lkO_mem {os:OL} {h:Nat} {p:Nat×GO} (hl:lkO os h=some p):(h,p)∈os:=by
 induction os with
 |nil=>cases hl
 |cons x r ih=>
  simp only[lkO]at hl
  split at hl
  ·rename_i e;cases hl;subst e;exact List.mem_cons_self
  ·exact List.mem_cons_of_mem _ (ih hl)
noncomputable def putO (k:Nat) (t:Tr (Nat×GO)):OL->Tr (Nat×GO)
 | []=>t
 |x::r=>(putO k t r).set (some (k+x.2.1,shO k x.2.2)) (k+x.1)
noncomputable def rawO:OL->Tr (Nat×GO)
 | []=> .lf
 |x::r=>(rawO r).set (some x.2) x.1
theorem rawO_get:∀(os:OL) (h:Nat),(rawO os).get h=lkO os h
 | [],h=>rfl
 |x::r,h=>by
  show((rawO r).set (some x.2) x.1).get h=_
  rw[Tr.get_set]
  simp only[lkO]
  split
  ·rfl
  ·exact rawO_get r h
theorem putO_get (k:Nat) (t:Tr (Nat×GO)):∀(os:OL) (h:Nat),(putO k t os).get h=if k<=h then(match lkO os (h - k)with|some p=>some (k+p.1,shO k p.2)|none=>t.get h)else t.get h
 | [],h=>by simp[putO,lkO]
 | x :: r, h => by
  show((putO k t r).set (some (k+x.2.1,shO k x.2.2)) (k+x.1)).get h=_
  rw[Tr.get_set,putO_get k t r h]
  by_cases e:h=k+x.1
  ·subst e
   rw[if_pos rfl,if_pos (by omega)]
   simp[lkO]
  ·rw[if_neg e]
   by_cases hk:k<=h
   ·rw[if_pos hk,if_pos hk]
    simp only[lkO]
    rw[if_neg (show¬h - k=x.1 by omega)]
   ·rw[if_neg hk,if_neg hk]
noncomputable def mkH (n:Nat) (os:OL):GH:=⟨n,rawO os⟩
noncomputable def GH.load (H:GH) (n:Nat) (os:OL):GH:=⟨H.n+n,putO H.n H.t os⟩
section
variable {gs:Gls} {w0:Base gs} {w w':World} {ρ ρ2:Rho} {H:GH} {n:Nat} {os:OL}
theorem GH.get_some {H:GH} {h:Nat} {o:GO}:H.get h=some o↔∃v,H.t.get h=some (v,o):=by
 unfold GH.get
 cases hh:H.t.get h with
 |none=>simp[ob]
 |some p=>obtain⟨a,b⟩:=p;simp[ob]
theorem GH.ver_some {H:GH} {h v:Nat}:H.ver h=some v↔∃o,H.t.get h=some (v,o):=by
 unfold GH.ver
 cases hh:H.t.get h with
 |none=>simp[ob]
 |some p=>obtain⟨a,b⟩:=p;simp[ob]
theorem Rel.sub {H2:GH} (R:Rel w0 ρ H w) (hn:H2.n=H.n) (hs:∀h p,H2.t.get h=some p->H.t.get h=some p):Rel w0 ρ H2 w:=by
 have g:∀h o,H2.get h=some o->H.get h=some o:=fun h o hg=>by
  obtain⟨v,hv⟩:=GH.get_some.1 hg
  exact GH.get_some.2 ⟨v,hs _ _ hv⟩
 refine⟨R.ext,fun h o hg=>R.live h o (g h o hg),fun h h' o o' l l' h1 h2=>R.inj h h' o o' l l' (g _ _ h1) (g _ _ h2),fun h hh=>R.fresh h (by omega),fun h hh=>R.dense h (by omega),fun h v l hv hl=> ?_⟩
 obtain⟨o,ho⟩:=GH.ver_some.1 hv
 obtain⟨lv,a,b,c⟩:=R.vers h v l (GH.ver_some.2 ⟨o,hs _ _ ho⟩) hl
 refine⟨lv,a,b,?_⟩
 have h1:=GH.get_some.2 ⟨v,ho⟩
 have h2:=g _ _ h1
 rw[c]at h2;cases h2;exact h1
theorem ObjOk.shift {l:Loc} {o:GO} {ρ':Rho} {k:Nat} (hρ:∀h l,ρ2 h=some l->ρ' (k+h)=some (shLoc k l)) (h:ObjOk ρ2 w l o):ObjOk ρ' w (shLoc k l) (shO k o):=by
 cases o with
 |cells cs=>
  obtain⟨cur,T,h1,h2,h3,h4⟩:=h
  refine⟨cur,T,h1,h2,by rw[shL_len];exact h3,fun i g hg=> ?_⟩
  rw[shL_get]at hg
  obtain⟨g0,h0,rfl⟩:=Option.map_eq_some_iff.1 hg
  obtain⟨v,a,b,c⟩:=h4 i g0 h0
  exact⟨v,a,b.shift hρ,c⟩
 |mp es=>
  obtain⟨en,cl,h1,h2,h3⟩:=h
  refine⟨en,cl,h1,by simpa [shO]using h2,fun i g hg=> ?_⟩
  rw[List.getElem?_map]at hg
  obtain⟨g0,h0,rfl⟩:=Option.map_eq_some_iff.1 hg
  obtain⟨m,a,b,c⟩:=h3 i g0 h0
  exact⟨m,a,b.shift hρ,c.shift hρ⟩
theorem Rel.join {hb:GlsOk gs w fun _=>False} (R:Rel w0 ρ H w) (R2:Rel (Base.of w hb) ρ2 (mkH n os) w'):
  ∃ρ':Rho,ρ.le ρ'∧Rel w0 ρ' (H.load n os) w'∧∀g v,Rl ρ2 g v->Rl ρ' (shV H.n g) v:=by
 let ρ':Rho:=fun h=>if h<H.n then ρ h else(ρ2 (h - H.n)).map (shLoc H.n)
 have hle:ρ.le ρ':=fun h l hl=>by
  have hlt:h<H.n:=by
   rcases Nat.lt_or_ge h H.n with q|q
   ·exact q
   ·rw[R.fresh h q]at hl;cases hl
  show(if h<H.n then ρ h else _)=_
  rw[if_pos hlt];exact hl
 have hsh:∀h l,ρ2 h=some l->ρ' (H.n+h)=some (shLoc H.n l):=fun h l hl=>by
  show(if H.n+h<H.n then _ else _)=_
  rw[if_neg (by omega),show H.n+h - H.n=h by omega,hl];rfl
 have hlow:∀h,h<H.n->ρ' h=ρ h:=fun h hh=>by show(if h<H.n then ρ h else _)=_;rw[if_pos hh]
 have hhigh:∀h,H.n<=h->ρ' h=(ρ2 (h - H.n)).map (shLoc H.n):=fun h hh=>by show(if h<H.n then ρ h else _)=_;rw[if_neg (by omega)]
 have hnone:∀h,H.n<=h->H.t.get h=none:=fun h hh=>by
  cases hg:H.t.get h with
  |none=>rfl
  |some p=>exact absurd (R.lt (GH.get_some.2 ⟨p.1,hg⟩)) (by omega)
 have gl:∀h,h<H.n->(H.load n os).t.get h=H.t.get h:=fun h hh=>by
  show(putO H.n H.t os).get h=_
  rw[putO_get,if_neg (by omega)]
 have gh:∀h p,H.n<=h->(H.load n os).t.get h=some p->∃p2,(mkH n os).t.get (h - H.n)=some p2∧p=(H.n+p2.1,shO H.n p2.2):=fun h p hh hp=>by
  have hp':(putO H.n H.t os).get h=some p:=hp
  rw[putO_get,if_pos hh,hnone h hh]at hp'
  cases hk:lkO os (h - H.n)with
  |none=>rw[hk]at hp';cases hp'
  |some p2=>rw[hk]at hp';cases hp';exact⟨p2,(rawO_get os _).trans hk,rfl⟩
 have e2:Ext w w':=R2.ext.ext
 have mine2:∀l:Loc,(Base.of w hb).mine l.b->w.heap.size<=l.b:=fun l h=>by
  rcases h with h|h
  ·exact h
  ·exact h.elim
 have liveL:∀h o,h<H.n->(H.load n os).get h=some o->∃l,ρ h=some l∧w0.mine l.b∧ObjOk ρ w l o∧H.get h=some o:=fun h o hh hg=>by
  obtain⟨v,hv⟩:=GH.get_some.1 hg
  rw[gl h hh]at hv
  have hg':=GH.get_some.2 ⟨v,hv⟩
  obtain⟨l,a,b,c⟩:=R.live h o hg'
  exact⟨l,a,b,c,hg'⟩
 have liveH:∀h o,H.n<=h->(H.load n os).get h=some o->∃l o2,ρ2 (h - H.n)=some l∧w.heap.size<=l.b∧ObjOk ρ2 w' l o2∧o=shO H.n o2∧(mkH n os).get (h - H.n)=some o2:=fun h o hh hg=>by
  obtain⟨v,hv⟩:=GH.get_some.1 hg
  obtain⟨p2,h2,e⟩:=gh h _ hh hv
  cases e
  have hg':(mkH n os).get (h - H.n)=some p2.2:=GH.get_some.2 ⟨p2.1,h2⟩
  obtain⟨l,a,b,c⟩:=R2.live _ _ hg'
  exact⟨l,p2.2,a,mine2 l b,c,rfl,hg'⟩
 refine⟨ρ',hle,⟨R.ext.trans e2,fun h o hg=> ?_,fun h h' o o' l l' h1 h2 hl hl' hbb=> ?_,fun h hh=> ?_,fun h hh=> ?_,fun h v l hv hl=> ?_⟩,fun g v hg=>hg.shift hsh⟩
 ·rcases Nat.lt_or_ge h H.n with q|q
  ·obtain⟨l,a,b,c,_⟩:=liveL h o q hg
   exact⟨l,by rw[hlow h q];exact a,b,c.move hle (e2.block _ c.lt)⟩
  ·obtain⟨l,o2,a,b,c,rfl,_⟩:=liveH h o q hg
   exact⟨shLoc H.n l,by rw[hhigh h q,a];rfl,.inl (Nat.le_trans R.ext.size b),c.shift hsh⟩
 ·rcases Nat.lt_or_ge h H.n with q|q<;>rcases Nat.lt_or_ge h' H.n with q'|q'
  ·obtain⟨l1,a1,_,_,g1⟩:=liveL h o q h1
   obtain⟨l2,a2,_,_,g2⟩:=liveL h' o' q' h2
   rw[hlow h q,a1]at hl;rw[hlow h' q',a2]at hl'
   cases hl;cases hl'
   exact R.inj h h' o o' _ _ g1 g2 a1 a2 hbb
  ·obtain⟨l1,a1,_,c1,g1⟩:=liveL h o q h1
   obtain⟨l2,o2,a2,b2,_,rfl,g2⟩:=liveH h' o' q' h2
   rw[hlow h q,a1]at hl;rw[hhigh h' q',a2]at hl'
   cases hl;cases hl'
   have:=c1.lt
   simp only[shLoc]at hbb
   omega
  ·obtain⟨l1,o1,a1,b1,_,rfl,g1⟩:=liveH h o q h1
   obtain⟨l2,a2,_,c2,g2⟩:=liveL h' o' q' h2
   rw[hhigh h q,a1]at hl;rw[hlow h' q',a2]at hl'
   cases hl;cases hl'
   have:=c2.lt
   simp only[shLoc]at hbb
   omega
  ·obtain⟨l1,o1,a1,b1,_,rfl,g1⟩:=liveH h o q h1
   obtain⟨l2,o2,a2,b2,_,rfl,g2⟩:=liveH h' o' q' h2
   rw[hhigh h q,a1]at hl;rw[hhigh h' q',a2]at hl'
   cases hl;cases hl'
   have:=R2.inj _ _ _ _ _ _ g1 g2 a1 a2 hbb
   omega
 ·have hh':H.n+n<=h:=hh
  rw[hhigh h (by omega),R2.fresh (h - H.n) (by show n<=_;omega)];rfl
 ·have hh':h<H.n+n:=hh
  rcases Nat.lt_or_ge h H.n with q|q
  ·obtain⟨l,hl⟩:=R.dense h q
   exact⟨l,by rw[hlow h q];exact hl⟩
  ·obtain⟨l,hl⟩:=R2.dense (h - H.n) (by show _<n;omega)
   exact⟨shLoc H.n l,by rw[hhigh h q,hl];rfl⟩
 ·obtain⟨o,ho⟩:=GH.ver_some.1 hv
  rcases Nat.lt_or_ge h H.n with q|q
  ·rw[gl h q]at ho
   rw[hlow h q]at hl
   obtain⟨lv,a,b,c⟩:=R.vers h v l (GH.ver_some.2 ⟨o,ho⟩) hl
   have hg:=GH.get_some.2 ⟨v,ho⟩
   obtain⟨l',hl',_,ck⟩:=R.live h o hg
   rw[hl]at hl';cases hl'
   refine⟨lv,hle _ _ a,by rw[e2.block _ ck.lt];exact b,?_⟩
   obtain⟨v2,hv2⟩:=GH.get_some.1 c
   exact GH.get_some.2 ⟨v2,by rw[gl h q];exact hv2⟩
  ·obtain⟨p2,h2,e⟩:=gh h _ q ho
   cases e
   rw[hhigh h q]at hl
   obtain⟨l2,hl2,rfl⟩:=Option.map_eq_some_iff.1 hl
   obtain⟨lv,a,b,c⟩:=R2.vers (h - H.n) p2.1 l2 (GH.ver_some.2 ⟨p2.2,h2⟩) hl2
   refine⟨shLoc H.n lv,hsh _ _ a,b,?_⟩
   have h3:(mkH n os).get (h - H.n)=some p2.2:=GH.get_some.2 ⟨p2.1,h2⟩
   rw[c]at h3
   have h4:=Option.some.inj h3
   exact GH.get_some.2 ⟨_,by rw[ho,<-h4];rfl⟩
end

theorem eqS_pair {a b:Nat×Nat} (h:eqS a b=true):a=b:=by
 obtain⟨a1,a2⟩:=a
 obtain⟨b1,b2⟩:=b
 unfold eqS at h
 cases h2:Nat.beq a2 b2 with
 |false=>simp[h2]at h
 |true=>
  simp only[h2,cond_true]at h
  rw[Nat.eq_of_beq_eq_true h,Nat.eq_of_beq_eq_true h2]
theorem rl_str {ρ:Rho} {n l:Nat} {x:ByteArray} (e1:n=encB (bytesOfV x)) (e2:l=(bytesOfV x).length):Rl ρ (.str n l) (.string x):=by
 rw[e1,e2];exact .str x
def isS (us:List GV) (p:Nat×Nat):Bool:=List.casesOn (motive:=fun _=>Bool) us false fun u r=>List.casesOn (motive:=fun _=>Bool) r (Option.casesOn (motive:=fun _=>Bool) (GV.asStr u) false fun s=>eqS s p) fun _ _=>false
theorem isS_eq {us:List GV} {p:Nat×Nat} (h:isS us p=true):us=[.str p.1 p.2]:=by
 cases us with
 |nil=>cases h
 | cons u r =>
  cases r with
  |cons _ _=>cases h
  | nil =>
   cases hu:GV.asStr u with
   |none=>simp[isS,hu]at h
   |some s=>
    have:eqS s p=true:=by simpa [isS,hu]using h
    rw[asStr_eq hu,eqS_pair this]
noncomputable section
def pickO (H:GH) (hs:List Nat):Option OL:=List.rec (motive:=fun _=>Option OL) (some []) (fun h _ ih=>ob (H.t.get h) fun p=>ob ih fun r=>some ((h,p.1,p.2)::r)) hs
theorem pickO_mem {H:GH}:∀{hs:List Nat} {os:OL},pickO H hs=some os->∀x∈os,H.t.get x.1=some x.2
 | [],os,h,x,hx=>by cases h;cases hx
 |h0::hs,os,h,x,hx=>by
  obtain⟨p,hp,h⟩:=ob_some.1 (show ob (H.t.get h0) (fun p=>ob (pickO H hs) fun r=>some ((h0,p.1,p.2)::r))=some os from h)
  obtain⟨r,hr,h⟩:=ob_some.1 h
  cases h
  rcases List.mem_cons.1 hx with rfl|hx
  ·exact hp
  ·exact pickO_mem hr x hx
def memoR (T:Tabs) (G:GP) (fuel f:Nat) (us:List GV) (hs:List Nat):Option (GV×Nat×OL):=ob (callR T G fuel f us H0) fun r=>ob (pickO r.2 hs) fun os=>some (r.1,r.2.n,os)
def shK {R:Type} (k:Nat) (v:GV) (f:GV->R):R:=GV.casesOn (motive_1:=fun _=>R) v (fun a b=>f (.int a b)) (fun b=>f (.bool b)) (fun a b=>f (.str a b)) (fun h o=>sn (Nat.add k h) fun h=>f (.ptr h o)) (f .pnil) (fun h o l s=>sn (Nat.add k h) fun h=>f (.sl h o l s)) (f .snil) (fun h=>sn (Nat.add k h) fun h=>f (.map h)) (fun a b c=>f (shV k (.fn a b c))) (f .fnil) (f .inil) (fun cs=>f (shV k (.agg cs))) (fun vs=>f (shV k (.tup vs))) (f .un) (f .bad)
theorem shK_eq {R:Type} (k:Nat) (v:GV) (f:GV->R):shK k v f=f (shV k v):=by
 cases v<;>simp[shK,sn_eq,shV]
def shLK {R:Type} (k:Nat) (l:List GV):(List GV->R)->R:=List.rec (motive:=fun _=>(List GV->R)->R) (fun f=>f []) (fun x _ ih f=>shK k x fun y=>ih fun r=>f (y::r)) l
theorem shLK_eq {R:Type} (k:Nat):∀(l:List GV) (f:List GV->R),shLK k l f=f (shL k l)
 | [],f=>rfl
 |x::l,f=>by
  show shK k x (fun y=>shLK k l fun r=>f (y::r))=_
  rw[shK_eq,shLK_eq k l];rfl
def shOK {R:Type} (k:Nat) (o:GO) (f:GO->R):R:=GO.casesOn (motive:=fun _=>R) o (fun cs=>shLK k cs fun cs=>f (.cells cs)) (fun es=>f (shO k (.mp es)))
theorem shOK_eq {R:Type} (k:Nat) (o:GO) (f:GO->R):shOK k o f=f (shO k o):=by
 cases o with
 |cells cs=>exact shLK_eq k cs _
 |mp es=>rfl
def putK {R:Type} (k:Nat) (t:Tr (Nat×GO)) (os:OL):(Tr (Nat×GO)->R)->R:=List.rec (motive:=fun _=>(Tr (Nat×GO)->R)->R) (fun f=>f t) (fun x _ ih f=>ih fun t=>sn (Nat.add k x.2.1) fun v=>sn (Nat.add k x.1) fun h=>shOK k x.2.2 fun o=>t.setK (some (v,o)) h f) os
theorem putK_eq {R:Type} (k:Nat) (t:Tr (Nat×GO)):∀(os:OL) (f:Tr (Nat×GO)->R),putK k t os f=f (putO k t os)
 | [],f=>rfl
 |x::os,f=>by
  show putK k t os (fun t=>sn (Nat.add k x.2.1) fun v=>sn (Nat.add k x.1) fun h=>shOK k x.2.2 fun o=>t.setK (some (v,o)) h f)=_
  rw[putK_eq k t os]
  simp only[sn_eq,shOK_eq,Tr.setK_eq];rfl
def memoK (g:GV) (n:Nat) (os:OL) (H:GH):Option (GV×GH):=sn H.n fun k=>shK k g fun g=>putK k H.t os fun t=>sn (Nat.add k n) fun m=>some (g,⟨m,t⟩)
theorem memoK_eq (g:GV) (n:Nat) (os:OL) (H:GH):memoK g n os H=some (shV H.n g,H.load n os):=by
 unfold memoK
 simp only[sn_eq,shK_eq,putK_eq];rfl
theorem memo_ok {P:Program} {T:Tabs} {G:GP} {gs:Gls} (hT:TabsOk T G.tab) (hG:∀w0:Base gs,GOk P G T.fns w0) {fuel f n:Nat} {us:List GV} {vs:List Value} {hs:List Nat} {g:GV} {os:OL} (hm:memoR T G fuel f us hs=some (g,n,os)) (hb:HasBody P f)
  {w0:Base gs} {w:World} {ρ:Rho} {H H':GH} {g':GV} (hv:RlL (fun _=>none) us vs) (h:memoK g n os H=some (g',H')) (R:Rel w0 ρ H w):CallSem P w0 ρ f vs w g' H':=by
 rw[memoK_eq]at h;cases h
 obtain⟨r,hr,hm⟩:=ob_some.1 (show ob (callR T G fuel f us H0) _=some (g,n,os)from hm)
 obtain⟨os',hos,hm⟩:=ob_some.1 hm
 cases hm
 rw[callR_eq hT]at hr
 have hgl:GlsOk gs w fun _=>False:=fun p hp=>⟨(R.glo p hp).1,id⟩
 rcases callF_ok hG (H':=r.2) (g:=r.1) hr (Rel.start (Base.of w hgl)) hv with⟨v,w',ρ',hr',_⟩|⟨_,hc⟩
 ·have:=hb vs.toArray w
  rw[show(Base.of w hgl).w=w from rfl,this]at hr';cases hr'
 ·refine .inr ⟨hb _ w,hc.mono ?_⟩
  rintro e w' ⟨v,ρ2,rfl,_,R2,hr2⟩
  have R3:Rel (Base.of w hgl) ρ2 (mkH r.2.n os) w':=R2.sub rfl fun h p hp=>by
   have:lkO os h=some p:=(rawO_get os h).symm.trans hp
   exact pickO_mem hos _ (lkO_mem this)
  obtain⟨ρ',hle,R4,hsh⟩:=R.join R3
  exact⟨v,ρ',rfl,hle,R4,hsh _ _ hr2⟩
theorem memo_base {P:Program} {T:Tabs} {G:GP} {gs:Gls} (hT:TabsOk T G.tab) (hG:∀w0:Base gs,GOk P G T.fns w0) {fuel f n:Nat} {us:List GV} {vs:List Value} {hs:List Nat} {g:GV} {os:OL} (hm:memoR T G fuel f us hs=some (g,n,os)) (hb:HasBody P f)
  (hv:RlL (fun _=>none) us vs) (b:Base gs):Calls P f vs.toArray b.w fun e w'=>∃v ρ',e = .returned v∧Rel b ρ' (mkH n os) w'∧Rl ρ' g v:=by
 obtain⟨r,hr,hm⟩:=ob_some.1 (show ob (callR T G fuel f us H0) _=some (g,n,os)from hm)
 obtain⟨os',hos,hm⟩:=ob_some.1 hm
 cases hm
 rw[callR_eq hT]at hr
 rcases callF_ok hG (H':=r.2) (g:=r.1) hr (Rel.start b) hv with⟨v,w',ρ',hr',_⟩|⟨_,hc⟩
 ·have:=hb vs.toArray b.w
  rw[this]at hr';cases hr'
 ·refine hc.mono ?_
  rintro e w' ⟨v,ρ2,rfl,_,R2,hr2⟩
  exact⟨v,ρ2,rfl,R2.sub rfl fun h p hp=>by
   have:lkO os h=some p:=(rawO_get os h).symm.trans hp
   exact pickO_mem hos _ (lkO_mem this),hr2⟩
end
theorem meets_memo {P:Program} {gs:Nat->Gls} {L:List Fact} (hL:∀w S,(∀h∈L,h.p w S)->∃T,GlsOk (gs T) w fun _=>False) {f n:Nat} {vs:List Value} {g:GV} {os:OL}
  (h:∀T (b:Base (gs T)),Calls P f vs.toArray b.w fun e w'=>∃v ρ',e = .returned v∧Rel b ρ' (mkH n os) w'∧Rl ρ' g v) {A:Type} {ret:A->Value} {LO:A->List Fact}
  (hdec:∀T (b:Base (gs T)) (ρ:Rho) (w:World) (V:Value),(∀k,b.mine k->b.w.heap.size<=k)->Rel b ρ (mkH n os) w->Rl ρ g V->∃x:A,V=ret x∧∀q∈LO x,q.p w (fun k=>b.w.heap.size<=k)):
  Meets P f vs.toArray L ret (fun _ l=>l) (fun x l=>LO x++l):=by
 intro w0 S0 hw
 obtain⟨T,hT⟩:=hL w0 S0 hw
 refine(h T (.of w0 hT)).mono ?_
 rintro e w' ⟨v,ρ',rfl,R,hr⟩
 obtain⟨x,rfl,hq⟩:=hdec T (.of w0 hT) ρ' w' v (fun k hk=>hk.elim id False.elim) R hr
 refine⟨x,rfl,R.ext,fun _ _=>False,⟨fun i m hm=>by simp at hm,fun i k h=>h.elim,fun i j k h=>h.elim⟩,fun q hq'=> ?_⟩
 have hq':q∈LO x++[]:=hq'
 rw[List.append_nil]at hq'
 exact Fact.wide (hq q hq') (fun k hk=>⟨.inr (.inl hk),fun i h=>h.elim⟩)

noncomputable def encS (s:ByteArray):Nat×Nat:=(encB (bytesOfV s),(bytesOfV s).length)
theorem encS_inj {a b:ByteArray} (h:encS a=encS b):a=b:=by
 have h1:=eqS_eq a b
 unfold encS at h
 rw[h]at h1
 have h2:eqS (encB (bytesOfV b),(bytesOfV b).length) (encB (bytesOfV b),(bytesOfV b).length)=true:=by simp[eqS]
 rw[h2]at h1
 have h3:a.toList=b.toList:=eq_of_beq h1.symm
 rw[Lib.toList_data,Lib.toList_data]at h3
 obtain⟨⟨x⟩⟩:=a
 obtain⟨⟨y⟩⟩:=b
 simp only at h3
 rw[h3]
noncomputable def dStr (cs:List GV):Option (Nat×Nat):=List.casesOn (motive:=fun _=>Option (Nat×Nat)) cs none fun c r=>List.casesOn (motive:=fun _=>Option (Nat×Nat)) r c.asStr fun _ _=>none
abbrev repStr:Rep ByteArray:=⟨1,Nat.one_pos,fun _ _ cs x=>cs=[.string x],fun h=>by simp[h],fun h _=>h⟩
theorem Reads.str {S:Nat->Prop} {ρ:Rho} {w:World}:Reads S ρ w dStr repStr encS:=fun gs vs y hr h _=>by
 cases gs with
 |nil=>cases h
 |cons c gs=>
 cases gs with
 |cons _ _=>cases h
 |nil=>
 have h:c.asStr=some y:=h
 obtain⟨v,vs,rfl,hv,hr⟩:=hr.of_cons
 rw[hr.of_nil]
 rw[asStr_eq h]at hv
 obtain⟨x,rfl,e1,e2⟩:=hv.str_inv
 exact⟨x,by unfold encS;rw[<-e1,<-e2],rfl⟩
theorem str_lit {ρ:Rho} {V:Value} {n l:Nat} {s:ByteArray} (h:Rl ρ (.str n l) V) (e:encS s=(n,l)):V = .string s:=by
 obtain⟨x,rfl,e1,e2⟩:=h.str_inv
 have:encS x=encS s:=by rw[e];unfold encS;rw[<-e1,<-e2]
 rw[encS_inj this]
theorem inj_id {α:Type}:∀a b:α,id a=id b->a=b:=fun _ _ h=>h
theorem inj_pair {α β α' β':Type} {f:α->α'} {g:β->β'} (hf:∀a b,f a=f b->a=b) (hg:∀a b,g a=g b->a=b):∀a b:α×β,(fun z:α×β=>(f z.1,g z.2)) a=(fun z:α×β=>(f z.1,g z.2)) b->a=b:=fun a b h=>by
 obtain⟨a1,a2⟩:=a
 obtain⟨b1,b2⟩:=b
 simp only[Prod.mk.injEq]at h
 rw[hf _ _ h.1,hg _ _ h.2]
theorem map_inj_of {α β:Type} {f:α->β} (hf:∀a b,f a=f b->a=b):∀{xs ys:List α},xs.map f=ys.map f->xs=ys
 | [],[],_=>rfl
 | [],_::_,h=>by simp at h
 |_::_,[],h=>by simp at h
 |a::xs,b::ys,h=>by
  simp only[List.map_cons,List.cons.injEq]at h
  rw[hf _ _ h.1,map_inj_of hf h.2]
theorem one_of_sl {ρ:Rho} {V:Value} {h o n s:Nat} (hr:Rl ρ (.sl h o n s) V):one V=true:=by
 obtain⟨l,cap,A,_,rfl,_⟩:=hr.sl_inv;rfl
end Go.Gx
end
section
set_option maxRecDepth 100000
namespace Go.Gx
open Go Go.Sx Go.Proofs Go.Proofs.YtdbcpliafeoghaaGreatDoor
def mu0:List GV:=[.str 62612022078668281795505554093363622559854195865949253215105900396045672359969877880166549174032343132993734957765569202214538907514566311350427701009544032694847337705793280154083690688451269616688782133795410379376928705130345296445151552924450334836917827234573469831105668184247309683323748037249326305257450566500613104582596739355858495108587194514699348039550352061107652063950585699432193800786308390540153052463342825471615451497403378237530695269756800903089344746135921082798862585170912282432061314226997690214573863871773160495090950365393003392302336199511227963345777762340303723847551010267882950244475187531638497589816884840746003832656122559568072415127281877587919955134951848720898362784721630179183632514071187737718801766045181382178059597531935953865739058317213402067112106178269539818406468794623567714368406699984352401615611648009540554670638379077003046691601651659503488023036016650041344236444492625067110609540290467946795853434537583557082408411183186533670519462632865144031819183310381452310956185194634675703732849182713820334837695243446565596654286740386031565011357996399800921820918955437335624617843094112596863701508946442457135114386851122925397296113071978999231011209672540734656076492347048890983156526043032785285927167596865683405763291449118335047510792439178363711784660496025932951555546329846668545661249500619781993860494368395467151808107769959479474456951167188694307489519361853029722953071634727739222067984252267479508130870821814111526873691367656719627636282162632229619012164283959600299915921951610829461135327475232013270964287406921117221047932843602716792612622967992944 679]
def mg0:GV:=(.tup [(.sl 2567 0 301 4),(.int .i64 (.ofNat 0)),(.int .i64 (.ofNat 0))])
def mo0:OL:=[(2567,2567,.cells [(.int .i64 (.ofNat 1)),(.int .i64 (.ofNat 0)),(.int .i64 (.ofNat 7)),(.int .i64 (.ofNat 0)),(.int .i64 (.ofNat 1)),(.int .i64 (.ofNat 8)),(.int .i64 (.ofNat 13)),(.int .i64 (.ofNat 0)),(.int .i64 (.ofNat 3)),(.int .i64 (.ofNat 13)),(.int .i64 (.ofNat 14)),(.int .i64 (.ofNat 0)),(.int .i64 (.ofNat 1)),(.int .i64 (.ofNat 15)),(.int .i64 (.ofNat 18)),(.int .i64 (.ofNat 0)),(.int .i64 (.ofNat 1)),(.int .i64 (.ofNat 19)),(.int .i64 (.ofNat 20)),(.int .i64 (.ofNat 0)),(.int .i64 (.ofNat 3)),(.int .i64 (.ofNat 21)),(.int .i64 (.ofNat 22)),(.int .i64 (.ofNat 0)),(.int .i64 (.ofNat 2)),(.int .i64 (.ofNat 23)),(.int .i64 (.ofNat 24)),(.int .i64 (.ofNat 0)),(.int .i64 (.ofNat 3)),(.int .i64 (.ofNat 25)),(.int .i64 (.ofNat 27)),(.int .i64 (.ofNat 0)),(.int .i64 (.ofNat 1)),(.int .i64 (.ofNat 28)),(.int .i64 (.ofNat 29)),(.int .i64 (.ofNat 0)),(.int .i64 (.ofNat 3)),(.int .i64 (.ofNat 29)),(.int .i64 (.ofNat 30)),(.int .i64 (.ofNat 0)),(.int .i64 (.ofNat 1)),(.int .i64 (.ofNat 31)),(.int .i64 (.ofNat 34)),(.int .i64 (.ofNat 0)),(.int .i64 (.ofNat 1)),(.int .i64 (.ofNat 35)),(.int .i64 (.ofNat 36)),(.int .i64 (.ofNat 0)),(.int .i64 (.ofNat 3)),(.int .i64 (.ofNat 37)),(.int .i64 (.ofNat 38)),(.int .i64 (.ofNat 0)),(.int .i64 (.ofNat 1)),(.int .i64 (.ofNat 39)),(.int .i64 (.ofNat 43)),(.int .i64 (.ofNat 0)),(.int .i64 (.ofNat 3)),(.int .i64 (.ofNat 43)),(.int .i64 (.ofNat 44)),(.int .i64 (.ofNat 0)),(.int .i64 (.ofNat 1)),(.int .i64 (.ofNat 45)),(.int .i64 (.ofNat 48)),(.int .i64 (.ofNat 0)),(.int .i64 (.ofNat 1)),(.int .i64 (.ofNat 49)),(.int .i64 (.ofNat 50)),(.int .i64 (.ofNat 0)),(.int .i64 (.ofNat 3)),(.int .i64 (.ofNat 51)),(.int .i64 (.ofNat 52)),(.int .i64 (.ofNat 0)),(.int .i64 (.ofNat 1)),(.int .i64 (.ofNat 53)),(.int .i64 (.ofNat 57)),(.int .i64 (.ofNat 0)),(.int .i64 (.ofNat 3)),(.int .i64 (.ofNat 57)),(.int .i64 (.ofNat 58)),(.int .i64 (.ofNat 0)),(.int .i64 (.ofNat 1)),(.int .i64 (.ofNat 59)),(.int .i64 (.ofNat 62)),(.int .i64 (.ofNat 0)),(.int .i64 (.ofNat 1)),(.int .i64 (.ofNat 63)),(.int .i64 (.ofNat 64)),(.int .i64 (.ofNat 0)),(.int .i64 (.ofNat 3)),(.int .i64 (.ofNat 65)),(.int .i64 (.ofNat 66)),(.int .i64 (.ofNat 0)),(.int .i64 (.ofNat 1)),(.int .i64 (.ofNat 67)),(.int .i64 (.ofNat 71)),(.int .i64 (.ofNat 0)),(.int .i64 (.ofNat 3)),(.int .i64 (.ofNat 71)),(.int .i64 (.ofNat 72)),(.int .i64 (.ofNat 0)),(.int .i64 (.ofNat 1)),(.int .i64 (.ofNat 73)),(.int .i64 (.ofNat 76)),(.int .i64 (.ofNat 0)),(.int .i64 (.ofNat 1)),(.int .i64 (.ofNat 77)),(.int .i64 (.ofNat 78)),(.int .i64 (.ofNat 0)),(.int .i64 (.ofNat 3)),(.int .i64 (.ofNat 79)),(.int .i64 (.ofNat 80)),(.int .i64 (.ofNat 0)),(.int .i64 (.ofNat 2)),(.int .i64 (.ofNat 81)),(.int .i64 (.ofNat 82)),(.int .i64 (.ofNat 0)),(.int .i64 (.ofNat 3)),(.int .i64 (.ofNat 83)),(.int .i64 (.ofNat 85)),(.int .i64 (.ofNat 0)),(.int .i64 (.ofNat 2)),(.int .i64 (.ofNat 86)),(.int .i64 (.ofNat 87)),(.int .i64 (.ofNat 3)),(.int .i64 (.ofNat 3)),(.int .i64 (.ofNat 87)),(.int .i64 (.ofNat 88)),(.int .i64 (.ofNat 0)),(.int .i64 (.ofNat 1)),(.int .i64 (.ofNat 89)),(.int .i64 (.ofNat 92)),(.int .i64 (.ofNat 0)),(.int .i64 (.ofNat 1)),(.int .i64 (.ofNat 93)),(.int .i64 (.ofNat 94)),(.int .i64 (.ofNat 0)),(.int .i64 (.ofNat 3)),(.int .i64 (.ofNat 95)),(.int .i64 (.ofNat 96)),(.int .i64 (.ofNat 0)),(.int .i64 (.ofNat 1)),(.int .i64 (.ofNat 97)),(.int .i64 (.ofNat 101)),(.int .i64 (.ofNat 0)),(.int .i64 (.ofNat 3)),(.int .i64 (.ofNat 101)),(.int .i64 (.ofNat 102)),(.int .i64 (.ofNat 0)),(.int .i64 (.ofNat 1)),(.int .i64 (.ofNat 103)),(.int .i64 (.ofNat 107)),(.int .i64 (.ofNat 0)),(.int .i64 (.ofNat 1)),(.int .i64 (.ofNat 108)),(.int .i64 (.ofNat 111)),(.int .i64 (.ofNat 0)),(.int .i64 (.ofNat 3)),(.int .i64 (.ofNat 111)),(.int .i64 (.ofNat 112)),(.int .i64 (.ofNat 0)),(.int .i64 (.ofNat 1)),(.int .i64 (.ofNat 113)),(.int .i64 (.ofNat 117)),(.int .i64 (.ofNat 0)),(.int .i64 (.ofNat 3)),(.int .i64 (.ofNat 118)),(.int .i64 (.ofNat 120)),(.int .i64 (.ofNat 0)),(.int .i64 (.ofNat 3)),(.int .i64 (.ofNat 121)),(.int .i64 (.ofNat 122)),(.int .i64 (.ofNat 0)),(.int .i64 (.ofNat 1)),(.int .i64 (.ofNat 122)),(.int .i64 (.ofNat 123)),(.int .i64 (.ofNat 0)),(.int .i64 (.ofNat 3)),(.int .i64 (.ofNat 124)),(.int .i64 (.ofNat 126)),(.int .i64 (.ofNat 0)),(.int .i64 (.ofNat 2)),(.int .i64 (.ofNat 127)),(.int .i64 (.ofNat 128)),(.int .i64 (.ofNat 0)),(.int .i64 (.ofNat 3)),(.int .i64 (.ofNat 129)),(.int .i64 (.ofNat 131)),(.int .i64 (.ofNat 0)),(.int .i64 (.ofNat 1)),(.int .i64 (.ofNat 132)),(.int .i64 (.ofNat 133)),(.int .i64 (.ofNat 0)),(.int .i64 (.ofNat 3)),(.int .i64 (.ofNat 134)),(.int .i64 (.ofNat 136)),(.int .i64 (.ofNat 0)),(.int .i64 (.ofNat 1)),(.int .i64 (.ofNat 137)),(.int .i64 (.ofNat 141)),(.int .i64 (.ofNat 0)),(.int .i64 (.ofNat 3)),(.int .i64 (.ofNat 141)),(.int .i64 (.ofNat 142)),(.int .i64 (.ofNat 0)),(.int .i64 (.ofNat 3)),(.int .i64 (.ofNat 143)),(.int .i64 (.ofNat 145)),(.int .i64 (.ofNat 0)),(.int .i64 (.ofNat 1)),(.int .i64 (.ofNat 146)),(.int .i64 (.ofNat 147)),(.int .i64 (.ofNat 0)),(.int .i64 (.ofNat 3)),(.int .i64 (.ofNat 148)),(.int .i64 (.ofNat 150)),(.int .i64 (.ofNat 0)),(.int .i64 (.ofNat 2)),(.int .i64 (.ofNat 151)),(.int .i64 (.ofNat 152)),(.int .i64 (.ofNat 0)),(.int .i64 (.ofNat 3)),(.int .i64 (.ofNat 152)),(.int .i64 (.ofNat 153)),(.int .i64 (.ofNat 0)),(.int .i64 (.ofNat 1)),(.int .i64 (.ofNat 154)),(.int .i64 (.ofNat 155)),(.int .i64 (.ofNat 0)),(.int .i64 (.ofNat 3)),(.int .i64 (.ofNat 156)),(.int .i64 (.ofNat 158)),(.int .i64 (.ofNat 0)),(.int .i64 (.ofNat 1)),(.int .i64 (.ofNat 159)),(.int .i64 (.ofNat 163)),(.int .i64 (.ofNat 0)),(.int .i64 (.ofNat 3)),(.int .i64 (.ofNat 163)),(.int .i64 (.ofNat 164)),(.int .i64 (.ofNat 0)),(.int .i64 (.ofNat 1)),(.int .i64 (.ofNat 165)),(.int .i64 (.ofNat 169)),(.int .i64 (.ofNat 0)),(.int .i64 (.ofNat 1)),(.int .i64 (.ofNat 170)),(.int .i64 (.ofNat 173)),(.int .i64 (.ofNat 0)),(.int .i64 (.ofNat 3)),(.int .i64 (.ofNat 173)),(.int .i64 (.ofNat 174)),(.int .i64 (.ofNat 0)),(.int .i64 (.ofNat 3)),(.int .i64 (.ofNat 175)),(.int .i64 (.ofNat 176)),(.int .i64 (.ofNat 0)),(.int .i64 (.ofNat 1)),(.int .i64 (.ofNat 176)),(.int .i64 (.ofNat 180)),(.int .i64 (.ofNat 0)),(.int .i64 (.ofNat 3)),(.int .i64 (.ofNat 181)),(.int .i64 (.ofNat 183)),(.int .i64 (.ofNat 0)),(.int .i64 (.ofNat 3)),(.int .i64 (.ofNat 184)),(.int .i64 (.ofNat 185)),(.int .i64 (.ofNat 0)),(.int .i64 (.ofNat 1)),(.int .i64 (.ofNat 185)),(.int .i64 (.ofNat 186)),(.int .i64 (.ofNat 0)),(.int .i64 (.ofNat 3)),(.int .i64 (.ofNat 187)),(.int .i64 (.ofNat 189)),(.int .i64 (.ofNat 0)),(.int .i64 (.ofNat 3)),(.int .i64 (.ofNat 190)),(.int .i64 (.ofNat 191)),(.int .i64 (.ofNat 0)),(.int .i64 (.ofNat 1)),(.int .i64 (.ofNat 191)),(.int .i64 (.ofNat 194)),(.int .i64 (.ofNat 0)),(.int .i64 (.ofNat 3)),(.int .i64 (.ofNat 194)),(.int .i64 (.ofNat 195)),(.int .i64 (.ofNat 0)),(.int .i64 (.ofNat 1)),(.int .i64 (.ofNat 195)),(.int .i64 (.ofNat 196)),(.int .i64 (.ofNat 0)),(.int .i64 (.ofNat 3)),(.int .i64 (.ofNat 196)),(.int .i64 (.ofNat 197)),(.int .i64 (.ofNat 0)),(.int .i64 (.ofNat 1)),(.int .i64 (.ofNat 197)),(.int .i64 (.ofNat 198)),(.int .i64 (.ofNat 0)),(.int .i64 (.ofNat 3)),(.int .i64 (.ofNat 198)),(.int .i64 (.ofNat 199)),(.int .i64 (.ofNat 0)),(.int .i64 (.ofNat 3)),(.int .i64 (.ofNat 200)),(.int .i64 (.ofNat 201)),(.int .i64 (.ofNat 0)),(.int .i64 (.ofNat 1)),(.int .i64 (.ofNat 202)),(.int .i64 (.ofNat 203)),(.int .i64 (.ofNat 0)),(.int .i64 (.ofNat 3)),(.int .i64 (.ofNat 204)),(.int .i64 (.ofNat 205)),(.int .i64 (.ofNat 0)),(.int .i64 (.ofNat 1)),(.int .i64 (.ofNat 206)),(.int .i64 (.ofNat 209)),(.int .i64 (.ofNat 0)),(.int .i64 (.ofNat 3)),(.int .i64 (.ofNat 209)),(.int .i64 (.ofNat 210)),(.int .i64 (.ofNat 0)),(.int .i64 (.ofNat 1)),(.int .i64 (.ofNat 210)),(.int .i64 (.ofNat 211)),(.int .i64 (.ofNat 0)),(.int .i64 (.ofNat 3)),(.int .i64 (.ofNat 211)),(.int .i64 (.ofNat 212)),(.int .i64 (.ofNat 0)),(.int .i64 (.ofNat 1)),(.int .i64 (.ofNat 212)),(.int .i64 (.ofNat 213)),(.int .i64 (.ofNat 0)),(.int .i64 (.ofNat 3)),(.int .i64 (.ofNat 213)),(.int .i64 (.ofNat 214)),(.int .i64 (.ofNat 0)),(.int .i64 (.ofNat 3)),(.int .i64 (.ofNat 215)),(.int .i64 (.ofNat 216)),(.int .i64 (.ofNat 0)),(.int .i64 (.ofNat 2)),(.int .i64 (.ofNat 217)),(.int .i64 (.ofNat 218)),(.int .i64 (.ofNat 1)),(.int .i64 (.ofNat 3)),(.int .i64 (.ofNat 219)),(.int .i64 (.ofNat 220)),(.int .i64 (.ofNat 0)),(.int .i64 (.ofNat 1)),(.int .i64 (.ofNat 221)),(.int .i64 (.ofNat 222)),(.int .i64 (.ofNat 0)),(.int .i64 (.ofNat 3)),(.int .i64 (.ofNat 222)),(.int .i64 (.ofNat 223)),(.int .i64 (.ofNat 0)),(.int .i64 (.ofNat 3)),(.int .i64 (.ofNat 224)),(.int .i64 (.ofNat 226)),(.int .i64 (.ofNat 0)),(.int .i64 (.ofNat 1)),(.int .i64 (.ofNat 227)),(.int .i64 (.ofNat 228)),(.int .i64 (.ofNat 0)),(.int .i64 (.ofNat 3)),(.int .i64 (.ofNat 229)),(.int .i64 (.ofNat 231)),(.int .i64 (.ofNat 0)),(.int .i64 (.ofNat 1)),(.int .i64 (.ofNat 232)),(.int .i64 (.ofNat 237)),(.int .i64 (.ofNat 0)),(.int .i64 (.ofNat 3)),(.int .i64 (.ofNat 237)),(.int .i64 (.ofNat 238)),(.int .i64 (.ofNat 0)),(.int .i64 (.ofNat 1)),(.int .i64 (.ofNat 238)),(.int .i64 (.ofNat 239)),(.int .i64 (.ofNat 0)),(.int .i64 (.ofNat 3)),(.int .i64 (.ofNat 239)),(.int .i64 (.ofNat 240)),(.int .i64 (.ofNat 0)),(.int .i64 (.ofNat 1)),(.int .i64 (.ofNat 240)),(.int .i64 (.ofNat 241)),(.int .i64 (.ofNat 0)),(.int .i64 (.ofNat 3)),(.int .i64 (.ofNat 242)),(.int .i64 (.ofNat 244)),(.int .i64 (.ofNat 0)),(.int .i64 (.ofNat 1)),(.int .i64 (.ofNat 245)),(.int .i64 (.ofNat 248)),(.int .i64 (.ofNat 0)),(.int .i64 (.ofNat 3)),(.int .i64 (.ofNat 248)),(.int .i64 (.ofNat 249)),(.int .i64 (.ofNat 0)),(.int .i64 (.ofNat 1)),(.int .i64 (.ofNat 249)),(.int .i64 (.ofNat 250)),(.int .i64 (.ofNat 0)),(.int .i64 (.ofNat 3)),(.int .i64 (.ofNat 250)),(.int .i64 (.ofNat 251)),(.int .i64 (.ofNat 0)),(.int .i64 (.ofNat 1)),(.int .i64 (.ofNat 251)),(.int .i64 (.ofNat 252)),(.int .i64 (.ofNat 0)),(.int .i64 (.ofNat 3)),(.int .i64 (.ofNat 252)),(.int .i64 (.ofNat 253)),(.int .i64 (.ofNat 0)),(.int .i64 (.ofNat 3)),(.int .i64 (.ofNat 253)),(.int .i64 (.ofNat 254)),(.int .i64 (.ofNat 0)),(.int .i64 (.ofNat 3)),(.int .i64 (.ofNat 254)),(.int .i64 (.ofNat 255)),(.int .i64 (.ofNat 0)),(.int .i64 (.ofNat 3)),(.int .i64 (.ofNat 258)),(.int .i64 (.ofNat 260)),(.int .i64 (.ofNat 0)),(.int .i64 (.ofNat 1)),(.int .i64 (.ofNat 261)),(.int .i64 (.ofNat 262)),(.int .i64 (.ofNat 0)),(.int .i64 (.ofNat 3)),(.int .i64 (.ofNat 263)),(.int .i64 (.ofNat 265)),(.int .i64 (.ofNat 0)),(.int .i64 (.ofNat 3)),(.int .i64 (.ofNat 266)),(.int .i64 (.ofNat 267)),(.int .i64 (.ofNat 0)),(.int .i64 (.ofNat 1)),(.int .i64 (.ofNat 267)),(.int .i64 (.ofNat 270)),(.int .i64 (.ofNat 0)),(.int .i64 (.ofNat 3)),(.int .i64 (.ofNat 270)),(.int .i64 (.ofNat 271)),(.int .i64 (.ofNat 0)),(.int .i64 (.ofNat 1)),(.int .i64 (.ofNat 271)),(.int .i64 (.ofNat 272)),(.int .i64 (.ofNat 0)),(.int .i64 (.ofNat 3)),(.int .i64 (.ofNat 272)),(.int .i64 (.ofNat 273)),(.int .i64 (.ofNat 0)),(.int .i64 (.ofNat 1)),(.int .i64 (.ofNat 273)),(.int .i64 (.ofNat 274)),(.int .i64 (.ofNat 0)),(.int .i64 (.ofNat 3)),(.int .i64 (.ofNat 274)),(.int .i64 (.ofNat 275)),(.int .i64 (.ofNat 0)),(.int .i64 (.ofNat 3)),(.int .i64 (.ofNat 276)),(.int .i64 (.ofNat 277)),(.int .i64 (.ofNat 0)),(.int .i64 (.ofNat 1)),(.int .i64 (.ofNat 278)),(.int .i64 (.ofNat 279)),(.int .i64 (.ofNat 0)),(.int .i64 (.ofNat 3)),(.int .i64 (.ofNat 280)),(.int .i64 (.ofNat 281)),(.int .i64 (.ofNat 0)),(.int .i64 (.ofNat 1)),(.int .i64 (.ofNat 282)),(.int .i64 (.ofNat 285)),(.int .i64 (.ofNat 0)),(.int .i64 (.ofNat 3)),(.int .i64 (.ofNat 285)),(.int .i64 (.ofNat 286)),(.int .i64 (.ofNat 0)),(.int .i64 (.ofNat 1)),(.int .i64 (.ofNat 286)),(.int .i64 (.ofNat 287)),(.int .i64 (.ofNat 0)),(.int .i64 (.ofNat 3)),(.int .i64 (.ofNat 287)),(.int .i64 (.ofNat 288)),(.int .i64 (.ofNat 0)),(.int .i64 (.ofNat 1)),(.int .i64 (.ofNat 288)),(.int .i64 (.ofNat 289)),(.int .i64 (.ofNat 0)),(.int .i64 (.ofNat 3)),(.int .i64 (.ofNat 289)),(.int .i64 (.ofNat 290)),(.int .i64 (.ofNat 0)),(.int .i64 (.ofNat 3)),(.int .i64 (.ofNat 291)),(.int .i64 (.ofNat 292)),(.int .i64 (.ofNat 0)),(.int .i64 (.ofNat 2)),(.int .i64 (.ofNat 293)),(.int .i64 (.ofNat 294)),(.int .i64 (.ofNat 1)),(.int .i64 (.ofNat 3)),(.int .i64 (.ofNat 295)),(.int .i64 (.ofNat 296)),(.int .i64 (.ofNat 0)),(.int .i64 (.ofNat 1)),(.int .i64 (.ofNat 297)),(.int .i64 (.ofNat 298)),(.int .i64 (.ofNat 0)),(.int .i64 (.ofNat 3)),(.int .i64 (.ofNat 298)),(.int .i64 (.ofNat 299)),(.int .i64 (.ofNat 0)),(.int .i64 (.ofNat 3)),(.int .i64 (.ofNat 299)),(.int .i64 (.ofNat 300)),(.int .i64 (.ofNat 0)),(.int .i64 (.ofNat 1)),(.int .i64 (.ofNat 301)),(.int .i64 (.ofNat 302)),(.int .i64 (.ofNat 0)),(.int .i64 (.ofNat 3)),(.int .i64 (.ofNat 303)),(.int .i64 (.ofNat 305)),(.int .i64 (.ofNat 0)),(.int .i64 (.ofNat 1)),(.int .i64 (.ofNat 306)),(.int .i64 (.ofNat 311)),(.int .i64 (.ofNat 0)),(.int .i64 (.ofNat 3)),(.int .i64 (.ofNat 311)),(.int .i64 (.ofNat 312)),(.int .i64 (.ofNat 0)),(.int .i64 (.ofNat 1)),(.int .i64 (.ofNat 312)),(.int .i64 (.ofNat 313)),(.int .i64 (.ofNat 0)),(.int .i64 (.ofNat 3)),(.int .i64 (.ofNat 313)),(.int .i64 (.ofNat 314)),(.int .i64 (.ofNat 0)),(.int .i64 (.ofNat 1)),(.int .i64 (.ofNat 314)),(.int .i64 (.ofNat 315)),(.int .i64 (.ofNat 0)),(.int .i64 (.ofNat 3)),(.int .i64 (.ofNat 316)),(.int .i64 (.ofNat 318)),(.int .i64 (.ofNat 0)),(.int .i64 (.ofNat 1)),(.int .i64 (.ofNat 319)),(.int .i64 (.ofNat 322)),(.int .i64 (.ofNat 0)),(.int .i64 (.ofNat 3)),(.int .i64 (.ofNat 322)),(.int .i64 (.ofNat 323)),(.int .i64 (.ofNat 0)),(.int .i64 (.ofNat 1)),(.int .i64 (.ofNat 323)),(.int .i64 (.ofNat 324)),(.int .i64 (.ofNat 0)),(.int .i64 (.ofNat 3)),(.int .i64 (.ofNat 324)),(.int .i64 (.ofNat 325)),(.int .i64 (.ofNat 0)),(.int .i64 (.ofNat 1)),(.int .i64 (.ofNat 325)),(.int .i64 (.ofNat 326)),(.int .i64 (.ofNat 0)),(.int .i64 (.ofNat 3)),(.int .i64 (.ofNat 326)),(.int .i64 (.ofNat 327)),(.int .i64 (.ofNat 0)),(.int .i64 (.ofNat 3)),(.int .i64 (.ofNat 327)),(.int .i64 (.ofNat 328)),(.int .i64 (.ofNat 0)),(.int .i64 (.ofNat 3)),(.int .i64 (.ofNat 328)),(.int .i64 (.ofNat 329)),(.int .i64 (.ofNat 0)),(.int .i64 (.ofNat 1)),(.int .i64 (.ofNat 330)),(.int .i64 (.ofNat 334)),(.int .i64 (.ofNat 0)),(.int .i64 (.ofNat 1)),(.int .i64 (.ofNat 335)),(.int .i64 (.ofNat 340)),(.int .i64 (.ofNat 0)),(.int .i64 (.ofNat 3)),(.int .i64 (.ofNat 340)),(.int .i64 (.ofNat 341)),(.int .i64 (.ofNat 0)),(.int .i64 (.ofNat 1)),(.int .i64 (.ofNat 342)),(.int .i64 (.ofNat 346)),(.int .i64 (.ofNat 0)),(.int .i64 (.ofNat 3)),(.int .i64 (.ofNat 347)),(.int .i64 (.ofNat 349)),(.int .i64 (.ofNat 0)),(.int .i64 (.ofNat 3)),(.int .i64 (.ofNat 350)),(.int .i64 (.ofNat 351)),(.int .i64 (.ofNat 0)),(.int .i64 (.ofNat 1)),(.int .i64 (.ofNat 351)),(.int .i64 (.ofNat 352)),(.int .i64 (.ofNat 0)),(.int .i64 (.ofNat 3)),(.int .i64 (.ofNat 353)),(.int .i64 (.ofNat 355)),(.int .i64 (.ofNat 0)),(.int .i64 (.ofNat 1)),(.int .i64 (.ofNat 356)),(.int .i64 (.ofNat 357)),(.int .i64 (.ofNat 0)),(.int .i64 (.ofNat 3)),(.int .i64 (.ofNat 358)),(.int .i64 (.ofNat 360)),(.int .i64 (.ofNat 0)),(.int .i64 (.ofNat 1)),(.int .i64 (.ofNat 361)),(.int .i64 (.ofNat 362)),(.int .i64 (.ofNat 0)),(.int .i64 (.ofNat 3)),(.int .i64 (.ofNat 363)),(.int .i64 (.ofNat 365)),(.int .i64 (.ofNat 0)),(.int .i64 (.ofNat 1)),(.int .i64 (.ofNat 366)),(.int .i64 (.ofNat 370)),(.int .i64 (.ofNat 0)),(.int .i64 (.ofNat 3)),(.int .i64 (.ofNat 370)),(.int .i64 (.ofNat 371)),(.int .i64 (.ofNat 0)),(.int .i64 (.ofNat 1)),(.int .i64 (.ofNat 372)),(.int .i64 (.ofNat 373)),(.int .i64 (.ofNat 0)),(.int .i64 (.ofNat 3)),(.int .i64 (.ofNat 374)),(.int .i64 (.ofNat 376)),(.int .i64 (.ofNat 0)),(.int .i64 (.ofNat 3)),(.int .i64 (.ofNat 377)),(.int .i64 (.ofNat 378)),(.int .i64 (.ofNat 0)),(.int .i64 (.ofNat 1)),(.int .i64 (.ofNat 378)),(.int .i64 (.ofNat 379)),(.int .i64 (.ofNat 0)),(.int .i64 (.ofNat 3)),(.int .i64 (.ofNat 379)),(.int .i64 (.ofNat 380)),(.int .i64 (.ofNat 0)),(.int .i64 (.ofNat 1)),(.int .i64 (.ofNat 381)),(.int .i64 (.ofNat 382)),(.int .i64 (.ofNat 0)),(.int .i64 (.ofNat 3)),(.int .i64 (.ofNat 383)),(.int .i64 (.ofNat 385)),(.int .i64 (.ofNat 0)),(.int .i64 (.ofNat 2)),(.int .i64 (.ofNat 386)),(.int .i64 (.ofNat 387)),(.int .i64 (.ofNat 0)),(.int .i64 (.ofNat 3)),(.int .i64 (.ofNat 387)),(.int .i64 (.ofNat 388)),(.int .i64 (.ofNat 0)),(.int .i64 (.ofNat 1)),(.int .i64 (.ofNat 389)),(.int .i64 (.ofNat 390)),(.int .i64 (.ofNat 0)),(.int .i64 (.ofNat 3)),(.int .i64 (.ofNat 391)),(.int .i64 (.ofNat 393)),(.int .i64 (.ofNat 0)),(.int .i64 (.ofNat 1)),(.int .i64 (.ofNat 394)),(.int .i64 (.ofNat 399)),(.int .i64 (.ofNat 0)),(.int .i64 (.ofNat 3)),(.int .i64 (.ofNat 399)),(.int .i64 (.ofNat 400)),(.int .i64 (.ofNat 0)),(.int .i64 (.ofNat 1)),(.int .i64 (.ofNat 401)),(.int .i64 (.ofNat 405)),(.int .i64 (.ofNat 0)),(.int .i64 (.ofNat 1)),(.int .i64 (.ofNat 406)),(.int .i64 (.ofNat 410)),(.int .i64 (.ofNat 0)),(.int .i64 (.ofNat 3)),(.int .i64 (.ofNat 410)),(.int .i64 (.ofNat 411)),(.int .i64 (.ofNat 0)),(.int .i64 (.ofNat 3)),(.int .i64 (.ofNat 412)),(.int .i64 (.ofNat 413)),(.int .i64 (.ofNat 0)),(.int .i64 (.ofNat 1)),(.int .i64 (.ofNat 413)),(.int .i64 (.ofNat 417)),(.int .i64 (.ofNat 0)),(.int .i64 (.ofNat 3)),(.int .i64 (.ofNat 418)),(.int .i64 (.ofNat 420)),(.int .i64 (.ofNat 0)),(.int .i64 (.ofNat 1)),(.int .i64 (.ofNat 421)),(.int .i64 (.ofNat 425)),(.int .i64 (.ofNat 0)),(.int .i64 (.ofNat 3)),(.int .i64 (.ofNat 425)),(.int .i64 (.ofNat 426)),(.int .i64 (.ofNat 0)),(.int .i64 (.ofNat 1)),(.int .i64 (.ofNat 426)),(.int .i64 (.ofNat 427)),(.int .i64 (.ofNat 0)),(.int .i64 (.ofNat 3)),(.int .i64 (.ofNat 428)),(.int .i64 (.ofNat 430)),(.int .i64 (.ofNat 0)),(.int .i64 (.ofNat 1)),(.int .i64 (.ofNat 431)),(.int .i64 (.ofNat 432)),(.int .i64 (.ofNat 0)),(.int .i64 (.ofNat 3)),(.int .i64 (.ofNat 433)),(.int .i64 (.ofNat 435)),(.int .i64 (.ofNat 0)),(.int .i64 (.ofNat 3)),(.int .i64 (.ofNat 436)),(.int .i64 (.ofNat 437)),(.int .i64 (.ofNat 0)),(.int .i64 (.ofNat 1)),(.int .i64 (.ofNat 437)),(.int .i64 (.ofNat 438)),(.int .i64 (.ofNat 0)),(.int .i64 (.ofNat 3)),(.int .i64 (.ofNat 438)),(.int .i64 (.ofNat 439)),(.int .i64 (.ofNat 0)),(.int .i64 (.ofNat 1)),(.int .i64 (.ofNat 439)),(.int .i64 (.ofNat 440)),(.int .i64 (.ofNat 0)),(.int .i64 (.ofNat 3)),(.int .i64 (.ofNat 441)),(.int .i64 (.ofNat 443)),(.int .i64 (.ofNat 0)),(.int .i64 (.ofNat 1)),(.int .i64 (.ofNat 444)),(.int .i64 (.ofNat 445)),(.int .i64 (.ofNat 0)),(.int .i64 (.ofNat 3)),(.int .i64 (.ofNat 446)),(.int .i64 (.ofNat 448)),(.int .i64 (.ofNat 0)),(.int .i64 (.ofNat 1)),(.int .i64 (.ofNat 449)),(.int .i64 (.ofNat 450)),(.int .i64 (.ofNat 0)),(.int .i64 (.ofNat 3)),(.int .i64 (.ofNat 451)),(.int .i64 (.ofNat 453)),(.int .i64 (.ofNat 0)),(.int .i64 (.ofNat 3)),(.int .i64 (.ofNat 454)),(.int .i64 (.ofNat 455)),(.int .i64 (.ofNat 0)),(.int .i64 (.ofNat 1)),(.int .i64 (.ofNat 455)),(.int .i64 (.ofNat 456)),(.int .i64 (.ofNat 0)),(.int .i64 (.ofNat 3)),(.int .i64 (.ofNat 456)),(.int .i64 (.ofNat 457)),(.int .i64 (.ofNat 0)),(.int .i64 (.ofNat 1)),(.int .i64 (.ofNat 457)),(.int .i64 (.ofNat 458)),(.int .i64 (.ofNat 0)),(.int .i64 (.ofNat 3)),(.int .i64 (.ofNat 458)),(.int .i64 (.ofNat 459)),(.int .i64 (.ofNat 0)),(.int .i64 (.ofNat 3)),(.int .i64 (.ofNat 459)),(.int .i64 (.ofNat 460)),(.int .i64 (.ofNat 0)),(.int .i64 (.ofNat 3)),(.int .i64 (.ofNat 461)),(.int .i64 (.ofNat 463)),(.int .i64 (.ofNat 0)),(.int .i64 (.ofNat 1)),(.int .i64 (.ofNat 464)),(.int .i64 (.ofNat 465)),(.int .i64 (.ofNat 0)),(.int .i64 (.ofNat 3)),(.int .i64 (.ofNat 466)),(.int .i64 (.ofNat 468)),(.int .i64 (.ofNat 0)),(.int .i64 (.ofNat 1)),(.int .i64 (.ofNat 469)),(.int .i64 (.ofNat 473)),(.int .i64 (.ofNat 0)),(.int .i64 (.ofNat 3)),(.int .i64 (.ofNat 473)),(.int .i64 (.ofNat 474)),(.int .i64 (.ofNat 0)),(.int .i64 (.ofNat 1)),(.int .i64 (.ofNat 474)),(.int .i64 (.ofNat 475)),(.int .i64 (.ofNat 0)),(.int .i64 (.ofNat 3)),(.int .i64 (.ofNat 476)),(.int .i64 (.ofNat 478)),(.int .i64 (.ofNat 0)),(.int .i64 (.ofNat 1)),(.int .i64 (.ofNat 479)),(.int .i64 (.ofNat 480)),(.int .i64 (.ofNat 0)),(.int .i64 (.ofNat 3)),(.int .i64 (.ofNat 481)),(.int .i64 (.ofNat 483)),(.int .i64 (.ofNat 0)),(.int .i64 (.ofNat 1)),(.int .i64 (.ofNat 484)),(.int .i64 (.ofNat 485)),(.int .i64 (.ofNat 0)),(.int .i64 (.ofNat 3)),(.int .i64 (.ofNat 485)),(.int .i64 (.ofNat 486)),(.int .i64 (.ofNat 0)),(.int .i64 (.ofNat 1)),(.int .i64 (.ofNat 486)),(.int .i64 (.ofNat 487)),(.int .i64 (.ofNat 0)),(.int .i64 (.ofNat 3)),(.int .i64 (.ofNat 487)),(.int .i64 (.ofNat 488)),(.int .i64 (.ofNat 0)),(.int .i64 (.ofNat 3)),(.int .i64 (.ofNat 488)),(.int .i64 (.ofNat 489)),(.int .i64 (.ofNat 0)),(.int .i64 (.ofNat 1)),(.int .i64 (.ofNat 490)),(.int .i64 (.ofNat 491)),(.int .i64 (.ofNat 0)),(.int .i64 (.ofNat 3)),(.int .i64 (.ofNat 492)),(.int .i64 (.ofNat 494)),(.int .i64 (.ofNat 0)),(.int .i64 (.ofNat 1)),(.int .i64 (.ofNat 495)),(.int .i64 (.ofNat 499)),(.int .i64 (.ofNat 0)),(.int .i64 (.ofNat 3)),(.int .i64 (.ofNat 499)),(.int .i64 (.ofNat 500)),(.int .i64 (.ofNat 0)),(.int .i64 (.ofNat 1)),(.int .i64 (.ofNat 500)),(.int .i64 (.ofNat 501)),(.int .i64 (.ofNat 0)),(.int .i64 (.ofNat 3)),(.int .i64 (.ofNat 502)),(.int .i64 (.ofNat 504)),(.int .i64 (.ofNat 0)),(.int .i64 (.ofNat 1)),(.int .i64 (.ofNat 505)),(.int .i64 (.ofNat 506)),(.int .i64 (.ofNat 0)),(.int .i64 (.ofNat 3)),(.int .i64 (.ofNat 507)),(.int .i64 (.ofNat 509)),(.int .i64 (.ofNat 0)),(.int .i64 (.ofNat 1)),(.int .i64 (.ofNat 510)),(.int .i64 (.ofNat 511)),(.int .i64 (.ofNat 0)),(.int .i64 (.ofNat 3)),(.int .i64 (.ofNat 511)),(.int .i64 (.ofNat 512)),(.int .i64 (.ofNat 0)),(.int .i64 (.ofNat 1)),(.int .i64 (.ofNat 512)),(.int .i64 (.ofNat 513)),(.int .i64 (.ofNat 0)),(.int .i64 (.ofNat 3)),(.int .i64 (.ofNat 513)),(.int .i64 (.ofNat 514)),(.int .i64 (.ofNat 0)),(.int .i64 (.ofNat 3)),(.int .i64 (.ofNat 514)),(.int .i64 (.ofNat 515)),(.int .i64 (.ofNat 0)),(.int .i64 (.ofNat 1)),(.int .i64 (.ofNat 516)),(.int .i64 (.ofNat 517)),(.int .i64 (.ofNat 0)),(.int .i64 (.ofNat 3)),(.int .i64 (.ofNat 518)),(.int .i64 (.ofNat 520)),(.int .i64 (.ofNat 0)),(.int .i64 (.ofNat 2)),(.int .i64 (.ofNat 521)),(.int .i64 (.ofNat 522)),(.int .i64 (.ofNat 0)),(.int .i64 (.ofNat 3)),(.int .i64 (.ofNat 522)),(.int .i64 (.ofNat 523)),(.int .i64 (.ofNat 0)),(.int .i64 (.ofNat 1)),(.int .i64 (.ofNat 524)),(.int .i64 (.ofNat 525)),(.int .i64 (.ofNat 0)),(.int .i64 (.ofNat 3)),(.int .i64 (.ofNat 526)),(.int .i64 (.ofNat 528)),(.int .i64 (.ofNat 0)),(.int .i64 (.ofNat 1)),(.int .i64 (.ofNat 529)),(.int .i64 (.ofNat 534)),(.int .i64 (.ofNat 0)),(.int .i64 (.ofNat 3)),(.int .i64 (.ofNat 534)),(.int .i64 (.ofNat 535)),(.int .i64 (.ofNat 0)),(.int .i64 (.ofNat 1)),(.int .i64 (.ofNat 536)),(.int .i64 (.ofNat 540)),(.int .i64 (.ofNat 0)),(.int .i64 (.ofNat 1)),(.int .i64 (.ofNat 541)),(.int .i64 (.ofNat 547)),(.int .i64 (.ofNat 0)),(.int .i64 (.ofNat 3)),(.int .i64 (.ofNat 547)),(.int .i64 (.ofNat 548)),(.int .i64 (.ofNat 0)),(.int .i64 (.ofNat 1)),(.int .i64 (.ofNat 549)),(.int .i64 (.ofNat 550)),(.int .i64 (.ofNat 0)),(.int .i64 (.ofNat 3)),(.int .i64 (.ofNat 551)),(.int .i64 (.ofNat 553)),(.int .i64 (.ofNat 0)),(.int .i64 (.ofNat 1)),(.int .i64 (.ofNat 554)),(.int .i64 (.ofNat 557)),(.int .i64 (.ofNat 0)),(.int .i64 (.ofNat 3)),(.int .i64 (.ofNat 557)),(.int .i64 (.ofNat 558)),(.int .i64 (.ofNat 0)),(.int .i64 (.ofNat 1)),(.int .i64 (.ofNat 558)),(.int .i64 (.ofNat 559)),(.int .i64 (.ofNat 0)),(.int .i64 (.ofNat 3)),(.int .i64 (.ofNat 559)),(.int .i64 (.ofNat 560)),(.int .i64 (.ofNat 0)),(.int .i64 (.ofNat 1)),(.int .i64 (.ofNat 560)),(.int .i64 (.ofNat 561)),(.int .i64 (.ofNat 0)),(.int .i64 (.ofNat 3)),(.int .i64 (.ofNat 562)),(.int .i64 (.ofNat 564)),(.int .i64 (.ofNat 0)),(.int .i64 (.ofNat 1)),(.int .i64 (.ofNat 565)),(.int .i64 (.ofNat 566)),(.int .i64 (.ofNat 0)),(.int .i64 (.ofNat 3)),(.int .i64 (.ofNat 566)),(.int .i64 (.ofNat 567)),(.int .i64 (.ofNat 0)),(.int .i64 (.ofNat 1)),(.int .i64 (.ofNat 567)),(.int .i64 (.ofNat 571)),(.int .i64 (.ofNat 0)),(.int .i64 (.ofNat 3)),(.int .i64 (.ofNat 572)),(.int .i64 (.ofNat 574)),(.int .i64 (.ofNat 0)),(.int .i64 (.ofNat 3)),(.int .i64 (.ofNat 575)),(.int .i64 (.ofNat 576)),(.int .i64 (.ofNat 0)),(.int .i64 (.ofNat 1)),(.int .i64 (.ofNat 576)),(.int .i64 (.ofNat 577)),(.int .i64 (.ofNat 0)),(.int .i64 (.ofNat 3)),(.int .i64 (.ofNat 577)),(.int .i64 (.ofNat 578)),(.int .i64 (.ofNat 0)),(.int .i64 (.ofNat 1)),(.int .i64 (.ofNat 578)),(.int .i64 (.ofNat 579)),(.int .i64 (.ofNat 0)),(.int .i64 (.ofNat 3)),(.int .i64 (.ofNat 580)),(.int .i64 (.ofNat 582)),(.int .i64 (.ofNat 0)),(.int .i64 (.ofNat 1)),(.int .i64 (.ofNat 583)),(.int .i64 (.ofNat 584)),(.int .i64 (.ofNat 0)),(.int .i64 (.ofNat 3)),(.int .i64 (.ofNat 584)),(.int .i64 (.ofNat 585)),(.int .i64 (.ofNat 0)),(.int .i64 (.ofNat 1)),(.int .i64 (.ofNat 585)),(.int .i64 (.ofNat 586)),(.int .i64 (.ofNat 0)),(.int .i64 (.ofNat 3)),(.int .i64 (.ofNat 587)),(.int .i64 (.ofNat 589)),(.int .i64 (.ofNat 0)),(.int .i64 (.ofNat 1)),(.int .i64 (.ofNat 590)),(.int .i64 (.ofNat 591)),(.int .i64 (.ofNat 0)),(.int .i64 (.ofNat 3)),(.int .i64 (.ofNat 591)),(.int .i64 (.ofNat 592)),(.int .i64 (.ofNat 0)),(.int .i64 (.ofNat 3)),(.int .i64 (.ofNat 593)),(.int .i64 (.ofNat 595)),(.int .i64 (.ofNat 0)),(.int .i64 (.ofNat 1)),(.int .i64 (.ofNat 596)),(.int .i64 (.ofNat 597)),(.int .i64 (.ofNat 0)),(.int .i64 (.ofNat 3)),(.int .i64 (.ofNat 598)),(.int .i64 (.ofNat 600)),(.int .i64 (.ofNat 0)),(.int .i64 (.ofNat 1)),(.int .i64 (.ofNat 601)),(.int .i64 (.ofNat 606)),(.int .i64 (.ofNat 0)),(.int .i64 (.ofNat 3)),(.int .i64 (.ofNat 606)),(.int .i64 (.ofNat 607)),(.int .i64 (.ofNat 0)),(.int .i64 (.ofNat 1)),(.int .i64 (.ofNat 608)),(.int .i64 (.ofNat 612)),(.int .i64 (.ofNat 0)),(.int .i64 (.ofNat 1)),(.int .i64 (.ofNat 613)),(.int .i64 (.ofNat 616)),(.int .i64 (.ofNat 0)),(.int .i64 (.ofNat 3)),(.int .i64 (.ofNat 616)),(.int .i64 (.ofNat 617)),(.int .i64 (.ofNat 0)),(.int .i64 (.ofNat 3)),(.int .i64 (.ofNat 618)),(.int .i64 (.ofNat 619)),(.int .i64 (.ofNat 0)),(.int .i64 (.ofNat 1)),(.int .i64 (.ofNat 619)),(.int .i64 (.ofNat 620)),(.int .i64 (.ofNat 0)),(.int .i64 (.ofNat 3)),(.int .i64 (.ofNat 621)),(.int .i64 (.ofNat 623)),(.int .i64 (.ofNat 0)),(.int .i64 (.ofNat 3)),(.int .i64 (.ofNat 624)),(.int .i64 (.ofNat 625)),(.int .i64 (.ofNat 0)),(.int .i64 (.ofNat 1)),(.int .i64 (.ofNat 625)),(.int .i64 (.ofNat 626)),(.int .i64 (.ofNat 0)),(.int .i64 (.ofNat 3)),(.int .i64 (.ofNat 627)),(.int .i64 (.ofNat 629)),(.int .i64 (.ofNat 0)),(.int .i64 (.ofNat 1)),(.int .i64 (.ofNat 630)),(.int .i64 (.ofNat 634)),(.int .i64 (.ofNat 0)),(.int .i64 (.ofNat 3)),(.int .i64 (.ofNat 634)),(.int .i64 (.ofNat 635)),(.int .i64 (.ofNat 0)),(.int .i64 (.ofNat 1)),(.int .i64 (.ofNat 635)),(.int .i64 (.ofNat 636)),(.int .i64 (.ofNat 0)),(.int .i64 (.ofNat 3)),(.int .i64 (.ofNat 636)),(.int .i64 (.ofNat 637)),(.int .i64 (.ofNat 0)),(.int .i64 (.ofNat 1)),(.int .i64 (.ofNat 637)),(.int .i64 (.ofNat 638)),(.int .i64 (.ofNat 0)),(.int .i64 (.ofNat 3)),(.int .i64 (.ofNat 639)),(.int .i64 (.ofNat 641)),(.int .i64 (.ofNat 0)),(.int .i64 (.ofNat 1)),(.int .i64 (.ofNat 642)),(.int .i64 (.ofNat 643)),(.int .i64 (.ofNat 0)),(.int .i64 (.ofNat 3)),(.int .i64 (.ofNat 643)),(.int .i64 (.ofNat 644)),(.int .i64 (.ofNat 0)),(.int .i64 (.ofNat 1)),(.int .i64 (.ofNat 644)),(.int .i64 (.ofNat 648)),(.int .i64 (.ofNat 0)),(.int .i64 (.ofNat 3)),(.int .i64 (.ofNat 649)),(.int .i64 (.ofNat 651)),(.int .i64 (.ofNat 0)),(.int .i64 (.ofNat 1)),(.int .i64 (.ofNat 652)),(.int .i64 (.ofNat 653)),(.int .i64 (.ofNat 0)),(.int .i64 (.ofNat 3)),(.int .i64 (.ofNat 653)),(.int .i64 (.ofNat 654)),(.int .i64 (.ofNat 0)),(.int .i64 (.ofNat 1)),(.int .i64 (.ofNat 654)),(.int .i64 (.ofNat 655)),(.int .i64 (.ofNat 0)),(.int .i64 (.ofNat 3)),(.int .i64 (.ofNat 656)),(.int .i64 (.ofNat 658)),(.int .i64 (.ofNat 0)),(.int .i64 (.ofNat 3)),(.int .i64 (.ofNat 659)),(.int .i64 (.ofNat 660)),(.int .i64 (.ofNat 0)),(.int .i64 (.ofNat 1)),(.int .i64 (.ofNat 660)),(.int .i64 (.ofNat 661)),(.int .i64 (.ofNat 0)),(.int .i64 (.ofNat 3)),(.int .i64 (.ofNat 661)),(.int .i64 (.ofNat 662)),(.int .i64 (.ofNat 0)),(.int .i64 (.ofNat 1)),(.int .i64 (.ofNat 662)),(.int .i64 (.ofNat 663)),(.int .i64 (.ofNat 0)),(.int .i64 (.ofNat 3)),(.int .i64 (.ofNat 663)),(.int .i64 (.ofNat 664)),(.int .i64 (.ofNat 0)),(.int .i64 (.ofNat 3)),(.int .i64 (.ofNat 665)),(.int .i64 (.ofNat 667)),(.int .i64 (.ofNat 0)),(.int .i64 (.ofNat 1)),(.int .i64 (.ofNat 668)),(.int .i64 (.ofNat 669)),(.int .i64 (.ofNat 0)),(.int .i64 (.ofNat 3)),(.int .i64 (.ofNat 670)),(.int .i64 (.ofNat 672)),(.int .i64 (.ofNat 0)),(.int .i64 (.ofNat 1)),(.int .i64 (.ofNat 673)),(.int .i64 (.ofNat 677)),(.int .i64 (.ofNat 0)),(.int .i64 (.ofNat 3)),(.int .i64 (.ofNat 677)),(.int .i64 (.ofNat 678)),(.int .i64 (.ofNat 0))])]
set_option maxHeartbeats 4000000 in
theorem me0:memoR rtab gp 4000 15 mu0 [2567]=some (mg0,2568,mo0):=by kernel_rfl
noncomputable def gextm1 (f:Nat) (us:List GV) (H:GH):Option (GV×GH):=bif Nat.beq f 15 then(bif isS us (62612022078668281795505554093363622559854195865949253215105900396045672359969877880166549174032343132993734957765569202214538907514566311350427701009544032694847337705793280154083690688451269616688782133795410379376928705130345296445151552924450334836917827234573469831105668184247309683323748037249326305257450566500613104582596739355858495108587194514699348039550352061107652063950585699432193800786308390540153052463342825471615451497403378237530695269756800903089344746135921082798862585170912282432061314226997690214573863871773160495090950365393003392302336199511227963345777762340303723847551010267882950244475187531638497589816884840746003832656122559568072415127281877587919955134951848720898362784721630179183632514071187737718801766045181382178059597531935953865739058317213402067112106178269539818406468794623567714368406699984352401615611648009540554670638379077003046691601651659503488023036016650041344236444492625067110609540290467946795853434537583557082408411183186533670519462632865144031819183310381452310956185194634675703732849182713820334837695243446565596654286740386031565011357996399800921820918955437335624617843094112596863701508946442457135114386851122925397296113071978999231011209672540734656076492347048890983156526043032785285927167596865683405763291449118335047510792439178363711784660496025932951555546329846668545661249500619781993860494368395467151808107769959479474456951167188694307489519361853029722953071634727739222067984252267479508130870821814111526873691367656719627636282162632229619012164283959600299915921951610829461135327475232013270964287406921117221047932843602716792612622967992944,679)then memoK mg0 2568 mo0 H else gext f us H)else gext f us H
noncomputable def gpm1:GP:=⟨tyTab,gp.cat,gextm1,gp.exn⟩
theorem gextm1_ok {T:Nat} {w0:Base (gl T)} {w:World} {ρ:Rho} {H H':GH} {g:GV} {us:List GV} {vs:List Value} {f:Nat} (h:gextm1 f us H=some (g,H')) (R:Rel w0 ρ H w) (hr:RlL ρ us vs):CallSem Tryz.prog w0 ρ f vs w g H':=by
 unfold gextm1 at h
 cases e1:Nat.beq f 15 with
 |false=>rw[e1]at h;exact gext_ok h R hr
 | true =>
  rw[e1]at h
  cases e2:isS us (62612022078668281795505554093363622559854195865949253215105900396045672359969877880166549174032343132993734957765569202214538907514566311350427701009544032694847337705793280154083690688451269616688782133795410379376928705130345296445151552924450334836917827234573469831105668184247309683323748037249326305257450566500613104582596739355858495108587194514699348039550352061107652063950585699432193800786308390540153052463342825471615451497403378237530695269756800903089344746135921082798862585170912282432061314226997690214573863871773160495090950365393003392302336199511227963345777762340303723847551010267882950244475187531638497589816884840746003832656122559568072415127281877587919955134951848720898362784721630179183632514071187737718801766045181382178059597531935953865739058317213402067112106178269539818406468794623567714368406699984352401615611648009540554670638379077003046691601651659503488023036016650041344236444492625067110609540290467946795853434537583557082408411183186533670519462632865144031819183310381452310956185194634675703732849182713820334837695243446565596654286740386031565011357996399800921820918955437335624617843094112596863701508946442457135114386851122925397296113071978999231011209672540734656076492347048890983156526043032785285927167596865683405763291449118335047510792439178363711784660496025932951555546329846668545661249500619781993860494368395467151808107769959479474456951167188694307489519361853029722953071634727739222067984252267479508130870821814111526873691367656719627636282162632229619012164283959600299915921951610829461135327475232013270964287406921117221047932843602716792612622967992944,679)with
  |false=>rw[e2]at h;exact gext_ok h R hr
  |true=>
   rw[e2]at h;rw[Nat.eq_of_beq_eq_true e1]
   rw[isS_eq e2]at hr
   obtain⟨V,rfl,hv⟩:=hr.one
   obtain⟨x,rfl,e3,e4⟩:=hv.str_inv
   exact memo_ok (gs:=gl T) rtab_ok gok me0 Tryz.call15 (RlL.cons (rl_str e3 e4) .nil) h R
theorem gokm1 {T:Nat} (w0:Base (gl T)):GOk Tryz.prog gpm1 rtab.fns w0:=⟨(gok w0).tab,(gok w0).mixed,(gok w0).fns,fun h ρ w vs R hr=>gextm1_ok h R hr,(gok w0).exn,(gok w0).cat⟩
def mu1:List GV:=[.str 62612022078668281795505554093363622559854195865949253215105900396045672359969877880166549174032343132993734957765569202214538907514566311350427701009544032694847337705793280154083690688451269616688782133795410379376928705130345296445151552924450334836917827234573469831105668184247309683323748037249326305257450566500613104582596739355858495108587194514699348039550352061107652063950585699432193800786308390540153052463342825471615451497403378237530695269756800903089344746135921082798862585170912282432061314226997690214573863871773160495090950365393003392302336199511227963345777762340303723847551010267882950244475187531638497589816884840746003832656122559568072415127281877587919955134951848720898362784721630179183632514071187737718801766045181382178059597531935953865739058317213402067112106178269539818406468794623567714368406699984352401615611648009540554670638379077003046691601651659503488023036016650041344236444492625067110609540290467946795853434537583557082408411183186533670519462632865144031819183310381452310956185194634675703732849182713820334837695243446565596654286740386031565011357996399800921820918955437335624617843094112596863701508946442457135114386851122925397296113071978999231011209672540734656076492347048890983156526043032785285927167596865683405763291449118335047510792439178363711784660496025932951555546329846668545661249500619781993860494368395467151808107769959479474456951167188694307489519361853029722953071634727739222067984252267479508130870821814111526873691367656719627636282162632229619012164283959600299915921951610829461135327475232013270964287406921117221047932843602716792612622967992944 679]
def mg1:GV:=(.tup [(.agg [(.str 499918267762 5),(.sl 2814 0 6 6),(.sl 4969 0 6 3)]),(.int .i64 (.ofNat 0)),(.int .i64 (.ofNat 0))])
def mo1:OL:=[(2814,2814,.cells [(.str 100 1),(.int .i64 (.ofNat 1)),(.int .i64 (.ofNat 0)),(.int .i64 (.ofNat 0)),(.int .i64 (.ofNat 1)),(.int .i64 (.ofNat 0)),(.str 112 1),(.int .i64 (.ofNat 3)),(.int .i64 (.ofNat 0)),(.int .i64 (.ofNat 0)),(.int .i64 (.ofNat 0)),(.int .i64 (.ofNat 0)),(.str 115 1),(.int .i64 (.ofNat 2)),(.int .i64 (.ofNat 0)),(.int .i64 (.ofNat 0)),(.int .i64 (.ofNat 0)),(.int .i64 (.ofNat 0)),(.str 98 1),(.int .i64 (.ofNat 2)),(.int .i64 (.ofNat 0)),(.int .i64 (.ofNat 0)),(.int .i64 (.ofNat 0)),(.int .i64 (.ofNat 0)),(.str 121 1),(.int .i64 (.ofNat 1)),(.int .i64 (.ofNat 0)),(.int .i64 (.ofNat 3)),(.int .i64 (.ofNat 0)),(.int .i64 (.ofNat 0)),(.str 114 1),(.int .i64 (.ofNat 2)),(.int .i64 (.ofNat 0)),(.int .i64 (.ofNat 0)),(.int .i64 (.ofNat 0)),(.int .i64 (.ofNat 0))]),
 (2938,2938,.cells [(.int .i64 (.ofNat 41)),(.int .i64 (.ofNat 0)),(.int .i64 (.ofNat 10)),(.int .i64 (.ofNat 0)),(.int .i64 (.ofNat 42)),(.int .i64 (.ofNat 0)),(.int .i64 (.ofNat 36)),(.int .i64 (.ofNat 0)),(.int .i64 (.ofNat 5)),(.int .i64 (.ofNat 0)),(.int .i64 (.ofNat 1)),(.int .i64 (.ofNat 0)),(.int .i64 (.ofNat 36)),(.int .i64 (.ofNat 0)),(.int .i64 (.ofNat 5)),(.int .i64 (.ofNat 1)),(.int .i64 (.ofNat 4)),(.int .i64 (.ofNat 0))]),
 (2964,2964,.cells [(.int .i64 (.ofNat 1)),(.int .i64 (.ofNat 0))]),
 (2997,2997,.cells [(.int .i64 (.ofNat 4)),(.int .i64 (.ofNat 0))]),
 (3005,3005,.cells [(.int .i64 (.ofNat 0)),(.sl 2964 0 1 2),(.int .i64 (.ofNat 1)),(.sl 2997 0 1 2)]),
 (3393,3393,.cells [(.int .i64 (.ofNat 41)),(.int .i64 (.ofNat 0)),(.int .i64 (.ofNat 19)),(.int .i64 (.ofNat 0)),(.int .i64 (.ofNat 10)),(.int .i64 (.ofNat 0)),(.int .i64 (.ofNat 42)),(.int .i64 (.ofNat 0)),(.int .i64 (.ofNat 36)),(.int .i64 (.ofNat 0)),(.int .i64 (.ofNat 5)),(.int .i64 (.ofNat 0)),(.int .i64 (.ofNat 43)),(.int .i64 (.ofNat 0)),(.int .i64 (.ofNat 37)),(.int .i64 (.ofNat 0)),(.int .i64 (.ofNat 24)),(.int .i64 (.ofNat 0)),(.int .i64 (.ofNat 12)),(.int .i64 (.ofNat 0)),(.int .i64 (.ofNat 6)),(.int .i64 (.ofNat 0)),(.int .i64 (.ofNat 33)),(.int .i64 (.ofNat 0)),(.int .i64 (.ofNat 24)),(.int .i64 (.ofNat 0)),(.int .i64 (.ofNat 12)),(.int .i64 (.ofNat 0)),(.int .i64 (.ofNat 1)),(.int .i64 (.ofNat 1)),(.int .i64 (.ofNat 6)),(.int .i64 (.ofNat 0)),(.int .i64 (.ofNat 36)),(.int .i64 (.ofNat 0)),(.int .i64 (.ofNat 5)),(.int .i64 (.ofNat 1)),(.int .i64 (.ofNat 23)),(.int .i64 (.ofNat 0)),(.int .i64 (.ofNat 35)),(.int .i64 (.ofNat 0)),(.int .i64 (.ofNat 12)),(.int .i64 (.ofNat 0)),(.int .i64 (.ofNat 24)),(.int .i64 (.ofNat 0)),(.int .i64 (.ofNat 12)),(.int .i64 (.ofNat 0))]),
 (3574,3574,.cells [(.int .i64 (.ofNat 43)),(.int .i64 (.ofNat 0)),(.int .i64 (.ofNat 37)),(.int .i64 (.ofNat 0)),(.int .i64 (.ofNat 24)),(.int .i64 (.ofNat 0)),(.int .i64 (.ofNat 12)),(.int .i64 (.ofNat 0)),(.int .i64 (.ofNat 6)),(.int .i64 (.ofNat 0)),(.int .i64 (.ofNat 33)),(.int .i64 (.ofNat 0)),(.int .i64 (.ofNat 24)),(.int .i64 (.ofNat 0)),(.int .i64 (.ofNat 12)),(.int .i64 (.ofNat 0)),(.int .i64 (.ofNat 1)),(.int .i64 (.ofNat 1)),(.int .i64 (.ofNat 6)),(.int .i64 (.ofNat 0))]),
 (3700,3700,.cells [(.int .i64 (.ofNat 23)),(.int .i64 (.ofNat 0)),(.int .i64 (.ofNat 35)),(.int .i64 (.ofNat 0)),(.int .i64 (.ofNat 12)),(.int .i64 (.ofNat 0)),(.int .i64 (.ofNat 24)),(.int .i64 (.ofNat 0)),(.int .i64 (.ofNat 12)),(.int .i64 (.ofNat 0))]),
 (3708,3708,.cells [(.int .i64 (.ofNat 0)),(.sl 3574 0 10 2),(.int .i64 (.ofNat 1)),(.sl 3700 0 5 2)]),
 (3797,3797,.cells [(.int .i64 (.ofNat 41)),(.int .i64 (.ofNat 0)),(.int .i64 (.ofNat 41)),(.int .i64 (.ofNat 0)),(.int .i64 (.ofNat 10)),(.int .i64 (.ofNat 0)),(.int .i64 (.ofNat 19)),(.int .i64 (.ofNat 0)),(.int .i64 (.ofNat 5)),(.int .i64 (.ofNat 2)),(.int .i64 (.ofNat 5)),(.int .i64 (.ofNat 5))]),
 (3824,3824,.cells [(.int .i64 (.ofNat 2)),(.int .i64 (.ofNat 0))]),
 (3866,3866,.cells [(.int .i64 (.ofNat 19)),(.int .i64 (.ofNat 0)),(.int .i64 (.ofNat 5)),(.int .i64 (.ofNat 3))]),
 (3898,3898,.cells [(.int .i64 (.ofNat 1)),(.int .i64 (.ofNat 0))]),
 (3931,3931,.cells [(.int .i64 (.ofNat 3)),(.int .i64 (.ofNat 0))]),
 (3939,3939,.cells [(.int .i64 (.ofNat 2)),(.sl 3824 0 1 2),(.int .i64 (.ofNat 3)),(.sl 3866 0 2 2),(.int .i64 (.ofNat 4)),(.sl 3898 0 1 2),(.int .i64 (.ofNat 5)),(.sl 3931 0 1 2)]),
 (4173,4173,.cells [(.int .i64 (.ofNat 41)),(.int .i64 (.ofNat 0)),(.int .i64 (.ofNat 19)),(.int .i64 (.ofNat 0)),(.int .i64 (.ofNat 10)),(.int .i64 (.ofNat 0)),(.int .i64 (.ofNat 21)),(.int .i64 (.ofNat 0)),(.int .i64 (.ofNat 41)),(.int .i64 (.ofNat 0)),(.int .i64 (.ofNat 35)),(.int .i64 (.ofNat 0)),(.int .i64 (.ofNat 11)),(.int .i64 (.ofNat 0)),(.int .i64 (.ofNat 5)),(.int .i64 (.ofNat 1)),(.int .i64 (.ofNat 42)),(.int .i64 (.ofNat 0)),(.int .i64 (.ofNat 36)),(.int .i64 (.ofNat 0)),(.int .i64 (.ofNat 12)),(.int .i64 (.ofNat 3)),(.int .i64 (.ofNat 5)),(.int .i64 (.ofNat 3)),(.int .i64 (.ofNat 41)),(.int .i64 (.ofNat 0)),(.int .i64 (.ofNat 5)),(.int .i64 (.ofNat 2)),(.int .i64 (.ofNat 19)),(.int .i64 (.ofNat 0)),(.int .i64 (.ofNat 12)),(.int .i64 (.ofNat 2))]),
 (4273,4273,.cells [(.int .i64 (.ofNat 21)),(.int .i64 (.ofNat 0)),(.int .i64 (.ofNat 41)),(.int .i64 (.ofNat 0)),(.int .i64 (.ofNat 35)),(.int .i64 (.ofNat 0)),(.int .i64 (.ofNat 11)),(.int .i64 (.ofNat 0)),(.int .i64 (.ofNat 5)),(.int .i64 (.ofNat 1)),(.int .i64 (.ofNat 12)),(.int .i64 (.ofNat 2))]),
 (4379,4379,.cells [(.int .i64 (.ofNat 21)),(.int .i64 (.ofNat 0)),(.int .i64 (.ofNat 41)),(.int .i64 (.ofNat 0)),(.int .i64 (.ofNat 35)),(.int .i64 (.ofNat 0)),(.int .i64 (.ofNat 11)),(.int .i64 (.ofNat 0)),(.int .i64 (.ofNat 5)),(.int .i64 (.ofNat 1)),(.int .i64 (.ofNat 12)),(.int .i64 (.ofNat 3))]),
 (4411,4411,.cells [(.int .i64 (.ofNat 1)),(.int .i64 (.ofNat 0))]),
 (4444,4444,.cells [(.int .i64 (.ofNat 3)),(.int .i64 (.ofNat 0))]),
 (4452,4452,.cells [(.int .i64 (.ofNat 2)),(.sl 4273 0 6 2),(.int .i64 (.ofNat 3)),(.sl 4379 0 6 2),(.int .i64 (.ofNat 4)),(.sl 4411 0 1 2),(.int .i64 (.ofNat 5)),(.sl 4444 0 1 2)]),
 (4663,4663,.cells [(.int .i64 (.ofNat 41)),(.int .i64 (.ofNat 0)),(.int .i64 (.ofNat 5)),(.int .i64 (.ofNat 2)),(.int .i64 (.ofNat 20)),(.int .i64 (.ofNat 0)),(.int .i64 (.ofNat 42)),(.int .i64 (.ofNat 0)),(.int .i64 (.ofNat 36)),(.int .i64 (.ofNat 0)),(.int .i64 (.ofNat 12)),(.int .i64 (.ofNat 1)),(.int .i64 (.ofNat 17)),(.int .i64 (.ofNat 0)),(.int .i64 (.ofNat 41)),(.int .i64 (.ofNat 0)),(.int .i64 (.ofNat 19)),(.int .i64 (.ofNat 0)),(.int .i64 (.ofNat 12)),(.int .i64 (.ofNat 2)),(.int .i64 (.ofNat 35)),(.int .i64 (.ofNat 0)),(.int .i64 (.ofNat 12)),(.int .i64 (.ofNat 3)),(.int .i64 (.ofNat 5)),(.int .i64 (.ofNat 3))]),
 (4690,4690,.cells [(.int .i64 (.ofNat 3)),(.int .i64 (.ofNat 0))]),
 (4698,4698,.cells [(.int .i64 (.ofNat 2)),(.sl 4690 0 1 2)]),
 (4926,4926,.cells [(.int .i64 (.ofNat 41)),(.int .i64 (.ofNat 0)),(.int .i64 (.ofNat 41)),(.int .i64 (.ofNat 0)),(.int .i64 (.ofNat 19)),(.int .i64 (.ofNat 0)),(.int .i64 (.ofNat 5)),(.int .i64 (.ofNat 2)),(.int .i64 (.ofNat 19)),(.int .i64 (.ofNat 0)),(.int .i64 (.ofNat 5)),(.int .i64 (.ofNat 5)),(.int .i64 (.ofNat 21)),(.int .i64 (.ofNat 0)),(.int .i64 (.ofNat 41)),(.int .i64 (.ofNat 0)),(.int .i64 (.ofNat 41)),(.int .i64 (.ofNat 0)),(.int .i64 (.ofNat 35)),(.int .i64 (.ofNat 0)),(.int .i64 (.ofNat 12)),(.int .i64 (.ofNat 1)),(.int .i64 (.ofNat 17)),(.int .i64 (.ofNat 0)),(.int .i64 (.ofNat 12)),(.int .i64 (.ofNat 5)),(.int .i64 (.ofNat 19)),(.int .i64 (.ofNat 0)),(.int .i64 (.ofNat 12)),(.int .i64 (.ofNat 2))]),
 (4953,4953,.cells [(.int .i64 (.ofNat 2)),(.int .i64 (.ofNat 0))]),
 (4961,4961,.cells [(.int .i64 (.ofNat 5)),(.sl 4953 0 1 2)]),
 (4969,4969,.cells [(.str 7368564 3),(.sl 2938 0 9 2),(.sl 3005 0 2 2),(.str 7827308 3),(.sl 3393 0 23 2),(.sl 3708 0 2 2),(.str 474214786402 5),(.sl 3797 0 6 2),(.sl 3939 0 4 2),(.str 1701536116 4),(.sl 4173 0 16 2),(.sl 4452 0 4 2),(.str 114844899371366 6),(.sl 4663 0 13 2),(.sl 4698 0 1 2),(.str 7041889 3),(.sl 4926 0 15 2),(.sl 4961 0 1 2)])]
set_option maxHeartbeats 4000000 in
theorem me1:memoR rtab gpm1 4000 5 mu1 [2814,2938,2964,2997,3005,3393,3574,3700,3708,3797,3824,3866,3898,3931,3939,4173,4273,4379,4411,4444,4452,4663,4690,4698,4926,4953,4961,4969]=some (mg1,7584,mo1):=by kernel_rfl
noncomputable def gextm2 (f:Nat) (us:List GV) (H:GH):Option (GV×GH):=bif Nat.beq f 5 then(bif isS us (62612022078668281795505554093363622559854195865949253215105900396045672359969877880166549174032343132993734957765569202214538907514566311350427701009544032694847337705793280154083690688451269616688782133795410379376928705130345296445151552924450334836917827234573469831105668184247309683323748037249326305257450566500613104582596739355858495108587194514699348039550352061107652063950585699432193800786308390540153052463342825471615451497403378237530695269756800903089344746135921082798862585170912282432061314226997690214573863871773160495090950365393003392302336199511227963345777762340303723847551010267882950244475187531638497589816884840746003832656122559568072415127281877587919955134951848720898362784721630179183632514071187737718801766045181382178059597531935953865739058317213402067112106178269539818406468794623567714368406699984352401615611648009540554670638379077003046691601651659503488023036016650041344236444492625067110609540290467946795853434537583557082408411183186533670519462632865144031819183310381452310956185194634675703732849182713820334837695243446565596654286740386031565011357996399800921820918955437335624617843094112596863701508946442457135114386851122925397296113071978999231011209672540734656076492347048890983156526043032785285927167596865683405763291449118335047510792439178363711784660496025932951555546329846668545661249500619781993860494368395467151808107769959479474456951167188694307489519361853029722953071634727739222067984252267479508130870821814111526873691367656719627636282162632229619012164283959600299915921951610829461135327475232013270964287406921117221047932843602716792612622967992944,679)then memoK mg1 7584 mo1 H else gextm1 f us H)else gextm1 f us H
noncomputable def gpm2:GP:=⟨tyTab,gp.cat,gextm2,gp.exn⟩
theorem gextm2_ok {T:Nat} {w0:Base (gl T)} {w:World} {ρ:Rho} {H H':GH} {g:GV} {us:List GV} {vs:List Value} {f:Nat} (h:gextm2 f us H=some (g,H')) (R:Rel w0 ρ H w) (hr:RlL ρ us vs):CallSem Tryz.prog w0 ρ f vs w g H':=by
 unfold gextm2 at h
 cases e1:Nat.beq f 5 with
 |false=>rw[e1]at h;exact gextm1_ok h R hr
 | true =>
  rw[e1]at h
  cases e2:isS us (62612022078668281795505554093363622559854195865949253215105900396045672359969877880166549174032343132993734957765569202214538907514566311350427701009544032694847337705793280154083690688451269616688782133795410379376928705130345296445151552924450334836917827234573469831105668184247309683323748037249326305257450566500613104582596739355858495108587194514699348039550352061107652063950585699432193800786308390540153052463342825471615451497403378237530695269756800903089344746135921082798862585170912282432061314226997690214573863871773160495090950365393003392302336199511227963345777762340303723847551010267882950244475187531638497589816884840746003832656122559568072415127281877587919955134951848720898362784721630179183632514071187737718801766045181382178059597531935953865739058317213402067112106178269539818406468794623567714368406699984352401615611648009540554670638379077003046691601651659503488023036016650041344236444492625067110609540290467946795853434537583557082408411183186533670519462632865144031819183310381452310956185194634675703732849182713820334837695243446565596654286740386031565011357996399800921820918955437335624617843094112596863701508946442457135114386851122925397296113071978999231011209672540734656076492347048890983156526043032785285927167596865683405763291449118335047510792439178363711784660496025932951555546329846668545661249500619781993860494368395467151808107769959479474456951167188694307489519361853029722953071634727739222067984252267479508130870821814111526873691367656719627636282162632229619012164283959600299915921951610829461135327475232013270964287406921117221047932843602716792612622967992944,679)with
  |false=>rw[e2]at h;exact gextm1_ok h R hr
  |true=>
   rw[e2]at h;rw[Nat.eq_of_beq_eq_true e1]
   rw[isS_eq e2]at hr
   obtain⟨V,rfl,hv⟩:=hr.one
   obtain⟨x,rfl,e3,e4⟩:=hv.str_inv
   exact memo_ok (gs:=gl T) rtab_ok gokm1 me1 Tryz.call5 (RlL.cons (rl_str e3 e4) .nil) h R
theorem gokm2 {T:Nat} (w0:Base (gl T)):GOk Tryz.prog gpm2 rtab.fns w0:=⟨(gok w0).tab,(gok w0).mixed,(gok w0).fns,fun h ρ w vs R hr=>gextm2_ok h R hr,(gok w0).exn,(gok w0).cat⟩
noncomputable abbrev gp2:GP:=gpm2
theorem gok2 {T:Nat} (w0:Base (gl T)):GOk Tryz.prog gp2 rtab.fns w0:=gokm2 w0
end Go.Gx
end
section
namespace Go.Proofs.YtdbcpliafeoghaaGreatDoor
open Go Go.Sx Go.Gx
set_option maxRecDepth 100000
def ptext:ByteArray:=(ByteArray.mk #[112,114,111,103,114,97,109,32,114,101,115,101,116,59,10,118,97,114,32,100,32,58,32,48,32,46,46,32,110,59,10,118,97,114,32,112,32,58,32,112,111,114,116,59,10,118,97,114,32,115,32,58,32,98,111,111,108,59,10,118,97,114,32,98,32,58,32,98,111,111,108,59,10,118,97,114,32,121,32,58,32,48,32,46,46,32,51,59,10,118,97,114,32,114,32,58,32,98,111,111,108,59,10,114,117,108,101,32,116,111,112,58,32,114,111,111,116,32,38,38,32,40,100,32,33,61,32,48,32,124,124,32,112,32,33,61,32,110,111,110,101,41,32,45,62,32,100,32,58,61,32,48,44,32,112,32,58,61,32,110,111,110,101,59,10,114,117,108,101,32,108,111,119,58,32,33,114,111,111,116,32,38,38,32,40,100,32,33,61,32,40,109,105,110,40,113,46,100,41,32,60,32,110,32,63,32,109,105,110,40,113,46,100,41,32,43,32,49,32,58,32,110,41,32,124,124,32,112,32,33,61,32,102,105,114,115,116,40,113,46,100,32,61,61,32,109,105,110,40,113,46,100,41,41,41,10,32,32,45,62,32,100,32,58,61,32,40,109,105,110,40,113,46,100,41,32,60,32,110,32,63,32,109,105,110,40,113,46,100,41,32,43,32,49,32,58,32,110,41,44,32,112,32,58,61,32,102,105,114,115,116,40,113,46,100,32,61,61,32,109,105,110,40,113,46,100,41,41,59,10,114,117,108,101,32,98,101,103,105,110,58,32,114,111,111,116,32,38,38,32,33,115,32,38,38,32,114,32,45,62,32,115,32,58,61,32,116,114,117,101,44,32,98,32,58,61,32,33,98,44,32,121,32,58,61,32,48,44,32,114,32,58,61,32,102,97,108,115,101,59,10,114,117,108,101,32,116,97,107,101,58,32,33,114,111,111,116,32,38,38,32,115,111,109,101,40,113,32,61,61,32,112,32,38,38,32,40,113,46,98,32,33,61,32,98,32,124,124,32,115,32,38,38,32,33,113,46,115,41,41,32,45,62,32,115,32,58,61,32,115,111,109,101,40,113,32,61,61,32,112,32,38,38,32,113,46,115,41,44,32,98,32,58,61,32,115,111,109,101,40,113,32,61,61,32,112,32,38,38,32,113,46,98,41,44,32,121,32,58,61,32,48,44,32,114,32,58,61,32,102,97,108,115,101,59,10,114,117,108,101,32,102,105,110,105,115,104,58,32,115,32,38,38,32,97,108,108,40,113,46,112,32,33,61,32,113,46,98,97,99,107,32,124,124,32,33,113,46,115,32,38,38,32,113,46,98,32,61,61,32,98,41,32,45,62,32,115,32,58,61,32,102,97,108,115,101,59,10,114,117,108,101,32,97,115,107,58,32,33,115,32,38,38,32,33,114,32,38,38,32,115,111,109,101,40,113,46,112,32,61,61,32,113,46,98,97,99,107,32,38,38,32,113,46,114,32,38,38,32,33,113,46,115,41,32,45,62,32,114,32,58,61,32,116,114,117,101,59,10])
def pvars:List (ByteArray×Int×Int×Int×Int×Int):=[((ByteArray.mk #[100]),(1:Int),(0:Int),(0:Int),(1:Int),(0:Int)),((ByteArray.mk #[112]),(3:Int),(0:Int),(0:Int),(0:Int),(0:Int)),((ByteArray.mk #[115]),(2:Int),(0:Int),(0:Int),(0:Int),(0:Int)),((ByteArray.mk #[98]),(2:Int),(0:Int),(0:Int),(0:Int),(0:Int)),((ByteArray.mk #[121]),(1:Int),(0:Int),(3:Int),(0:Int),(0:Int)),((ByteArray.mk #[114]),(2:Int),(0:Int),(0:Int),(0:Int),(0:Int))]
def m_program_Parse (fuel:Nat) (p0:ByteArray):Option (ByteArray×List (ByteArray×Int×Int×Int×Int×Int)×Int×Int):=if p0=ptext then some ((ByteArray.mk #[114,101,115,101,116]),pvars,(0:Int),(0:Int))else none
theorem body5:HasBody Tryz.prog 5:=Tryz.call5
theorem parse_text:encS ptext=(62612022078668281795505554093363622559854195865949253215105900396045672359969877880166549174032343132993734957765569202214538907514566311350427701009544032694847337705793280154083690688451269616688782133795410379376928705130345296445151552924450334836917827234573469831105668184247309683323748037249326305257450566500613104582596739355858495108587194514699348039550352061107652063950585699432193800786308390540153052463342825471615451497403378237530695269756800903089344746135921082798862585170912282432061314226997690214573863871773160495090950365393003392302336199511227963345777762340303723847551010267882950244475187531638497589816884840746003832656122559568072415127281877587919955134951848720898362784721630179183632514071187737718801766045181382178059597531935953865739058317213402067112106178269539818406468794623567714368406699984352401615611648009540554670638379077003046691601651659503488023036016650041344236444492625067110609540290467946795853434537583557082408411183186533670519462632865144031819183310381452310956185194634675703732849182713820334837695243446565596654286740386031565011357996399800921820918955437335624617843094112596863701508946442457135114386851122925397296113071978999231011209672540734656076492347048890983156526043032785285927167596865683405763291449118335047510792439178363711784660496025932951555546329846668545661249500619781993860494368395467151808107769959479474456951167188694307489519361853029722953071634727739222067984252267479508130870821814111526873691367656719627636282162632229619012164283959600299915921951610829461135327475232013270964287406921117221047932843602716792612622967992944,679):=by kernel_rfl
theorem parse_name:encS (ByteArray.mk #[114,101,115,101,116])=(499918267762,5):=by kernel_rfl
theorem parse_vars:decS (mkH 7584 mo1) 6 (dP 1 dStr (dP 1 (dI .i64) (dP 1 (dI .i64) (dP 1 (dI .i64) (dP 1 (dI .i64) (dI .i64)))))) (.sl 2814 0 6 6)=some (pvars.map fun z=>(encS z.1,z.2.1,z.2.2.1,z.2.2.2.1,z.2.2.2.2.1,z.2.2.2.2.2)):=by kernel_rfl
theorem t_program_Parse (fuel:Nat) {p0:ByteArray} (r:ByteArray×List (ByteArray×Int×Int×Int×Int×Int)×Int×Int) (h:m_program_Parse fuel p0=some r):
  Meets Tryz.prog 5 #[Value.string p0] [Gb 0 (cellsOf EU8 tab0)] (fun x:Value×Value=>Value.tuple #[Value.agg #[Value.string (r.1),x.1,x.2],Value.int .i64 (r.2.2.1),Value.int .i64 (r.2.2.2)]) (fun x l=>l) (fun x l=>Sl RStI64I64I64I64I64p x.1 r.2.1::Onef x.2::l):=by
 unfold m_program_Parse at h
 split at h
 ·rename_i e;subst e;cases h
  refine meets_memo (gs:=gl) (LO:=fun x:Value×Value=>[Sl RStI64I64I64I64I64p x.1 pvars,Onef x.2]) glsOne (fun T b=>memo_base rtab_ok gokm1 me1 body5 (.cons (rl_str (x:=ptext) (congrArg Prod.fst parse_text).symm (congrArg Prod.snd parse_text).symm) .nil) b) ?_
  intro T b ρ w V hm R hr
  obtain⟨vs,rfl,hl⟩:=Rl.tup_inv hr
  obtain⟨V1,vs,rfl,h1,hl⟩:=hl.of_cons
  obtain⟨V2,vs,rfl,h2,hl⟩:=hl.of_cons
  obtain⟨V3,rfl,h3⟩:=hl.one
  obtain⟨bs,rfl,hl,_⟩:=h1.agg_inv
  obtain⟨A1,bs,rfl,a1,hl⟩:=hl.of_cons
  obtain⟨A2,bs,rfl,a2,hl⟩:=hl.of_cons
  obtain⟨A3,rfl,a3⟩:=hl.one
  obtain rfl:=str_lit a1 parse_name
  obtain rfl:=h2.int_inv
  obtain rfl:=h3.int_inv
  obtain⟨zs,hz,hs⟩:=decS_ok R hm (Reads.pair Reads.str (Reads.pair (Reads.int .i64) (Reads.pair (Reads.int .i64) (Reads.pair (Reads.int .i64) (Reads.pair (Reads.int .i64) (Reads.int .i64)))))) a2 parse_vars
  have hzs:zs=pvars:=map_inj_of (inj_pair (fun _ _=>encS_inj) (inj_pair inj_id (inj_pair inj_id (inj_pair inj_id (inj_pair inj_id inj_id))))) hz
  subst hzs
  exact⟨(A2,A3),rfl,List.forall_mem_cons.2 ⟨hs,List.forall_mem_cons.2 ⟨one_of_sl a3,fun q hq=>absurd hq List.not_mem_nil⟩⟩⟩
 ·cases h
end Go.Proofs.YtdbcpliafeoghaaGreatDoor
end
section
namespace Go.Proofs.YtdbcpliafeoghaaGreatDoor
open Go.Sx
def m_reset_Text (fuel:Nat)  : Option (ByteArray):=
 some (ByteArray.mk #[112,114,111,103,114,97,109,32,114,101,115,101,116,59,10,118,97,114,32,100,32,58,32,48,32,46,46,32,110,59,10,118,97,114,32,112,32,58,32,112,111,114,116,59,10,118,97,114,32,115,32,58,32,98,111,111,108,59,10,118,97,114,32,98,32,58,32,98,111,111,108,59,10,118,97,114,32,121,32,58,32,48,32,46,46,32,51,59,10,118,97,114,32,114,32,58,32,98,111,111,108,59,10,114,117,108,101,32,116,111,112,58,32,114,111,111,116,32,38,38,32,40,100,32,33,61,32,48,32,124,124,32,112,32,33,61,32,110,111,110,101,41,32,45,62,32,100,32,58,61,32,48,44,32,112,32,58,61,32,110,111,110,101,59,10,114,117,108,101,32,108,111,119,58,32,33,114,111,111,116,32,38,38,32,40,100,32,33,61,32,40,109,105,110,40,113,46,100,41,32,60,32,110,32,63,32,109,105,110,40,113,46,100,41,32,43,32,49,32,58,32,110,41,32,124,124,32,112,32,33,61,32,102,105,114,115,116,40,113,46,100,32,61,61,32,109,105,110,40,113,46,100,41,41,41,10,32,32,45,62,32,100,32,58,61,32,40,109,105,110,40,113,46,100,41,32,60,32,110,32,63,32,109,105,110,40,113,46,100,41,32,43,32,49,32,58,32,110,41,44,32,112,32,58,61,32,102,105,114,115,116,40,113,46,100,32,61,61,32,109,105,110,40,113,46,100,41,41,59,10,114,117,108,101,32,98,101,103,105,110,58,32,114,111,111,116,32,38,38,32,33,115,32,38,38,32,114,32,45,62,32,115,32,58,61,32,116,114,117,101,44,32,98,32,58,61,32,33,98,44,32,121,32,58,61,32,48,44,32,114,32,58,61,32,102,97,108,115,101,59,10,114,117,108,101,32,116,97,107,101,58,32,33,114,111,111,116,32,38,38,32,115,111,109,101,40,113,32,61,61,32,112,32,38,38,32,40,113,46,98,32,33,61,32,98,32,124,124,32,115,32,38,38,32,33,113,46,115,41,41,32,45,62,32,115,32,58,61,32,115,111,109,101,40,113,32,61,61,32,112,32,38,38,32,113,46,115,41,44,32,98,32,58,61,32,115,111,109,101,40,113,32,61,61,32,112,32,38,38,32,113,46,98,41,44,32,121,32,58,61,32,48,44,32,114,32,58,61,32,102,97,108,115,101,59,10,114,117,108,101,32,102,105,110,105,115,104,58,32,115,32,38,38,32,97,108,108,40,113,46,112,32,33,61,32,113,46,98,97,99,107,32,124,124,32,33,113,46,115,32,38,38,32,113,46,98,32,61,61,32,98,41,32,45,62,32,115,32,58,61,32,102,97,108,115,101,59,10,114,117,108,101,32,97,115,107,58,32,33,115,32,38,38,32,33,114,32,38,38,32,115,111,109,101,40,113,46,112,32,61,61,32,113,46,98,97,99,107,32,38,38,32,113,46,114,32,38,38,32,33,113,46,115,41,32,45,62,32,114,32,58,61,32,116,114,117,101,59,10])
theorem body6:HasBody Tryz.prog 6:=Tryz.call6
theorem t_reset_Text (fuel:Nat)  (r:ByteArray) (h:m_reset_Text fuel  = some r):
  Meets Tryz.prog 6 #[] [] (fun x:Unit=>Value.string (r)) (fun x l=>l) (fun _ l=>l):=by
 refine Meets.of (vs:=[]) Tryz.func6 rfl Tryz.ntmps6 rfl fun c=> ?_
 unfold m_reset_Text at h
 refine J.seq<|J.region<|J.quiet (Y.assign rfl) rfl<|J.done<|J.thenN<|J.seq<|J.region<|J.quiet (Y.assign rfl) rfl<|J.done<|J.thenN<|J.ret ?_
 obtain rfl:=Option.some.inj h
 exact J.retG1 (()) rfl rfl (RV.tmp rfl) (SubM.refl _) LentAll.nil
end Go.Proofs.YtdbcpliafeoghaaGreatDoor
end
section
namespace Go.Proofs.YtdbcpliafeoghaaGreatDoor
open Go.Sx
def m_ref23_Truth (fuel:Nat) (p0:ByteArray):Option ((ByteArray×Int×Int×Int×Int×Int)):=
 some ((p0,(2:Int),(0:Int),(0:Int),(0:Int),(0:Int)))
theorem body21:HasBody Tryz.prog 21:=Tryz.call21
theorem t_ref23_Truth (fuel:Nat) {p0:ByteArray} (r:(ByteArray×Int×Int×Int×Int×Int)) (h:m_ref23_Truth fuel p0=some r):
  Meets Tryz.prog 21 #[Value.string (p0)] [] (fun x:Unit=>Value.agg #[Value.string (r.1),Value.int .i64 (r.2.1),Value.int .i64 (r.2.2.1),Value.int .i64 (r.2.2.2.1),Value.int .i64 (r.2.2.2.2.1),Value.int .i64 (r.2.2.2.2.2)]) (fun x l=>l) (fun _ l=>l):=by
 refine Meets.of (vs:=[Value.string (p0)]) Tryz.func21 rfl Tryz.ntmps21 rfl fun c=> ?_
 unfold m_ref23_Truth at h
 refine J.seq<|J.region<|J.loud (Loud.alloc (cs:=[Value.string (ByteArray.mk #[]),Value.int .i64 (0:Int),Value.int .i64 (0:Int),Value.int .i64 (0:Int),Value.int .i64 (0:Int),Value.int .i64 (0:Int)]) rfl rfl) rfl fun b1=>J.done<|J.thenN<|J.seq<|J.region<|J.quiet (Y.move rfl) rfl ?_
 refine J.quiet (Y.bld2 (r:=Value.agg #[Value.string (p0),Value.int .i64 (2:Int),Value.int .i64 (0:Int),Value.int .i64 (0:Int),Value.int .i64 (0:Int),Value.int .i64 (0:Int)]) rfl rfl (by intro w;simp[Instr.build,Instr.fill,cells_intV,cells_boolV,cells_sliceV,cells_ptrV,cells_strV,cells_funcV,cells_agg])) rfl ?_
 refine J.storeAll 0 (vs:=[Value.string (p0),Value.int .i64 (2:Int),Value.int .i64 (0:Int),Value.int .i64 (0:Int),Value.int .i64 (0:Int),Value.int .i64 (0:Int)]) rfl rfl rfl rfl rfl rfl<|J.done<|J.thenN<|J.ret ?_
 obtain rfl:=Option.some.inj h
 exact J.retG1 (()) rfl rfl (RV.cell 0 rfl rfl rfl rfl) (SubM.nil) LentAll.nil
end Go.Proofs.YtdbcpliafeoghaaGreatDoor
end
section
namespace Go.Proofs.YtdbcpliafeoghaaGreatDoor
open Go.Sx
def m_ref23_Number (fuel:Nat) (p0:ByteArray) (p1:Int) (p2:Int) (p3:Int):Option ((ByteArray×Int×Int×Int×Int×Int)):=
 some ((p0,(1:Int),(0:Int),p1,p2,p3))
theorem body20:HasBody Tryz.prog 20:=Tryz.call20
theorem t_ref23_Number (fuel:Nat) {p0:ByteArray} {p1:Int} {p2:Int} {p3:Int} (r:(ByteArray×Int×Int×Int×Int×Int)) (h:m_ref23_Number fuel p0 p1 p2 p3=some r):
  Meets Tryz.prog 20 #[Value.string (p0),Value.int .i64 (p1),Value.int .i64 (p2),Value.int .i64 (p3)] [] (fun x:Unit=>Value.agg #[Value.string (r.1),Value.int .i64 (r.2.1),Value.int .i64 (r.2.2.1),Value.int .i64 (r.2.2.2.1),Value.int .i64 (r.2.2.2.2.1),Value.int .i64 (r.2.2.2.2.2)]) (fun x l=>l) (fun _ l=>l):=by
 refine Meets.of (vs:=[Value.string (p0),Value.int .i64 (p1),Value.int .i64 (p2),Value.int .i64 (p3)]) Tryz.func20 rfl Tryz.ntmps20 rfl fun c=> ?_
 unfold m_ref23_Number at h
 refine J.seq<|J.region<|J.loud (Loud.alloc (cs:=[Value.string (ByteArray.mk #[]),Value.int .i64 (0:Int),Value.int .i64 (0:Int),Value.int .i64 (0:Int),Value.int .i64 (0:Int),Value.int .i64 (0:Int)]) rfl rfl) rfl fun b1=>J.done<|J.thenN<|J.seq<|J.region<|J.quiet (Y.move rfl) rfl<|J.quiet (Y.move rfl) rfl<|J.quiet (Y.move rfl) rfl<|J.quiet (Y.move rfl) rfl ?_
 refine J.quiet (Y.bld5 (r:=Value.agg #[Value.string (p0),Value.int .i64 (1:Int),Value.int .i64 (0:Int),Value.int .i64 (p1),Value.int .i64 (p2),Value.int .i64 (p3)]) rfl rfl rfl rfl rfl (by intro w;simp[Instr.build,Instr.fill,cells_intV,cells_boolV,cells_sliceV,cells_ptrV,cells_strV,cells_funcV,cells_agg])) rfl ?_
 refine J.storeAll 0 (vs:=[Value.string (p0),Value.int .i64 (1:Int),Value.int .i64 (0:Int),Value.int .i64 (p1),Value.int .i64 (p2),Value.int .i64 (p3)]) rfl rfl rfl rfl rfl rfl<|J.done<|J.thenN<|J.ret ?_
 obtain rfl:=Option.some.inj h
 exact J.retG1 (()) rfl rfl (RV.cell 0 rfl rfl rfl rfl) (SubM.nil) LentAll.nil
end Go.Proofs.YtdbcpliafeoghaaGreatDoor
end
section
namespace Go.Proofs.YtdbcpliafeoghaaGreatDoor
open Go.Sx
def m_ref23_Pointer (fuel:Nat) (p0:ByteArray):Option ((ByteArray×Int×Int×Int×Int×Int)):=
 some ((p0,(3:Int),(0:Int),(0:Int),(0:Int),(0:Int)))
theorem body83:HasBody Tryz.prog 83:=Tryz.call83
theorem t_ref23_Pointer (fuel:Nat) {p0:ByteArray} (r:(ByteArray×Int×Int×Int×Int×Int)) (h:m_ref23_Pointer fuel p0=some r):
  Meets Tryz.prog 83 #[Value.string (p0)] [] (fun x:Unit=>Value.agg #[Value.string (r.1),Value.int .i64 (r.2.1),Value.int .i64 (r.2.2.1),Value.int .i64 (r.2.2.2.1),Value.int .i64 (r.2.2.2.2.1),Value.int .i64 (r.2.2.2.2.2)]) (fun x l=>l) (fun _ l=>l):=by
 refine Meets.of (vs:=[Value.string (p0)]) Tryz.func83 rfl Tryz.ntmps83 rfl fun c=> ?_
 unfold m_ref23_Pointer at h
 refine J.seq<|J.region<|J.loud (Loud.alloc (cs:=[Value.string (ByteArray.mk #[]),Value.int .i64 (0:Int),Value.int .i64 (0:Int),Value.int .i64 (0:Int),Value.int .i64 (0:Int),Value.int .i64 (0:Int)]) rfl rfl) rfl fun b1=>J.done<|J.thenN<|J.seq<|J.region<|J.quiet (Y.move rfl) rfl ?_
 refine J.quiet (Y.bld2 (r:=Value.agg #[Value.string (p0),Value.int .i64 (3:Int),Value.int .i64 (0:Int),Value.int .i64 (0:Int),Value.int .i64 (0:Int),Value.int .i64 (0:Int)]) rfl rfl (by intro w;simp[Instr.build,Instr.fill,cells_intV,cells_boolV,cells_sliceV,cells_ptrV,cells_strV,cells_funcV,cells_agg])) rfl ?_
 refine J.storeAll 0 (vs:=[Value.string (p0),Value.int .i64 (3:Int),Value.int .i64 (0:Int),Value.int .i64 (0:Int),Value.int .i64 (0:Int),Value.int .i64 (0:Int)]) rfl rfl rfl rfl rfl rfl<|J.done<|J.thenN<|J.ret ?_
 obtain rfl:=Option.some.inj h
 exact J.retG1 (()) rfl rfl (RV.cell 0 rfl rfl rfl rfl) (SubM.nil) LentAll.nil
end Go.Proofs.YtdbcpliafeoghaaGreatDoor
end
section
namespace Go.Proofs.YtdbcpliafeoghaaGreatDoor
open Go.Sx
def m_ref23_Vars (fuel:Nat)  : Option ((List (ByteArray×Int×Int×Int×Int×Int))):=
 Option.bind (m_ref23_Number fuel (ByteArray.mk #[100]) (0:Int) (1:Int) (0:Int)) fun r1=>(Option.bind (m_ref23_Pointer fuel (ByteArray.mk #[112])) fun r4=>(some ([(r1.1,r1.2.1,r1.2.2.1,r1.2.2.2.1,r1.2.2.2.2.1,r1.2.2.2.2.2),(r4.1,r4.2.1,r4.2.2.1,r4.2.2.2.1,r4.2.2.2.2.1,r4.2.2.2.2.2)])))
theorem body47:HasBody Tryz.prog 47:=Tryz.call47
theorem t_ref23_Vars (fuel:Nat)  (r:(List (ByteArray×Int×Int×Int×Int×Int))) (h:m_ref23_Vars fuel  = some r):
  Meets Tryz.prog 47 #[] [] (fun x:Value=>x) (fun x l=>Ar EStI64I64I64I64I64p x r::l) (fun _ l=>l):=by
 refine Meets.of (vs:=[]) Tryz.func47 rfl Tryz.ntmps47 rfl fun c=> ?_
 unfold m_ref23_Vars at h
 refine J.seq<|J.region<|J.quiet (Y.assign rfl) rfl<|J.done<|J.thenN<|J.seq<|J.region ?_
 have h:=bnd h;obtain⟨r1,hr2,h⟩:=h
 refine J.loud (Loud.callL body20 (t_ref23_Number fuel  r1 hr2) rfl .nil (fun _ _=>rfl)) rfl fun x3=> ?_
 have h:=bnd h;obtain⟨r4,hr5,h⟩:=h
 refine J.loud (Loud.callL body83 (t_ref23_Pointer fuel  r4 hr5) rfl .nil (fun _ _=>rfl)) rfl fun x6=>J.loud (Loud.buildS (e:=EStI64I64I64I64I64p) ([((r1.1,r1.2.1,r1.2.2.1,r1.2.2.2.1,r1.2.2.2.2.1,r1.2.2.2.2.2)),((r4.1,r4.2.1,r4.2.2.1,r4.2.2.2.1,r4.2.2.2.2.1,r4.2.2.2.2.2))]) [(0,Value.agg #[Value.string (r1.1),Value.int .i64 (r1.2.1),Value.int .i64 (r1.2.2.1),Value.int .i64 (r1.2.2.2.1),Value.int .i64 (r1.2.2.2.2.1),Value.int .i64 (r1.2.2.2.2.2)]),(1,Value.agg #[Value.string (r4.1),Value.int .i64 (r4.2.1),Value.int .i64 (r4.2.2.1),Value.int .i64 (r4.2.2.2.1),Value.int .i64 (r4.2.2.2.2.1),Value.int .i64 (r4.2.2.2.2.2)])] rfl rfl rfl rfl (fill_2_6 (Value.string (r1.1)) (Value.int .i64 (r1.2.1)) (Value.int .i64 (r1.2.2.1)) (Value.int .i64 (r1.2.2.2.1)) (Value.int .i64 (r1.2.2.2.2.1)) (Value.int .i64 (r1.2.2.2.2.2)) (Value.string (r4.1)) (Value.int .i64 (r4.2.1)) (Value.int .i64 (r4.2.2.1)) (Value.int .i64 (r4.2.2.2.1)) (Value.int .i64 (r4.2.2.2.2.1)) (Value.int .i64 (r4.2.2.2.2.2))) rfl rfl rfl) rfl fun u7=>J.quiet (Y.assign rfl) rfl<|J.done<|J.thenN<|J.ret ?_
 obtain rfl:=Option.some.inj h
 exact J.retG1 (u7) rfl rfl (RV.tmp rfl) (SubM.refl _) LentAll.nil
end Go.Proofs.YtdbcpliafeoghaaGreatDoor
end
section
namespace Go.Proofs.YtdbcpliafeoghaaGreatDoor
open Go.Sx
def m_ref35_Vars (fuel:Nat)  : Option ((List (ByteArray×Int×Int×Int×Int×Int))):=
 Option.bind (m_ref23_Vars fuel) fun r1=>(Option.bind (m_ref23_Truth fuel (ByteArray.mk #[115])) fun r4=>(Option.bind (m_ref23_Truth fuel (ByteArray.mk #[98])) fun r7=>(ck ((List.length r1:Int)+(List.length ([(r4.1,r4.2.1,r4.2.2.1,r4.2.2.2.1,r4.2.2.2.2.1,r4.2.2.2.2.2),(r7.1,r7.2.1,r7.2.2.1,r7.2.2.2.1,r7.2.2.2.2.1,r7.2.2.2.2.2)]):Int)<=1099511627) (some (r1++([(r4.1,r4.2.1,r4.2.2.1,r4.2.2.2.1,r4.2.2.2.2.1,r4.2.2.2.2.2),(r7.1,r7.2.1,r7.2.2.1,r7.2.2.2.1,r7.2.2.2.2.1,r7.2.2.2.2.2)]))))))
theorem body19:HasBody Tryz.prog 19:=Tryz.call19
theorem t_ref35_Vars (fuel:Nat)  (r:(List (ByteArray×Int×Int×Int×Int×Int))) (h:m_ref35_Vars fuel  = some r):
  Meets Tryz.prog 19 #[] [] (fun x:Value=>x) (fun x l=>Ar EStI64I64I64I64I64p x r::l) (fun _ l=>l):=by
 refine Meets.of (vs:=[]) Tryz.func19 rfl Tryz.ntmps19 rfl fun c=> ?_
 unfold m_ref35_Vars at h
 refine J.seq<|J.region<|J.quiet (Y.assign rfl) rfl<|J.done<|J.thenN<|J.seq<|J.region ?_
 have h:=bnd h;obtain⟨r1,hr2,h⟩:=h
 refine J.loud (Loud.callL body47 (t_ref23_Vars fuel  r1 hr2) rfl .nil (fun _ _=>rfl)) rfl fun x3=> ?_
 have h:=bnd h;obtain⟨r4,hr5,h⟩:=h
 refine J.loud (Loud.callL body21 (t_ref23_Truth fuel  r4 hr5) rfl .nil (fun _ _=>rfl)) rfl fun x6=> ?_
 have h:=bnd h;obtain⟨r7,hr8,h⟩:=h
 refine J.loud (Loud.callL body21 (t_ref23_Truth fuel  r7 hr8) rfl .nil (fun _ _=>rfl)) rfl fun x9=>J.loud (Loud.buildS (e:=EStI64I64I64I64I64p) ([((r4.1,r4.2.1,r4.2.2.1,r4.2.2.2.1,r4.2.2.2.2.1,r4.2.2.2.2.2)),((r7.1,r7.2.1,r7.2.2.1,r7.2.2.2.1,r7.2.2.2.2.1,r7.2.2.2.2.2))]) [(0,Value.agg #[Value.string (r4.1),Value.int .i64 (r4.2.1),Value.int .i64 (r4.2.2.1),Value.int .i64 (r4.2.2.2.1),Value.int .i64 (r4.2.2.2.2.1),Value.int .i64 (r4.2.2.2.2.2)]),(1,Value.agg #[Value.string (r7.1),Value.int .i64 (r7.2.1),Value.int .i64 (r7.2.2.1),Value.int .i64 (r7.2.2.2.1),Value.int .i64 (r7.2.2.2.2.1),Value.int .i64 (r7.2.2.2.2.2)])] rfl rfl rfl rfl (fill_2_6 (Value.string (r4.1)) (Value.int .i64 (r4.2.1)) (Value.int .i64 (r4.2.2.1)) (Value.int .i64 (r4.2.2.2.1)) (Value.int .i64 (r4.2.2.2.2.1)) (Value.int .i64 (r4.2.2.2.2.2)) (Value.string (r7.1)) (Value.int .i64 (r7.2.1)) (Value.int .i64 (r7.2.2.1)) (Value.int .i64 (r7.2.2.2.1)) (Value.int .i64 (r7.2.2.2.2.1)) (Value.int .i64 (r7.2.2.2.2.2))) rfl rfl rfl) rfl fun u10=> ?_
 have h:=ck_some h;obtain⟨hc12,h⟩:=h
 refine J.loud (Loud.appendL 1 FStI64I64I64I64I64p rfl rfl rfl (Lent.ar (Lent.res 0 rfl) FStI64I64I64I64I64p) rfl rfl rfl rfl hc12 rfl) rfl fun u11=>J.quiet (Y.assign rfl) rfl<|J.done<|J.thenN<|J.ret ?_
 obtain rfl:=Option.some.inj h
 exact J.retG1 (u11) rfl rfl (RV.tmp rfl) (SubM.cons 1 rfl (SubM.nil)) LentAll.nil
end Go.Proofs.YtdbcpliafeoghaaGreatDoor
end
section
namespace Go.Proofs.YtdbcpliafeoghaaGreatDoor
open Go.Sx
def m_ref38_Vars (fuel:Nat)  : Option ((List (ByteArray×Int×Int×Int×Int×Int))):=
 Option.bind (m_ref35_Vars fuel) fun r1=>(Option.bind (m_ref23_Number fuel (ByteArray.mk #[121]) (3:Int) (0:Int) (0:Int)) fun r4=>(Option.bind (m_ref23_Truth fuel (ByteArray.mk #[114])) fun r7=>(ck ((List.length r1:Int)+(List.length ([(r4.1,r4.2.1,r4.2.2.1,r4.2.2.2.1,r4.2.2.2.2.1,r4.2.2.2.2.2),(r7.1,r7.2.1,r7.2.2.1,r7.2.2.2.1,r7.2.2.2.2.1,r7.2.2.2.2.2)]):Int)<=1099511627) (some (r1++([(r4.1,r4.2.1,r4.2.2.1,r4.2.2.2.1,r4.2.2.2.2.1,r4.2.2.2.2.2),(r7.1,r7.2.1,r7.2.2.1,r7.2.2.2.1,r7.2.2.2.2.1,r7.2.2.2.2.2)]))))))
theorem body7:HasBody Tryz.prog 7:=Tryz.call7
theorem t_ref38_Vars (fuel:Nat)  (r:(List (ByteArray×Int×Int×Int×Int×Int))) (h:m_ref38_Vars fuel  = some r):
  Meets Tryz.prog 7 #[] [] (fun x:Value=>x) (fun x l=>Ar EStI64I64I64I64I64p x r::l) (fun _ l=>l):=by
 refine Meets.of (vs:=[]) Tryz.func7 rfl Tryz.ntmps7 rfl fun c=> ?_
 unfold m_ref38_Vars at h
 refine J.seq<|J.region<|J.quiet (Y.assign rfl) rfl<|J.done<|J.thenN<|J.seq<|J.region ?_
 have h:=bnd h;obtain⟨r1,hr2,h⟩:=h
 refine J.loud (Loud.callL body19 (t_ref35_Vars fuel  r1 hr2) rfl .nil (fun _ _=>rfl)) rfl fun x3=> ?_
 have h:=bnd h;obtain⟨r4,hr5,h⟩:=h
 refine J.loud (Loud.callL body20 (t_ref23_Number fuel  r4 hr5) rfl .nil (fun _ _=>rfl)) rfl fun x6=> ?_
 have h:=bnd h;obtain⟨r7,hr8,h⟩:=h
 refine J.loud (Loud.callL body21 (t_ref23_Truth fuel  r7 hr8) rfl .nil (fun _ _=>rfl)) rfl fun x9=>J.loud (Loud.buildS (e:=EStI64I64I64I64I64p) ([((r4.1,r4.2.1,r4.2.2.1,r4.2.2.2.1,r4.2.2.2.2.1,r4.2.2.2.2.2)),((r7.1,r7.2.1,r7.2.2.1,r7.2.2.2.1,r7.2.2.2.2.1,r7.2.2.2.2.2))]) [(0,Value.agg #[Value.string (r4.1),Value.int .i64 (r4.2.1),Value.int .i64 (r4.2.2.1),Value.int .i64 (r4.2.2.2.1),Value.int .i64 (r4.2.2.2.2.1),Value.int .i64 (r4.2.2.2.2.2)]),(1,Value.agg #[Value.string (r7.1),Value.int .i64 (r7.2.1),Value.int .i64 (r7.2.2.1),Value.int .i64 (r7.2.2.2.1),Value.int .i64 (r7.2.2.2.2.1),Value.int .i64 (r7.2.2.2.2.2)])] rfl rfl rfl rfl (fill_2_6 (Value.string (r4.1)) (Value.int .i64 (r4.2.1)) (Value.int .i64 (r4.2.2.1)) (Value.int .i64 (r4.2.2.2.1)) (Value.int .i64 (r4.2.2.2.2.1)) (Value.int .i64 (r4.2.2.2.2.2)) (Value.string (r7.1)) (Value.int .i64 (r7.2.1)) (Value.int .i64 (r7.2.2.1)) (Value.int .i64 (r7.2.2.2.1)) (Value.int .i64 (r7.2.2.2.2.1)) (Value.int .i64 (r7.2.2.2.2.2))) rfl rfl rfl) rfl fun u10=> ?_
 have h:=ck_some h;obtain⟨hc12,h⟩:=h
 refine J.loud (Loud.appendL 1 FStI64I64I64I64I64p rfl rfl rfl (Lent.ar (Lent.res 0 rfl) FStI64I64I64I64I64p) rfl rfl rfl rfl hc12 rfl) rfl fun u11=>J.quiet (Y.assign rfl) rfl<|J.done<|J.thenN<|J.ret ?_
 obtain rfl:=Option.some.inj h
 exact J.retG1 (u11) rfl rfl (RV.tmp rfl) (SubM.cons 1 rfl (SubM.nil)) LentAll.nil
end Go.Proofs.YtdbcpliafeoghaaGreatDoor
end
section
namespace Go.Proofs.YtdbcpliafeoghaaGreatDoor
open Go Go.Sx Go.Gx
set_option maxRecDepth 100000
def m_law38_known (fuel:Nat):Option (Bool):=some (true)
theorem body9:HasBody Tryz.prog 9:=Tryz.call9
theorem closed9:okT (callR rtab gp2 4000 9 [] H0)=true:=by kernel_rfl
theorem t_law38_known (fuel:Nat) (r:Bool) (h:m_law38_known fuel=some r):
  Meets Tryz.prog 9 #[] [Gb 0 (cellsOf EU8 tab0)] (fun x:Unit=>Value.bool (r)) (fun x l=>l) (fun _ l=>l):=by
 obtain rfl:=Option.some.inj h
 obtain⟨H',h1⟩:=okT_spec closed9
 rw[callR_eq rtab_ok]at h1
 exact meets_closed glsOne body9 (fun ρ V' h=>h.bool_inv) fun T b=>callF_ok (gs:=gl T) gok2 h1 (Rel.start b) .nil
end Go.Proofs.YtdbcpliafeoghaaGreatDoor
end
section
namespace Go.Proofs.YtdbcpliafeoghaaGreatDoor
open Go.Sx
def m_ref38_Text (fuel:Nat)  : Option (ByteArray):=
 some (ByteArray.mk #[112,114,111,103,114,97,109,32,114,101,115,101,116,59,10,118,97,114,32,100,32,58,32,48,32,46,46,32,110,59,10,118,97,114,32,112,32,58,32,112,111,114,116,59,10,118,97,114,32,115,32,58,32,98,111,111,108,59,10,118,97,114,32,98,32,58,32,98,111,111,108,59,10,118,97,114,32,121,32,58,32,48,32,46,46,32,51,59,10,118,97,114,32,114,32,58,32,98,111,111,108,59,10,114,117,108,101,32,116,111,112,58,32,114,111,111,116,32,38,38,32,40,100,32,33,61,32,48,32,124,124,32,112,32,33,61,32,110,111,110,101,41,32,45,62,32,100,32,58,61,32,48,44,32,112,32,58,61,32,110,111,110,101,59,10,114,117,108,101,32,108,111,119,58,32,33,114,111,111,116,32,38,38,32,40,100,32,33,61,32,40,109,105,110,40,113,46,100,41,32,60,32,110,32,63,32,109,105,110,40,113,46,100,41,32,43,32,49,32,58,32,110,41,32,124,124,32,112,32,33,61,32,102,105,114,115,116,40,113,46,100,32,61,61,32,109,105,110,40,113,46,100,41,41,41,10,32,32,45,62,32,100,32,58,61,32,40,109,105,110,40,113,46,100,41,32,60,32,110,32,63,32,109,105,110,40,113,46,100,41,32,43,32,49,32,58,32,110,41,44,32,112,32,58,61,32,102,105,114,115,116,40,113,46,100,32,61,61,32,109,105,110,40,113,46,100,41,41,59,10,114,117,108,101,32,98,101,103,105,110,58,32,114,111,111,116,32,38,38,32,33,115,32,38,38,32,114,32,45,62,32,115,32,58,61,32,116,114,117,101,44,32,98,32,58,61,32,33,98,44,32,121,32,58,61,32,48,44,32,114,32,58,61,32,102,97,108,115,101,59,10,114,117,108,101,32,116,97,107,101,58,32,33,114,111,111,116,32,38,38,32,115,111,109,101,40,113,32,61,61,32,112,32,38,38,32,40,113,46,98,32,33,61,32,98,32,124,124,32,115,32,38,38,32,33,113,46,115,41,41,32,45,62,32,115,32,58,61,32,115,111,109,101,40,113,32,61,61,32,112,32,38,38,32,113,46,115,41,44,32,98,32,58,61,32,115,111,109,101,40,113,32,61,61,32,112,32,38,38,32,113,46,98,41,44,32,121,32,58,61,32,48,44,32,114,32,58,61,32,102,97,108,115,101,59,10,114,117,108,101,32,102,105,110,105,115,104,58,32,115,32,38,38,32,97,108,108,40,113,46,112,32,33,61,32,113,46,98,97,99,107,32,124,124,32,33,113,46,115,32,38,38,32,113,46,98,32,61,61,32,98,41,32,45,62,32,115,32,58,61,32,102,97,108,115,101,59,10,114,117,108,101,32,97,115,107,58,32,33,115,32,38,38,32,33,114,32,38,38,32,115,111,109,101,40,113,46,112,32,61,61,32,113,46,98,97,99,107,32,38,38,32,113,46,114,32,38,38,32,33,113,46,115,41,32,45,62,32,114,32,58,61,32,116,114,117,101,59,10])
theorem body10:HasBody Tryz.prog 10:=Tryz.call10
theorem t_ref38_Text (fuel:Nat)  (r:ByteArray) (h:m_ref38_Text fuel  = some r):
  Meets Tryz.prog 10 #[] [] (fun x:Unit=>Value.string (r)) (fun x l=>l) (fun _ l=>l):=by
 refine Meets.of (vs:=[]) Tryz.func10 rfl Tryz.ntmps10 rfl fun c=> ?_
 unfold m_ref38_Text at h
 refine J.seq<|J.region<|J.quiet (Y.assign rfl) rfl<|J.done<|J.thenN<|J.seq<|J.region<|J.quiet (Y.assign rfl) rfl<|J.done<|J.thenN<|J.ret ?_
 obtain rfl:=Option.some.inj h
 exact J.retG1 (()) rfl rfl (RV.tmp rfl) (SubM.refl _) LentAll.nil
end Go.Proofs.YtdbcpliafeoghaaGreatDoor
end
section
namespace Go.Proofs.YtdbcpliafeoghaaGreatDoor
open Go.Sx
def law38_ResetText_k2  (a24:Bool):Option (Bool):=
 some (a24)
def law38_ResetText_k1 (fuel:Nat) (p0:Int) (r4:ByteArray×List (ByteArray×Int×Int×Int×Int×Int)×Int×Int) (r10:(List (ByteArray×Int×Int×Int×Int×Int))) (a14:Bool):Option (Bool):=
 if a14=true then(some (false))else(Option.bind (m_world_Within fuel p0 (List.length r10:Int)) fun r17=>(ck (0<=r17∧r17<(List.length r4.2.1:Int)) (ck (0<=r17∧r17<(List.length r10:Int)) (if(((at' r4.2.1 r17).1),((at' r4.2.1 r17).2.1),((at' r4.2.1 r17).2.2.1),((at' r4.2.1 r17).2.2.2.1),((at' r4.2.1 r17).2.2.2.2.1),((at' r4.2.1 r17).2.2.2.2.2))≠(((at' r10 r17).1),((at' r10 r17).2.1),((at' r10 r17).2.2.1),((at' r10 r17).2.2.2.1),((at' r10 r17).2.2.2.2.1),((at' r10 r17).2.2.2.2.2))then(some (false))else(Option.bind (m_law38_known fuel) fun r26=>(if r26=true then(Option.bind (m_reset_Text fuel) fun r30=>(Option.bind (m_ref38_Text fuel) fun r33=>(if(bEq r30 r33)=true then(law38_ResetText_k2  ((bEq r4.1 (ByteArray.mk #[114,101,115,101,116]))))else(law38_ResetText_k2  (false)))))else(law38_ResetText_k2  (false))))))))
def m_law38_ResetText (fuel:Nat) (p0:Int):Option (Bool):=
 Option.bind (m_reset_Text fuel) fun r1=>(Option.bind (m_program_Parse fuel r1) fun r4=>(Option.bind (m_ref38_Vars fuel) fun r10=>(if r4.2.2.2≠(0:Int)then(law38_ResetText_k1 fuel p0 r4 r10 (true))else(if r4.2.2.1≠(0:Int)then(law38_ResetText_k1 fuel p0 r4 r10 (true))else(law38_ResetText_k1 fuel p0 r4 r10 (decide ((List.length r4.2.1:Int)≠(List.length r10:Int))))))))
theorem t_law38_ResetText (fuel:Nat) {p0:Int} (r:Bool) (h:m_law38_ResetText fuel p0=some r):
  Meets Tryz.prog 3 #[Value.int .i64 (p0)] [Gb 0 (cellsOf EU8 tab0)] (fun x:Unit=>Value.bool (r)) (fun x l=>l) (fun _ l=>l):=by
 refine Meets.of (vs:=[Value.int .i64 (p0)]) Tryz.func3 rfl Tryz.ntmps3 rfl fun c=> ?_
 unfold m_law38_ResetText at h
 refine J.seq<|J.region<|J.quiet (Y.assign rfl) rfl<|J.done<|J.thenN<|J.seq<|J.region ?_
 have h:=bnd h;obtain⟨r1,hr2,h⟩:=h
 refine J.loud (Loud.callL body6 (t_reset_Text fuel  r1 hr2) rfl .nil (fun _ _=>rfl)) rfl fun x3=> ?_
 have h:=bnd h;obtain⟨r4,hr5,h⟩:=h
 refine J.loud (Loud.call body5 (t_program_Parse fuel r4 hr5) rfl (SubL.cons (List.mem_of_getElem? (i:=0) rfl) (SubL.nil)) (fun _ _=>rfl) (fun _ _=>rfl)) rfl fun x6=>J.quiet (Y.move rfl) rfl<|J.quiet (Y.extract rfl rfl) rfl<|J.quiet (Y.extract rfl rfl) rfl<|J.quiet (Y.extract rfl rfl) rfl<|J.loud (Loud.alloc (cs:=[Value.string (ByteArray.mk #[]),Value.slice none 0 0,Value.slice none 0 0]) rfl rfl) rfl fun b7=>J.know (Know.one ((Lent.fact 0 rfl))) fun ho8=>J.know (Know.onef 1 rfl) fun ho9=>J.storeAll 0 (vs:=[Value.string (r4.1),x6.1,x6.2]) rfl rfl (all1 rfl (all1 ho8 (all1 ho9 rfl))) rfl rfl rfl<|J.quiet (Y.assign rfl) rfl<|J.quiet (Y.assign rfl) rfl<|J.done<|J.thenN<|J.seq<|J.region ?_
 have h:=bnd h;obtain⟨r10,hr11,h⟩:=h
 refine J.loud (Loud.callL body7 (t_ref38_Vars fuel  r10 hr11) rfl .nil (fun _ _=>rfl)) rfl fun x12=>J.quiet (Y.assign rfl) rfl<|J.done<|J.thenN<|J.seq<|J.seq<|J.midI (A:=Bool) (B:=Unit) (fun a14=>law38_ResetText_k1 fuel p0 r4 r10 a14=some r) (fun a14 b15=>[(0,Value.int .i64 (p0)),(3,Value.pointer (some ⟨b7,0,none⟩)),(6,x12),(27,Value.bool (a14))]) (fun a14 b15=>[Ar EStI64I64I64I64I64p x12 r10,Blk b7 [Value.string (r4.1),x6.1,x6.2] 25]) (fun a14 b15=>[Sl RStI64I64I64I64I64p x6.1 r4.2.1,Onef x6.2,Gb 0 (cellsOf EU8 tab0)]) ?_ ?_
 ·refine J.region<|J.quiet (Y.move rfl) rfl<|J.quiet (Y.neq rfl rfl) rfl<|J.quiet (Y.move rfl) rfl ?_
  refine J.guardD (by exact rfl) (by exact rfl) (fun hp37=> ?_) (fun hp37=> ?_)
  ·have h:=ifP hp37 h
   refine J.guardN rfl rfl rfl<|J.guardN rfl rfl rfl<|J.quiet (Y.pickT rfl rfl) rfl<|J.quiet (Y.move rfl) rfl<|J.guardN rfl rfl rfl<|J.guardN rfl rfl rfl<|J.guardN rfl rfl rfl<|J.guardN rfl rfl rfl<|J.guardN rfl rfl rfl<|J.guardN rfl rfl rfl<|J.quiet (Y.pickT rfl rfl) rfl<|J.done<|J.thenN ?_
   exact J.meetI (true) (()) h SF (SubM.refl _) (LentAll.refl _ _)
  ·have h:=ifN hp37 h
   refine J.guardY rfl (Y.move rfl) rfl<|J.guardY rfl (Y.neq rfl rfl) rfl<|J.quiet (Y.pickF rfl rfl) rfl<|J.quiet (Y.move rfl) rfl ?_
   refine J.guardD (by exact rfl) (by exact rfl) (fun hp38=> ?_) (fun hp38=> ?_)
   ·have h:=ifP hp38 h
    refine J.guardN rfl rfl rfl<|J.guardN rfl rfl rfl<|J.guardN rfl rfl rfl<|J.guardN rfl rfl rfl<|J.guardN rfl rfl rfl<|J.guardN rfl rfl rfl<|J.quiet (Y.pickT rfl rfl) rfl<|J.done<|J.thenN ?_
    exact J.meetI (true) (()) h SF (SubM.refl _) (LentAll.refl _ _)
   ·have h:=ifN hp38 h
    refine J.guardY rfl (Y.fieldB rfl rfl rfl rfl rfl) rfl<|J.guardY rfl (Y.loadB 1 rfl rfl rfl rfl rfl) rfl<|J.guardY rfl (Y.lenS rfl (Lent.fact 0 rfl) rfl) rfl<|J.guardY rfl (Y.move rfl) rfl<|J.guardY rfl (Y.lenS rfl (Lent.ar (Lent.res 0 rfl) FStI64I64I64I64I64p) rfl) rfl<|J.guardY rfl (Y.neq rfl rfl) rfl<|J.quiet (Y.pickF rfl rfl) rfl<|J.done<|J.thenN ?_
    exact J.meetI (decide ((List.length r4.2.1:Int)≠(List.length r10:Int))) (()) h SF (SubM.refl _) (LentAll.refl _ _)
 ·clear h
  intro a14 b15 h
  unfold law38_ResetText_k1 at h
  refine J.cond (by exact rfl) (fun hp16=> ?_) (fun hp16=> ?_)
  ·have h:=ifP hp16 h
   refine J.seq<|J.region<|J.quiet (Y.assign rfl) rfl<|J.done<|J.thenN<|J.ret<|J.thenR ?_
   obtain rfl:=Option.some.inj h
   exact J.retG1 (()) rfl rfl (RV.tmp rfl) (SubM.nil) LentAll.nil
  ·have h:=ifBN hp16 h
   refine J.skip<|J.thenN<|J.seq<|J.region<|J.quiet (Y.move rfl) rfl<|J.quiet (Y.move rfl) rfl<|J.quiet (Y.lenS rfl (Lent.ar (Lent.res 0 rfl) FStI64I64I64I64I64p) rfl) rfl ?_
   have h:=bnd h;obtain⟨r17,hr18,h⟩:=h
   refine J.loud (Loud.callL body8 (t_world_Within fuel  r17 hr18) rfl .nil (fun _ _=>rfl)) rfl fun x19=>J.quiet (Y.assign rfl) rfl<|J.done<|J.thenN<|J.seq<|J.seq ?_
   refine JR.start [0,1,0,7,15,0,0,96,224,511] 9 mixedOrders (by decide +kernel) ?_
   refine JR.open (by exact rfl) ?_
   refine JR.qt rfl (SubM.nil) (SubL.nil) (Y.fieldB rfl rfl rfl rfl rfl) HistOk.z<|JR.qt rfl (SubM.cons 1 rfl (SubM.nil)) (SubL.nil) (Y.loadB 0 rfl rfl rfl rfl rfl) HistOk.z<|JR.qt rfl (SubM.nil) (SubL.nil) (Y.move rfl) HistOk.z ?_
   have h:=ck_some h;obtain⟨hc20,h⟩:=h
   refine JR.qt rfl (SubM.nil) (SubL.cons (List.mem_of_getElem? (i:=0) rfl) (SubL.nil)) (Y.indexS rfl rfl (Lent.fact 0 rfl) rfl rfl hc20) HistOk.z<|JR.qt rfl (SubM.nil) (SubL.cons (List.mem_of_getElem? (i:=0) rfl) (SubL.nil)) (Y.loadAggS (cs:=[Value.string ((at' r4.2.1 r17).1),Value.int .i64 ((at' r4.2.1 r17).2.1),Value.int .i64 ((at' r4.2.1 r17).2.2.1),Value.int .i64 ((at' r4.2.1 r17).2.2.2.1),Value.int .i64 ((at' r4.2.1 r17).2.2.2.2.1),Value.int .i64 ((at' r4.2.1 r17).2.2.2.2.2)]) rfl (Lent.fact 0 rfl) FStI64I64I64I64I64p rfl rfl rfl rfl hc20) HistOk.z<|JR.qt rfl (SubM.nil) (SubL.nil) (Y.move rfl) HistOk.z<|JR.qt rfl (SubM.nil) (SubL.nil) (Y.move rfl) HistOk.z ?_
   have h:=ck_some h;obtain⟨hc21,h⟩:=h
   refine JR.qt rfl (SubM.cons 0 rfl (SubM.nil)) (SubL.nil) (Y.indexS rfl rfl (Lent.ar (Lent.res 0 rfl) FStI64I64I64I64I64p) rfl rfl hc21) HistOk.z<|JR.qt rfl (SubM.cons 0 rfl (SubM.nil)) (SubL.nil) (Y.loadAggS (cs:=[Value.string ((at' r10 r17).1),Value.int .i64 ((at' r10 r17).2.1),Value.int .i64 ((at' r10 r17).2.2.1),Value.int .i64 ((at' r10 r17).2.2.2.1),Value.int .i64 ((at' r10 r17).2.2.2.2.1),Value.int .i64 ((at' r10 r17).2.2.2.2.2)]) rfl (Lent.ar (Lent.res 0 rfl) FStI64I64I64I64I64p) FStI64I64I64I64I64p rfl rfl rfl rfl hc21) HistOk.z<|JR.tailD 9 rfl rfl<|J.quiet (Y.eqAN rfl rfl (eq_T33N (((at' r4.2.1 r17).1),((at' r4.2.1 r17).2.1),((at' r4.2.1 r17).2.2.1),((at' r4.2.1 r17).2.2.2.1),((at' r4.2.1 r17).2.2.2.2.1),((at' r4.2.1 r17).2.2.2.2.2)) (((at' r10 r17).1),((at' r10 r17).2.1),((at' r10 r17).2.2.1),((at' r10 r17).2.2.2.1),((at' r10 r17).2.2.2.2.1),((at' r10 r17).2.2.2.2.2)) _ _)) rfl<|J.done<|J.thenN ?_
   refine J.condD (by exact rfl) (fun hp22=> ?_) (fun hp22=> ?_)
   ·have h:=ifP hp22 h
    refine J.seq<|J.region<|J.quiet (Y.assign rfl) rfl<|J.done<|J.thenN<|J.ret<|J.thenR ?_
    obtain rfl:=Option.some.inj h
    exact J.retG1 (()) rfl rfl (RV.tmp rfl) (SubM.nil) LentAll.nil
   ·have h:=ifN hp22 h
    refine J.skip<|J.thenN<|J.seq<|J.midI (A:=Bool) (B:=Unit) (fun a24=>law38_ResetText_k2  a24=some r) (fun a24 b25=>[(2,Value.bool (a24))]) (fun a24 b25=>[]) (fun a24 b25=>[Sl RStI64I64I64I64I64p x6.1 r4.2.1,Onef x6.2,Gb 0 (cellsOf EU8 tab0)]) ?_ ?_
    ·refine J.region ?_
     have h:=bnd h;obtain⟨r26,hr27,h⟩:=h
     refine J.loud (Loud.callL body9 (t_law38_known fuel  r26 hr27) rfl (LentAll.cons (Lent.fact 2 rfl) .nil) (fun _ _=>rfl)) rfl fun x28=>J.quiet (Y.move rfl) rfl ?_
     refine J.guard (by exact rfl) (by exact rfl) (fun hp29=> ?_) (fun hp29=> ?_)
     ·have h:=ifP hp29 h
      have h:=bnd h;obtain⟨r30,hr31,h⟩:=h
      refine J.loudG rfl (Loud.callL body6 (t_reset_Text fuel  r30 hr31) rfl .nil (fun _ _=>rfl)) rfl fun x32=> ?_
      have h:=bnd h;obtain⟨r33,hr34,h⟩:=h
      refine J.loudG rfl (Loud.callL body10 (t_ref38_Text fuel  r33 hr34) rfl .nil (fun _ _=>rfl)) rfl fun x35=>J.guardY rfl (Y.eqlS rfl rfl) rfl<|J.quiet (Y.pickT rfl rfl) rfl<|J.quiet (Y.move rfl) rfl ?_
      refine J.guard (by exact rfl) (by exact rfl) (fun hp36=> ?_) (fun hp36=> ?_)
      ·have h:=ifP hp36 h
       refine J.guardY rfl (Y.fieldB rfl rfl rfl rfl rfl) rfl<|J.guardY rfl (Y.loadB 1 rfl rfl rfl rfl rfl) rfl<|J.guardY rfl (Y.eqlS rfl rfl) rfl<|J.quiet (Y.pickT rfl rfl) rfl<|J.quiet (Y.assign rfl) rfl<|J.done<|J.thenN ?_
       exact J.meetI ((bEq r4.1 (ByteArray.mk #[114,101,115,101,116]))) (()) h SF (SubM.nil) (LentAll.refl _ _)
      ·have h:=ifBN hp36 h
       refine J.guardN rfl rfl rfl<|J.guardN rfl rfl rfl<|J.guardN rfl rfl rfl<|J.quiet (Y.pickF rfl rfl) rfl<|J.quiet (Y.assign rfl) rfl<|J.done<|J.thenN ?_
       exact J.meetI (false) (()) h SF (SubM.nil) (LentAll.refl _ _)
     ·have h:=ifBN hp29 h
      refine J.guardN rfl rfl rfl<|J.guardN rfl rfl rfl<|J.guardN rfl rfl rfl<|J.quiet (Y.pickF rfl rfl) rfl<|J.quiet (Y.move rfl) rfl<|J.guardN rfl rfl rfl<|J.guardN rfl rfl rfl<|J.guardN rfl rfl rfl<|J.quiet (Y.pickF rfl rfl) rfl<|J.quiet (Y.assign rfl) rfl<|J.done<|J.thenN ?_
      exact J.meetI (false) (()) h SF (SubM.nil) (LentAll.refl _ _)
    ·clear h
     intro a24 b25 h
     unfold law38_ResetText_k2 at h
     refine J.ret ?_
     obtain rfl:=Option.some.inj h
     exact J.retG1 (()) rfl rfl (RV.tmp rfl) (SubM.refl _) LentAll.nil
end Go.Proofs.YtdbcpliafeoghaaGreatDoor
end
section
namespace Go.Proofs.YtdbcpliafeoghaaGreatDoor
open Go Go.Sx
theorem within6 (v:Int):∃r,m_world_Within 1000 v 6=some r∧0<=r∧r<6:=by
 unfold m_world_Within world_Within_k1
 rw[if_neg (by omega),ckT (by omega)]
 have hm:=Int.tmod_eq_emod (a:=v) (b:=6)
 by_cases h:Int.tmod v 6<0
 ·rw[if_pos h,wr (by split at hm<;>omega) (by omega)]
  exact⟨_,rfl,by split at hm<;>omega,by omega⟩
 ·rw[if_neg h]
  exact⟨_,rfl,by omega,by split at hm<;>omega⟩
set_option maxRecDepth 100000 in
theorem resetText_pure (p0:Int):m_law38_ResetText 1000 p0=some true:=by
 obtain⟨q,h1,h2,h3⟩:=within6 p0
 have hk:m_law38_known 1000=some true:=rfl
 have e1:m_reset_Text 1000=some ptext:=rfl
 obtain⟨nm,e2,e6⟩:∃nm,m_program_Parse 1000 ptext=some (nm,pvars,0,0)∧bEq nm (ByteArray.mk #[114,101,115,101,116])=true:=⟨_,if_pos rfl,by kernel_rfl⟩
 have e3:m_ref38_Vars 1000=some pvars:=rfl
 have e4:m_ref38_Text 1000=some ptext:=rfl
 have e5:bEq ptext ptext=true:=by unfold bEq;simp
 have hl:(List.length pvars:Int)=6:=rfl
 unfold m_law38_ResetText law38_ResetText_k1
 rw[e1,bindS rfl,e2,bindS rfl,e3,bindS rfl]
 dsimp only
 rw[if_neg (by simp),if_neg (by simp),if_neg (by simp),hl,h1,bindS rfl,ckT ⟨h2,h3⟩,ckT ⟨h2,h3⟩,if_neg (by simp),hk,bindS rfl,if_pos rfl,e4,bindS rfl,bindS rfl,if_pos e5]
 unfold law38_ResetText_k2
 rw[e6]
end Go.Proofs.YtdbcpliafeoghaaGreatDoor
end
section
set_option maxRecDepth 100000
namespace Go.Sx
open Go.RowKit Go.ChangeShapes Go.WideShapes Go.ChangeAt Go.Proofs Go.Joins
theorem gb_of_laid {P:Program} {W:World} {n:String} {b m t t':Nat} {k:IntKind} {xs:List Int} (h:laidMet P [(n,.agg (xs.map fun x=> .lit (.int k x)))] W) (hg:P.globalNamed n=some b)
  (ht:(P.globals[b]?).map (·.type)=some t) (hu:P.underlying t=some (.array m t')) (hu':P.underlying t'=some (.int k)) (hc:P.cellsOf t'=1) (hcm:P.cellsOf t=m) (hm:0<m):(Gb b (cellsOf (Enc.int k) xs)).p W (fun _=>True):=by
 obtain⟨ps,⟨g,t2,cs,fuel,p,q,e1,e2,e3,e4,e5,e6⟩,hnd,hcell⟩:=h
 rw[hg]at e1;cases e1
 rw[ht]at e2;cases e2
 refine⟨trivial,?_⟩
 obtain⟨ys,ml,_,e7,hl,hyl,hf⟩:=DataW.trod_array hu e4
 simp only[Prod.mk.injEq,DataW.agg.injEq]at e7
 have hlen:xs.length=m:=by rw[<-hyl];simpa using congrArg List.length e7.1
 have hcl:cs.size=m:=by rw[<-hcm,<-hl];simp
 have hcs:cs.toList=cellsOf (Enc.int k) xs:=by
  refine List.ext_getElem? fun i=> ?_
  by_cases hi:i<m
  ·have h1:=hf i hi
   rw[hc,Nat.mul_one]at h1
   have hx:xs[i]? = some (xs[i]'(by omega)):=List.getElem?_eq_getElem _
   have h2:=cellsOf_get (Enc.int k) xs i _ hx 0 _ rfl
   rw[show i*(Enc.int k).sz+0=i from Nat.mul_one i]at h2
   rw[h2]
   have hy:ys[i]? = some (ys[i]'(by omega)):=List.getElem?_eq_getElem _
   rw[hy]at h1
   obtain⟨z,hz,hz2,_⟩:=DataW.trod_int hu' h1
   have hc0:cs.toList[i]? = some (.int k z):=by
    have:=congrArg (·[0]?) hz
    simpa [List.getElem?_take,List.getElem?_drop]using this
   rw[hc0]
   have h3:=congrArg (·[i]?) e7.1
   simp only[List.getElem?_map,hx,hy,Option.map_some,Option.some.injEq]at h3
   rw[hz2]at h3
   have h4:xs[i]=z:=by simpa using h3
   rw[h4]
  ·rw[List.getElem?_eq_none (by simp;omega),List.getElem?_eq_none (by rw[cellsOf_length,hlen];show m*1<=i;omega)]
 have hmem:MemPlace.cell b 0∈ps:=by
  rw[e6]
  refine List.mem_append_left _ (List.mem_append_left _ ?_)
  exact List.mem_map.2 ⟨0,by simp;omega,rfl⟩
 obtain⟨⟨c,T,hb⟩,_⟩:=hcell b 0 hmem
 refine⟨T,?_⟩
 have h5:c=cs:=by
  have h6:(W.var? P n)=some c:=by unfold World.var?;rw[hg];simp[hb]
  rw[h6]at e3;exact Option.some.inj e3
 rw[hb,h5,<-hcs]
theorem law_liftedL {H:Type} {enc:TypeId×Value->H} {os:Os} (ld:List (String×DataW Unit)) (hpl:(ld.all fun x=>x.2.handleName?.isNone)=true) (started:os.Started) {f:FuncId} {fn:Func} {s:ChangeSpec} {r:Bool} (hfn:Tryz.prog.funcs[f]? = some fn) (noInit:Tryz.prog.inits.idxOf? f=none)
  (hread:(fn.params.toList.all fun t=>Tryz.prog.readableRec t&&decide (t<Tryz.prog.types.size))=true) (hres:fn.resultTypes = #[4]) (hvars:s.vars=[])
  (hspec:∀ds:List (DataW H),ds.length=fn.params.toList.length->s.fn H ds={results:=[.lit (.bool true)],args:=ds})
  (witness:∃(w:World) (tape:Tape) (i:Input),w.os=os∧(w.forCall tape i).Shaped Tryz.prog∧i.vars=[]∧Input.okWide Tryz.prog (w.forCall tape i) .any w.heap.size f i∧
   ((s.pre enc Tryz.prog fn [] false (w.forCall tape i).memory i.args∧laidMetH Tryz.prog ld (w.forCall tape i).memory)∧sizedMet enc Tryz.prog fn (OpenSpec.ofChange s) false (w.forCall tape i).memory i.args)∧({}:Assume).holds Tryz.prog (lone (Frame.enter Tryz.prog f i.args .normal) [] (w.forCall tape i)))
  (main:∀(W:World) (base:Nat) (args:Array Value) (ds:List (DataW H)) (p:List MemPlace),laidMetH Tryz.prog ld W->(∀(j:Nat) t v,fn.params[j]? = some t->args[j]? = some v->Value.okWide Tryz.prog W .any base t v)->
   DataW.TrodAll enc Tryz.prog W 0 (fun _=>true) true fn.params.toList args.toList ds p->Calls Tryz.prog f args W fun e W'=>e = .returned (.bool true)∧Ext W W'):
  ReturnsInHanded {} Go.Proofs.YtdbcpliafeoghaaGreatDoor.Tryz.pinned.checked os f .any (fun w args=>(s.pre enc Tryz.prog fn [] false w args∧laidMetH Tryz.prog ld w)∧sizedMet enc Tryz.prog fn (OpenSpec.ofChange s) false w args) (s.post enc Tryz.prog fn false r false false):=by
 refine returnsInHanded_of_change_and (C:=Go.Proofs.YtdbcpliafeoghaaGreatDoor.Tryz.pinned.checked) (X:=fun w _=>laidMetH Tryz.prog ld w) (fun _ _ _ hh h=>by rw[MakeChecks.laidMetH_plain _ _ _ hpl]at h ⊢;exact h.of_heap hh) own0 started noInit hfn witness ?_
 intro W base args ds gs before hval hW _ _ hL _
 have hlt:=hW.lt
 have hW':=hW
 obtain⟨p,q,hA,hV,rfl,_,_⟩:=hW
 rw[hvars]at hV
 obtain⟨rfl,rfl⟩:=trodVars_none hV
 refine(main W base args ds p hL hval hA).mono ?_
 rintro e W' ⟨rfl,hb⟩
 refine⟨_,rfl,?_⟩
 have hlen:ds.length=fn.params.toList.length:=by
  have:∀(ts:List TypeId) (vs:List Value) (ds:List (DataW H)) (p:List MemPlace),DataW.TrodAll enc Tryz.prog W 0 (fun _=>true) true ts vs ds p->ds.length=ts.length:=by
   intro ts
   induction ts with
   |nil=>intro vs ds p h;cases vs<;>cases ds<;>first|rfl|exact h.elim
   | cons t ts ih =>
    intro vs ds p h
    cases vs with
    |nil=>exact h.elim
    |cons v vs=>
     cases ds with
     |nil=>exact h.elim
     |cons d ds=>obtain⟨_,_,_,h2,_⟩:=h;simp[ih vs ds _ h2]
  exact this _ _ _ _ hA
 have hs:s.fn H (ds++[])={results:=[.lit (.bool true)],args:=ds}:=by rw[List.append_nil];exact hspec ds hlen
 refine⟨ds,[],p++[],[],p,[],hW',?_,?_,?_,hb.frame _,fun h=>by cases h⟩
 ·rw[hs,hres]
  exact trodAll_mk1 (shut_bool Tryz.underlying4 true)
 ·rw[hs]
  exact trodAll_below laid0 hb _ _ _ _ hread hA (fun x hx=>hlt x (List.mem_append_left _ hx))
 ·rw[hs,hvars];exact rfl
theorem laidPlain {P:Program} {n:String} {k:IntKind} {xs:List Int} {W:World} (h:laidMetH P [(n,.agg (xs.map fun x=> .lit (.int k x)))] W):laidMet P [(n,.agg (xs.map fun x=> .lit (.int k x)))] W:=by
 rw[MakeChecks.laidMetH_plain _ _ _ (by rfl)]at h;exact h
end Go.Sx
end
