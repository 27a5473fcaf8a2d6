/- Models and proofs. Conditions: none. -/
import Derived.Test.YtjlbcgddhnjcjaaGreatDoorZCMe8
import Derived.Test.YtjlbcgddhnjcjaaGreatDoorZCMe1
import Derived.OpenShut
import Derived.Test.YtjlbcgddhnjcjaaGreatDoorZCMe2
import Derived.LaidLaws
import Derived.LaidHandle
import Derived.Lay
import Derived.MakeChecks
set_option linter.unusedVariables false
set_option linter.unusedSimpArgs false
set_option maxHeartbeats 4000000
set_option maxRecDepth 20000
section
namespace Go.Proofs.YtjlbcgddhnjcjaaGreatDoor
open Go Go.Sx
theorem Qx {ch:mC} (hch:∀t∈ch,t<4294967296) (hl:ch.length<=900) {n:Nat} (hn:n<=24) (g:GR) (r38 e0 x1 x2 x3 x4 x5:Int) (ens:aL) (c:aY):
  bE (cA 1000 g r38 (e0,x1,x2,x3,x4,x5,Be ch,ens,c)) 1000 ((0:Int),(List.replicate (Int.toNat (n:Int)) (0:Int)))=e_ 1000 g r38 (e0,x1,x2,x3,x4,x5,Be ch,ens,c) ((List.range n).map fun v=>((nX ch v:Nat):Int)):=by
 have hil:(Be ch).length=ch.length:=by simp[Be]
 let F:Nat->Nat->Int:=fun k v=>((nX (ch.take k) v:Nat):Int)
 let Q:Nat->aL:=fun k=>(List.range n).map (F k)
 have hle:∀k v,nX (ch.take k) v<=900:=fun k v=>Nat.le_trans List.countP_le_length (by simp;omega)
 rw[show List.replicate (Int.toNat (n:Int)) (0:Int)=Q 0 by
  refine List.ext_getElem (by simp[Q]) fun i h1 h2=> ?_
  simp[Q,F,nX]]
 have:=dJ (step:=cA 1000 g r38 (e0,x1,x2,x3,x4,x5,Be ch,ens,c)) (K:=e_ 1000 g r38 (e0,x1,x2,x3,x4,x5,Be ch,ens,c) (Q ch.length)) ch.length (fun k=>((k:Int),Q k)) (fun k ag hk=>by
  unfold cA
  dsimp only
  rw[if_pos (by omega)]
  have ht:at' (Be ch) (k:Int)=((ch[k]:Nat):Int):=by rw[kC (by omega)];simp[Be]
  have ht32:=hch ch[k] (List.getElem_mem hk)
  have htk:ch.take (k+1)=ch.take k++[ch[k]]:=by rw[Aj hk,kC hk]
  let G:Nat->aL:=fun j=>(List.range j).map (F (k+1))++(List.range' j (n - j)).map (F k)
  have hG:∀j,j<=n->(G j).length=n:=fun j hj=>by simp[G];omega
  have hGj:∀j,j<n->at' (G j) (j:Int)=F k j:=fun j hj=>by
   rw[kC (by rw[hG j (by omega)];exact hj)];simp[G]
  have hGs:∀j,j<n->(G j).set j (F (k+1) j)=G (j+1):=fun j hj=>by
   show((List.range j).map (F (k+1))++(List.range' j (n - j)).map (F k)).set j (F (k+1) j)=(List.range (j+1)).map (F (k+1))++(List.range' (j+1) (n - (j+1))).map (F k)
   rw[List.set_append_right _ _ (by simp),List.length_map,List.length_range,Nat.sub_self,show n - j=(n - (j+1))+1 by omega,List.range'_succ,List.map_cons,List.set_cons_zero,List.range_succ,List.map_append,List.map_singleton,List.append_assoc]
   rfl
  rw[show Q k=G 0 by simp[Q,G,List.range_eq_range']]
  refine Eq.trans (dJ (step:=dX 1000 (e0,x1,x2,x3,x4,x5,Be ch,ens,c) ((k:Int),G 0) ag) (K:=ag (((k+1:Nat):Int),Q (k+1))) n (fun j=>((j:Int),G j)) (fun j ag2 hj=> ?_) (fun ag2=> ?_) 1000 (by omega)) rfl
  ·have hs:=EI (ch.take k) ch[k] j
   rw[<-htk]at hs
   have:=hle k j
   have hGl:=hG j (by omega)
   unfold dX fD
   dsimp only
   rw[if_pos (by omega),cN (by omega),ht,bB (JI 1000 ht32 (by omega)),eB (by omega)]
   by_cases hb:ch[k].testBit j=true
   ·rw[if_pos hb,cN (by omega),cN (by omega),hGj j hj,Int.toNat_natCast,eB (by omega)]
    rw[if_pos hb]at hs
    have:(((nX (ch.take k) j+1:Nat)):Int)=F (k+1) j:=by simp only[F];rw[hs]
    rw[this,hGs j hj]
   ·rw[if_neg hb]
    rw[if_neg hb]at hs
    have e:F (k+1) j=at' (G j) (j:Int):=by rw[hGj j hj];simp only[F];rw[hs];rfl
    rw[<-hGs j hj,e,Mg (G j) (by omega)]
  ·have hGl:=hG n (by omega)
   unfold dX gX
   dsimp only
   rw[if_neg (by omega),eB (by omega)]
   simp[G,Q]) (fun ag=>by
  unfold cA
  dsimp only
  rw[if_neg (by omega)]) 1000 (by omega)
 refine Eq.trans this ?_
 simp[Q,F]
theorem aay:∀x,x<jL.length->Bp (at' jL (x:Int)) ∧ -100000<=(at' jL (x:Int)).2.2.1∧(at' jL (x:Int)).2.2.1<=(at' jL (x:Int)).2.2.2.1:=by
 intro x hx
 refine⟨Pr x hx,?_⟩
 obtain rfl:x=0:=by simp[jL]at hx;exact hx
 exact⟨by decide,by decide⟩
theorem Ie (x:MV) (raw:aL) (p2:Int) (vals wishes:aL) (h0:0<=p2) (h1:p2<4294967296):lN 1000 x raw p2 vals wishes=some true:=by
 obtain⟨d,rfl⟩:∃d:Nat,p2=d:=⟨p2.toNat,by omega⟩
 have hd:d<4294967296:=by omega
 obtain⟨g,hg,hVM,hn9⟩:=Xx x 9 (by omega) (by omega)
 have hV:VG g:=hVM.vg
 have h24:=hV.n24
 obtain⟨c00,hc,hc00⟩:=Qd hV jL raw (by decide) aay
 obtain⟨cl,hset,hcl,hmis⟩:=Mh hV hn9 hc00
 obtain⟨c0,hsp,hc0,hkeep⟩:=QK (vars:=jL) h24 rfl hcl hd vals (m:=2) (by omega) (by omega) (fun a v h1 h2 _=>by rw[loM,hiM];omega)
 obtain⟨ws,hws,hwl,hwb⟩:=Jo wishes (n:=60) (by omega)
 have hdif:=Qg (c:=cl) (d:=c0) h24 hcl.len hc0.len (fun v hv=>by rw[hc0.row v hv];decide)
 have hS:∀u,u<g.2.length->((j_ (EK cl c0 g.2.length) 24).testBit u=true↔t_ c0 u≠t_ cl u):=fun u hu=>VH h24 (fun v hv=>hcl.row v hv) (fun v hv=>hc0.row v hv) u hu
 have hS32:=yZ (EK cl c0 g.2.length) (k:=24) (by omega)
 obtain⟨m1,hm1,hreg1,hb1⟩:=Jb (r:=1) hV hS32
 obtain⟨m2,hm2,hreg2,hb2⟩:=Jb (r:=2) hV hS32
 unfold lN
 rw[show mU 1000 (x.1,x.2.1,x.2.2.1,x.2.2.2.1,x.2.2.2.2.1,x.2.2.2.2.2) 9=some g from hg,bB rfl,bB (show jG 1000=some zM from rfl),bB (LU 1000)]
 refine Oh fun z hz=> ?_
 have hz:z.map wN=Da RM:=hz
 rw[bB (show jG 1000=some zM from rfl),YZ,bB rfl,show lP 1000 (g.1,g.2) jL raw=some c00 from hc,bB rfl,bB (show mI 1000 zM (g.1,g.2) c00=_ from hset),if_neg (by simp),bB (show fU 1000 (g.1,g.2) cl=_ from IV hV hcl hmis)]
 unfold gW
 rw[if_neg (by decide),bB (show oF 1000 cl (d:Int) vals 2=_ from hsp),bB hdif,bB (show jT 1000 wishes 60=_ from hws)]
 obtain⟨k,c,ch,cnt,ens,hrun,hI,hsh,hk,hchl,hel,hea,hend,hcR,hne⟩:=Ha (p:=pM z) hV (Xl hV) hz Po (kind:=2) (by omega) (by omega) hc0 (ws:=ws) (by omega) hwb
  (fun k c ch=>UA g (iH g) cl c0 k c ch) (YQ hV hmis hc0)
  (fun k c ch t hk hsh hI hne ht0 hsub hind=>aar hV hmis hI ht0 hsub (hind (by decide)))
 refine(bB (show kS 1000 (pM z) g 2 c0 ws=_ from hrun)).trans ?_
 unfold kQ
 dsimp only
 have hcll:=hcl.len
 rw[if_neg (by decide),cN (by omega),hcll,Qx hI.m.sets (by omega) h24]
 have hen0:vL (bN (pM z) g) RM (iH g) c=0:=by
  rcases hend with e|e
  ·have:=Ks (f:=nX ch) (b:=2) (n:=g.2.length) fun v hv=>hI.m.two hv
   have:=hI.m.sum
   omega
  ·exact e
 have hmisE:Rs g c:=fun v hv=>Je (p:=pM z) fun q=>by
  have:(vL (bN (pM z) g) RM (iH g) c).testBit v=true:=(Cc _ RM _ c v).2 ⟨hv,q,by unfold iH;rw[JD,decide_eq_true hv]⟩
  rw[hen0]at this;simp at this
 unfold e_
 rw[bB (show fL 1000 (g.1,g.2) _ 1=_ from hreg1),bB (show fL 1000 (g.1,g.2) _ 2=_ from hreg2)]
 have hcnt:∀v,v<g.2.length->at' ((List.range g.2.length).map fun v=>((nX ch v:Nat):Int)) (v:Int)=((nX ch v:Nat):Int):=fun v hv=>yA _ hv
 have hll:((List.range g.2.length).map fun v=>((nX ch v:Nat):Int)).length=g.2.length:=by simp
 refine dJ (step:=dW 1000 g _ _ _ _) (K:=some true) g.2.length (fun v=>(v:Int)) (fun v ag hv=> ?_) (fun ag=> ?_) 1000 (by omega)
 ·have htwo:=hI.m.two hv
  have hbit1:=JI 1000 hm1 (show v<32 by omega)
  have hbit2:=JI 1000 hm2 (show v<32 by omega)
  have hone:m1.testBit v=false->nX ch v<=1:=fun h=>by
   have hf:=Nn hV hS hv fun q=>by rw[(hb1 v).2 q]at h;cases h
   by_cases e:t_ cl v=0
   ·rcases hI.fb v hv hf e with⟨a,_⟩|⟨a,_⟩<;>omega
   ·have:=(hI.fa v hv hf e).1;omega
  have hzero:m2.testBit v=false->nX ch v=0:=fun h=>by
   obtain⟨hf,hn⟩:=VR hV hS hv fun q=>by rw[(hb2 v).2 q]at h;cases h
   exact hI.fc v hv hf hn
  unfold dW cL
  rw[if_pos (by omega),cN (by rw[hll];omega),hcnt v hv,if_neg (by omega),cN (by rw[hll];omega),eB (by omega)]
  have last:(ck (0<=(v:Int)∧(v:Int)<(((List.range g.2.length).map fun v=>((nX ch v:Nat):Int)).length:Int)) (if(1:Int)<((nX ch v:Nat):Int)then(Option.bind (mY 1000 (m1:Int) (v:Int)) fun r101=>(if(!r101)=true then(some false)else(ag ((v+1:Nat):Int))))else(if false=true then(some false)else(ag ((v+1:Nat):Int)))))=ag ((v+1:Nat):Int):=by
   rw[cN (by rw[hll];omega)]
   split
   ·rw[bB hbit1]
    cases hb:m1.testBit v with
    |true=>rw[if_neg (by decide)]
    |false=>have:=hone hb;omega
   ·rw[if_neg (by decide)]
  split
  ·rw[bB hbit2]
   cases hb:m2.testBit v with
   |true=>rw[if_neg (by decide)];exact last
   |false=>have:=hzero hb;omega
  ·exact last
 ·unfold dW
  rw[if_neg (by omega)]
  unfold kR fC
  rw[bB (show zI 1000=some true from rfl),if_pos rfl]
  dsimp only
  rw[bB (show fU 1000 (g.1,g.2) c=_ from IV hV hI.m.r hmisE)]
end Go.Proofs.YtjlbcgddhnjcjaaGreatDoor
end
section
namespace Go.Sx
open Go.RowKit Go.ChangeShapes Go.WideShapes Go.ChangeAt Go.Proofs Go.Joins Go.Deep
section
variable {H:Type} {enc:TypeId×Value->H} {P:Program} {w:World} {base:Nat} {spare:Nat->Bool} {held:Bool}
theorem Ib {α:Type} (l:List α) (d:α):l=(List.range l.length).map fun i=>l.getD i d:=by
 apply List.ext_getElem?
 intro i
 by_cases h:i<l.length
 ·simp[h]
 ·simp[h]
theorem TI {r:Reach} {b0:Nat} {t:TypeId} {fs:Array Field} {v:Value} {d:DataW H} {p:List MemPlace} (hs:P.underlying t=some (.struct fs)) (hone:oneCellFields P fs=true) (hC:P.cellsOf t=fs.size)
  (hv:Value.okWide P w r b0 t v) (h:DataW.Trod enc P w base spare held t v d p):
  ∃(V:Nat->Value) (Y:Nat->DataW H×List MemPlace) (n:Nat),v = .agg ((List.range fs.size).map V).toArray∧∀(i:Nat) (f:Field),fs[i]? = some f->DataW.trod enc P w base spare held n f.type [V i]=some (Y i):=by
 obtain⟨cs,rfl,hsz⟩:=okWide_struct hs hv
 obtain⟨fuel,hf⟩:=h
 obtain⟨xs,n,_,_,_,hlen,hg⟩:=DataW.trod_struct hs hf
 refine⟨fun i=>cs.toList.getD i undef,fun i=>xs.getD i (.nil,[]),n,?_,fun i f hi=> ?_⟩
 ·congr 1
  apply Array.toList_inj.1
  show cs.toList=(List.range fs.size).map fun i=>cs.toList.getD i undef
  have h2:fs.size=cs.toList.length:=by rw[<-hC,<-hsz];rfl
  rw[h2]
  exact Ib cs.toList undef
 ·have hlt:i<fs.size:=(Array.getElem?_eq_some_iff.1 hi).1
  obtain⟨o,k⟩:=hone_of hone i f hi
  have g:=hg i f hi
  have hcl:(Value.cells (.agg cs)).toList=cs.toList:=rfl
  have hl:i<cs.toList.length:=by rw[Array.length_toList];omega
  rw[o,k,hcl,take1_drop _ _ undef hl]at g
  rw[g]
  have hx:i<xs.length:=by omega
  simp[hx]
theorem To {k:IntKind} {e:TypeId} (he:P.underlying e=some (.int k)) {n:Nat} {v:Value} {x:DataW H×List MemPlace} (h:DataW.trod enc P w base spare held n e [v]=some x):∃y:Int,v = .int k y:=by
 obtain⟨y,hy,_,_⟩:=DataW.trod_int he h
 exact⟨y,by simpa using hy⟩
theorem IT {e:TypeId} (he:P.underlying e=some .bool) {n:Nat} {v:Value} {x:DataW H×List MemPlace} (h:DataW.trod enc P w base spare held n e [v]=some x):∃y:Bool,v = .bool y:=by
 obtain⟨y,hy,_⟩:=DataW.trod_bool he h
 exact⟨y,by simpa using hy⟩
theorem Ur {n:Int} (h:(Lit.int .u32 n).wf=true):0<=n∧n<4294967296:=by
 simp only[Lit.wf,Bool.and_eq_true,decide_eq_true_eq]at h
 have e1:IntKind.u32.min=0:=by decide
 have e2:IntKind.u32.max=4294967295:=by decide
 omega
end
end Go.Sx
end
section
set_option maxRecDepth 100000
namespace Go.Sx
open Go.RowKit Go.ChangeShapes Go.WideShapes Go.ChangeAt Go.Proofs Go.Joins
theorem Np {P:Program} {W:World} {n:String} {b m t t':Nat} {k:IntKind} {xs:aL} (h:laidMet P [(n,.agg (xs.map fun x=> .lit (.int k x)))] W) (hg:P.globalNamed n=some b)
  (ht:(P.globals[b]?).map (·.type)=some t) (hu:P.underlying t=some (.array m t')) (hu':P.underlying t'=some (.int k)) (hc:P.cellsOf t'=1) (hcm:P.cellsOf t=m) (hm:0<m):(Gb b (cellsOf (cR.int k) xs)).p W (fun _=>True):=by
 obtain⟨ps,⟨g,t2,cs,fuel,p,q,e1,e2,e3,e4,e5,e6⟩,hnd,hcell⟩:=h
 rw[hg]at e1;cases e1
 rw[ht]at e2;cases e2
 refine⟨trivial,?_⟩
 obtain⟨ys,ml,_,e7,hl,hyl,hf⟩:=DataW.trod_array hu e4
 simp only[Prod.mk.injEq,DataW.agg.injEq]at e7
 have hlen:xs.length=m:=by rw[<-hyl];simpa using congrArg List.length e7.1
 have hcl:cs.size=m:=by rw[<-hcm,<-hl];simp
 have hcs:cs.toList=cellsOf (cR.int k) xs:=by
  refine List.ext_getElem? fun i=> ?_
  by_cases hi:i<m
  ·have h1:=hf i hi
   rw[hc,Nat.mul_one]at h1
   have hx:xs[i]? = some (xs[i]'(by omega)):=List.getElem?_eq_getElem _
   have h2:=tS (cR.int k) xs i _ hx 0 _ rfl
   rw[show i*(cR.int k).sz+0=i from Nat.mul_one i]at h2
   rw[h2]
   have hy:ys[i]? = some (ys[i]'(by omega)):=List.getElem?_eq_getElem _
   rw[hy]at h1
   obtain⟨z,hz,hz2,_⟩:=DataW.trod_int hu' h1
   have hc0:cs.toList[i]? = some (.int k z):=by
    have:=congrArg (·[0]?) hz
    simpa [List.getElem?_take,List.getElem?_drop]using this
   rw[hc0]
   have h3:=congrArg (·[i]?) e7.1
   simp only[List.getElem?_map,hx,hy,Option.map_some,Option.some.injEq]at h3
   rw[hz2]at h3
   have h4:xs[i]=z:=by simpa using h3
   rw[h4]
  ·rw[List.getElem?_eq_none (by simp;omega),List.getElem?_eq_none (by rw[dA,hlen];show m*1<=i;omega)]
 have hmem:MemPlace.cell b 0∈ps:=by
  rw[e6]
  refine List.mem_append_left _ (List.mem_append_left _ ?_)
  exact List.mem_map.2 ⟨0,by simp;omega,rfl⟩
 obtain⟨⟨c,T,hb⟩,_⟩:=hcell b 0 hmem
 refine⟨T,?_⟩
 have h5:c=cs:=by
  have h6:(W.var? P n)=some c:=by unfold World.var?;rw[hg];simp[hb]
  rw[h6]at e3;exact Option.some.inj e3
 rw[hb,h5,<-hcs]
theorem Lw {H:Type} {enc:TypeId×Value->H} {os:Os} (ld:List (String×DataW Unit)) (hpl:(ld.all fun x=>x.2.handleName?.isNone)=true) (started:os.Started) {f:FuncId} {fn:Func} {s:ChangeSpec} {r:Bool} (hfn:Tryz.prog.funcs[f]? = some fn) (noInit:Tryz.prog.inits.idxOf? f=none)
  (hread:(fn.params.toList.all fun t=>Tryz.prog.readableRec t&&decide (t<Tryz.prog.types.size))=true) (hres:fn.resultTypes = #[4]) (hvars:s.vars=[])
  (hspec:∀ds:List (DataW H),ds.length=fn.params.toList.length->s.fn H ds={results:=[.lit (.bool true)],args:=ds})
  (witness:∃(w:World) (tape:Tape) (i:Input),w.os=os∧(w.forCall tape i).Shaped Tryz.prog∧i.vars=[]∧Input.okWide Tryz.prog (w.forCall tape i) .any w.heap.size f i∧
   ((s.pre enc Tryz.prog fn [] false (w.forCall tape i).memory i.args∧laidMetH Tryz.prog ld (w.forCall tape i).memory)∧sizedMet enc Tryz.prog fn (OpenSpec.ofChange s) false (w.forCall tape i).memory i.args)∧({}:Assume).holds Tryz.prog (lone (Frame.enter Tryz.prog f i.args .normal) [] (w.forCall tape i)))
  (main:∀(W:World) (base:Nat) (args:Array Value) (ds:List (DataW H)) (p:List MemPlace),laidMetH Tryz.prog ld W->(∀(j:Nat) t v,fn.params[j]? = some t->args[j]? = some v->Value.okWide Tryz.prog W .any base t v)->
   DataW.TrodAll enc Tryz.prog W 0 (fun _=>true) true fn.params.toList args.toList ds p->Calls Tryz.prog f args W fun e W'=>e = .returned (.bool true)∧Ju W W'):
  ReturnsInHanded {} Go.Proofs.YtjlbcgddhnjcjaaGreatDoor.Tryz.pinned.checked os f .any (fun w args=>(s.pre enc Tryz.prog fn [] false w args∧laidMetH Tryz.prog ld w)∧sizedMet enc Tryz.prog fn (OpenSpec.ofChange s) false w args) (s.post enc Tryz.prog fn false r false false):=by
 refine returnsInHanded_of_change_and (C:=Go.Proofs.YtjlbcgddhnjcjaaGreatDoor.Tryz.pinned.checked) (X:=fun w _=>laidMetH Tryz.prog ld w) (fun _ _ _ hh h=>by rw[MakeChecks.laidMetH_plain _ _ _ hpl]at h ⊢;exact h.of_heap hh) adp started noInit hfn witness ?_
 intro W base args ds gs before hval hW _ _ hL _
 have hlt:=hW.lt
 have hW':=hW
 obtain⟨p,q,hA,hV,rfl,_,_⟩:=hW
 rw[hvars]at hV
 obtain⟨rfl,rfl⟩:=trodVars_none hV
 refine(main W base args ds p hL hval hA).mono ?_
 rintro e W' ⟨rfl,hb⟩
 refine⟨_,rfl,?_⟩
 have hlen:ds.length=fn.params.toList.length:=by
  have:∀(ts:List TypeId) (vs:f_) (ds:List (DataW H)) (p:List MemPlace),DataW.TrodAll enc Tryz.prog W 0 (fun _=>true) true ts vs ds p->ds.length=ts.length:=by
   intro ts
   induction ts with
   |nil=>intro vs ds p h;cases vs<;>cases ds<;>first|rfl|exact h.elim
   | cons t ts ih =>
    intro vs ds p h
    cases vs with
    |nil=>exact h.elim
    |cons v vs=>
     cases ds with
     |nil=>exact h.elim
     |cons d ds=>obtain⟨_,_,_,h2,_⟩:=h;simp[ih vs ds _ h2]
  exact this _ _ _ _ hA
 have hs:s.fn H (ds++[])={results:=[.lit (.bool true)],args:=ds}:=by rw[List.append_nil];exact hspec ds hlen
 refine⟨ds,[],p++[],[],p,[],hW',?_,?_,?_,hb.frame _,fun h=>by cases h⟩
 ·rw[hs,hres]
  exact trodAll_mk1 (shut_bool Tryz.underlying4 true)
 ·rw[hs]
  exact CM aag hb _ _ _ _ hread hA (fun x hx=>hlt x (List.mem_append_left _ hx))
 ·rw[hs,hvars];exact rfl
theorem Qs {P:Program} {n:String} {k:IntKind} {xs:aL} {W:World} (h:laidMetH P [(n,.agg (xs.map fun x=> .lit (.int k x)))] W):laidMet P [(n,.agg (xs.map fun x=> .lit (.int k x)))] W:=by
 rw[MakeChecks.laidMetH_plain _ _ _ (by rfl)]at h;exact h
end Go.Sx
end
