/- Models and proofs. Conditions: none. -/
import Derived.Test.YtemmagadjnlajaaGreatDoorZCPr2
set_option linter.unusedVariables false
set_option linter.unusedSimpArgs false
set_option maxHeartbeats 4000000
set_option maxRecDepth 20000
open Go.Proofs.Tryz
variable (U:Nat)
namespace Go.Proofs.YtemmagadjnlajaaGreatDoor
open Go.Sx
def AB (a:V4):V1 V4:=
 some (a)
def Ed (c:cJ) (d:Unit):V1 V4:=
 Option.bind (EW U c) λa=>(if a<=(24:Int)then(Option.bind (Gw U c) λb=>(AB (decide (b<=(2:Int)))))else(AB (false)))
def oU (c:cJ) (e a:Int) (b:(Int)->V1 V4):V1 V4:=
 if a<(c.length:Int)then(ck (0<=a/\a<(c.length:Int)) (Option.bind (AQ U ((((at' c a).1),((at' c a).2))) e) λd=>(if(!d)=true then(some (false))else(b (wI .i64 (a+(1:Int)))))))else(Ed U c (()))
def wO (b:cJ) (c:Int) (a:V4):V1 V4:=
 if a=true then(some (false))else(bG (oU U b c) U (0:Int))
def oQ (a:cJ) (c:Int):V1 V4:=
 if(200:Int)<(a.length:Int)then(wO U a c (true))else(Option.bind (De U a (0:Int)) λb=>(wO U a c (decide (b≠(a.length:Int)))))
theorem Rq:aX prog 22:=call22
theorem Fc {p0:cJ} {d:Int} (b:V0) (r:V4) (h:oQ U p0 d=some r):
  aZ prog 22 #[b,vI (d)] [Sl aS b p0] (λx:Unit=>vB (r)) (λx l=>l) (λ_ l=>l):=by
 refine aZ.of func22 Z ntmps22 Z λc=>Q3 Z<|aI<|aI<|cC (λe=>wO U p0 d e=some r) (λe u=>[(0,b),(1,vI (d)),(16,vB (e))]) (λe u=>[]) ?_ ?_
 .refine aL<|aA Z<|eL (cG Z) Z<|aC (mA Z Z) Z<|aA Z<|mL h Z (λ_ h=>?_) λ_ h=>?_
  .exact aD Z<|aD Z<|aD Z<|aD Z<|aD Z<|bO Z<|aM<|cF (true) () h SF Z
  exact bH Z<|dG h λk t h=>fU Z (zB8 Vq (KB U b k t) Z (gK [0] Z)) Z λD=>bH Z<|aF Z (dO Z (cG Z) Z) Z<|aF Z (xH Z Z) Z<|bT Z<|aM<|cF (decide (k≠(p0.length:Int))) () h SF Z
 intro e u h;refine iA h Z (λ_ h=>?_) λ_ h=>?_
 .refine Q3 Z<|aP<|aG ?_;cases h;exact gM Z
 refine bK<|aI<|cC (λm=>Ed U p0 m=some r) (λm v=>[(0,b)]) (λm v=>[]) ?_ ?_
 .refine Q5 Z<|eL (cG Z) Z<|aA Z<|aM<|aU<|eP (oU U p0 d) (λa g=>[(0,b),(1,vI (d)),(17,b),(18,vI (p0.length:Int)),(19,vI (a))]) (λa g=>[]) (0:Int) () h SF (aW.refl _) ?_;intro z a g h;refine aT<|cX Z<|aM<|aI<|eF h Z (λh=>?_) λh=>?_
  .refine bK<|aI<|aU<|aT<|eX h λi h=>aC (a_ Z Z (cG Z) Z Z i) Z<|aC (eO (cs:=[vI ((at' p0 a).1),vI ((at' p0 a).2)]) Z (cG Z) dL Z Z Z Z i) Z<|aK (aO.alloc (cs:=SG) Z Z) Z λy=>cO 0 (vs:=[vI ((at' p0 a).1),vI ((at' p0 a).2)]) Z Z Z Z Z Z<|aM<|aT<|fQ 0 Z<|aA Z<|dG h λo s h=>aK (zB8 agq (Nl U o s) Z .nil) Z λC=>aC (fF Z) Z<|aM<|iA h Z (λ_ h=>?_) λ_ h=>?_
   .refine Q3 Z<|aP<|bB<|aG<|aG<|bB<|aG ?_;cases h;exact mK Z
   exact cZ<|jZ<|aL<|cP Z<|aA Z<|aM<|fI (wI .i64 (a+(1:Int))) () h SF .nil (aE.refl _ _)
  exact fK<|cF () (()) h SF Z
 intro m v h;refine aI<|cC (λf=>AB f=some r) (λf w=>[(4,vB (f))]) (λf w=>[]) ?_ ?_
 .refine aL<|aA Z<|dG h λn p h=>aK (zB8 agr (Sw U b n p) Z (gK [0] Z)) Z λA=>aC (nH Z Z) Z<|aA Z<|mL h Z (λ_ h=>?_) λ_ h=>?_
  .exact bH Z<|dG h λj q h=>fU Z (zB8 ags (Uu U b j q) Z (gK [0] Z)) Z λB=>aF Z (nH Z Z) Z<|bO Z<|Q4 Z<|cF (decide (j<=(2:Int))) () h SF Z
  exact aD Z<|aD Z<|aD Z<|bT Z<|Q4 Z<|cF (false) () h SF Z
 intro f w h;unfold AB at h;refine aP ?_;cases h;exact gM Z
end Go.Proofs.YtemmagadjnlajaaGreatDoor
namespace Go.Proofs.YtemmagadjnlajaaGreatDoor
open Go Go.Sx
abbrev OT:=V6 (Nat×V4)
def MV (K:OT):bN:=(K.map λz=>(z.1:Int)).reverse
def Lb (K:OT):V6 V4:=(K.map λz=>z.2).reverse
def Iz (K:OT):Nat:=(K.filter λz=>z.2).length
def El:OT->OT
 | []=>[]
 |(n,b)::K=>if n=1 then El K else(n - 1,b)::K
theorem KY (K:OT):(MV K).length=K.length:=by simp[MV]
theorem XG (K:OT):(Lb K).length=K.length:=by simp[Lb]
theorem FB (n:Nat) (b:V4) (K:OT):MV ((n,b)::K)=MV K++[(n:Int)]:=by simp[MV]
theorem Ho (n:Nat) (b:V4) (K:OT):Lb ((n,b)::K)=Lb K++[b]:=by simp[Lb]
theorem Md (n:Nat) (b:V4) (K:OT):Iz ((n,b)::K)=Iz K+(if b then 1 else 0):=by
 unfold Iz;cases b<;>simp[List.filter_cons]
theorem abI {a:Type} (l:V6 a) (x y:a):(l++[x]).set l.length y=l++[y]:=by rw[List.set_append_right _ _ (zAf _)];simp
theorem Rj (l:bN) (m k:Int) (a:k=(l.length:Int)):at' (l++[m]) k=m:=by rw[a];exact h_ l [] m _ Z
section
variable (a:Int×Int×V6 Int×V6 V4×Int) (ag:(Int×Int×V6 Int×V6 V4×Int)->V1 (Int×Int)) (r d:Int) (ag':(V6 Int×V6 V4)->V1 (Int×Int))
theorem ahZ (b:V6 V4):fM a ag r d ([],b) ag'=lB a ag ((max a.1 ((a.2.2.1++[r]).length:Int)),max a.2.1 d,[],b):=by
 unfold fM sC;dsimp only;rw[if_neg V8,if_neg V8]
theorem XO {m:Int} (f:m≠0) (b:V6 Int) (c:V6 V4) (g:b.length<950):fM a ag r d (b++[m],c) ag'=lB a ag ((max a.1 ((a.2.2.1++[r]).length:Int)),max a.2.1 d,b++[m],c):=by
 unfold fM sC;dsimp only;have e:((b++[m]).length:Int)=(b.length:Int)+1:=V8
 rw[e,Q8,Q7,Q6,Rj b m _ V7,if_neg (by simpa using f)]
theorem abF (c:V6 Int) (f:V6 V4) (b:V4) (n:c.length<950) (g:c.length=f.length):fM a ag r d (c++[0],f++[b]) ag'=if 0<c.length then ag' (c.set (c.length - 1) (wI .i64 (at' c ((c.length:Int) - 1) - 1)),f)else ag' (c,f):=by
 unfold fM sC;dsimp only;have e:((c++[0]).length:Int)=(c.length:Int)+1:=V8
 have i:((f++[b]).length:Int)=(c.length:Int)+1:=by simp[g]
 have l:wI .i64 ((c.length:Int)+1 - 1)=(c.length:Int):=by rw[Q7];omega
 have j:List.take c.length (c++[(0:Int)])=c:=List.take_left;have k:List.take c.length (f++[b])=f:=by rw[g];exact List.take_left
 rw[e,i,Q8,l,Q6,Rj c 0 _ Z,zA7,j,k];rw[if_pos V8,Q6,Q6];by_cases h:0<c.length
 .have m:wI .i64 ((c.length:Int) - 1)=((c.length - 1:Nat):Int):=by rw[Q7];omega
  rw[Q8,if_pos h,m,Q6,Q6,zA7,show(c.length:Int) - 1=((c.length - 1:Nat):Int) by omega]
 .rw[Q0,if_neg h]
theorem alx:∀(K:OT) (b:V4) (c:Nat),(∀z∈K,1<=z.1/\z.1<1000)->K.length<900->K.length+1<c->
  bG (fM a ag r d) c (MV ((0,b)::K),Lb ((0,b)::K))=lB a ag ((max a.1 ((a.2.2.1++[r]).length:Int)),max a.2.1 d,MV (El K),Lb (El K)):=by
 intro K
 induction K with
 |nil=>
  intro b c i m j;obtain⟨f,rfl⟩:∃f,c=f+1+1:=⟨c - 2,by simp at j;omega⟩
  show fM a ag r d _ (bG (fM a ag r d) (f+1))=_;rw[FB,Ho];rw[show((0:Nat):Int)=0 from rfl,abF a ag r d _ (MV []) (Lb []) b (by simp[MV]) (by simp[MV,Lb]),if_neg (by simp[MV])];exact ahZ a ag r d _ _
 | cons z K ih =>
  have⟨n,g⟩:=z;intro b c i m j;simp only[zA3]at m j;obtain⟨f,rfl⟩:∃f,c=f+1:=⟨c - 1,V7⟩
  have o:=i (n,g) V8;simp only at o;have k:=ih g f (λz p=>i z (by simp[p])) V7 V7;show fM a ag r d _ (bG (fM a ag r d) f)=_;rw[FB 0,Ho 0];rw[show((0:Nat):Int)=0 from rfl,abF a ag r d _ (MV ((n,g)::K)) (Lb ((n,g)::K)) b (by rw[KY];simp;omega) (by rw[KY,XG]),if_pos (by rw[KY];simp)];have h:(MV ((n,g)::K)).set ((MV ((n,g)::K)).length - 1) (wI .i64 (at' (MV ((n,g)::K)) (((MV ((n,g)::K)).length:Int) - 1) - 1))=MV ((n - 1,g)::K):=by
   rw[FB,FB,Rj _ _ _ V8,Q7];simp only[zA0,zA3,List.length_nil,zB3,Nat.add_sub_cancel];rw[abI];congr 2;omega
  rw[h];by_cases l:n=1
  .subst l;have e:Lb ((1,g)::K)=Lb ((0,g)::K):=by rw[Ho,Ho]
   rw[e,show 1 - 1=0 from rfl,k];show _=lB a ag (_,_,MV (if 1=1 then El K else _),Lb (if 1=1 then El K else _));rw[if_pos Z]
  .obtain⟨f,rfl⟩:∃q,f=q+1:=⟨f - 1,V7⟩
   show fM a ag r d _ (bG (fM a ag r d) f)=lB a ag (_,_,MV (if n=1 then El K else(n - 1,g)::K),Lb (if n=1 then El K else(n - 1,g)::K));rw[if_neg l,FB,XO a ag r d _ V7 _ _ (by rw[KY];omega)];rfl
end
theorem alt (F:Nat) (a:Int×Int×V6 Int×V6 V4×Int) (g:(Int×Int×V6 Int×V6 V4×Int)->V1 (Int×Int)) (r:Int) (b:V4) {O:V6 V4} (j:a.2.2.2.1++[b]=O) (q:O.length<1000):∀(l c:V6 V4) (m:Nat) (d:Nat),O=c++l->m<=c.length->l.length<d->
  bG (lC F a g r b) d ((m:Int),((c.length:Nat):Int))=vK F a g r b ((m+(l.filter id).length:Nat):Int):=by
 intro l
 induction l with
 |nil=>
  intro c m d h o k;obtain⟨f,rfl⟩:∃f,d=f+1:=⟨d - 1,V7⟩
  show lC F a g r b _ _=_;unfold lC;dsimp only;rw[j,if_neg (by rw[h];simp)];rfl
 | cons x l ih =>
  intro c m d h o k;simp only[zA3]at k;obtain⟨f,rfl⟩:∃f,d=f+1:=⟨d - 1,V7⟩
  have n:c.length<O.length:=by rw[h];simp
  have e:=λp i=>ih (c++[x]) p f (by rw[h];simp) i V7;show lC F a g r b _ (bG (lC F a g r b) f)=_;generalize bG (lC F a g r b) f=ag' at e ⊢;unfold lC vL;dsimp only;rw[j,Q8,Q6,show at' O ((c.length:Nat):Int)=x by rw[h];exact h_ c l x _ Z,Q7 (x:=((c.length:Nat):Int)+1),Q7 (x:=(m:Int)+1)];cases x with
  |true=>
   have:=e (m+1) Q1;rw[if_pos Z,show(((c.length:Nat):Int)+1)=(((c++[true]).length:Nat):Int) by simp,show(m:Int)+1=((m+1:Nat):Int) by omega,this];congr 2;simp;omega
  |false=>
   have:=e m Q1;rw[if_neg Q2,show(((c.length:Nat):Int)+1)=(((c++[false]).length:Nat):Int) by simp,this];congr 2
theorem agZ (K:OT) (b:V4):((Lb K++[b]).filter id).length=Iz K+(if b then 1 else 0):=by
 unfold Lb Iz;rw[List.filter_append,zA0,<-List.map_reverse,List.filter_map,List.length_map];congr 1
 .rw[show(id∘λz:Nat×V4=>z.2)=(λz=>z.2)from rfl,List.filter_reverse,List.length_reverse]
 .cases b<;>rfl
theorem XJ (F:Nat) {T pre post:V6 TM} {t:TM} {a:Nat} (h:T=pre++t::post) (r:T.length<=450) (p:1000<=F) (i:Fu t.1=some a) (K:OT) (j:∀z∈K,1<=z.1/\z.1<1000) (k:K.length<=450) (c e:Int) (b:Nat):
  bG (eM F T) (b+1) (c,e,MV K,Lb K,((pre.length:Nat):Int))=bG (eM F T) b (max c ((K.length+1:Nat):Int),max e ((Iz K+(if agg t.1 then 1 else 0):Nat):Int),MV (if a=0 then El K else(a,agg t.1)::K),Lb (if a=0 then El K else(a,agg t.1)::K),((pre.length+1:Nat):Int)):=by
 have l:=LW i;have n:pre.length<T.length:=by rw[h];simp
 have d:at' T ((pre.length:Nat):Int)=t:=by rw[h];exact h_ pre post t _ Z
 show eM F T _ (bG (eM F T) b)=_;generalize bG (eM F T) b=ag;unfold eM;dsimp only;have o:=KY K;have s:=XG K;rw[Q8,Q6,d,aY (VX F t.1),mE i,dM Q1,Q6,aY (ajt F t.1),dM Q1];have m:=alt F (c,e,MV K,Lb K,((pre.length:Nat):Int)) ag (a:Int) (agg t.1) (O:=Lb K++[agg t.1]) Z Q1 (Lb K++[agg t.1]) [] 0 F Z V8 Q1;rw[show((0:Int),(0:Int))=(((0:Nat):Int),((([]:V6 V4).length:Nat):Int))from rfl,m,agZ,zB3];unfold vK;dsimp only;have w:wI .i64 (((pre.length:Nat):Int)+1)=((pre.length+1:Nat):Int):=by rw[Q7];omega
 have f:((MV K++[(a:Int)]).length:Int)=((K.length+1:Nat):Int):=by simp[o]
 by_cases g:a=0
 .subst g;rw[if_pos Z,<-FB 0 (agg t.1),<-Ho 0,alx _ _ _ _ K (agg t.1) F j V7 V7];unfold lB;dsimp only;rw[f,w]
 .obtain⟨F,rfl⟩:∃q,F=q+1:=⟨F - 1,V7⟩
  rw[if_neg g,<-Ho a];show fM _ _ _ _ _ _=_;rw[XO _ _ _ _ _ V7 _ _ V7];unfold lB;dsimp only;rw[f,w,<-FB a (agg t.1)]
theorem OS (F:Nat) {T:V6 TM} (i:T.length<=450) (h:1000<=F):∀(x:X),x.ok->∀(pre post:V6 TM) (K:OT) (b c:Int) (a:Nat),T=pre++(x.ts++post)->(∀z∈K,1<=z.1/\z.1<1000)->K.length+x.depth<=450->
  bG (eM F T) (a+x.ts.length) (b,c,MV K,Lb K,((pre.length:Nat):Int))=bG (eM F T) a (max b ((K.length+x.depth:Nat):Int),max c ((Iz K+x.nest:Nat):Int),MV (El K),Lb (El K),((pre.length+x.ts.length:Nat):Int))
 | .lf t,hx,pre,post,K,b,c,a,hT,hK,hd=>by
  have:=XJ F (pre:=pre) (post:=post) (t:=t) (by simpa [X.ts]using hT) i h hx K hK V7 b c a;rw[if_pos Z,Gn hx Q2]at this;simpa [X.ts,X.depth,X.nest]using this
 | .un t x, hx, pre, post, K, b, c, a, hT, hK, hd =>by
  simp only[X.depth]at hd;have e:=XJ F (pre:=pre) (post:=x.ts++post) (t:=t) (by rw[hT];simp[X.ts]) i h hx.1 K hK V7 b c (a+x.ts.length);rw[if_neg (show¬(1:Nat)=0 by decide)]at e;have f:=OS F i h x hx.2 (pre++[t]) post ((1,agg t.1)::K) (max b ((K.length+1:Nat):Int)) (max c ((Iz K+(if agg t.1 then 1 else 0):Nat):Int)) a (by rw[hT];simp[X.ts]) (λz g=>by
   rcases zAi.1 g with rfl|g
   .exact⟨zAf 1,by show 1<1000;omega⟩
   .exact hK z g) Q1
  simp only[X.ts,zA3,X.depth,X.nest];rw[show a+(x.ts.length+1)=a+x.ts.length+1 by omega,e,show((pre.length+1:Nat):Int)=(((pre++[t]).length:Nat):Int) by simp,f];have j:El ((1,agg t.1)::K)=El K:=by simp[El]
  rw[j,Md];congr 2
  .simp;omega
  .congr 1
   .simp;omega
   .simp;omega
 | .bi t x y, hx, pre, post, K, b, c, a, hT, hK, hd =>by
  simp only[X.depth]at hd;have m:=Gn hx.1 Q2;have e:=XJ F (pre:=pre) (post:=x.ts++y.ts++post) (t:=t) (by rw[hT];simp[X.ts]) i h hx.1 K hK V7 b c (a+y.ts.length+x.ts.length);rw[if_neg (show¬(2:Nat)=0 by decide),m]at e;have d:∀n:Nat,1<=n->n<1000->∀z∈(n,false)::K,1<=z.1/\z.1<1000:=λn e f z g=>by
   rcases zAi.1 g with rfl|g
   .exact⟨e,f⟩
   .exact hK z g
  have f:=OS F i h x hx.2.1 (pre++[t]) (y.ts++post) ((2,false)::K) (max b ((K.length+1:Nat):Int)) (max c ((Iz K+(if false=true then 1 else 0):Nat):Int)) (a+y.ts.length) (by rw[hT];simp[X.ts]) (d 2 Q2 Q2) Q1;have k:=OS F i h y hx.2.2 (pre++t::x.ts) post ((1,false)::K) (max (max b ((K.length+1:Nat):Int)) ((((2,false)::K).length+x.depth:Nat):Int)) (max (max c ((Iz K+(if false=true then 1 else 0):Nat):Int)) ((Iz ((2,false)::K)+x.nest:Nat):Int)) a (by rw[hT];simp[X.ts]) (d 1 Q2 Q2) Q1;have l:El ((2,false)::K)=(1,false)::K:=by simp[El]
  have j:El ((1,false)::K)=El K:=by simp[El]
  rw[l]at f;rw[j]at k;simp only[X.ts,zA3,zA0,X.depth,X.nest];rw[show a+(x.ts.length+y.ts.length+1)=a+y.ts.length+x.ts.length+1 by omega,e,show((pre.length+1:Nat):Int)=(((pre++[t]).length:Nat):Int) by simp,f,show(((pre++[t]).length+x.ts.length:Nat):Int)=(((pre++t::x.ts).length:Nat):Int) by simp;omega,k];simp only[Md];congr 2
  .simp;omega
  .congr 1
   .simp;omega
   .simp;omega
 | .tr t x y z, hx, pre, post, K, b, c, a, hT, hK, hd =>by
  simp only[X.depth]at hd;have m:=Gn hx.1 Q2;have e:=XJ F (pre:=pre) (post:=x.ts++y.ts++z.ts++post) (t:=t) (by rw[hT];simp[X.ts]) i h hx.1 K hK V7 b c (a+z.ts.length+y.ts.length+x.ts.length);rw[if_neg (show¬(3:Nat)=0 by decide),m]at e;have d:∀n:Nat,1<=n->n<1000->∀z∈(n,false)::K,1<=z.1/\z.1<1000:=λn e f z g=>by
   rcases zAi.1 g with rfl|g
   .exact⟨e,f⟩
   .exact hK z g
  have f:=OS F i h x hx.2.1 (pre++[t]) (y.ts++z.ts++post) ((3,false)::K) (max b ((K.length+1:Nat):Int)) (max c ((Iz K+(if false=true then 1 else 0):Nat):Int)) (a+z.ts.length+y.ts.length) (by rw[hT];simp[X.ts]) (d 3 Q2 Q2) Q1;have k:=OS F i h y hx.2.2.1 (pre++t::x.ts) (z.ts++post) ((2,false)::K) (max (max b ((K.length+1:Nat):Int)) ((((3,false)::K).length+x.depth:Nat):Int)) (max (max c ((Iz K+(if false=true then 1 else 0):Nat):Int)) ((Iz ((3,false)::K)+x.nest:Nat):Int)) (a+z.ts.length) (by rw[hT];simp[X.ts]) (d 2 Q2 Q2) Q1;have o:=OS F i h z hx.2.2.2 (pre++t::(x.ts++y.ts)) post ((1,false)::K) (max (max (max b ((K.length+1:Nat):Int)) ((((3,false)::K).length+x.depth:Nat):Int)) ((((2,false)::K).length+y.depth:Nat):Int)) (max (max (max c ((Iz K+(if false=true then 1 else 0):Nat):Int)) ((Iz ((3,false)::K)+x.nest:Nat):Int)) ((Iz ((2,false)::K)+y.nest:Nat):Int)) a (by rw[hT];simp[X.ts]) (d 1 Q2 Q2) Q1;have p:El ((3,false)::K)=(2,false)::K:=by simp[El]
  have l:El ((2,false)::K)=(1,false)::K:=by simp[El]
  have j:El ((1,false)::K)=El K:=by simp[El]
  rw[p]at f;rw[l]at k;rw[j]at o;simp only[X.ts,zA3,zA0,X.depth,X.nest];rw[show a+(x.ts.length+(y.ts.length+z.ts.length)+1)=a+z.ts.length+y.ts.length+x.ts.length+1 by omega,e,show((pre.length+1:Nat):Int)=(((pre++[t]).length:Nat):Int) by simp,f,show(((pre++[t]).length+x.ts.length:Nat):Int)=(((pre++t::x.ts).length:Nat):Int) by simp;omega,k,show(((pre++t::x.ts).length+y.ts.length:Nat):Int)=(((pre++t::(x.ts++y.ts)).length:Nat):Int) by simp;omega,o];simp only[Md];congr 2
  .simp;omega
  .congr 1
   .simp;omega
   .simp;omega
theorem rLv (F:Nat) {x:X} (c:x.ok) (b:x.ts.length<=450) (a:1000<=F):tT F x.ts=some ((x.depth:Int),(x.nest:Int)):=by
 have f:=x.depth_le;have:=OS F (T:=x.ts) b a x c [] [] [] 0 0 (F - x.ts.length - 1+1) V8 (λz d=>by cases d) Q1;unfold tT;rw[show F - x.ts.length - 1+1+x.ts.length=F by omega]at this;have e:((0:Int),(0:Int),([]:V6 Int),([]:V6 V4),(0:Int))=(0,0,MV [],Lb [],((([]:V6 TM).length:Nat):Int)):=rfl;rw[e,this];show eM F x.ts _ _=_;unfold eM AV;dsimp only;rw[if_neg V8];congr 2
 .simp
 .simp[Iz]
def XV (a:Int) (e:V6 TM) (x:X):Prop:=e.length<=200/\x.ok/\e=x.ts/\x.depth<=24/\x.nest<=2/\∀t∈e,EL a t=true
theorem ajI (F:Nat) (T:V6 TM) (b:Int):∀(l c:V6 TM) (a:Nat),T=c++l->T.length<=900->l.length<a->
  bG (oU F T b) a ((c.length:Nat):Int)=if l.all (EL b)then Ed F T ()else some false:=by
 intro l
 induction l with
 |nil=>
  intro c a d j i;obtain⟨f,rfl⟩:∃f,a=f+1:=⟨a - 1,V7⟩
  show oU F T b _ _=_;unfold oU;rw[if_neg (by rw[d];simp),if_pos V8]
 | cons t l ih =>
  intro c a d j i;simp only[zA3]at i;obtain⟨f,rfl⟩:∃f,a=f+1:=⟨a - 1,V7⟩
  have k:c.length<T.length:=by rw[d];simp
  have g:at' T ((c.length:Nat):Int)=t:=by rw[d];exact h_ c l t _ Z
  have e:=ih (c++[t]) f (by rw[d];simp) j V7;show oU F T b _ (bG (oU F T b) f)=_;generalize bG (oU F T b) f=ag at e ⊢;unfold oU;rw[Q8,Q6,g,aY (alE F t b),Q7];cases h:EL b t with
  |true=>
   rw[if_neg Q2,show(((c.length:Nat):Int)+1)=(((c++[t]).length:Nat):Int) by simp,e];rw[List.all_cons,h,Bool.true_and]
  |false=>rw[if_pos Q2];simp[h]
theorem aju (F:Nat) (T:V6 TM) (b:Int):∀(l c:V6 TM) (a:Nat),T=c++l->T.length<=900->l.length<a->
  bG (mX F T b) a ((c.length:Nat):Int)=some (l.all (EL b)):=by
 intro l
 induction l with
 |nil=>
  intro c a d j i;obtain⟨f,rfl⟩:∃f,a=f+1:=⟨a - 1,V7⟩
  show mX F T b _ _=_;unfold mX Ck;rw[if_neg (by rw[d];simp)];rfl
 | cons t l ih =>
  intro c a d j i;simp only[zA3]at i;obtain⟨f,rfl⟩:∃f,a=f+1:=⟨a - 1,V7⟩
  have k:c.length<T.length:=by rw[d];simp
  have g:at' T ((c.length:Nat):Int)=t:=by rw[d];exact h_ c l t _ Z
  have e:=ih (c++[t]) f (by rw[d];simp) j V7;show mX F T b _ (bG (mX F T b) f)=_;generalize bG (mX F T b) f=ag at e ⊢;unfold mX;rw[Q8,Q6,g,aY (als F t b),Q7];cases h:EL b t with
  |true=>
   rw[if_neg Q2,show(((c.length:Nat):Int)+1)=(((c++[t]).length:Nat):Int) by simp,e];simp[h]
  |false=>rw[if_pos Q2];simp[h]
theorem afU {x y:X} (c:x.ok) (d:y.ok) (h:x.ts=y.ts) (b:x.ts.length<=450):x.depth=y.depth/\x.nest=y.nest:=by
 have a:=rLv 1000 c b Q2;rw[h,rLv 1000 d (by rw[<-h];exact b) Q2]at a;have:=Option.some.inj a;simp only[Prod.mk.injEq]at this;omega
theorem ajy (F:Nat) (e:V6 TM) (b:e.length<=900) (c:1000<=F):Bw F e=some (decide (0<e.length/\IA e 0=e.length)):=by
 unfold Bw Cm;have a:=ahM F e 0 b V7;rw[show((0:Nat):Int)=0 from rfl]at a;by_cases h:0<e.length
 .rw[Q8,aY a];simp[h]
 .rw[Q0];simp[h]
theorem KF (F:Nat) (e:V6 TM) (a:Int) (l:e.length<=900) (p:1000<=F):∃b,oQ F e a=some b/\qI F e a=some b/\(b=true↔∃x,XV a e x):=by
 by_cases v:200<e.length
 .refine⟨false,?_,?_,?_⟩
  .unfold oQ wO;rw[Q8,if_pos Z]
  .unfold qI pI;rw[Q8,if_pos Z]
  .constructor
   .intro h;cases h
   .rintro⟨x,h,_⟩;omega
 have r:=aic F e 0 l V7;rw[show((0:Nat):Int)=0 from rfl]at r;by_cases g:0<e.length/\IA e 0=e.length
 .have⟨x,n,j⟩:=YD g.2 g.1;have d:x.ts.length<=450:=by rw[<-j];omega
  refine⟨decide (x.depth<=24)&&decide (x.nest<=2)&&e.all (EL a),?_,?_,?_⟩
  .unfold oQ wO;rw[Q0,aY r,if_neg (by simpa using g.2)];rw[show(0:Int)=((([]:V6 TM).length:Nat):Int)from rfl,ajI F e a e [] F Z l V7];unfold Ed AB;have k:=aib F n d V7;have m:=ajM F n d V7;rw[<-j]at k m;rw[aY k];cases e.all (EL a)with
   |false=>simp
   |true=>
    rw[if_pos Z];by_cases c:x.depth<=24
    .rw[Q8,aY m];simp[c];omega
    .rw[Q0];simp[c]
  .unfold qI pI;have i:=rLv F n d p;rw[<-j]at i;have f:=ajy F e l p;rw[zAc g]at f;have k:DC F e=some (x.depth:Int):=by
    unfold DC;rw[aY f,if_neg Q2,aY i]
   have m:ES F e=some (x.nest:Int):=by
    unfold ES;rw[aY f,if_neg Q2,aY i]
   rw[Q0,aY f,if_neg Q2,aY k];by_cases c:x.depth<=24
   .rw[Q0,aY m];by_cases u:x.nest<=2
    .rw[if_neg Q1,show(0:Int)=((([]:V6 TM).length:Nat):Int)from rfl,aju F e a e [] F Z l V7];simp[c,u]
    .rw[if_pos Q1];simp[u]
   .rw[Q8,if_pos Z];simp[c]
  .constructor
   .intro h;simp only[zA5,zAa]at h;exact⟨x,V7,n,j,h.1.1,h.1.2,λt z=>zA2.1 h.2 t z⟩
   .rintro⟨y,_,s,q,k,m,w⟩;have⟨A,B⟩:=afU n s (j.symm.trans q) d;simp only[zA5,zAa];exact⟨⟨V7,V7⟩,zA2.2 w⟩
 .refine⟨false,?_,?_,?_⟩
  .unfold oQ wO;rw[Q0,aY r,if_pos];simp only[zAa];intro h;refine g ⟨?_,h⟩;rcases Nat.eq_zero_or_pos e.length with o|o
   .have:e=[]:=zAl o;subst this;simp[IA,rn]at h
   .exact o
  .unfold qI pI;have f:=ajy F e l p;rw[zA6 g]at f;rw[Q0,aY f,if_pos Q2,if_pos Z]
  .constructor
   .intro h;cases h
   .rintro⟨y,_,s,rfl,_⟩;exact absurd ⟨y.pos,Xj s⟩ g
end Go.Proofs.YtemmagadjnlajaaGreatDoor
namespace Go.Proofs.YtemmagadjnlajaaGreatDoor
open Go.Sx
def pO (a:V4):V1 V4:=
 some (a)
def tW (U:Nat) (a:Int):V1 V4:=
 if a=(1:Int)then(pO (true))else(if a=(2:Int)then(pO (true))else(pO (decide (a=(3:Int)))))
theorem WO:aX prog 146:=call146
theorem Hv {b:Int} (r:V4) (h:tW U b=some r):
  aZ prog 146 #[vI (b)] [] (λx:Unit=>vB (r)) (λx l=>l) (λ_ l=>l):=by
 refine aZ.of func146 Z ntmps146 Z λc=>Q3 Z<|aI<|cC (λa=>pO a=some r) (λa d=>[(2,vB (a))]) (λa d=>[]) ?_ ?_
 .refine aL<|aA Z<|bP Z<|aA Z<|mL h Z (λ_ h=>?_) λ_ h=>?_
  .exact aD Z<|aD Z<|bO Z<|aA Z<|aD Z<|aD Z<|bO Z<|Q4 Z<|cF (true) () h SF Z
  refine bH Z<|aF Z (oV Z Z) Z<|bT Z<|aA Z<|mL h Z (λ_ h=>?_) λ_ h=>?_
  .exact aD Z<|aD Z<|bO Z<|Q4 Z<|cF (true) () h SF Z
  exact bH Z<|aF Z (oV Z Z) Z<|bT Z<|Q4 Z<|cF (decide (b=(3:Int))) () h SF Z
 intro a d h;unfold pO at h;refine aP ?_;cases h;exact gM Z
def CG (a:V4):V1 V4:=
 some (a)
def Gv (U:Nat) (a:Int):V1 V4:=
 if(11:Int)<=a then(CG (decide (a<=(17:Int))))else(CG (false))
theorem adw:aX prog 203:=call203
theorem Ut {b:Int} (r:V4) (h:Gv U b=some r):
  aZ prog 203 #[vI (b)] [] (λx:Unit=>vB (r)) (λx l=>l) (λ_ l=>l):=by
 refine aZ.of func203 Z ntmps203 Z λc=>Q3 Z<|aI<|cC (λa=>CG a=some r) (λa d=>[(2,vB (a))]) (λa d=>[]) ?_ ?_
 .refine aL<|aA Z<|aC (lD Z Z) Z<|aA Z<|mL h Z (λ_ h=>?_) λ_ h=>?_
  .exact bH Z<|aF Z (nH Z Z) Z<|bO Z<|Q4 Z<|cF (decide (b<=(17:Int))) () h SF Z
  exact aD Z<|aD Z<|bT Z<|Q4 Z<|cF (false) () h SF Z
 intro a d h;unfold CG at h;refine aP ?_;cases h;exact gM Z
def rR (c:Hx) (b:dJ) (a:V4):V1 (Int):=
 if a=true then(ck (0<=b.2/\b.2<(c.2.length:Int)) (some (at' c.2 b.2)))else(some (1:Int))
def nZ (b:Hx) (a:dJ) (c:V4):V1 (Int):=
 if c=true then(some (3:Int))else(if a.1=(5:Int)then(rR b a (decide (a.1=(5:Int))))else(rR b a (decide (a.1=(12:Int)))))
def lQ (b:Hx) (a:dJ) (c:V4):V1 (Int):=
 if c=true then(some (2:Int))else(if a.1=(4:Int)then(nZ b a (decide (a.1=(4:Int))))else(if a.1=(11:Int)then(nZ b a (decide (a.1=(11:Int))))else(nZ b a (decide (a.1=(17:Int))))))
def sH (U:Nat) (b:Hx) (a:dJ):V1 (Int):=
 if a.1=(2:Int)then(lQ b a (decide (a.1=(2:Int))))else(if a.1=(3:Int)then(lQ b a (decide (a.1=(3:Int))))else(if a.1=(10:Int)then(lQ b a (decide (a.1=(10:Int))))else(lQ b a (decide (a.1=(15:Int))))))
theorem adx:aX prog 204:=call204
theorem IY {f:Hx} {a:dJ} (o p:V0) (r:Int) (h:sH U f a=some r):
  aZ prog 204 #[Value.agg #[o,p],Value.agg #[vI (a.1),vI (a.2)]] [Sl aS o f.1,Sl cQ p f.2] (λx:Unit=>vI (r)) (λx l=>l) (λ_ l=>l):=by
 refine aZ.of func204 Z ntmps204 Z λc=>aT<|aK (aO.box (cs:=[o,p]) Z Z) Z λm=>let e:=bU m [o,p] 245;aK (aO.box (cs:=[vI (a.1),vI (a.2)]) Z Z) Z λn=>let d:=bU n [vI (a.1),vI (a.2)] 126;Q4 Z<|aI<|aT<|bD Z<|bY 0 Z<|aM<|aU<|aI<|cC (λg=>lQ f a g=some r) (λg q=>[(2,vP m),(3,vP n),(6,vI (a.1)),(7,vB (g))]) (λg q=>[d,e]) ?_ ?_
 .refine aT<|bP Z<|Q4 Z<|eF h Z (λh=>?_) λh=>?_
  .exact bK<|cF (decide (a.1=(2:Int))) () h SF Z
  refine aT<|bP Z<|Q4 Z<|eF h Z (λh=>?_) λh=>?_
  .exact bK<|cF (decide (a.1=(3:Int))) () h SF Z
  refine aT<|bP Z<|Q4 Z<|eF h Z (λh=>?_) λh=>?_
  .exact bK<|cF (decide (a.1=(10:Int))) () h SF Z
  exact aL<|bP Z<|Q4 Z<|cF (decide (a.1=(15:Int))) () h SF Z
 intro g q h;refine iA h Z (λ_ h=>?_) λ_ h=>?_
 .refine Q3 Z<|aP<|bB<|aG ?_;cases h;exact mK Z
 refine aI<|cC (λi=>nZ f a i=some r) (λi s=>[(2,vP m),(3,vP n),(6,vI (a.1)),(12,vB (i))]) (λi s=>[d,e]) ?_ ?_
 .refine aT<|bP Z<|Q4 Z<|eF h Z (λh=>?_) λh=>?_
  .exact bK<|cF (decide (a.1=(4:Int))) () h SF Z
  refine aT<|bP Z<|Q4 Z<|eF h Z (λh=>?_) λh=>?_
  .exact bK<|cF (decide (a.1=(11:Int))) () h SF Z
  exact aL<|bP Z<|Q4 Z<|cF (decide (a.1=(17:Int))) () h SF Z
 intro i s h;refine iA h Z (λ_ h=>?_) λ_ h=>?_
 .refine Q3 Z<|aP<|bB<|aG ?_;cases h;exact mK Z
 refine aI<|cC (λb=>rR f a b=some r) (λb j=>[(2,vP m),(3,vP n),(16,vB (b))]) (λb j=>[d,e]) ?_ ?_
 .refine aT<|bP Z<|Q4 Z<|eF h Z (λh=>?_) λh=>?_
  .exact bK<|cF (decide (a.1=(5:Int))) () h SF Z
  exact aL<|bP Z<|Q4 Z<|cF (decide (a.1=(12:Int))) () h SF Z
 intro b j h;refine iA h Z (λ_ h=>?_) λ_ h=>?_
 .refine aT<|bD Z<|bY 1 Z<|bD Z<|bY 0 Z<|eX h λk h=>aC (a_ Z Z (iZ Z) Z Z k) Z<|aC (eC Z (iZ Z) Z Z Z gC k) Z<|Q4 Z<|aP<|bB<|aG ?_;cases h;exact mK Z
 refine cZ<|jZ<|Q3 Z<|aP ?_;cases h;exact mK Z
def fP (U:Nat) (a:V4) (b:Int):V1 (Int):=
 if a=true then(some (b))else(some (0:Int))
theorem wT:aX prog 215:=call215
theorem iL {a:V4} {b:Int} (r:Int) (h:fP U a b=some r):
  aZ prog 215 #[vB (a),vI (b)] [] (λx:Unit=>vI (r)) (λx l=>l) (λ_ l=>l):=by
 refine aZ.of func215 Z ntmps215 Z λc=>Q3 Z<|aI<|Q5 Z<|aM<|iA h Z (λ_ h=>?_) λ_ h=>?_
 .refine Q5 Z<|Q4 Z<|aP<|aG ?_;cases h;exact gM Z
 refine bK<|Q3 Z<|aP ?_;cases h;exact gM Z
def vZ (a:Int):V1 (Int):=
 some (a)
def wA (a:Int):V1 (Int):=
 some (a)
def wB (a:Int):V1 (Int):=
 some (a)
def uN (a:Int):V1 (Int):=
 some (a)
def uO (a:Int):V1 (Int):=
 some (a)
def wC (a:GG) (b:V4):V1 (Int):=
 if b=true then(if a.1=(2:Int)then(Option.bind (fP U (decide (a.2.1=(2:Int))) (2:Int)) λc=>(uN (c)))else(Option.bind (fP U false (2:Int)) λd=>(uN (d))))else(if a.1=(2:Int)then(Option.bind (fP U (decide (a.2.1=a.2.2)) a.2.1) λe=>(uO (e)))else(Option.bind (fP U false a.2.1) λf=>(uO (f))))
def pW (c:Int) (a:GG) (b:V4):V1 (Int):=
 if b=true then(if a.1=(1:Int)then(Option.bind (fP U (decide (a.2.1=(1:Int))) (2:Int)) λd=>(wB (d)))else(Option.bind (fP U false (2:Int)) λe=>(wB (e))))else(if c=(41:Int)then(wC U a (decide (c=(41:Int))))else(wC U a (decide (c=(42:Int)))))
def v_ (a:Int) (b:GG) (c:V4):V1 (Int):=
 if c=true then(if b.1=b.2.1 then(Option.bind (fP U (decide (b.1≠(0:Int))) (2:Int)) λd=>(wA (d)))else(Option.bind (fP U false (2:Int)) λe=>(wA (e))))else(if a=(37:Int)then(pW U a b (decide (a=(37:Int))))else(if a=(38:Int)then(pW U a b (decide (a=(38:Int))))else(if a=(39:Int)then(pW U a b (decide (a=(39:Int))))else(pW U a b (decide (a=(40:Int)))))))
def nO (a:Int) (b:GG) (c:V4):V1 (Int):=
 if c=true then(if b.1=(1:Int)then(Option.bind (fP U (decide (b.2.1=(1:Int))) (1:Int)) λd=>(vZ (d)))else(Option.bind (fP U false (1:Int)) λe=>(vZ (e))))else(if a=(35:Int)then(v_ U a b (decide (a=(35:Int))))else(v_ U a b (decide (a=(36:Int)))))
def pV (a:Int) (b:GG) (c:V4):V1 (Int):=
 if c=true then(Option.bind (fP U (decide (b.1=(2:Int))) (2:Int)) λd=>(some (d)))else(if a=(22:Int)then(Option.bind (fP U (decide (b.1=(2:Int))) (1:Int)) λe=>(some (e)))else(if a=(23:Int)then(Option.bind (fP U (decide (b.1=(2:Int))) (3:Int)) λf=>(some (f)))else(if a=(30:Int)then(nO U a b (decide (a=(30:Int))))else(if a=(31:Int)then(nO U a b (decide (a=(31:Int))))else(if a=(32:Int)then(nO U a b (decide (a=(32:Int))))else(if a=(33:Int)then(nO U a b (decide (a=(33:Int))))else(nO U a b (decide (a=(34:Int))))))))))
def jW (a:Int) (b:GG) (c:V4):V1 (Int):=
 if c=true then(Option.bind (fP U (decide (b.1=(1:Int))) (1:Int)) λd=>(some (d)))else(if a=(19:Int)then(pV U a b (decide (a=(19:Int))))else(if a=(20:Int)then(pV U a b (decide (a=(20:Int))))else(pV U a b (decide (a=(21:Int))))))
def pA (a:Int) (b:GG):V1 (Int):=
 if a=(18:Int)then(jW U a b (decide (a=(18:Int))))else(if a=(24:Int)then(jW U a b (decide (a=(24:Int))))else(if a=(25:Int)then(jW U a b (decide (a=(25:Int))))else(if a=(26:Int)then(jW U a b (decide (a=(26:Int))))else(if a=(27:Int)then(jW U a b (decide (a=(27:Int))))else(if a=(28:Int)then(jW U a b (decide (a=(28:Int))))else(jW U a b (decide (a=(29:Int)))))))))
theorem ady:aX prog 205:=call205
theorem Pm (U:Nat) {a:Int} {b:GG} (r:Int) (h:pA U a b=some r):
  aZ prog 205 #[vI (a),Value.agg #[vI (b.1),vI (b.2.1),vI (b.2.2)]] [] (λx:Unit=>vI (r)) (λx l=>l) (λ_ l=>l):=by
 refine aZ.of func205 Z ntmps205 Z λc=>?_;refine aT<|aK (aO.box (cs:=[vI (b.1),vI (b.2.1),vI (b.2.2)]) Z Z) Z λb1=>aB Z<|aM<|aI ?_;refine xP [0,1,0,4,0,16,3,79,255] 8 mixedOrders ?_;refine iD Z (jA (i:=0) Z Z Z Z Z (by decide)) ?_;refine iH 0 Z ?_;refine iD Z (jA (i:=1) Z Z Z Z Z (by decide)) ?_;refine iH 0 Z ?_;refine iD Z (jA (i:=2) Z Z Z Z Z (by decide)) ?_;refine iH 0 Z<|iD Z (BE Z)<|iD Z (BE Z)<|bS 8 Z Z<|aB Z<|aM<|aI<|aT<|aA Z<|aM<|aU<|aI<|cC (λq=>jW U a b q=some r) (λq b4=>[(5,vI (b.1)),(6,vI (b.2.1)),(7,vI (b.2.2)),(14,vI (a)),(15,vB (q))]) (λq b4=>[]) ?_ ?_
 .refine aT<|bP Z<|aB Z<|aM ?_;refine eF h Z (λh=>?_) λh=>?_
  .refine bK ?_;exact bQ (decide (a=(18:Int))) () h SF .nil (aE.refl _ _)
  refine aT<|bP Z<|aB Z<|aM ?_;refine eF h Z (λh=>?_) λh=>?_
  .refine bK ?_;exact bQ (decide (a=(24:Int))) () h SF .nil (aE.refl _ _)
  refine aT<|bP Z<|aB Z<|aM ?_;refine eF h Z (λh=>?_) λh=>?_
  .refine bK ?_;exact bQ (decide (a=(25:Int))) () h SF .nil (aE.refl _ _)
  refine aT<|bP Z<|aB Z<|aM ?_;refine eF h Z (λh=>?_) λh=>?_
  .refine bK ?_;exact bQ (decide (a=(26:Int))) () h SF .nil (aE.refl _ _)
  refine aT<|bP Z<|aB Z<|aM ?_;refine eF h Z (λh=>?_) λh=>?_
  .refine bK ?_;exact bQ (decide (a=(27:Int))) () h SF .nil (aE.refl _ _)
  refine aT<|bP Z<|aB Z<|aM ?_;refine eF h Z (λh=>?_) λh=>?_
  .refine bK ?_;exact bQ (decide (a=(28:Int))) () h SF .nil (aE.refl _ _)
  refine aL<|bP Z<|aB Z<|aM ?_;exact bQ (decide (a=(29:Int))) () h SF .nil (aE.refl _ _)
 intro q b4 h;refine iA h Z (λ_ h=>?_) λ_ h=>?_
 .refine aT<|aA Z<|bP Z<|dG h λr6 w7 h=>aK (zB8 wT (iL U r6 w7) Z .nil) Z λx8=>aB Z<|aM<|aP<|bB<|aG ?_;cases h;exact gM Z
 refine aI<|cC (λd=>pV U a b d=some r) (λd s=>[(5,vI (b.1)),(6,vI (b.2.1)),(7,vI (b.2.2)),(14,vI (a)),(26,vB (d))]) (λd s=>[]) ?_ ?_
 .refine aT<|bP Z<|aB Z<|aM ?_;refine eF h Z (λh=>?_) λh=>?_
  .refine bK ?_;exact cF (decide (a=(19:Int))) () h SF Z
  refine aT<|bP Z<|aB Z<|aM ?_;refine eF h Z (λh=>?_) λh=>?_
  .refine bK ?_;exact cF (decide (a=(20:Int))) () h SF Z
  refine aL<|bP Z<|aB Z<|aM ?_;exact cF (decide (a=(21:Int))) () h SF Z
 intro d s h;refine iA h Z (λ_ h=>?_) λ_ h=>?_
 .refine aT<|aA Z<|bP Z<|dG h λN Q h=>aK (zB8 wT (iL U N Q) Z .nil) Z λaf=>aB Z<|aM<|aP<|bB<|aG ?_;cases h;exact gM Z
 refine aT<|bP Z<|aB Z<|aM ?_;refine eF h Z (λh=>?_) λh=>?_
 .refine aT<|aA Z<|bP Z<|dG h λO R h=>aK (zB8 wT (iL U O R) Z .nil) Z λag=>aB Z<|aM<|aP<|bB<|aG ?_;cases h;exact gM Z
 refine aT<|bP Z<|aB Z<|aM ?_;refine eF h Z (λh=>?_) λh=>?_
 .refine aT<|aA Z<|bP Z<|dG h λP S h=>aK (zB8 wT (iL U P S) Z .nil) Z λah=>aB Z<|aM<|aP<|bB<|aG ?_;cases h;exact gM Z
 refine aI<|cC (λe=>nO U a b e=some r) (λe t=>[(5,vI (b.1)),(6,vI (b.2.1)),(7,vI (b.2.2)),(14,vI (a)),(43,vB (e))]) (λe t=>[]) ?_ ?_
 .refine aT<|bP Z<|aB Z<|aM ?_;refine eF h Z (λh=>?_) λh=>?_
  .refine bK ?_;exact cF (decide (a=(30:Int))) () h SF Z
  refine aT<|bP Z<|aB Z<|aM ?_;refine eF h Z (λh=>?_) λh=>?_
  .refine bK ?_;exact cF (decide (a=(31:Int))) () h SF Z
  refine aT<|bP Z<|aB Z<|aM ?_;refine eF h Z (λh=>?_) λh=>?_
  .refine bK ?_;exact cF (decide (a=(32:Int))) () h SF Z
  refine aT<|bP Z<|aB Z<|aM ?_;refine eF h Z (λh=>?_) λh=>?_
  .refine bK ?_;exact cF (decide (a=(33:Int))) () h SF Z
  refine aL<|bP Z<|aB Z<|aM ?_;exact cF (decide (a=(34:Int))) () h SF Z
 intro e t h;refine iA h Z (λ_ h=>?_) λ_ h=>?_
 .refine aI<|cC (λf=>vZ f=some r) (λf u=>[(4,vI (f))]) (λf u=>[]) ?_ ?_
  .refine aL<|aA Z<|bP Z<|aA Z ?_;refine mL h Z (λ_ h=>?_) λ_ h=>?_
   .refine bH Z<|aF Z (oV Z Z) Z<|bO Z<|dG h λD T h=>aK (zB8 wT (iL U D T) Z .nil) Z λai=>aB Z<|aM ?_;exact cF (D) () h SF Z
   refine aD Z<|aD Z<|bT Z<|dG h λE V h=>aK (zB8 wT (iL U E V) Z .nil) Z λaj=>aB Z<|aM ?_;exact cF (E) () h SF Z
  intro f u h;unfold vZ at h;refine aP<|bB<|aG ?_;cases h;exact gM Z
 refine aI<|cC (λg=>v_ U a b g=some r) (λg v=>[(5,vI (b.1)),(6,vI (b.2.1)),(7,vI (b.2.2)),(14,vI (a)),(56,vB (g))]) (λg v=>[]) ?_ ?_
 .refine aT<|bP Z<|aB Z<|aM ?_;refine eF h Z (λh=>?_) λh=>?_
  .refine bK ?_;exact cF (decide (a=(35:Int))) () h SF Z
  refine aL<|bP Z<|aB Z<|aM ?_;exact cF (decide (a=(36:Int))) () h SF Z
 intro g v h;refine iA h Z (λ_ h=>?_) λ_ h=>?_
 .refine aI<|cC (λj=>wA j=some r) (λj w=>[(4,vI (j))]) (λj w=>[]) ?_ ?_
  .refine aL<|aA Z<|aA Z<|bP Z<|aA Z ?_;refine mL h Z (λ_ h=>?_) λ_ h=>?_
   .refine bH Z<|aF Z (xH Z Z) Z<|bO Z<|dG h λF W h=>aK (zB8 wT (iL U F W) Z .nil) Z λak=>aB Z<|aM ?_;exact cF (F) () h SF Z
   refine aD Z<|aD Z<|bT Z<|dG h λG X h=>aK (zB8 wT (iL U G X) Z .nil) Z λal=>aB Z<|aM ?_;exact cF (G) () h SF Z
  intro j w h;unfold wA at h;refine aP<|bB<|aG ?_;cases h;exact gM Z
 refine aI<|cC (λk=>pW U a b k=some r) (λk y=>[(5,vI (b.1)),(6,vI (b.2.1)),(7,vI (b.2.2)),(14,vI (a)),(67,vB (k))]) (λk y=>[]) ?_ ?_
 .refine aT<|bP Z<|aB Z<|aM ?_;refine eF h Z (λh=>?_) λh=>?_
  .refine bK ?_;exact cF (decide (a=(37:Int))) () h SF Z
  refine aT<|bP Z<|aB Z<|aM ?_;refine eF h Z (λh=>?_) λh=>?_
  .refine bK ?_;exact cF (decide (a=(38:Int))) () h SF Z
  refine aT<|bP Z<|aB Z<|aM ?_;refine eF h Z (λh=>?_) λh=>?_
  .refine bK ?_;exact cF (decide (a=(39:Int))) () h SF Z
  refine aL<|bP Z<|aB Z<|aM ?_;exact cF (decide (a=(40:Int))) () h SF Z
 intro k y h;refine iA h Z (λ_ h=>?_) λ_ h=>?_
 .refine aI<|cC (λm=>wB m=some r) (λm z=>[(4,vI (m))]) (λm z=>[]) ?_ ?_
  .refine aL<|aA Z<|bP Z<|aA Z ?_;refine mL h Z (λ_ h=>?_) λ_ h=>?_
   .refine bH Z<|aF Z (oV Z Z) Z<|bO Z<|dG h λH Y h=>aK (zB8 wT (iL U H Y) Z .nil) Z λam=>aB Z<|aM ?_;exact cF (H) () h SF Z
   refine aD Z<|aD Z<|bT Z<|dG h λI aa h=>aK (zB8 wT (iL U I aa) Z .nil) Z λan=>aB Z<|aM ?_;exact cF (I) () h SF Z
  intro m z h;unfold wB at h;refine aP<|bB<|aG ?_;cases h;exact gM Z
 refine aI<|cC (λn=>wC U b n=some r) (λn A=>[(5,vI (b.1)),(6,vI (b.2.1)),(7,vI (b.2.2)),(79,vB (n))]) (λn A=>[]) ?_ ?_
 .refine aT<|bP Z<|aB Z<|aM ?_;refine eF h Z (λh=>?_) λh=>?_
  .refine bK ?_;exact cF (decide (a=(41:Int))) () h SF Z
  refine aL<|bP Z<|aB Z<|aM ?_;exact cF (decide (a=(42:Int))) () h SF Z
 intro n A h;refine iA h Z (λ_ h=>?_) λ_ h=>?_
 .refine aI<|cC (λo=>uN o=some r) (λo B=>[(4,vI (o))]) (λo B=>[]) ?_ ?_
  .refine aL<|aA Z<|bP Z<|aA Z ?_;refine mL h Z (λ_ h=>?_) λ_ h=>?_
   .refine bH Z<|aF Z (oV Z Z) Z<|bO Z<|dG h λJ ab h=>aK (zB8 wT (iL U J ab) Z .nil) Z λao=>aB Z<|aM ?_;exact cF (J) () h SF Z
   refine aD Z<|aD Z<|bT Z<|dG h λK ac h=>aK (zB8 wT (iL U K ac) Z .nil) Z λap=>aB Z<|aM ?_;exact cF (K) () h SF Z
  intro o B h;unfold uN at h;refine aP<|bB<|aG ?_;cases h;exact gM Z
 refine cZ<|jZ<|aI<|cC (λp=>uO p=some r) (λp C=>[(4,vI (p))]) (λp C=>[]) ?_ ?_
 .refine aL<|aA Z<|bP Z<|aA Z ?_;refine mL h Z (λ_ h=>?_) λ_ h=>?_
  .refine bH Z<|bH Z<|aF Z (oV Z Z) Z<|bO Z<|aA Z<|dG h λL ad h=>aK (zB8 wT (iL U L ad) Z .nil) Z λaq=>aB Z<|aM ?_;exact cF (L) () h SF Z
  refine aD Z<|aD Z<|aD Z<|bT Z<|aA Z<|dG h λM ae h=>aK (zB8 wT (iL U M ae) Z .nil) Z λar=>aB Z<|aM ?_;exact cF (M) () h SF Z
 intro p C h;unfold uO at h;refine aP ?_;cases h;exact gM Z
def rS (a:Hx) (b:Int) (d:V4):V1 dW:=
 if d=true then(some ((0:Int),(wI .i64 (b+(1:Int)))))else(Option.bind (sH U ((a.1,a.2)) ((((at' a.1 b).1),((at' a.1 b).2)))) λc=>(some (c,(wI .i64 (b+(1:Int))))))
def lR (c:Hx) (d:Int) (a:Int×Int×Int×Int):V1 dW:=
 Option.bind (pA U ((at' c.1 d).1) ((a.2.1,a.2.2.1,a.2.2.2))) λb=>(some (b,a.1))
def iY (c:Int×Int×Int×Int×Int) (b:(Int×Int×Int×Int×Int)->V1 dW) (a:Int×Int×Int×Int):V1 dW:=
 b (a.1,(wI .i64 (c.2.1+(1:Int))),a.2.1,a.2.2.1,a.2.2.2)
def cH (e:Hx) (g:Int) (h:(cJ×bN)->Int->V4->V1 dW) (d:V4) (f:Int) (a:Int×Int×Int×Int×Int) (c:(Int×Int×Int×Int×Int)->V1 dW):V1 dW:=
 if a.2.1<f then(Option.bind (h ((e.1,e.2)) a.1 d) λb=>(ck (0<=a.2.1/\a.2.1<((3:Nat):Int)) (if a.2.1=(0:Int)then(iY a c (b.2,b.1,a.2.2.2.1,a.2.2.2.2))else(if a.2.1=(1:Int)then(iY a c (b.2,a.2.2.1,b.1,a.2.2.2.2))else(iY a c (b.2,a.2.2.1,a.2.2.2.1,b.1))))))else(lR U e g (a.1,a.2.2.1,a.2.2.2.1,a.2.2.2.2))
def gZ (d:Hx) (b:Int) (e:(cJ×bN)->Int->V4->V1 dW) (a:V4):V1 dW:=
 Option.bind (qF U ((at' d.1 b).1)) λc=>(bG (cH U d b e a c) U ((wI .i64 (b+(1:Int))),(0:Int),(0:Int),(0:Int),(0:Int)))
def gP (f:(cJ×bN)->Int->V4->V1 dW) (U:Nat) (b:Hx) (a:Int) (e:V4):V1 dW:=
 ck (0<=a/\a<(b.1.length:Int)) (Option.bind (qF U ((at' b.1 a).1)) λg=>(if g=(0:Int)then(Option.bind (Gv U ((at' b.1 a).1)) λc=>(if c=true then(rS U b a ((!e)))else(rS U b a (false))))else(if e=true then(gZ U b a f (true))else(Option.bind (oF U ((at' b.1 a).1)) λd=>(gZ U b a f (d))))))
def eV:Nat->(cJ×bN)->Int->V4->V1 dW
 |0,_,_,_=>none
 |U+1,p0,p1,p2=>gP (eV U) U p0 p1 p2
theorem WU:aX prog 175:=call175
theorem Ij (I:(cJ×bN)->Int->V4->V1 dW) (U:Nat) (J:∀{e:Hx} {g:Int} {z:V4} (u:V0) (v:V0) (r:dJ),I e g z=some r->aZ prog 175 #[Value.agg #[u,v],vI (g),vB (z)] [Sl aS u e.1,Sl cQ v e.2] (λx:Unit=>Value.tuple #[vI (r.1),vI (r.2)]) (λx l=>l) (λ_ l=>l)) {e:Hx} {g:Int} {z:V4} (u v:V0) (r:dJ) (h:gP I U e g z=some r):
  aZ prog 175 #[Value.agg #[u,v],vI (g),vB (z)] [Sl aS u e.1,Sl cQ v e.2] (λx:Unit=>Value.tuple #[vI (r.1),vI (r.2)]) (λx l=>l) (λ_ l=>l):=by
 let w:=(wI .i64 (g+(1:Int)))
 refine aZ.of func175 Z ntmps175 Z λc=>aT<|aK (aO.box (cs:=[u,v]) Z Z) Z λB=>let t:=bU B [u,v] 245;aB Z<|Q4 Z<|aT<|bD Z<|bY 0 Z<|aA Z<|eX h λV h=>aC (a_ Z Z (cG Z) Z Z V) Z<|aC (eO (cs:=[vI ((at' e.1 g).1),vI ((at' e.1 g).2)]) Z (cG Z) dL Z Z Z Z V) Z<|aK (aO.alloc (cs:=SG) Z Z) Z λy=>let q:=bU y [vI ((at' e.1 g).1),vI ((at' e.1 g).2)] 126;cO 0 (vs:=[vI ((at' e.1 g).1),vI ((at' e.1 g).2)]) Z Z Z Z Z Z<|aM<|Q5 Z<|cP Z<|Q4 Z<|aI<|aT<|bD Z<|bY 0 Z<|dG h λX Y h=>aK (zB8 Oi (CF U X Y) Z .nil) Z λx6=>bP Z<|aM ?_
 refine eF h Z (λh=>?_) λh=>?_
 .refine aI<|aI<|cC (λA=>rS U e g A=some r) (λA C=>[(3,vP B),(7,vI w),(8,vP y),(29,vB (A))]) (λA C=>[q,t]) ?_ ?_
  .refine aL<|bD Z<|bY 0 Z<|dG h λM P h=>aK (zB8 adw (Ut U M P) Z .nil) Z λab=>aA Z<|iO (by exact rfl) (by exact rfl) (λm=>?_) (λm=>?_)
   .have h:=Bt m h;exact bH Z<|aF Z (fF Z) Z<|bO Z<|aM<|cF ((!z)) () h SF Z
   have h:=w_ m h;exact aD Z<|aD Z<|bT Z<|aM<|cF (false) () h SF Z
  intro A C h;refine iA h Z (λ_ h=>?_) λ_ h=>?_
  .refine Q5 Z<|aB Z<|Q4 Z<|aP<|aG<|aG ?_;cases h;exact gA () Z Z (RV.tmp Z) (RV.tmp Z) .nil aE.nil
  refine bK<|aT<|fQ 1 Z<|fQ 0 Z<|dG h λL O h=>aK (zB8 adx (IY U u v L O) Z (gK [0,1] Z)) Z λaa=>aA Z<|aB Z<|Q4 Z<|aP<|aG ?_;cases h;exact gA () Z Z (RV.tmp Z) (RV.tmp Z) .nil aE.nil
 refine bK<|aI<|cC (λd=>gZ U e g I d=some r) (λd D=>[(3,vP B),(7,vI w),(8,vP y),(9,vB (d))]) (λd D=>[q,t]) ?_ ?_
 .refine aL<|aA Z<|aA Z<|iO (by exact rfl) (by exact rfl) (λn=>?_) (λn=>?_)
  .have h:=Bt n h;exact aD Z<|aD Z<|aD Z<|bO Z<|Q4 Z<|cF (true) () h SF Z
  have h:=w_ n h;exact aF Z (bR Z Z Z Z Z) Z<|aF Z (bX 0 Z Z Z Z Z) Z<|dG h λH T h=>fU Z (zB8 Rv (zR U H T) Z .nil) Z λaf=>bT Z<|Q4 Z<|cF (H) () h SF Z
 intro d D h;refine aT<|aK (aO.alloc (cs:=[vI (0:Int),vI (0:Int),vI (0:Int)]) Z Z) Z λj=>aM<|aI<|cC (λf=>lR U e g f=some r) (λf E=>[(7,vI (f.1)),(8,vP y),(10,vP j)]) (λf E=>[bU j [vI (f.2.1),vI (f.2.2.1),vI (f.2.2.2)] 257,q]) ?_ ?_
 .refine aT<|bD Z<|bY 1 Z<|dG h λs R h=>aK (zB8 Oi (CF U s R) Z .nil) Z λad=>aA Z<|aM<|aU<|eP (cH U e g I d s) (λa F=>[(3,vP B),(7,vI (a.1)),(8,vP y),(9,vB (d)),(10,vP j),(43,vI (s)),(44,vI (a.2.1))]) (λa F=>[bU j [vI (a.2.2.1),vI (a.2.2.2.1),vI (a.2.2.2.2)] 257,q,t]) (w,(0:Int),(0:Int),(0:Int),(0:Int)) () h SF (aW.refl _) ?_;intro K a F h;let k:=a.2.2.2;refine aT<|cX Z<|aM<|aI<|eF h Z (λh=>?_) λh=>?_
  .refine bK<|aI<|cC (λb=>iY a (bG (cH U e g I d s) K) b=some r) (λb G=>[(3,vP B),(7,vI (b.1)),(8,vP y),(9,vB (d)),(10,vP j),(43,vI (s)),(44,vI (a.2.1))]) (λb G=>[bU j [vI (b.2.1),vI (b.2.2.1),vI (b.2.2.2)] 257,q,t]) ?_ ?_
   .refine aU<|Q5 Z<|Q4 Z<|aL<|aA Z<|fQ 2 Z<|aA Z<|aA Z<|dG h λi S h=>aK (zB8 WU (J u v i S) Z (gK [0,1] Z)) Z λae=>aA Z<|fL Z<|fL Z<|eX h λW h=>?_;by_cases o:a.2.1=(0:Int)
    .have h:=Bt o h;exact aC (IG 0 Z Z Z Z Z o Z) Z<|i_ 0 Z Z Z Z Z Z<|aB Z<|dK<|jZ<|cF (i.2,i.1,k.1,k.2) () h SF Z
    have h:=MP o h;by_cases p:a.2.1=(1:Int)
    .have h:=Bt p h;exact aC (IG 1 Z Z Z Z Z p Z) Z<|i_ 0 Z Z Z Z Z Z<|aB Z<|dK<|jZ<|cF (i.2,a.2.2.1,i.1,k.2) () h SF Z
    have h:=MP p h;refine aC (IG 2 Z Z Z Z Z V7 Z) Z ?_;exact i_ 0 Z Z Z Z Z Z<|aB Z<|dK<|jZ<|cF (i.2,a.2.2.1,k.1,i.1) () h SF Z
   intro b G h;unfold iY at h;exact aL<|cP Z<|aA Z<|aM<|Ac (b.1,(wI .i64 (a.2.1+(1:Int))),b.2.1,b.2.2.1,b.2.2.2) () h SF Z
  exact fK<|bQ (a.1,a.2.2.1,k.1,k.2) () h SF (aW.ix [0,1] Z Z) (aE.refl _ _)
 intro f E h;refine aT<|bD Z<|bY 1 Z<|fQ 0 Z<|dG h λN Q h=>aK (zB8 ady (Pm U N Q) Z .nil) Z λac=>aA Z<|aB Z<|Q4 Z<|aP ?_;cases h;exact gA () Z Z (RV.tmp Z) (RV.tmp Z) .nil aE.nil
theorem IZ:∀{c:Hx} {d:Int} {e:V4} (a:V0) (b:V0) (r:dJ),eV U c d e=some r->
  aZ prog 175 #[Value.agg #[a,b],vI (d),vB (e)] [Sl aS a c.1,Sl cQ b c.2] (λx:Unit=>Value.tuple #[vI (r.1),vI (r.2)]) (λx l=>l) (λ_ l=>l):=by
 induction U with
 |zero=>intros;rename_i h;cases h
 |succ U f=>exact λa b r h=>Ij (eV U) U f a b r h
def GJ (b:cJ) (c:bN) (d:V4) (f:Unit):V1 dW:=
 Option.bind (oQ U b (c.length:Int)) λe=>(if(!e)=true then(some ((0:Int),(7:Int)))else(Option.bind (eV U ((b,c)) (0:Int) d) λa=>(if a.1=(0:Int)then(some ((0:Int),(6:Int)))else(some (a.1,(0:Int))))))
def qJ (e:cJ) (c:bN) (f:V4) (a:Int) (b:(Int)->V1 dW):V1 dW:=
 if a<(c.length:Int)then(ck (0<=a/\a<(c.length:Int)) (Option.bind (tW U (at' c a)) λd=>(if(!d)=true then(some ((0:Int),(7:Int)))else(b (wI .i64 (a+(1:Int)))))))else(GJ U e c f (()))
def Df (b:cJ) (a:bN) (c:V4):V1 dW:=
 if(6:Int)<(a.length:Int)then(some ((0:Int),(7:Int)))else(bG (qJ U b a c) U (0:Int))
theorem WP:aX prog 148:=call148
theorem Pj {n:cJ} {k:bN} {e:V4} (b d:V0) (r:dJ) (h:Df U n k e=some r):
  aZ prog 148 #[b,d,vB (e)] [Sl aS b n,Sl cQ d k] (λx:Unit=>Value.tuple #[vI (r.1),vI (r.2)]) (λx l=>l) (λ_ l=>l):=by
 refine aZ.of func148 Z ntmps148 Z λc=>aT<|aB Z<|Q4 Z<|aI<|Q5 Z<|eL (iZ Z) Z<|aC (mA Z Z) Z<|aM<|eF h Z (λh=>?_) λh=>?_
 .refine aT<|aB Z<|Q4 Z<|aP<|aG ?_;cases h;exact gA () Z Z (RV.tmp Z) (RV.tmp Z) (aW.refl _) aE.nil
 refine bK<|aI<|cC (λm=>GJ U n k e m=some r) (λm v=>[(0,b),(1,d),(2,vB (e))]) (λm v=>[]) ?_ ?_
 .refine Q5 Z<|eL (iZ Z) Z<|aA Z<|aM<|aU<|eP (qJ U n k e) (λa f=>[(0,b),(1,d),(2,vB (e)),(16,d),(17,vI (k.length:Int)),(18,vI (a))]) (λa f=>[]) (0:Int) () h SF (aW.refl _) ?_;intro z a f h;refine aT<|cX Z<|aM<|aI<|eF h Z (λh=>?_) λh=>?_
  .refine bK<|aI<|aU<|aT<|eX h λj h=>aC (a_ Z Z (iZ Z) Z Z j) Z<|aC (eC Z (iZ Z) Z Z Z gC j) Z<|Q4 Z<|Q5 Z<|dG h λs u h=>aK (zB8 WO (Hv U s u) Z .nil) Z λD=>aC (fF Z) Z<|aM<|iA h Z (λ_ h=>?_) λ_ h=>?_
   .refine aT<|aB Z<|Q4 Z<|aP<|bB<|aG<|aG<|bB<|aG ?_;cases h;exact gA () Z Z (RV.tmp Z) (RV.tmp Z) (aW.refl _) aE.nil
   exact cZ<|jZ<|aL<|cP Z<|aA Z<|aM<|Ac (wI .i64 (a+(1:Int))) () h SF Z
  exact fK<|cF () (()) h SF Z
 intro m v h;refine aI<|Q5 Z<|aA Z<|eL (iZ Z) Z<|dG h λA B h=>aK (zB8 Rq (Fc U b A B) Z (gK [0] Z)) Z λE=>aC (fF Z) Z<|aM<|iA h Z (λ_ h=>?_) λ_ h=>?_
 .refine aT<|aB Z<|Q4 Z<|aP<|aG ?_;cases h;exact gA () Z Z (RV.tmp Z) (RV.tmp Z) (aW.refl _) aE.nil
 refine bK<|Q5 Z<|aA Z<|eH (Know.one ((cG Z))) λo=>eH (Know.one ((iZ Z))) λp=>aC (nP (r:=Value.agg #[b,d]) Z Z (by intro w;simp[Instr.build,Instr.fill,cL,b_,bW,cM,cN,cA,dD,eW o,eW p])) Z ?_;refine aK (aO.alloc (cs:=[zU,zU]) Z Z) Z λy=>eH (Know.one ((cG Z))) λg=>eH (Know.one ((iZ Z))) λi=>cO 0 (vs:=[b,d]) Z Z (cI g (cI i Z)) Z Z Z<|aM<|aT<|fQ 0 Z<|aA Z<|dG h λq t h=>aK (zB8 WU (IZ U b d q t) Z (gK [0,1] Z)) Z λC=>aA Z<|fL Z<|fL Z<|aB Z<|Q4 Z<|aI<|Q5 Z<|bP Z<|aM<|eF h Z (λh=>?_) λh=>?_
 .refine aT<|aB Z<|Q4 Z<|aP<|aG ?_;cases h;exact gA () Z Z (RV.tmp Z) (RV.tmp Z) .nil aE.nil
 refine bK<|Q5 Z<|aB Z<|Q4 Z<|aP ?_;cases h;exact gA () Z Z (RV.tmp Z) (RV.tmp Z) .nil aE.nil
def DX (b:dJ) (c:bN) (a:V4):V1 (Int):=
 if a=true then(ck (0<=b.2/\b.2<(c.length:Int)) (some (at' c b.2)))else(some (1:Int))
def Ay (a:dJ) (c:bN) (b:V4):V1 (Int):=
 if b=true then(some (3:Int))else(if a.1=(5:Int)then(DX a c (decide (a.1=(5:Int))))else(DX a c (decide (a.1=(12:Int)))))
def wK (a:dJ) (b:bN) (c:V4):V1 (Int):=
 if c=true then(some (2:Int))else(if a.1=(4:Int)then(Ay a b (decide (a.1=(4:Int))))else(if a.1=(11:Int)then(Ay a b (decide (a.1=(11:Int))))else(Ay a b (decide (a.1=(17:Int))))))
def Ax (a:dJ) (b:bN) (c:V4):V1 (Int):=
 if c=true then(some (0:Int))else(if a.1=(2:Int)then(wK a b (decide (a.1=(2:Int))))else(if a.1=(3:Int)then(wK a b (decide (a.1=(3:Int))))else(if a.1=(10:Int)then(wK a b (decide (a.1=(10:Int))))else(wK a b (decide (a.1=(15:Int)))))))
def Ca (U:Nat) (a:dJ) (b:bN) (c:V4):V1 (Int):=
 if(!c)=true then(if a.1=(11:Int)then(Ax a b (true))else(Ax a b (decide ((12:Int)<=a.1))))else(Ax a b (false))
theorem adI:aX prog 225:=call225
theorem Sr {a:dJ} {g:bN} {t:V4} (i:V0) (r:Int) (h:Ca U a g t=some r):
  aZ prog 225 #[Value.agg #[vI (a.1),vI (a.2)],i,vB (t)] [Sl cQ i g] (λx:Unit=>vI (r)) (λx l=>l) (λ_ l=>l):=by
 refine aZ.of func225 Z ntmps225 Z λc=>?_;unfold Ca at h;refine aT<|aK (aO.box (cs:=[vI (a.1),vI (a.2)]) Z Z) Z λm=>let f:=bU m [vI (a.1),vI (a.2)] 126;Q4 Z<|aI<|aI<|cC (λj=>Ax a g j=some r) (λj q=>[(1,i),(3,vP m),(18,vB (j))]) (λj q=>[f]) ?_ ?_
 .refine aL<|aA Z<|aC (fF Z) Z<|aA Z<|iO (by exact rfl) (by exact rfl) (λe=>?_) (λe=>?_)
  .have h:=Bt e h;refine aF Z (bR Z Z Z Z Z) Z<|aF Z (bX 0 Z Z Z Z Z) Z<|aF Z (oV Z Z) Z<|bH Z<|mL h Z (λ_ h=>?_) λ_ h=>?_
   .exact aD Z<|aD Z<|aD Z<|aF Z (wR Z Z) Z<|bO Z<|aM<|cF (true) () h SF Z
   exact aF Z (bR Z Z Z Z Z) Z<|aF Z (bX 0 Z Z Z Z Z) Z<|aF Z (lD Z Z) Z<|aF Z (sG Z Z) Z<|bO Z<|aM<|cF (decide ((12:Int)<=a.1)) () h SF Z
  have h:=w_ e h;refine aD Z<|aD Z<|aD Z<|aD Z<|Bg (h:= ?_);refine Bg (h:= ?_);refine Bg (h:= ?_);exact aD Z<|bT Z<|aM<|cF (false) () h SF Z
 intro j q h;refine iA h Z (λ_ h=>?_) λ_ h=>?_
 .refine Q3 Z<|aP<|aG ?_;cases h;exact mK Z
 refine bK<|aI<|aT<|bD Z<|bY 0 Z<|aM<|aU<|aI<|cC (λk=>wK a g k=some r) (λk s=>[(1,i),(3,vP m),(20,vI (a.1)),(21,vB (k))]) (λk s=>[f]) ?_ ?_
 .refine aT<|bP Z<|Q4 Z<|eF h Z (λh=>?_) λh=>?_
  .exact bK<|cF (decide (a.1=(2:Int))) () h SF Z
  refine aT<|bP Z<|Q4 Z<|eF h Z (λh=>?_) λh=>?_
  .exact bK<|cF (decide (a.1=(3:Int))) () h SF Z
  refine aT<|bP Z<|Q4 Z<|eF h Z (λh=>?_) λh=>?_
  .exact bK<|cF (decide (a.1=(10:Int))) () h SF Z
  exact aL<|bP Z<|Q4 Z<|cF (decide (a.1=(15:Int))) () h SF Z
 intro k s h;refine iA h Z (λ_ h=>?_) λ_ h=>?_
 .refine Q3 Z<|aP<|bB<|aG ?_;cases h;exact mK Z
 refine aI<|cC (λb=>Ay a g b=some r) (λb n=>[(1,i),(3,vP m),(20,vI (a.1)),(26,vB (b))]) (λb n=>[f]) ?_ ?_
 .refine aT<|bP Z<|Q4 Z<|eF h Z (λh=>?_) λh=>?_
  .exact bK<|cF (decide (a.1=(4:Int))) () h SF Z
  refine aT<|bP Z<|Q4 Z<|eF h Z (λh=>?_) λh=>?_
  .exact bK<|cF (decide (a.1=(11:Int))) () h SF Z
  exact aL<|bP Z<|Q4 Z<|cF (decide (a.1=(17:Int))) () h SF Z
 intro b n h;refine iA h Z (λ_ h=>?_) λ_ h=>?_
 .refine Q3 Z<|aP<|bB<|aG ?_;cases h;exact mK Z
 refine aI<|cC (λd=>DX a g d=some r) (λd o=>[(1,i),(3,vP m),(30,vB (d))]) (λd o=>[f]) ?_ ?_
 .refine aT<|bP Z<|Q4 Z<|eF h Z (λh=>?_) λh=>?_
  .exact bK<|cF (decide (a.1=(5:Int))) () h SF Z
  exact aL<|bP Z<|Q4 Z<|cF (decide (a.1=(12:Int))) () h SF Z
 intro d o h;refine iA h Z (λ_ h=>?_) λ_ h=>?_
 .refine Q5 Z<|bD Z<|bY 0 Z<|eX h λp h=>aC (a_ Z Z (cG Z) Z Z p) Z<|aC (eC Z (cG Z) Z Z Z gC p) Z<|Q4 Z<|aP<|bB<|aG ?_;cases h;exact mK Z
 refine cZ<|jZ<|Q3 Z<|aP ?_;cases h;exact mK Z
def sE (b:Int) (a:dJ):V1 (Int):=
 if b≠a.2 then(some (0:Int))else(some (a.1))
def vO (b a:Int) (c:V4):V1 (Int):=
 if c=true then(sE a ((2:Int),(2:Int)))else(if b=(22:Int)then(sE a ((1:Int),(2:Int)))else(if b=(23:Int)then(sE a ((3:Int),(2:Int)))else(sE a ((1:Int),(1:Int)))))
def xV (U:Nat) (a b:Int):V1 (Int):=
 if a=(19:Int)then(vO a b (decide (a=(19:Int))))else(if a=(20:Int)then(vO a b (decide (a=(20:Int))))else(vO a b (decide (a=(21:Int)))))
theorem W_:aX prog 226:=call226
theorem Ji {a d:Int} (r:Int) (h:xV U a d=some r):
  aZ prog 226 #[vI (a),vI (d)] [] (λx:Unit=>vI (r)) (λx l=>l) (λ_ l=>l):=by
 refine aZ.of func226 Z ntmps226 Z λc=>Q3 Z<|aT<|aB Z<|Q4 Z<|aI<|cC (λb=>sE d b=some r) (λb f=>[(1,vI (d)),(5,vI (b.2)),(6,vI (b.1))]) (λb f=>[]) ?_ ?_
 .refine Q5 Z<|aM<|aU<|aI<|cC (λe=>vO a d e=some r) (λe g=>[(1,vI (d)),(5,vI (1:Int)),(6,vI (1:Int)),(7,vI (a)),(8,vB (e))]) (λe g=>[]) ?_ ?_
  .refine aT<|bP Z<|Q4 Z<|eF h Z (λh=>?_) λh=>?_
   .exact bK<|cF (decide (a=(19:Int))) () h SF Z
   refine aT<|bP Z<|Q4 Z<|eF h Z (λh=>?_) λh=>?_
   .exact bK<|cF (decide (a=(20:Int))) () h SF Z
   exact aL<|bP Z<|Q4 Z<|cF (decide (a=(21:Int))) () h SF Z
  intro e g h;refine iA h Z (λ_ h=>?_) λ_ h=>?_
  .exact aL<|aB Z<|aB Z<|dK<|jZ<|cF ((2:Int),(2:Int)) () h SF Z
  refine aT<|bP Z<|Q4 Z<|eF h Z (λh=>?_) λh=>?_
  .exact aL<|aB Z<|dK<|jZ<|cF ((1:Int),(2:Int)) () h SF Z
  refine aT<|bP Z<|Q4 Z<|eF h Z (λh=>?_) λh=>?_
  .exact aL<|aB Z<|aB Z<|dK<|jZ<|cF ((3:Int),(2:Int)) () h SF Z
  exact cZ<|jZ<|cF ((1:Int),(1:Int)) () h SF Z
 intro b f h;refine aI<|Q5 Z<|aA Z<|lK Z<|aM<|eF h Z (λh=>?_) λh=>?_
 .refine Q3 Z<|aP<|aG ?_;cases h;exact gM Z
 refine bK<|Q5 Z<|Q4 Z<|aP ?_;cases h;exact gM Z
def AX (a:V4):V1 (Int):=
 if a=true then(some (0:Int))else(some (2:Int))
def AZ (a:V4):V1 (Int):=
 if a=true then(some (0:Int))else(some (2:Int))
def Ba (a:V4):V1 (Int):=
 if a=true then(some (2:Int))else(some (1:Int))
def A_ (b:Int) (a:V4):V1 (Int):=
 if a=true then(some (0:Int))else(if(37:Int)<=b then(Ba (decide (b<=(40:Int))))else(Ba (false)))
def AY (b c d:Int) (a:V4):V1 (Int):=
 if a=true then(if c≠(2:Int)then(AZ (true))else(AZ (decide (d≠(2:Int)))))else(if c≠(1:Int)then(A_ b (true))else(A_ b (decide (d≠(1:Int)))))
def AW (a b c:Int) (d:V4):V1 (Int):=
 if d=true then(if b≠c then(AX (true))else(AX (decide (b=(0:Int)))))else(if a=(41:Int)then(AY a b c (true))else(AY a b c (decide (a=(42:Int)))))
def BZ (U:Nat) (a b c:Int):V1 (Int):=
 if a=(35:Int)then(AW a b c (true))else(AW a b c (decide (a=(36:Int))))
theorem adJ:aX prog 228:=call228
theorem Pb {f i g:Int} (r:Int) (h:BZ U f i g=some r):
  aZ prog 228 #[vI (f),vI (i),vI (g)] [] (λx:Unit=>vI (r)) (λx l=>l) (λ_ l=>l):=by
 refine aZ.of func228 Z ntmps228 Z λc=>Q3 Z<|aI<|aU<|aI<|cC (λj=>AW f i g j=some r) (λj q=>[(0,vI (f)),(1,vI (i)),(2,vI (g)),(7,vB (j))]) (λj q=>[]) ?_ ?_
 .refine aL<|aA Z<|bP Z<|aA Z<|mL h Z (λ_ h=>?_) λ_ h=>?_
  .exact aD Z<|aD Z<|bO Z<|Q4 Z<|cF (true) () h SF Z
  exact bH Z<|aF Z (oV Z Z) Z<|bT Z<|Q4 Z<|cF (decide (f=(36:Int))) () h SF Z
 intro j q h;refine iA h Z (λ_ h=>?_) λ_ h=>?_
 .refine aI<|aI<|cC (λk=>AX k=some r) (λk s=>[(20,vB (k))]) (λk s=>[]) ?_ ?_
  .refine aL<|aA Z<|aA Z<|lK Z<|aA Z<|mL h Z (λ_ h=>?_) λ_ h=>?_
   .exact aD Z<|aD Z<|bO Z<|aM<|cF (true) () h SF Z
   exact bH Z<|aF Z (oV Z Z) Z<|bT Z<|aM<|cF (decide (i=(0:Int))) () h SF Z
  intro k s h;refine iA h Z (λ_ h=>?_) λ_ h=>?_
  .refine Q3 Z<|aP<|aG<|bB<|aG ?_;cases h;exact gM Z
  refine bK<|Q3 Z<|aP<|bB<|aG ?_;cases h;exact gM Z
 refine aI<|cC (λa=>AY f i g a=some r) (λa m=>[(0,vI (f)),(1,vI (i)),(2,vI (g)),(21,vB (a))]) (λa m=>[]) ?_ ?_
 .refine aL<|aA Z<|bP Z<|aA Z<|mL h Z (λ_ h=>?_) λ_ h=>?_
  .exact aD Z<|aD Z<|bO Z<|Q4 Z<|cF (true) () h SF Z
  exact bH Z<|aF Z (oV Z Z) Z<|bT Z<|Q4 Z<|cF (decide (f=(42:Int))) () h SF Z
 intro a m h;refine iA h Z (λ_ h=>?_) λ_ h=>?_
 .refine aI<|aI<|cC (λb=>AZ b=some r) (λb n=>[(33,vB (b))]) (λb n=>[]) ?_ ?_
  .refine aL<|aA Z<|lK Z<|aA Z<|mL h Z (λ_ h=>?_) λ_ h=>?_
   .exact aD Z<|aD Z<|bO Z<|aM<|cF (true) () h SF Z
   exact bH Z<|aF Z (xH Z Z) Z<|bT Z<|aM<|cF (decide (g≠(2:Int))) () h SF Z
  intro b n h;refine iA h Z (λ_ h=>?_) λ_ h=>?_
  .refine Q3 Z<|aP<|aG<|bB<|aG ?_;cases h;exact gM Z
  refine bK<|Q3 Z<|aP<|bB<|aG ?_;cases h;exact gM Z
 refine aI<|cC (λd=>A_ f d=some r) (λd o=>[(0,vI (f)),(34,vB (d))]) (λd o=>[]) ?_ ?_
 .refine aL<|aA Z<|lK Z<|aA Z<|mL h Z (λ_ h=>?_) λ_ h=>?_
  .exact aD Z<|aD Z<|bO Z<|Q4 Z<|cF (true) () h SF Z
  exact bH Z<|aF Z (xH Z Z) Z<|bT Z<|Q4 Z<|cF (decide (g≠(1:Int))) () h SF Z
 intro d o h;refine iA h Z (λ_ h=>?_) λ_ h=>?_
 .refine Q3 Z<|aP<|bB<|aG ?_;cases h;exact gM Z
 refine aI<|cC (λe=>Ba e=some r) (λe p=>[(41,vB (e))]) (λe p=>[]) ?_ ?_
 .refine aL<|aA Z<|aC (lD Z Z) Z<|aA Z<|mL h Z (λ_ h=>?_) λ_ h=>?_
  .exact bH Z<|aF Z (nH Z Z) Z<|bO Z<|Q4 Z<|cF (decide (f<=(40:Int))) () h SF Z
  exact aD Z<|aD Z<|bT Z<|Q4 Z<|cF (false) () h SF Z
 intro e p h;refine iA h Z (λ_ h=>?_) λ_ h=>?_
 .refine Q3 Z<|aP<|bB<|aG ?_;cases h;exact gM Z
 refine cZ<|jZ<|Q3 Z<|aP ?_;cases h;exact gM Z
def zO (a:Int):V1 (Int):=
 some (a)
def lE (d:cJ) (e:Int) (a:dJ) (b:dW->V1 (Int)):V1 (Int):=
 if a.2<e then(Option.bind (Bv U d a.1) λc=>(b (c,(wI .i64 (a.2+(1:Int))))))else(zO (a.1))
def tZ (b:cJ) (c d:Int) (a:V4):V1 (Int):=
 if a=true then(some (-1:Int))else(bG (lE U b d) U ((wI .i64 (c+(1:Int))),(0:Int)))
def sA (b:cJ) (a c:Int):V1 (Int):=
 Option.bind (Bv U b a) λd=>(if d<(0:Int)then(tZ U b a c (true))else(if c<(0:Int)then(tZ U b a c (true))else(ck (0<=a/\a<(b.length:Int)) (Option.bind (sV U ((at' b a).1)) λe=>(tZ U b a c (decide (e<=c)))))))
theorem Rt:aX prog 229:=call229
theorem EI {n:cJ} {j b:Int} (d:V0) (r:Int) (h:sA U n j b=some r):
  aZ prog 229 #[d,vI (j),vI (b)] [Sl aS d n] (λx:Unit=>vI (r)) (λx l=>l) (λ_ l=>l):=by
 refine aZ.of func229 Z ntmps229 Z λc=>Q3 Z<|aI<|aI<|cC (λe=>tZ U n j b e=some r) (λe t=>[(0,d),(1,vI (j)),(2,vI (b)),(26,vB (e))]) (λe t=>[]) ?_ ?_
 .refine aL<|aA Z<|aA Z<|dG h λo q h=>aK (zB8 Ru (Jf U d o q) Z (gK [0] Z)) Z λy=>cX Z<|aA Z<|mL h Z (λ_ h=>?_) λ_ h=>?_
  .exact aD Z<|aD Z<|bO Z<|aA Z<|aD Z<|aD Z<|aD Z<|aD Z<|aD Z<|aD Z<|aD Z<|aD Z<|bO Z<|aM<|cF (true) () h SF Z
  refine bH Z<|aF Z (Hg Z Z) Z<|bT Z<|aA Z<|mL h Z (λ_ h=>?_) λ_ h=>?_
  .exact aD Z<|aD Z<|aD Z<|aD Z<|aD Z<|aD Z<|aD Z<|aD Z<|bO Z<|aM<|cF (true) () h SF Z
  exact bH Z<|bH Z<|bH Z<|eX h λi h=>aF Z (a_ Z Z (cG Z) Z Z i) Z<|aF Z (cB Z Z Z Z Z) Z<|aF Z (fW Z (cG Z) Z Z Z kS i) Z<|dG h λm s h=>fU Z (zB8 ND (Eb U m s) Z .nil) Z λz=>aF Z (lD Z Z) Z<|bT Z<|aM<|cF (decide (m<=b)) () h SF Z
 intro e t h;refine iA h Z (λ_ h=>?_) λ_ h=>?_
 .refine Q3 Z<|aP<|aG ?_;cases h;exact gM Z
 refine bK<|Q5 Z<|cP Z<|Q4 Z<|aI<|cC (λf=>zO f=some r) (λf u=>[(7,vI (f))]) (λf u=>[]) ?_ ?_
 .refine Q3 Z<|aU<|eP (lE U n b) (λa g=>[(0,d),(2,vI (b)),(7,vI (a.1)),(8,vI (a.2))]) (λa g=>[]) ((wI .i64 (j+(1:Int))),(0:Int)) () h SF (aW.refl _) ?_;intro v a g h;refine aI<|Q5 Z<|aA Z<|cX Z<|aM<|eF h Z (λh=>?_) λh=>?_
  .exact bK<|aI<|aU<|aL<|aA Z<|aA Z<|dG h λk p h=>aK (zB8 Ru (Jf U d k p) Z (gK [0] Z)) Z λw=>aB Z<|dK<|jZ<|aL<|aA Z<|cP Z<|Q4 Z<|Ac (k,(wI .i64 (a.2+(1:Int)))) () h SF Z
  exact fK<|cF (a.1) () h SF Z
 intro f u h;unfold zO at h;refine Q5 Z<|Q4 Z<|aP ?_;cases h;exact gM Z
def Aw (a:Int):V1 (Int):=
 some (a)
def DW (b:Int) (a:V4):V1 (Int):=
 if a=true then(some (0:Int))else(some (b))
def oS (f:cJ->Int->bN->V4->V1 (Int)) (U:Nat) (a:cJ) (b:Int) (c:bN) (d:V4):V1 (Int):=
 ck (0<=b/\b<(a.length:Int)) (Option.bind (sV U ((at' a b).1)) λi=>(if i=(0:Int)then(ck (0<=b/\b<(a.length:Int)) (Option.bind (Ca U ((((at' a b).1),((at' a b).2))) c d) λu=>(some (u))))else(if i=(1:Int)then(if d=true then(Option.bind (f a (wI .i64 (b+(1:Int))) c true) λg=>(Option.bind (xV U ((at' a b).1) g) λh=>(Aw (h))))else(Option.bind (sK U ((at' a b).1)) λj=>(Option.bind (f a (wI .i64 (b+(1:Int))) c j) λk=>(Option.bind (xV U ((at' a b).1) k) λl=>(Aw (l))))))else(if i=(2:Int)then(Option.bind (f a (wI .i64 (b+(1:Int))) c d) λm=>(Option.bind (sA U a b (1:Int)) λn=>(Option.bind (f a n c d) λo=>(Option.bind (BZ U ((at' a b).1) m o) λp=>(some (p))))))else(Option.bind (f a (wI .i64 (b+(1:Int))) c d) λq=>(Option.bind (sA U a b (1:Int)) λr=>(Option.bind (f a r c d) λe=>(Option.bind (sA U a b (2:Int)) λs=>(Option.bind (f a s c d) λt=>(if q≠(2:Int)then(DW e (true))else(DW e (decide (e≠t)))))))))))))
def jR:Nat->cJ->Int->bN->V4->V1 (Int)
 |0,_,_,_,_=>none
 |U+1,p0,p1,p2,p3=>oS (jR U) U p0 p1 p2 p3
theorem EM:aX prog 210:=call210
theorem Pe (W:cJ->Int->bN->V4->V1 (Int)) (U:Nat) (a:∀{j:cJ} {k:Int} {o:bN} {p:V4} (b:V0) (d:V0) (r:Int),W j k o p=some r->aZ prog 210 #[b,vI (k),d,vB (p)] [Sl aS b j,Sl cQ d o] (λx:Unit=>vI (r)) (λx l=>l) (λ_ l=>l)) {j:cJ} {k:Int} {o:bN} {p:V4} (b d:V0) (r:Int) (h:oS W U j k o p=some r):
  aZ prog 210 #[b,vI (k),d,vB (p)] [Sl aS b j,Sl cQ d o] (λx:Unit=>vI (r)) (λx l=>l) (λ_ l=>l):=by
 refine aZ.of func210 Z ntmps210 Z λc=>Q3 Z<|Q5 Z<|aA Z<|eX h λT h=>aC (a_ Z Z (cG Z) Z Z T) Z<|aC (cB Z Z Z Z Z) Z<|aC (fW Z (cG Z) Z Z Z kS T) Z<|Q4 Z<|aI<|Q5 Z<|dG h λX w3 h=>aK (zB8 ND (Eb U X w3) Z .nil) Z λx4=>aM<|aU<|aT<|bP Z<|Q4 Z<|eF h Z (λh=>?_) λh=>?_
 .refine Q5 Z<|aA Z<|eX h λV h=>aC (a_ Z Z (cG Z) Z Z V) Z<|aC (eO (cs:=[vI ((at' j k).1),vI ((at' j k).2)]) Z (cG Z) dL Z Z Z Z V) Z<|aA Z<|aA Z<|dG h λY w8 h=>aK (zB8 adI (Sr U d Y w8) Z (gK [1] Z)) Z λx9=>Q4 Z<|aP<|bB<|aG ?_;cases h;exact gM Z
 refine aT<|bP Z<|Q4 Z<|eF h Z (λh=>?_) λh=>?_
 .refine aI<|cC (λe=>Aw e=some r) (λe m=>[(8,vI (e))]) (λe m=>[]) ?_ ?_
  .refine aL<|aA Z<|aA Z<|aA Z<|cP Z<|aA Z<|aA Z<|aA Z<|iO (by exact rfl) (by exact rfl) (λg=>?_) (λg=>?_)
   .have h:=Bt g h;exact aD Z<|aD Z<|bO Z<|dG h λu F h=>aK (zB8 EM (a b d u F) Z (gK [0,1] Z)) Z λaa=>dG h λq G h=>aK (zB8 W_ (Ji U q G) Z .nil) Z λab=>Q4 Z<|cF (q) () h SF Z
   have h:=w_ g h;exact bH Z<|dG h λv H h=>fU Z (zB8 Xa (GC U v H) Z .nil) Z λac=>bT Z<|dG h λw I h=>aK (zB8 EM (a b d w I) Z (gK [0,1] Z)) Z λad=>dG h λs J h=>aK (zB8 W_ (Ji U s J) Z .nil) Z λae=>Q4 Z<|cF (s) () h SF Z
  intro e m h;unfold Aw at h;refine aP<|bB<|aG ?_;cases h;exact gM Z
 refine aT<|bP Z<|Q4 Z<|eF h Z (λh=>?_) λh=>?_
 .refine Q5 Z<|aA Z<|aA Z<|cP Z<|aA Z<|aA Z<|dG h λy K h=>aK (zB8 EM (a b d y K) Z (gK [0,1] Z)) Z λaf=>aA Z<|aA Z<|aA Z<|dG h λz L h=>aK (zB8 Rt (EI U b z L) Z (gK [0] Z)) Z λag=>aA Z<|aA Z<|dG h λA M h=>aK (zB8 EM (a b d A M) Z (gK [0,1] Z)) Z λah=>dG h λB N h=>aK (zB8 adJ (Pb U B N) Z .nil) Z λai=>Q4 Z<|aP<|bB<|aG ?_;cases h;exact gM Z
 refine cZ<|jZ<|Q5 Z<|aA Z<|cP Z<|aA Z<|aA Z<|dG h λC O h=>aK (zB8 EM (a b d C O) Z (gK [0,1] Z)) Z λaj=>aA Z<|aA Z<|aA Z<|dG h λD P h=>aK (zB8 Rt (EI U b D P) Z (gK [0] Z)) Z λak=>aA Z<|aA Z<|dG h λi Q h=>aK (zB8 EM (a b d i Q) Z (gK [0,1] Z)) Z λal=>aA Z<|aA Z<|aA Z<|dG h λE R h=>aK (zB8 Rt (EI U b E R) Z (gK [0] Z)) Z λam=>aA Z<|aA Z<|dG h λt S h=>aK (zB8 EM (a b d t S) Z (gK [0,1] Z)) Z λan=>aB Z<|aB Z<|Q4 Z<|aI<|aI<|cC (λf=>DW i f=some r) (λf n=>[(11,vI (i)),(86,vB (f))]) (λf n=>[]) ?_ ?_
 .refine aL<|aA Z<|lK Z<|aA Z<|mL h Z (λ_ h=>?_) λ_ h=>?_
  .exact aD Z<|aD Z<|aD Z<|bO Z<|aM<|cF (true) () h SF Z
  exact bH Z<|bH Z<|aF Z (xH Z Z) Z<|bT Z<|aM<|cF (decide (i≠t)) () h SF Z
 intro f n h;refine iA h Z (λ_ h=>?_) λ_ h=>?_
 .refine Q3 Z<|aP<|aG ?_;cases h;exact gM Z
 refine bK<|Q5 Z<|Q4 Z<|aP ?_;cases h;exact gM Z
theorem Ly:∀{c:cJ} {d:Int} {e:bN} {f:V4} (a:V0) (b:V0) (r:Int),jR U c d e f=some r->
  aZ prog 210 #[a,vI (d),b,vB (f)] [Sl aS a c,Sl cQ b e] (λx:Unit=>vI (r)) (λx l=>l) (λ_ l=>l):=by
 induction U with
 |zero=>intros;rename_i h;cases h
 |succ U g=>exact λa b r h=>Pe (jR U) U g a b r h
end Go.Proofs.YtemmagadjnlajaaGreatDoor
namespace Go.Proofs.YtemmagadjnlajaaGreatDoor
open Go Go.Sx
def TT (a:bN) (t:TM):Int:=if t.1=2\/t.1=3\/t.1=10\/t.1=15 then 2 else if t.1=4\/t.1=11\/t.1=17 then 3 else if t.1=5\/t.1=12 then at' a t.2 else 1
def Wg (o a:Int):Int:=if o=19\/o=20\/o=21 then(if a=2 then 2 else 0)else if o=22 then(if a=2 then 1 else 0)else if o=23 then(if a=2 then 3 else 0)else if a=1 then 1 else 0
def Vt (o a b:Int):Int:=if o=35\/o=36 then(if a=b/\a≠0 then 2 else 0)else if o=41\/o=42 then(if a=2/\b=2 then 2 else 0)else if a=1/\b=1 then(if 37<=o/\o<=40 then 2 else 1)else 0
def Y_ (c a b:Int):Int:=if c=2/\a=b then a else 0
def X.ty (ks:bN):V4->X->Int
 |b,lf t=>if b=false/\11<=t.1 then 0 else TT ks t
 |b,un t x=>Wg t.1 (x.ty ks (b||agg t.1))
 |b,bi t x y=>Vt t.1 (x.ty ks b) (y.ty ks b)
 |b,tr t x y z=>Y_ (x.ty ks b) (y.ty ks b) (z.ty ks b)
theorem MH {o:Int} (h:Fu o=some 0):1<=o/\o<=17:=by
 unfold Fu at h;split at h
 .cases h
 .split at h
  .omega
  .split at h
   .cases h
   .split at h<;>cases h
theorem Qp {o:Int} (h:Fu o=some 1):18<=o/\o<=29:=by
 unfold Fu at h;split at h
 .cases h
 .split at h
  .cases h
  .split at h
   .omega
   .split at h<;>cases h
theorem Tw {o:Int} (h:Fu o=some 2):30<=o/\o<=42:=by
 unfold Fu at h;split at h
 .cases h
 .split at h
  .cases h
  .split at h
   .cases h
   .split at h
    .omega
    .cases h
theorem afg {o:Int} (h:Fu o=some 3):o=43:=by
 unfold Fu at h;split at h
 .cases h
 .split at h
  .cases h
  .split at h
   .cases h
   .split at h
    .cases h
    .omega
theorem ajQ (F:Nat) {o:Int} (h:Fu o=some 1) (a:Int):pA F o (a,0,0)=some (Wg o a):=by
 have:=Qp h;have:o=18\/o=19\/o=20\/o=21\/o=22\/o=23\/o=24\/o=25\/o=26\/o=27\/o=28\/o=29:=V7
 rcases this with rfl|rfl|rfl|rfl|rfl|rfl|rfl|rfl|rfl|rfl|rfl|rfl<;>simp[pA,jW,pV,fP,Wg]<;>split<;>rfl
theorem ajR (F:Nat) {o:Int} (h:Fu o=some 2) (a b:Int):pA F o (a,b,0)=some (Vt o a b):=by
 have:=Tw h;have:o=30\/o=31\/o=32\/o=33\/o=34\/o=35\/o=36\/o=37\/o=38\/o=39\/o=40\/o=41\/o=42:=V7
 rcases this with rfl|rfl|rfl|rfl|rfl|rfl|rfl|rfl|rfl|rfl|rfl|rfl|rfl<;>simp[pA,jW,pV,nO,vZ,v_,wA,pW,wB,wC,uN,fP,Vt]<;>repeat' split<;>simp_all
theorem ajS (F:Nat) (a b c:Int):pA F 43 (a,b,c)=some (Y_ a b c):=by
 simp[pA,jW,pV,nO,v_,pW,wC,uO,fP,Y_]
 repeat' split
 all_goals simp_all
theorem ajA (F:Nat) {o:Int} (h:Fu o=some 1) (a:Int):xV F o a=some (Wg o a):=by
 have:=Qp h;have:o=18\/o=19\/o=20\/o=21\/o=22\/o=23\/o=24\/o=25\/o=26\/o=27\/o=28\/o=29:=V7
 rcases this with rfl|rfl|rfl|rfl|rfl|rfl|rfl|rfl|rfl|rfl|rfl|rfl<;>simp[xV,sE,vO,Wg]<;>split<;>rfl
theorem alu (F:Nat) {o:Int} (h:Fu o=some 2) (a b:Int):BZ F o a b=some (Vt o a b):=by
 have:=Tw h;have:o=30\/o=31\/o=32\/o=33\/o=34\/o=35\/o=36\/o=37\/o=38\/o=39\/o=40\/o=41\/o=42:=V7
 rcases this with rfl|rfl|rfl|rfl|rfl|rfl|rfl|rfl|rfl|rfl|rfl|rfl|rfl<;>simp[BZ,AW,AX,AY,AZ,A_,Ba,Vt]<;>repeat' split<;>simp_all
theorem Nz {a:Int} {t:TM} (h:EL a t=true) (b:t.1=5\/t.1=12):0<=t.2/\t.2<a:=by
 unfold EL at h;rw[Q0,if_pos b]at h;simpa using h
theorem ajJ (F:Nat) {T:V6 TM} {ks:bN} {t:TM} (h:Fu t.1=some 0) (d:EL ks.length t=true):sH F (T,ks) t=some (TT ks t):=by
 have:=MH h;have⟨o,a⟩:=t;simp only at this h;have b:=λc=>Nz d c;simp only at b;have:o=1\/o=2\/o=3\/o=4\/o=5\/o=6\/o=7\/o=8\/o=9\/o=10\/o=11\/o=12\/o=13\/o=14\/o=15\/o=16\/o=17:=V7
 rcases this with rfl|rfl|rfl|rfl|rfl|rfl|rfl|rfl|rfl|rfl|rfl|rfl|rfl|rfl|rfl|rfl|rfl<;>simp[sH,lQ,nZ,rR,TT]<;>exact dM (b Q2) _
theorem afy (F:Nat) {d:bN} {t:TM} (h:Fu t.1=some 0) (f:EL d.length t=true) (b:V4):Ca F t d b=some (if b=false/\11<=t.1 then 0 else TT d t):=by
 have:=MH h;have⟨o,a⟩:=t;simp only at this h;have c:=λe=>Nz f e;simp only at c;have:o=1\/o=2\/o=3\/o=4\/o=5\/o=6\/o=7\/o=8\/o=9\/o=10\/o=11\/o=12\/o=13\/o=14\/o=15\/o=16\/o=17:=V7
 cases b<;>rcases this with rfl|rfl|rfl|rfl|rfl|rfl|rfl|rfl|rfl|rfl|rfl|rfl|rfl|rfl|rfl|rfl|rfl<;>simp[Ca,Ax,wK,Ay,DX,TT]<;>exact dM (c Q2) _
theorem ajL (F:Nat) {o:Int} (h:Fu o=some 0):Gv F o=some (decide (11<=o)):=by
 have:=MH h;unfold Gv CG;by_cases a:11<=o
 .rw[if_pos a];simp[a];omega
 .rw[if_neg a];simp[a]
section
variable {f:Nat} {q:V6 TM×V6 Int} {p n n' r a b d t:Int} {c:V4} {rc:(V6 TM×V6 Int)->Int->V4->V1 (Int×Int)} {ag:(Int×Int×Int×Int×Int)->V1 (Int×Int)}
theorem ahT (h:rc q n c=some (t,n')) (e:0<r):cH f q p rc c r (n,0,a,b,d) ag=ag (n',1,t,b,d):=by
 unfold cH iY;dsimp only;rw[if_pos e,aY h,dM Q2,if_pos Z,wr Q2 Q2];rfl
theorem ajC (h:rc q n c=some (t,n')) (e:1<r):cH f q p rc c r (n,1,a,b,d) ag=ag (n',2,a,t,d):=by
 unfold cH iY;dsimp only;rw[if_pos e,aY h,dM Q2,if_neg Q2,if_pos Z,wr Q2 Q2];rfl
theorem alz (h:rc q n c=some (t,n')) (e:2<r):cH f q p rc c r (n,2,a,b,d) ag=ag (n',3,a,b,t):=by
 unfold cH iY;dsimp only;rw[if_pos e,aY h,dM Q2,if_neg Q2,if_neg Q2,wr Q2 Q2];rfl
theorem ahU {j:Int} (e:¬j<r):cH f q p rc c r (n,j,a,b,d) ag=lR f q p (n,a,b,d):=by
 unfold cH;dsimp only;rw[if_neg e]
end
theorem OY (ks:V6 Int) {T:V6 TM} (n:T.length<=900):∀(x:X),x.ok->(∀t∈x.ts,EL ks.length t=true)->∀(a d:V6 TM) (b:V4) (e:Nat),T=a++(x.ts++d)->x.depth+5<=e->
  eV e (T,ks) ((a.length:Nat):Int) b=some (x.ty ks b,((a.length+x.ts.length:Nat):Int))
 | .lf t, hx, hA, a, d, b, e, hT, hf =>by
  obtain⟨f,rfl⟩:∃f,e=f+1:=⟨e - 1,V7⟩
  have u:a.length<T.length:=by rw[hT];simp[X.ts]
  have g:at' T ((a.length:Nat):Int)=t:=by rw[hT];exact h_ a d t _ Z
  have j:=ajJ f (T:=T) (ks:=ks) hx (hA t (by simp[X.ts]));show gP (eV f) f (T,ks) _ b=_;unfold gP rS;dsimp only;have w:wI .i64 (((a.length:Nat):Int)+1)=((a.length+1:Nat):Int):=by rw[Q7];omega
  rw[Q6,g,aY (PI f t.1),mE hx,Q8,aY (ajL f hx),w];simp only[X.ty,X.ts,zA3,List.length_nil];by_cases l:11<=t.1
  .rw[if_pos (by simpa using l)];cases b with
   |false=>rw[if_pos Q2,if_pos ⟨rfl,l⟩]
   |true=>rw[if_neg Q2,aY j,if_neg V8]
  .rw[if_neg (by simpa using l),if_neg Q2,aY j,Q0]
 | .un t x, hx, hA, a, d, b, e, hT, hf =>by
  simp only[X.depth]at hf;obtain⟨f,rfl⟩:∃f,e=f+1:=⟨e - 1,V7⟩
  have h:=congrArg List.length hT;simp only[X.ts,zA0,zA3]at h;have g:at' T ((a.length:Nat):Int)=t:=by rw[hT];exact h_ a (x.ts++d) t _ Z
  have s:=λb=>OY ks n x hx.2 (λt j=>hA t (by simp[X.ts,j])) (a++[t]) d b f (by rw[hT];simp[X.ts]) V7;show gP (eV f) f (T,ks) _ b=_;generalize o:eV f=rc at s ⊢;unfold gP;dsimp only;rw[Q6,g,aY (PI f t.1),mE hx.1,Q0];have i:∀c:V4,gZ f (T,ks) ((a.length:Nat):Int) rc c=some (Wg t.1 (x.ty ks c),((a.length+(x.ts.length+1):Nat):Int)):=by
   intro c;unfold gZ;dsimp only;rw[g,aY (PI f t.1),mE hx.1,Q7];obtain⟨f,rfl⟩:∃q,f=q+1+1:=⟨f - 2,V7⟩
   have k:=s c;rw[show(((a++[t]).length:Nat):Int)=((a.length:Nat):Int)+1 by simp]at k;show cH _ _ _ _ _ _ _ (bG _ _)=_;rw[ahT k Q2];show cH _ _ _ _ _ _ _ _=_;rw[ahU Q2];unfold lR;dsimp only;rw[g,aY (ajQ _ hx.1 _)];congr 2;simp;omega
  cases b with
  |true=>rw[if_pos Z,i];simp[X.ty,X.ts]
  |false=>rw[if_neg Q2,aY (Up f t.1),i];simp[X.ty,X.ts]
 | .bi t x y, hx, hA, a, d, b, e, hT, hf =>by
  simp only[X.depth]at hf;obtain⟨f,rfl⟩:∃f,e=f+1:=⟨e - 1,V7⟩
  have h:=congrArg List.length hT;simp only[X.ts,zA0,zA3]at h;have g:at' T ((a.length:Nat):Int)=t:=by rw[hT];exact h_ a (x.ts++y.ts++d) t _ Z
  have k:=OY ks n x hx.2.1 (λt j=>hA t (by simp[X.ts,j])) (a++[t]) (y.ts++d) b f (by rw[hT];simp[X.ts]) V7;have m:=OY ks n y hx.2.2 (λt j=>hA t (by simp[X.ts,j])) (a++t::x.ts) d b f (by rw[hT];simp[X.ts]) V7;show gP (eV f) f (T,ks) _ b=_;generalize o:eV f=rc at k m ⊢;unfold gP;dsimp only;rw[Q6,g,aY (PI f t.1),mE hx.1,Q0];have i:gZ f (T,ks) ((a.length:Nat):Int) rc b=some (Vt t.1 (x.ty ks b) (y.ty ks b),((a.length+(x.ts.length+y.ts.length+1):Nat):Int)):=by
   unfold gZ;dsimp only;rw[g,aY (PI f t.1),mE hx.1,Q7];obtain⟨f,rfl⟩:∃q,f=q+1+1+1:=⟨f - 3,V7⟩
   rw[show(((a++[t]).length:Nat):Int)=((a.length:Nat):Int)+1 by simp]at k;rw[show(((a++t::x.ts).length:Nat):Int)=(((a++[t]).length+x.ts.length:Nat):Int) by simp;omega]at m;show cH _ _ _ _ _ _ _ (bG _ _)=_;rw[ahT k Q2];show cH _ _ _ _ _ _ _ (bG _ _)=_;rw[ajC m Q2];show cH _ _ _ _ _ _ _ _=_;rw[ahU Q2];unfold lR;dsimp only;rw[g,aY (ajR _ hx.1 _ _)];congr 2;simp;omega
  have p:=Gn hx.1 Q2;cases b with
  |true=>rw[if_pos Z,i];simp[X.ty,X.ts]
  |false=>rw[if_neg Q2,aY (Up f t.1),p,i];simp[X.ty,X.ts]
 | .tr t x y z, hx, hA, a, d, b, e, hT, hf =>by
  simp only[X.depth]at hf;obtain⟨f,rfl⟩:∃f,e=f+1:=⟨e - 1,V7⟩
  have h:=congrArg List.length hT;simp only[X.ts,zA0,zA3]at h;have g:at' T ((a.length:Nat):Int)=t:=by rw[hT];exact h_ a (x.ts++(y.ts++z.ts)++d) t _ Z
  have k:=OY ks n x hx.2.1 (λt j=>hA t (by simp[X.ts,j])) (a++[t]) (y.ts++z.ts++d) b f (by rw[hT];simp[X.ts]) V7;have m:=OY ks n y hx.2.2.1 (λt j=>hA t (by simp[X.ts,j])) (a++t::x.ts) (z.ts++d) b f (by rw[hT];simp[X.ts]) V7;have r:=OY ks n z hx.2.2.2 (λt j=>hA t (by simp[X.ts,j])) (a++t::(x.ts++y.ts)) d b f (by rw[hT];simp[X.ts]) V7;show gP (eV f) f (T,ks) _ b=_;generalize o:eV f=rc at k m r ⊢;unfold gP;dsimp only;rw[Q6,g,aY (PI f t.1),mE hx.1,Q0];have i:gZ f (T,ks) ((a.length:Nat):Int) rc b=some (Y_ (x.ty ks b) (y.ty ks b) (z.ty ks b),((a.length+(x.ts.length+(y.ts.length+z.ts.length)+1):Nat):Int)):=by
   unfold gZ;dsimp only;rw[g,aY (PI f t.1),mE hx.1,Q7];obtain⟨f,rfl⟩:∃q,f=q+1+1+1+1:=⟨f - 4,V7⟩
   rw[show(((a++[t]).length:Nat):Int)=((a.length:Nat):Int)+1 by simp]at k;rw[show(((a++t::x.ts).length:Nat):Int)=(((a++[t]).length+x.ts.length:Nat):Int) by simp;omega]at m;rw[show(((a++t::(x.ts++y.ts)).length:Nat):Int)=(((a++t::x.ts).length+y.ts.length:Nat):Int) by simp;omega]at r;show cH _ _ _ _ _ _ _ (bG _ _)=_;rw[ahT k Q2];show cH _ _ _ _ _ _ _ (bG _ _)=_;rw[ajC m Q2];show cH _ _ _ _ _ _ _ (bG _ _)=_;rw[alz r Q2];show cH _ _ _ _ _ _ _ _=_;rw[ahU Q2];unfold lR;dsimp only;rw[g,afg hx.1,aY (ajS _ _ _ _)];congr 2;simp;omega
  have p:=Gn hx.1 Q2;cases b with
  |true=>rw[if_pos Z,i];simp[X.ty,X.ts]
  |false=>rw[if_neg Q2,aY (Up f t.1),p,i];simp[X.ty,X.ts]
end Go.Proofs.YtemmagadjnlajaaGreatDoor
namespace Go.Proofs.YtemmagadjnlajaaGreatDoor
open Go.Sx
def yW (a:Unit):V1 V4:=
 some (true)
def uP (b:By) (d:bN) (a:Int) (c:(Int)->V1 V4):V1 V4:=
 if a<(b.2.2.length:Int)then(ck (0<=a/\a<(b.2.2.length:Int)) (Option.bind (Df U ((at' b.2.2 a).2) d false) λe=>(ck (0<=((at' b.2.2 a).1)/\((at' b.2.2 a).1)<(d.length:Int)) (if e.1≠(at' d ((at' b.2.2 a).1))then(some (false))else(c (wI .i64 (a+(1:Int))))))))else(yW (()))
def DO (a:By) (b:bN):V1 V4:=
 Option.bind (Df U a.2.1 b false) λc=>(if c.1≠(2:Int)then(some (false))else(bG (uP U a b) U (0:Int)))
theorem acN:aX prog 102:=call102
theorem Qe {d:By} {p:bN} (o k m:V0) (r:V4) (h:DO U d p=some r):
  aZ prog 102 #[Value.agg #[vS (d.1),o,k],m] [Sl aS o d.2.1,Sl dZ k d.2.2,Sl cQ m p] (λx:Unit=>vB (r)) (λx l=>l) (λ_ l=>l):=by
 refine aZ.of func102 Z ntmps102 Z λc=>aT<|aK (aO.box (cs:=[vS (d.1),o,k]) Z Z) Z λB=>Q4 Z<|aI<|aT<|bD Z<|bY 0 Z<|aA Z<|dG h λy z h=>aK (zB8 WP (Pj U o m y z) Z (gK [0,2] Z)) Z λC=>aA Z<|fL Z<|fL Z<|aB Z<|Q4 Z<|Q5 Z<|lK Z<|aM<|eF h Z (λh=>?_) λh=>?_
 .refine Q3 Z<|aP<|aG ?_;cases h;exact mK Z
 refine bK<|aI<|cC (λn=>yW n=some r) (λn t=>[]) (λn t=>[]) ?_ ?_
 .refine aT<|bD Z<|bY 0 Z<|eL (iZ Z) Z<|aA Z<|aM<|aU<|eP (uP U d p) (λa g=>[(1,m),(21,k),(22,vI (d.2.2.length:Int)),(23,vI (a))]) (λa g=>[]) (0:Int) () h SF .nil ?_;intro w a g h;refine aT<|cX Z<|aM<|aI<|eF h Z (λh=>?_) λh=>?_
  .refine bK<|aI<|aU<|aT<|eX h λe h=>aC (a_ Z Z (iZ Z) Z Z e) Z<|xE (v:=k) (ds:=d.2.2) nF (iZ Z) λb=>jY (iQ ((fR (f:=lT) (iZ Z) e.1 e.2):aQ _ _ (Sl aS (at' b a) ((at' d.2.2 a).2))))<|aC (sS (cs:=[vI ((at' d.2.2 a).1),at' b a]) Z (iZ Z) Z Z Z Z e) Z<|aK (aO.alloc (cs:=[vI (0:Int),zU]) Z Z) Z λu=>eH (Know.one ((cG Z))) λi=>cO 0 (vs:=[vI ((at' d.2.2 a).1),at' b a]) Z Z (cI Z (cI i Z)) Z Z Z<|aM<|aT<|bD Z<|bY 0 Z<|aA Z<|dG h λq s h=>aK (zB8 WP (Pj U (at' b a) m q s) Z (gK [0,5] Z)) Z λA=>aA Z<|fL Z<|fL Z<|aB Z<|Q4 Z<|Q5 Z<|aA Z<|bD Z<|bY 0 Z<|eX h λj h=>aC (a_ Z Z (MU Z) Z Z j) Z<|aC (eC Z (MU Z) Z Z Z gC j) Z<|lK Z<|aM<|eF h Z (λh=>?_) λh=>?_
   .refine Q3 Z<|aP<|bB<|aG<|aG<|bB<|aG ?_;cases h;exact mK Z
   exact cZ<|jZ<|aL<|cP Z<|aA Z<|aM<|fI (wI .i64 (a+(1:Int))) () h SF .nil (gK [3,4,5] Z)
  exact fK<|cF () (()) h SF Z
 intro n t h;unfold yW at h;refine Q3 Z<|aP ?_;cases h;exact gM Z
def yL (a:Unit):V1 V4:=
 some (true)
def uF (b:By) (d:bN) (a:Int) (c:(Int)->V1 V4):V1 V4:=
 if a<(b.2.2.length:Int)then(ck (0<=a/\a<(b.2.2.length:Int)) (Option.bind (jR U ((at' b.2.2 a).2) (0:Int) d false) λe=>(ck (0<=a/\a<(b.2.2.length:Int)) (ck (0<=((at' b.2.2 a).1)/\((at' b.2.2 a).1)<(d.length:Int)) (if e≠(at' d ((at' b.2.2 a).1))then(some (false))else(c (wI .i64 (a+(1:Int)))))))))else(yL (()))
def DI (a:By) (b:bN):V1 V4:=
 Option.bind (jR U a.2.1 (0:Int) b false) λc=>(if c≠(2:Int)then(some (false))else(bG (uF U a b) U (0:Int)))
theorem adu:aX prog 194:=call194
theorem PX (U:Nat) {d:By} {p:bN} (k m n:V0) (r:Bool) (h:DI U d p=some r):
  aZ prog 194 #[Value.agg #[vS (d.1),k,m],n] [Sl aS k d.2.1,Sl dZ m d.2.2,Sl cQ n p] (λx:Unit=>vB (r)) (λx l=>l) (λ_ l=>l):=by
 refine aZ.of func194 Z ntmps194 Z λc=>?_;refine aT<|aK (aO.box (cs:=[vS (d.1),k,m]) Z Z) Z λu=>aB Z<|aM<|aI<|aT<|bD Z<|bY 0 Z<|aA Z<|dG h λA B h=>aK (zB8 EM (Ly U k n A B) Z (gK [0,2] Z)) Z λC=>lK Z<|aM ?_;refine eF h Z (λh=>?_) λh=>?_
 .refine aT<|aB Z<|aM<|aP<|aG ?_;cases h;exact mK Z
 refine bK<|aI<|cC (λo=>yL o=some r) (λo w=>[]) (λo w=>[]) ?_ ?_
 .refine aT<|aB Z<|aM<|aU<|eP (uF U d p) (λa g=>[(1,n),(2,vP u),(5,vI (a))]) (λa g=>[bU u [vS (d.1),k,m] 41]) (0:Int) () h SF (aW.refl _) ?_;intro y a g h;refine aI<|aT<|aA Z<|bD Z<|bY 0 Z<|eL (iZ Z) Z<|cX Z<|aM ?_;refine eF h Z (λh=>?_) λh=>?_
  .refine bK<|aI<|aU<|aI ?_;refine xP [0,1,0,7,15,31,0,127,0,0,512,0,3584,7680,15872,32512,65280,131071] 17 mixedOrders ?_;refine dA Z<|iH 0 Z<|bE Z<|eX h λb h=>bI Z .nil (jP 1 Z) (a_ Z Z (cG Z) Z Z b) aR.z<|iD Z (cB Z Z Z Z Z)<|Ob (v:=m) (ds:=d.2.2) nF (iZ Z) λe=>?_;refine JR.stp (iQ ((fR (f:=lT) (iZ Z) b.1 b.2):aQ _ _ (Sl aS (at' e a) ((at' d.2.2 a).2)))) ?_;refine bI Z .nil (jP 1 Z) (sZ (gv:=λx=>x) Z (cG Z) Z Z Z AF b) aR.z<|bE Z<|dG h λq s h=>zBa Z Z Z (zB8 EM (Ly U (at' e a) n q s) Z (gK [0,5] Z)) Z (λt=>(y_ [] Z)) λt=>iD Z (fN Z)<|iD Z (bR Z Z Z Z Z)<|bI Z (aW.cons 0 Z .nil) .nil (bX 0 Z Z Z Z Z) (aR.h (aW.ix [0] Z Z) .nil aR.z)<|iD Z (fN Z)<|eX h λi h=>bI Z .nil (jP 4 Z) (a_ Z Z (cG Z) Z Z i) (aR.h .nil (jP 4 Z) aR.z)<|iD Z (cB Z Z Z Z Z)<|bI Z .nil (jP 4 Z) (fW Z (cG Z) Z Z Z AD i) (aR.h .nil (jP 4 Z) aR.z)<|eX h λj h=>bI Z .nil (jP 5 Z) (a_ Z Z (cG Z) Z Z j) (aR.h .nil (jP 5 Z) aR.z)<|bI Z .nil (jP 5 Z) (eC Z (cG Z) Z Z Z gC j) (aR.h .nil (jP 5 Z) aR.z)<|bS 17 Z Z<|lK Z<|aM ?_;refine eF h Z (λh=>?_) λh=>?_
   .refine aT<|aB Z<|aM<|aP<|bB<|aG<|aG<|bB<|aG ?_;cases h;exact mK Z
   refine cZ<|jZ<|aL<|aA Z<|cP Z<|aB Z<|aM ?_;exact fI (wI .i64 (a+(1:Int))) () h SF (aW.refl _) (gK [3,4,5] Z)
  refine fK ?_;exact bQ () (()) h SF .nil (aE.refl _ _)
 intro o w h;unfold yL at h;refine aT<|aB Z<|aM<|aP ?_;cases h;exact gM Z
def uC (a:V4):V1 V4:=
 some (a)
def DF (U:Nat) (a:Int):V1 V4:=
 if a=(1:Int)then(uC (true))else(if a=(2:Int)then(uC (true))else(uC (decide (a=(3:Int)))))
theorem adB:aX prog 208:=call208
theorem PV {b:Int} (r:V4) (h:DF U b=some r):
  aZ prog 208 #[vI (b)] [] (λx:Unit=>vB (r)) (λx l=>l) (λ_ l=>l):=by
 refine aZ.of func208 Z ntmps208 Z λc=>Q3 Z<|aI<|cC (λa=>uC a=some r) (λa d=>[(2,vB (a))]) (λa d=>[]) ?_ ?_
 .refine aL<|aA Z<|bP Z<|aA Z<|mL h Z (λ_ h=>?_) λ_ h=>?_
  .exact aD Z<|aD Z<|bO Z<|aA Z<|aD Z<|aD Z<|bO Z<|Q4 Z<|cF (true) () h SF Z
  refine bH Z<|aF Z (oV Z Z) Z<|bT Z<|aA Z<|mL h Z (λ_ h=>?_) λ_ h=>?_
  .exact aD Z<|aD Z<|bO Z<|Q4 Z<|cF (true) () h SF Z
  exact bH Z<|aF Z (oV Z Z) Z<|bT Z<|Q4 Z<|cF (decide (b=(3:Int))) () h SF Z
 intro a d h;unfold uC at h;refine aP ?_;cases h;exact gM Z
end Go.Proofs.YtemmagadjnlajaaGreatDoor
namespace Go.Proofs.YtemmagadjnlajaaGreatDoor
open Go Go.Sx
theorem ahQ (F:Nat) {T pre post:V6 TM} {t:TM} {w:X} {a k:Nat} (y:w.ok) (g:T=pre++(w.ts++post)) (e:at' T ((pre.length:Nat):Int)=t) (D:T.length<=400) (B:450<=F) (h:Fu t.1=some a) (C:k<a) {e1 e2:Nat} (o:1<=k->IA T (pre.length+1)=(e1:Int)) (r:2<=k->IA T e1=(e2:Int)) (s:e1<=900) (u:e2<=900):
  sA F T ((pre.length:Nat):Int) (k:Int)=some (if k=0 then((pre.length+1:Nat):Int)else if k=1 then(e1:Int)else(e2:Int)):=by
 have v:=LW h;have E:=w.pos;have c:=congrArg List.length g;simp only[zA0]at c;unfold sA tZ;rw[aY (ahM F T pre.length V7 V7),Jt y g Z,Q0,Q0,Q6,e,aY (VX F t.1),mE h,if_neg Q1,Q7];obtain⟨F,rfl⟩:∃q,F=q+1+1+1:=⟨F - 3,V7⟩
 have n:((pre.length:Nat):Int)+1=((pre.length+1:Nat):Int):=V7
 rw[n];have m:∀(p:Nat) (j:Int) (b:dW->V1 Int) (q:Int),IA T p=q->j<(k:Int)->0<=j->lE (F+1+1+1) T (k:Int) (((p:Nat):Int),j) b=b (q,j+1):=by
  intro p j b q x f A;unfold lE;dsimp only;rw[if_pos f,aY (ahM _ T p V7 V7),x,Q7]
 have d:∀(p j:Int) (b:dW->V1 Int),¬j<(k:Int)->lE (F+1+1+1) T (k:Int) (p,j) b=some p:=by
  intro p j b f;unfold lE zO;dsimp only;rw[if_neg f]
 show lE _ T _ _ (bG _ (F+1+1))=_;by_cases i:k=0
 .subst i;rw[d _ _ _ Q2,if_pos Z]
 .rw[if_neg i,m _ _ _ _ (o V7) V7 V7];show lE _ T _ _ (bG _ (F+1))=_;by_cases l:k=1
  .subst l;rw[d _ _ _ Q2,if_pos Z]
  .rw[if_neg l,m _ _ _ _ (r V7) V7 V7];have z:k=2:=V7
   subst z;show lE _ T _ _ _=_;rw[d _ _ _ Q2]
theorem OQ (e:bN) {T:V6 TM} (i:T.length<=400):∀(x:X),x.ok->(∀t∈x.ts,EL e.length t=true)->∀(pre post:V6 TM) (b:V4) (a:Nat),T=pre++(x.ts++post)->x.depth+500<=a->
  jR a T ((pre.length:Nat):Int) e b=some (x.ty e b)
 | .lf t,hx,hA,pre,post,b,a,hT,hf=>by
  obtain⟨f,rfl⟩:∃f,a=f+1:=⟨a - 1,V7⟩
  have u:pre.length<T.length:=by rw[hT];simp[X.ts]
  have c:at' T ((pre.length:Nat):Int)=t:=by rw[hT];exact h_ pre post t _ Z
  show oS (jR f) f T _ e b=_;unfold oS;rw[Q6,c,aY (VX f t.1),mE hx,if_pos Q2,Q6,aY (afy f (t:=t) hx (hA t (by simp[X.ts])) b)];rfl
 | .un t x,hx,hA,pre,post,b,a,hT,hf=>by
  simp only[X.depth]at hf;obtain⟨f,rfl⟩:∃f,a=f+1:=⟨a - 1,V7⟩
  have d:=congrArg List.length hT;simp only[X.ts,zA0,zA3]at d;have c:at' T ((pre.length:Nat):Int)=t:=by rw[hT];exact h_ pre (x.ts++post) t _ Z
  have q:=λb=>OQ e i x hx.2 (λt g=>hA t (by simp[X.ts,g])) (pre++[t]) post b f (by rw[hT];simp[X.ts]) V7;have e1:wI .i64 (((pre.length:Nat):Int)+1)=(((pre++[t]).length:Nat):Int):=by rw[Q7];simp
  show oS (jR f) f T _ e b=_;generalize jR f=rc at q ⊢;unfold oS Aw;rw[Q6,c,aY (VX f t.1),mE hx.1,if_neg Q2,if_pos Q2,e1];cases b with
  |true=>rw[if_pos Z,aY (q true),aY (ajA f hx.1 _)];simp[X.ty]
  |false=>rw[if_neg Q2,aY (ajt f t.1),aY (q _),aY (ajA f hx.1 _)];simp[X.ty]
 | .bi t x y, hx, hA, pre, post, b, a, hT, hf =>by
  simp only[X.depth]at hf;obtain⟨f,rfl⟩:∃f,a=f+1:=⟨a - 1,V7⟩
  have d:=congrArg List.length hT;simp only[X.ts,zA0,zA3]at d;have c:at' T ((pre.length:Nat):Int)=t:=by rw[hT];exact h_ pre (x.ts++y.ts++post) t _ Z
  have j:=OQ e i x hx.2.1 (λt g=>hA t (by simp[X.ts,g])) (pre++[t]) (y.ts++post) b f (by rw[hT];simp[X.ts]) V7;have l:=OQ e i y hx.2.2 (λt g=>hA t (by simp[X.ts,g])) (pre++t::x.ts) post b f (by rw[hT];simp[X.ts]) V7;have e1:wI .i64 (((pre.length:Nat):Int)+1)=(((pre++[t]).length:Nat):Int):=by rw[Q7];simp
  have p:IA T (pre.length+1)=(((pre++t::x.ts).length:Nat):Int):=by
   rw[Jt (x:=x) (pre:=pre++[t]) (post:=y.ts++post) hx.2.1 (by rw[hT];simp[X.ts]) V8];simp;omega
  have m:=ahQ f (w:= .bi t x y) (k:=1) (e1:=(pre++t::x.ts).length) (e2:=0) hx hT c i V7 hx.1 Q2 (λ_=>p) (λh=>V7) Q1 V7;rw[if_neg Q2,if_pos Z]at m;show oS (jR f) f T _ e b=_;generalize jR f=rc at j l ⊢;unfold oS;rw[Q6,c,aY (VX f t.1),mE hx.1,if_neg Q2,if_neg Q2,if_pos Q2,e1,aY j,show(1:Int)=((1:Nat):Int)from rfl,aY m,aY l,aY (alu f hx.1 _ _)];rfl
 | .tr t x y z, hx, hA, pre, post, b, a, hT, hf =>by
  simp only[X.depth]at hf;obtain⟨f,rfl⟩:∃f,a=f+1:=⟨a - 1,V7⟩
  have d:=congrArg List.length hT;simp only[X.ts,zA0,zA3]at d;have c:at' T ((pre.length:Nat):Int)=t:=by rw[hT];exact h_ pre (x.ts++(y.ts++z.ts)++post) t _ Z
  have j:=OQ e i x hx.2.1 (λt g=>hA t (by simp[X.ts,g])) (pre++[t]) (y.ts++z.ts++post) b f (by rw[hT];simp[X.ts]) V7;have l:=OQ e i y hx.2.2.1 (λt g=>hA t (by simp[X.ts,g])) (pre++t::x.ts) (z.ts++post) b f (by rw[hT];simp[X.ts]) V7;have r:=OQ e i z hx.2.2.2 (λt g=>hA t (by simp[X.ts,g])) (pre++t::(x.ts++y.ts)) post b f (by rw[hT];simp[X.ts]) V7;have e1:wI .i64 (((pre.length:Nat):Int)+1)=(((pre++[t]).length:Nat):Int):=by rw[Q7];simp
  have p:IA T (pre.length+1)=(((pre++t::x.ts).length:Nat):Int):=by
   rw[Jt (x:=x) (pre:=pre++[t]) (post:=y.ts++z.ts++post) hx.2.1 (by rw[hT];simp[X.ts]) V8];simp;omega
  have v:IA T (pre++t::x.ts).length=(((pre++t::(x.ts++y.ts)).length:Nat):Int):=by
   rw[Jt (x:=y) (pre:=pre++t::x.ts) (post:=z.ts++post) hx.2.2.1 (by rw[hT];simp[X.ts]) Z];simp;omega
  have m:=ahQ f (w:= .tr t x y z) (k:=1) (e1:=(pre++t::x.ts).length) (e2:=0) hx hT c i V7 hx.1 Q2 (λ_=>p) (λh=>V7) Q1 V7;have s:=ahQ f (w:= .tr t x y z) (k:=2) (e1:=(pre++t::x.ts).length) (e2:=(pre++t::(x.ts++y.ts)).length) hx hT c i V7 hx.1 Q2 (λ_=>p) (λ_=>v) Q1 Q1;rw[if_neg Q2,if_pos Z]at m;rw[if_neg Q2,if_neg Q2]at s;show oS (jR f) f T _ e b=_;generalize jR f=rc at j l r ⊢;unfold oS DW;rw[Q6,c,aY (VX f t.1),mE hx.1,if_neg Q2,if_neg Q2,if_neg Q2,e1,aY j,show(1:Int)=((1:Nat):Int)from rfl,aY m,aY l,show(2:Int)=((2:Nat):Int)from rfl,aY s,aY r];simp only[X.ty,Y_];by_cases n:x.ty e b=2
  .rw[if_neg (by simpa using n)];by_cases o:y.ty e b=z.ty e b
   .rw[if_neg (by simpa using o),if_pos ⟨n,o⟩]
   .rw[if_pos (by simpa using o),if_neg (λh=>o h.2)]
  .rw[if_pos (by simpa using n),if_pos trivial,if_neg (λh=>n h.1)]
def US (k:Int):V4:=decide (k=1\/k=2\/k=3)
theorem ajP (F:Nat) (k:Int):tW F k=some (US k):=by
 unfold tW pO US;by_cases a:k=1
 .simp[a]
 .by_cases b:k=2
  .simp[b]
  .simp[a,b]
theorem ahO (F:Nat) (k:Int):DF F k=some (US k):=by
 unfold DF uC US;by_cases a:k=1
 .simp[a]
 .by_cases b:k=2
  .simp[b]
  .simp[a,b]
theorem aeE (F:Nat) (e:V6 TM) (d:bN) (b:V4):∀(l c:bN) (a:Nat),d=c++l->d.length<=900->(∀k∈l,US k=true)->l.length<a->bG (qJ F e d b) a ((c.length:Nat):Int)=GJ F e d b ():=by
 intro l
 induction l with
 |nil=>
  intro c a h n i m;obtain⟨f,rfl⟩:∃f,a=f+1:=⟨a - 1,V7⟩
  show qJ F e d b _ _=_;unfold qJ;rw[if_neg (by rw[h];simp)]
 |cons k l p=>
  intro c a h n i m;simp only[zA3]at m;obtain⟨f,rfl⟩:∃f,a=f+1:=⟨a - 1,V7⟩
  have o:c.length<d.length:=by rw[h];simp
  have g:=p (c++[k]) f (by rw[h];simp) n (λk j=>i k (by simp[j])) V7;show qJ F e d b _ (bG (qJ F e d b) f)=_;generalize bG (qJ F e d b) f=ag at g ⊢;unfold qJ;rw[Q8,Q6,show at' d ((c.length:Nat):Int)=k by rw[h];exact h_ c l k _ Z,aY (ajP F k),i k V8,if_neg Q2,Q7,show(((c.length:Nat):Int)+1)=(((c++[k]).length:Nat):Int) by simp,g]
theorem tOf (F:Nat) {e:V6 TM} {x:X} {a:bN} (h:XV a.length e x) (o:∀k∈a,US k=true) (s:a.length<=6) (b:V4) (n:1000<=F):Df F e a b=some (x.ty a b,if x.ty a b=0 then 6 else 0):=by
 have r:=h;have⟨j,g,l,t,u,m⟩:=r;unfold Df;have f:bG (qJ F e a b) F (0:Int)=_:=aeE F e a b a [] F Z V7 o V7;rw[Q0,f];unfold GJ;have⟨v,q,_,d⟩:=KF F e a.length V7 n;have i:=d.2 ⟨x,h⟩;subst i;have p:eV F (e,a) (0:Int) b=some (x.ty a b,_):=OY a (T:=e) V7 x g (by rw[<-l];exact m) [] [] b F (by simp[l]) V7;rw[aY q,if_neg Q2,aY p];dsimp only;by_cases c:x.ty a b=0
 .rw[if_pos c,if_pos c,c]
 .rw[if_neg c,if_neg c]
theorem rKd (F:Nat) {e:V6 TM} {x:X} {a:bN} (h:XV a.length e x) (b:V4) (i:1000<=F):jR F e 0 a b=some (x.ty a b):=by
 have⟨d,c,f,j,k,g⟩:=h;exact OQ a (T:=e) V7 x c (by rw[<-f];exact g) [] [] b F (by simp[f]) V7
end Go.Proofs.YtemmagadjnlajaaGreatDoor
namespace Go.Proofs.YtemmagadjnlajaaGreatDoor
open Go.Sx
def nL (a:V4):V1 V4:=
 some (a)
def xT (U:Nat) (a:Int):V1 V4:=
 if(97:Int)<=a then(if a<=(122:Int)then(nL (true))else(if(65:Int)<=a then(nL (decide (a<=(90:Int))))else(nL (false))))else(if(65:Int)<=a then(nL (decide (a<=(90:Int))))else(nL (false)))
theorem WN:aX prog 132:=call132
theorem Jc {b:Int} (r:V4) (h:xT U b=some r):
  aZ prog 132 #[Value.int .u8 (b)] [] (λx:Unit=>vB (r)) (λx l=>l) (λ_ l=>l):=by
 refine aZ.of func132 Z ntmps132 Z λc=>Q3 Z<|aI<|cC (λa=>nL a=some r) (λa d=>[(2,vB (a))]) (λa d=>[]) ?_ ?_
 .refine aL<|aA Z<|aC (lD Z Z) Z<|aA Z<|mL h Z (λ_ h=>?_) λ_ h=>?_
  .refine bH Z<|aF Z (nH Z Z) Z<|bO Z<|aA Z<|mL h Z (λ_ h=>?_) λ_ h=>?_
   .refine aD Z<|aD Z<|aD Z<|Bg (h:= ?_);refine Bg (h:= ?_);exact aD Z<|bO Z<|Q4 Z<|cF (true) () h SF Z
   refine bH Z<|aF Z (lD Z Z) Z<|bH Z<|mL h Z (λ_ h=>?_) λ_ h=>?_
   .exact bH Z<|aF Z (nH Z Z) Z<|aF Z (wR Z Z) Z<|bT Z<|Q4 Z<|cF (decide (b<=(90:Int))) () h SF Z
   exact aD Z<|aD Z<|aF Z (sG Z Z) Z<|bT Z<|Q4 Z<|cF (false) () h SF Z
  refine aD Z<|aD Z<|bT Z<|aA Z<|bH Z<|aF Z (lD Z Z) Z<|bH Z<|mL h Z (λ_ h=>?_) λ_ h=>?_
  .exact bH Z<|aF Z (nH Z Z) Z<|aF Z (wR Z Z) Z<|bT Z<|Q4 Z<|cF (decide (b<=(90:Int))) () h SF Z
  exact aD Z<|aD Z<|aF Z (sG Z Z) Z<|bT Z<|Q4 Z<|cF (false) () h SF Z
 intro a d h;unfold nL at h;refine aP ?_;cases h;exact gM Z
def xQ (a:V4):V1 V4:=
 some (a)
def Dx (U:Nat) (a:Int):V1 V4:=
 if(48:Int)<=a then(xQ (decide (a<=(57:Int))))else(xQ (false))
theorem adf:aX prog 134:=call134
theorem PN {b:Int} (r:V4) (h:Dx U b=some r):
  aZ prog 134 #[Value.int .u8 (b)] [] (λx:Unit=>vB (r)) (λx l=>l) (λ_ l=>l):=by
 refine aZ.of func134 Z ntmps134 Z λc=>Q3 Z<|aI<|cC (λa=>xQ a=some r) (λa d=>[(2,vB (a))]) (λa d=>[]) ?_ ?_
 .refine aL<|aA Z<|aC (lD Z Z) Z<|aA Z<|mL h Z (λ_ h=>?_) λ_ h=>?_
  .exact bH Z<|aF Z (nH Z Z) Z<|bO Z<|Q4 Z<|cF (decide (b<=(57:Int))) () h SF Z
  exact aD Z<|aD Z<|bT Z<|Q4 Z<|cF (false) () h SF Z
 intro a d h;unfold xQ at h;refine aP ?_;cases h;exact gM Z
def r_ (a:V4):V1 V4:=
 some (a)
def BV (a:Int):V1 V4:=
 Option.bind (xT U a) λb=>(if b=true then(r_ (true))else(Option.bind (Dx U a) λc=>(if c=true then(r_ (true))else(r_ (decide (a=(95:Int)))))))
theorem ade:aX prog 133:=call133
theorem O_ {e:Int} (r:V4) (h:BV U e=some r):
  aZ prog 133 #[Value.int .u8 (e)] [] (λx:Unit=>vB (r)) (λx l=>l) (λ_ l=>l):=by
 refine aZ.of func133 Z ntmps133 Z λc=>Q3 Z<|aI<|cC (λd=>r_ d=some r) (λd f=>[(2,vB (d))]) (λd f=>[]) ?_ ?_
 .refine aL<|aA Z<|dG h λg j h=>aK (zB8 WN (Jc U g j) Z .nil) Z λn=>aA Z<|iO (by exact rfl) (by exact rfl) (λb=>?_) (λb=>?_)
  .have h:=Bt b h;exact aD Z<|aD Z<|bO Z<|aA Z<|aD Z<|aD Z<|bO Z<|Q4 Z<|cF (true) () h SF Z
  have h:=w_ b h;refine bH Z<|dG h λi k h=>fU Z (zB8 adf (PN U i k) Z .nil) Z λm=>bT Z<|aA Z<|iO (by exact rfl) (by exact rfl) (λa=>?_) (λa=>?_)
  .have h:=Bt a h;exact aD Z<|aD Z<|bO Z<|Q4 Z<|cF (true) () h SF Z
  have h:=w_ a h;exact bH Z<|aF Z (oV Z Z) Z<|bT Z<|Q4 Z<|cF (decide (e=(95:Int))) () h SF Z
 intro d f h;unfold r_ at h;refine aP ?_;cases h;exact gM Z
def gU (a:V4):V1 V4:=
 if a=true then(some (true))else(some (false))
def iJ (a:ByteArray) (b:V4):V1 V4:=
 if b=true then(some (true))else(if(gN a (ByteArray.mk #[97,108,108]))=true then(gU ((gN a (ByteArray.mk #[97,108,108]))))else(if(gN a (ByteArray.mk #[115,111,109,101]))=true then(gU ((gN a (ByteArray.mk #[115,111,109,101]))))else(if(gN a (ByteArray.mk #[99,111,117,110,116]))=true then(gU ((gN a (ByteArray.mk #[99,111,117,110,116]))))else(if(gN a (ByteArray.mk #[102,105,114,115,116]))=true then(gU ((gN a (ByteArray.mk #[102,105,114,115,116]))))else(if(gN a (ByteArray.mk #[109,105,110]))=true then(gU ((gN a (ByteArray.mk #[109,105,110]))))else(if(gN a (ByteArray.mk #[109,97,120]))=true then(gU ((gN a (ByteArray.mk #[109,97,120]))))else(if(gN a (ByteArray.mk #[115,117,109]))=true then(gU ((gN a (ByteArray.mk #[115,117,109]))))else(if(gN a (ByteArray.mk #[109,101,120]))=true then(gU ((gN a (ByteArray.mk #[109,101,120]))))else(if(gN a (ByteArray.mk #[115,101,99,111,110,100]))=true then(gU ((gN a (ByteArray.mk #[115,101,99,111,110,100]))))else(gU ((gN a (ByteArray.mk #[104,101,97,100])))))))))))))
def iI (a:ByteArray) (b:V4):V1 V4:=
 if b=true then(some (true))else(if(gN a (ByteArray.mk #[110]))=true then(iJ a ((gN a (ByteArray.mk #[110]))))else(if(gN a (ByteArray.mk #[105,100,115]))=true then(iJ a ((gN a (ByteArray.mk #[105,100,115]))))else(if(gN a (ByteArray.mk #[105,100]))=true then(iJ a ((gN a (ByteArray.mk #[105,100]))))else(if(gN a (ByteArray.mk #[100,101,103]))=true then(iJ a ((gN a (ByteArray.mk #[100,101,103]))))else(if(gN a (ByteArray.mk #[114,111,111,116]))=true then(iJ a ((gN a (ByteArray.mk #[114,111,111,116]))))else(if(gN a (ByteArray.mk #[113]))=true then(iJ a ((gN a (ByteArray.mk #[113]))))else(if(gN a (ByteArray.mk #[119,101,105,103,104,116]))=true then(iJ a ((gN a (ByteArray.mk #[119,101,105,103,104,116]))))else(iJ a ((gN a (ByteArray.mk #[98,97,99,107])))))))))))
def zG (U:Nat) (a:ByteArray):V1 V4:=
 if(gN a (ByteArray.mk #[112,114,111,103,114,97,109]))=true then(iI a ((gN a (ByteArray.mk #[112,114,111,103,114,97,109]))))else(if(gN a (ByteArray.mk #[118,97,114]))=true then(iI a ((gN a (ByteArray.mk #[118,97,114]))))else(if(gN a (ByteArray.mk #[114,117,108,101]))=true then(iI a ((gN a (ByteArray.mk #[114,117,108,101]))))else(if(gN a (ByteArray.mk #[98,111,111,108]))=true then(iI a ((gN a (ByteArray.mk #[98,111,111,108]))))else(if(gN a (ByteArray.mk #[112,111,114,116]))=true then(iI a ((gN a (ByteArray.mk #[112,111,114,116]))))else(if(gN a (ByteArray.mk #[116,114,117,101]))=true then(iI a ((gN a (ByteArray.mk #[116,114,117,101]))))else(if(gN a (ByteArray.mk #[102,97,108,115,101]))=true then(iI a ((gN a (ByteArray.mk #[102,97,108,115,101]))))else(iI a ((gN a (ByteArray.mk #[110,111,110,101]))))))))))
theorem adl:aX prog 170:=call170
theorem My {a:ByteArray} (r:V4) (h:zG U a=some r):
  aZ prog 170 #[vS (a)] [] (λx:Unit=>vB (r)) (λx l=>l) (λ_ l=>l):=by
 refine aZ.of func170 Z ntmps170 Z λc=>Q3 Z<|aI<|Q5 Z<|aM<|aU<|aI<|cC (λd=>iI a d=some r) (λd g=>[(3,vS (a)),(4,vB (d))]) (λd g=>[]) ?_ ?_
 .refine aT<|aC (fV Z Z) Z<|Q4 Z<|iA h Z (λ_ h=>?_) λ_ h=>?_
  .exact bK<|cF ((gN a (ByteArray.mk #[112,114,111,103,114,97,109]))) () h SF Z
  refine aT<|aC (fV Z Z) Z<|Q4 Z<|iA h Z (λ_ h=>?_) λ_ h=>?_
  .exact bK<|cF ((gN a (ByteArray.mk #[118,97,114]))) () h SF Z
  refine aT<|aC (fV Z Z) Z<|Q4 Z<|iA h Z (λ_ h=>?_) λ_ h=>?_
  .exact bK<|cF ((gN a (ByteArray.mk #[114,117,108,101]))) () h SF Z
  refine aT<|aC (fV Z Z) Z<|Q4 Z<|iA h Z (λ_ h=>?_) λ_ h=>?_
  .exact bK<|cF ((gN a (ByteArray.mk #[98,111,111,108]))) () h SF Z
  refine aT<|aC (fV Z Z) Z<|Q4 Z<|iA h Z (λ_ h=>?_) λ_ h=>?_
  .exact bK<|cF ((gN a (ByteArray.mk #[112,111,114,116]))) () h SF Z
  refine aT<|aC (fV Z Z) Z<|Q4 Z<|iA h Z (λ_ h=>?_) λ_ h=>?_
  .exact bK<|cF ((gN a (ByteArray.mk #[116,114,117,101]))) () h SF Z
  refine aT<|aC (fV Z Z) Z<|Q4 Z<|iA h Z (λ_ h=>?_) λ_ h=>?_
  .exact bK<|cF ((gN a (ByteArray.mk #[102,97,108,115,101]))) () h SF Z
  exact aL<|aC (fV Z Z) Z<|Q4 Z<|cF ((gN a (ByteArray.mk #[110,111,110,101]))) () h SF Z
 intro d g h;refine iA h Z (λ_ h=>?_) λ_ h=>?_
 .refine Q3 Z<|aP<|bB<|aG ?_;cases h;exact gM Z
 refine aI<|cC (λe=>iJ a e=some r) (λe i=>[(3,vS (a)),(13,vB (e))]) (λe i=>[]) ?_ ?_
 .refine aT<|aC (fV Z Z) Z<|Q4 Z<|iA h Z (λ_ h=>?_) λ_ h=>?_
  .exact bK<|cF ((gN a (ByteArray.mk #[110]))) () h SF Z
  refine aT<|aC (fV Z Z) Z<|Q4 Z<|iA h Z (λ_ h=>?_) λ_ h=>?_
  .exact bK<|cF ((gN a (ByteArray.mk #[105,100,115]))) () h SF Z
  refine aT<|aC (fV Z Z) Z<|Q4 Z<|iA h Z (λ_ h=>?_) λ_ h=>?_
  .exact bK<|cF ((gN a (ByteArray.mk #[105,100]))) () h SF Z
  refine aT<|aC (fV Z Z) Z<|Q4 Z<|iA h Z (λ_ h=>?_) λ_ h=>?_
  .exact bK<|cF ((gN a (ByteArray.mk #[100,101,103]))) () h SF Z
  refine aT<|aC (fV Z Z) Z<|Q4 Z<|iA h Z (λ_ h=>?_) λ_ h=>?_
  .exact bK<|cF ((gN a (ByteArray.mk #[114,111,111,116]))) () h SF Z
  refine aT<|aC (fV Z Z) Z<|Q4 Z<|iA h Z (λ_ h=>?_) λ_ h=>?_
  .exact bK<|cF ((gN a (ByteArray.mk #[113]))) () h SF Z
  refine aT<|aC (fV Z Z) Z<|Q4 Z<|iA h Z (λ_ h=>?_) λ_ h=>?_
  .exact bK<|cF ((gN a (ByteArray.mk #[119,101,105,103,104,116]))) () h SF Z
  exact aL<|aC (fV Z Z) Z<|Q4 Z<|cF ((gN a (ByteArray.mk #[98,97,99,107]))) () h SF Z
 intro e i h;refine iA h Z (λ_ h=>?_) λ_ h=>?_
 .refine Q3 Z<|aP<|bB<|aG ?_;cases h;exact gM Z
 refine aI<|cC (λb=>gU b=some r) (λb f=>[(22,vB (b))]) (λb f=>[]) ?_ ?_
 .refine aT<|aC (fV Z Z) Z<|Q4 Z<|iA h Z (λ_ h=>?_) λ_ h=>?_
  .exact bK<|cF ((gN a (ByteArray.mk #[97,108,108]))) () h SF Z
  refine aT<|aC (fV Z Z) Z<|Q4 Z<|iA h Z (λ_ h=>?_) λ_ h=>?_
  .exact bK<|cF ((gN a (ByteArray.mk #[115,111,109,101]))) () h SF Z
  refine aT<|aC (fV Z Z) Z<|Q4 Z<|iA h Z (λ_ h=>?_) λ_ h=>?_
  .exact bK<|cF ((gN a (ByteArray.mk #[99,111,117,110,116]))) () h SF Z
  refine aT<|aC (fV Z Z) Z<|Q4 Z<|iA h Z (λ_ h=>?_) λ_ h=>?_
  .exact bK<|cF ((gN a (ByteArray.mk #[102,105,114,115,116]))) () h SF Z
  refine aT<|aC (fV Z Z) Z<|Q4 Z<|iA h Z (λ_ h=>?_) λ_ h=>?_
  .exact bK<|cF ((gN a (ByteArray.mk #[109,105,110]))) () h SF Z
  refine aT<|aC (fV Z Z) Z<|Q4 Z<|iA h Z (λ_ h=>?_) λ_ h=>?_
  .exact bK<|cF ((gN a (ByteArray.mk #[109,97,120]))) () h SF Z
  refine aT<|aC (fV Z Z) Z<|Q4 Z<|iA h Z (λ_ h=>?_) λ_ h=>?_
  .exact bK<|cF ((gN a (ByteArray.mk #[115,117,109]))) () h SF Z
  refine aT<|aC (fV Z Z) Z<|Q4 Z<|iA h Z (λ_ h=>?_) λ_ h=>?_
  .exact bK<|cF ((gN a (ByteArray.mk #[109,101,120]))) () h SF Z
  refine aT<|aC (fV Z Z) Z<|Q4 Z<|iA h Z (λ_ h=>?_) λ_ h=>?_
  .exact bK<|cF ((gN a (ByteArray.mk #[115,101,99,111,110,100]))) () h SF Z
  exact aL<|aC (fV Z Z) Z<|Q4 Z<|cF ((gN a (ByteArray.mk #[104,101,97,100]))) () h SF Z
 intro b f h;refine iA h Z (λ_ h=>?_) λ_ h=>?_
 .refine Q3 Z<|aP<|bB<|aG ?_;cases h;exact gM Z
 refine cZ<|jZ<|Q3 Z<|aP ?_;cases h;exact gM Z
def Du (a:ByteArray) (c:Unit):V1 V4:=
 Option.bind (zG U a) λb=>(some ((!b)))
def Ak (c:ByteArray) (a:Int) (b:(Int)->V1 V4):V1 V4:=
 if a<((ByteArray.size c:Nat):Int)then(ck (0<=a/\a<((ByteArray.size c:Nat):Int)) (Option.bind (BV U (PH c a)) λd=>(if(!d)=true then(some (false))else(b (wI .i64 (a+(1:Int)))))))else(Du U c (()))
def Aj (b:ByteArray) (a:V4):V1 V4:=
 if a=true then(some (false))else(bG (Ak U b) U (0:Int))
def zF (a:ByteArray):V1 V4:=
 if((ByteArray.size a:Nat):Int)<(1:Int)then(Aj U a (true))else(if(24:Int)<((ByteArray.size a:Nat):Int)then(Aj U a (true))else(ck (0<=(0:Int)/\(0:Int)<((ByteArray.size a:Nat):Int)) (Option.bind (xT U (PH a (0:Int))) λb=>(Aj U a ((!b))))))
theorem Rn:aX prog 140:=call140
theorem Il {b:ByteArray} (r:V4) (h:zF U b=some r):
  aZ prog 140 #[vS (b)] [] (λx:Unit=>vB (r)) (λx l=>l) (λ_ l=>l):=by
 refine aZ.of func140 Z ntmps140 Z λc=>Q3 Z<|aI<|aI<|cC (λd=>Aj U b d=some r) (λd o=>[(0,vS (b)),(17,vB (d))]) (λd o=>[]) ?_ ?_
 .refine aL<|aA Z<|aC (BG Z Z) Z<|cX Z<|aA Z<|mL h Z (λ_ h=>?_) λ_ h=>?_
  .exact aD Z<|aD Z<|aD Z<|bO Z<|aA Z<|aD Z<|aD Z<|aD Z<|aD Z<|bO Z<|aM<|cF (true) () h SF Z
  refine bH Z<|aF Z (BG Z Z) Z<|aF Z (mA Z Z) Z<|bT Z<|aA Z<|mL h Z (λ_ h=>?_) λ_ h=>?_
  .exact aD Z<|aD Z<|aD Z<|aD Z<|bO Z<|aM<|cF (true) () h SF Z
  exact bH Z<|eX h λj h=>aF Z (Ny Z Z Z j) Z<|dG h λf n h=>fU Z (zB8 WN (Jc U f n) Z .nil) Z λv=>aF Z (fF Z) Z<|bT Z<|aM<|cF ((!f)) () h SF Z
 intro d o h;refine iA h Z (λ_ h=>?_) λ_ h=>?_
 .refine Q3 Z<|aP<|aG ?_;cases h;exact gM Z
 refine bK<|aI<|cC (λg=>Du U b g=some r) (λg p=>[(0,vS (b))]) (λg p=>[]) ?_ ?_
 .refine Q5 Z<|aC (BG Z Z) Z<|aA Z<|aM<|aU<|eP (Ak U b) (λa e=>[(0,vS (b)),(19,vI ((ByteArray.size b:Nat):Int)),(20,vI (a))]) (λa e=>[]) (0:Int) () h SF (aW.refl _) ?_;intro q a e h;refine aT<|cX Z<|aM<|aI<|eF h Z (λh=>?_) λh=>?_
  .refine bK<|aI<|aU<|Q5 Z<|Q4 Z<|Q5 Z<|aA Z<|eX h λi h=>aC (Ny Z Z Z i) Z<|dG h λk m h=>aK (zB8 ade (O_ U k m) Z .nil) Z λu=>aC (fF Z) Z<|aM<|iA h Z (λ_ h=>?_) λ_ h=>?_
   .refine Q3 Z<|aP<|bB<|aG<|aG<|bB<|aG ?_;cases h;exact gM Z
   exact cZ<|jZ<|aL<|cP Z<|aA Z<|aM<|Ac (wI .i64 (a+(1:Int))) () h SF Z
  exact fK<|cF () (()) h SF Z
 intro g p h;refine Q5 Z<|dG h λs t h=>aK (zB8 adl (My U s t) Z .nil) Z λw=>aC (fF Z) Z<|Q4 Z<|aP ?_;cases h;exact gM Z
def nM (a:V4):V1 V4:=
 some (a)
def xU (U:Nat) (a:Int):V1 V4:=
 if(97:Int)<=a then(if a<=(122:Int)then(nM (true))else(if(65:Int)<=a then(nM (decide (a<=(90:Int))))else(nM (false))))else(if(65:Int)<=a then(nM (decide (a<=(90:Int))))else(nM (false)))
theorem WZ:aX prog 217:=call217
theorem Je {b:Int} (r:V4) (h:xU U b=some r):
  aZ prog 217 #[Value.int .u8 (b)] [] (λx:Unit=>vB (r)) (λx l=>l) (λ_ l=>l):=by
 refine aZ.of func217 Z ntmps217 Z λc=>Q3 Z<|aI<|cC (λa=>nM a=some r) (λa d=>[(2,vB (a))]) (λa d=>[]) ?_ ?_
 .refine aL<|aA Z<|aC (lD Z Z) Z<|aA Z<|mL h Z (λ_ h=>?_) λ_ h=>?_
  .refine bH Z<|aF Z (nH Z Z) Z<|bO Z<|aA Z<|mL h Z (λ_ h=>?_) λ_ h=>?_
   .refine aD Z<|aD Z<|aD Z<|Bg (h:= ?_);refine Bg (h:= ?_);exact aD Z<|bO Z<|Q4 Z<|cF (true) () h SF Z
   refine bH Z<|aF Z (lD Z Z) Z<|bH Z<|mL h Z (λ_ h=>?_) λ_ h=>?_
   .exact bH Z<|aF Z (nH Z Z) Z<|aF Z (wR Z Z) Z<|bT Z<|Q4 Z<|cF (decide (b<=(90:Int))) () h SF Z
   exact aD Z<|aD Z<|aF Z (sG Z Z) Z<|bT Z<|Q4 Z<|cF (false) () h SF Z
  refine aD Z<|aD Z<|bT Z<|aA Z<|bH Z<|aF Z (lD Z Z) Z<|bH Z<|mL h Z (λ_ h=>?_) λ_ h=>?_
  .exact bH Z<|aF Z (nH Z Z) Z<|aF Z (wR Z Z) Z<|bT Z<|Q4 Z<|cF (decide (b<=(90:Int))) () h SF Z
  exact aD Z<|aD Z<|aF Z (sG Z Z) Z<|bT Z<|Q4 Z<|cF (false) () h SF Z
 intro a d h;unfold nM at h;refine aP ?_;cases h;exact gM Z
def yE (a:V4):V1 V4:=
 some (a)
def Dy (U:Nat) (a:Int):V1 V4:=
 if(48:Int)<=a then(yE (decide (a<=(57:Int))))else(yE (false))
theorem adK:aX prog 233:=call233
theorem PP {b:Int} (r:V4) (h:Dy U b=some r):
  aZ prog 233 #[Value.int .u8 (b)] [] (λx:Unit=>vB (r)) (λx l=>l) (λ_ l=>l):=by
 refine aZ.of func233 Z ntmps233 Z λc=>Q3 Z<|aI<|cC (λa=>yE a=some r) (λa d=>[(2,vB (a))]) (λa d=>[]) ?_ ?_
 .refine aL<|aA Z<|aC (lD Z Z) Z<|aA Z<|mL h Z (λ_ h=>?_) λ_ h=>?_
  .exact bH Z<|aF Z (nH Z Z) Z<|bO Z<|Q4 Z<|cF (decide (b<=(57:Int))) () h SF Z
  exact aD Z<|aD Z<|bT Z<|Q4 Z<|cF (false) () h SF Z
 intro a d h;unfold yE at h;refine aP ?_;cases h;exact gM Z
def tY (a:V4):V1 V4:=
 some (a)
def Dz (a:Int):V1 V4:=
 Option.bind (xU U a) λb=>(if b=true then(tY (true))else(Option.bind (Dy U a) λc=>(if c=true then(tY (true))else(tY (decide (a=(95:Int)))))))
theorem adD:aX prog 218:=call218
theorem PQ {e:Int} (r:V4) (h:Dz U e=some r):
  aZ prog 218 #[Value.int .u8 (e)] [] (λx:Unit=>vB (r)) (λx l=>l) (λ_ l=>l):=by
 refine aZ.of func218 Z ntmps218 Z λc=>Q3 Z<|aI<|cC (λd=>tY d=some r) (λd f=>[(2,vB (d))]) (λd f=>[]) ?_ ?_
 .refine aL<|aA Z<|dG h λg j h=>aK (zB8 WZ (Je U g j) Z .nil) Z λn=>aA Z<|iO (by exact rfl) (by exact rfl) (λb=>?_) (λb=>?_)
  .have h:=Bt b h;exact aD Z<|aD Z<|bO Z<|aA Z<|aD Z<|aD Z<|bO Z<|Q4 Z<|cF (true) () h SF Z
  have h:=w_ b h;refine bH Z<|dG h λi k h=>fU Z (zB8 adK (PP U i k) Z .nil) Z λm=>bT Z<|aA Z<|iO (by exact rfl) (by exact rfl) (λa=>?_) (λa=>?_)
  .have h:=Bt a h;exact aD Z<|aD Z<|bO Z<|Q4 Z<|cF (true) () h SF Z
  have h:=w_ a h;exact bH Z<|aF Z (oV Z Z) Z<|bT Z<|Q4 Z<|cF (decide (e=(95:Int))) () h SF Z
 intro d f h;unfold tY at h;refine aP ?_;cases h;exact gM Z
def gV (a:V4):V1 V4:=
 if a=true then(some (true))else(some (false))
def dR (a:ByteArray) (b:V4):V1 V4:=
 if b=true then(some (true))else(if(gN a (ByteArray.mk #[97,108,108]))=true then(gV ((gN a (ByteArray.mk #[97,108,108]))))else(if(gN a (ByteArray.mk #[115,111,109,101]))=true then(gV ((gN a (ByteArray.mk #[115,111,109,101]))))else(if(gN a (ByteArray.mk #[99,111,117,110,116]))=true then(gV ((gN a (ByteArray.mk #[99,111,117,110,116]))))else(if(gN a (ByteArray.mk #[102,105,114,115,116]))=true then(gV ((gN a (ByteArray.mk #[102,105,114,115,116]))))else(if(gN a (ByteArray.mk #[109,105,110]))=true then(gV ((gN a (ByteArray.mk #[109,105,110]))))else(if(gN a (ByteArray.mk #[109,97,120]))=true then(gV ((gN a (ByteArray.mk #[109,97,120]))))else(if(gN a (ByteArray.mk #[115,117,109]))=true then(gV ((gN a (ByteArray.mk #[115,117,109]))))else(if(gN a (ByteArray.mk #[109,101,120]))=true then(gV ((gN a (ByteArray.mk #[109,101,120]))))else(if(gN a (ByteArray.mk #[115,101,99,111,110,100]))=true then(gV ((gN a (ByteArray.mk #[115,101,99,111,110,100]))))else(gV ((gN a (ByteArray.mk #[104,101,97,100])))))))))))))
def zI (U:Nat) (a:ByteArray):V1 V4:=
 if(gN a (ByteArray.mk #[112,114,111,103,114,97,109]))=true then(dR a ((gN a (ByteArray.mk #[112,114,111,103,114,97,109]))))else(if(gN a (ByteArray.mk #[118,97,114]))=true then(dR a ((gN a (ByteArray.mk #[118,97,114]))))else(if(gN a (ByteArray.mk #[114,117,108,101]))=true then(dR a ((gN a (ByteArray.mk #[114,117,108,101]))))else(if(gN a (ByteArray.mk #[98,111,111,108]))=true then(dR a ((gN a (ByteArray.mk #[98,111,111,108]))))else(if(gN a (ByteArray.mk #[112,111,114,116]))=true then(dR a ((gN a (ByteArray.mk #[112,111,114,116]))))else(if(gN a (ByteArray.mk #[116,114,117,101]))=true then(dR a ((gN a (ByteArray.mk #[116,114,117,101]))))else(if(gN a (ByteArray.mk #[102,97,108,115,101]))=true then(dR a ((gN a (ByteArray.mk #[102,97,108,115,101]))))else(if(gN a (ByteArray.mk #[110,111,110,101]))=true then(dR a ((gN a (ByteArray.mk #[110,111,110,101]))))else(if(gN a (ByteArray.mk #[110]))=true then(dR a ((gN a (ByteArray.mk #[110]))))else(if(gN a (ByteArray.mk #[105,100,115]))=true then(dR a ((gN a (ByteArray.mk #[105,100,115]))))else(if(gN a (ByteArray.mk #[105,100]))=true then(dR a ((gN a (ByteArray.mk #[105,100]))))else(if(gN a (ByteArray.mk #[100,101,103]))=true then(dR a ((gN a (ByteArray.mk #[100,101,103]))))else(if(gN a (ByteArray.mk #[114,111,111,116]))=true then(dR a ((gN a (ByteArray.mk #[114,111,111,116]))))else(if(gN a (ByteArray.mk #[113]))=true then(dR a ((gN a (ByteArray.mk #[113]))))else(if(gN a (ByteArray.mk #[119,101,105,103,104,116]))=true then(dR a ((gN a (ByteArray.mk #[119,101,105,103,104,116]))))else(dR a ((gN a (ByteArray.mk #[98,97,99,107]))))))))))))))))))
theorem adE:aX prog 219:=call219
theorem Mz {a:ByteArray} (r:V4) (h:zI U a=some r):
  aZ prog 219 #[vS (a)] [] (λx:Unit=>vB (r)) (λx l=>l) (λ_ l=>l):=by
 refine aZ.of func219 Z ntmps219 Z λc=>Q3 Z<|aI<|Q5 Z<|aM<|aU<|aI<|cC (λb=>dR a b=some r) (λb e=>[(3,vS (a)),(4,vB (b))]) (λb e=>[]) ?_ ?_
 .refine aT<|aC (fV Z Z) Z<|Q4 Z<|iA h Z (λ_ h=>?_) λ_ h=>?_
  .exact bK<|cF ((gN a (ByteArray.mk #[112,114,111,103,114,97,109]))) () h SF Z
  refine aT<|aC (fV Z Z) Z<|Q4 Z<|iA h Z (λ_ h=>?_) λ_ h=>?_
  .exact bK<|cF ((gN a (ByteArray.mk #[118,97,114]))) () h SF Z
  refine aT<|aC (fV Z Z) Z<|Q4 Z<|iA h Z (λ_ h=>?_) λ_ h=>?_
  .exact bK<|cF ((gN a (ByteArray.mk #[114,117,108,101]))) () h SF Z
  refine aT<|aC (fV Z Z) Z<|Q4 Z<|iA h Z (λ_ h=>?_) λ_ h=>?_
  .exact bK<|cF ((gN a (ByteArray.mk #[98,111,111,108]))) () h SF Z
  refine aT<|aC (fV Z Z) Z<|Q4 Z<|iA h Z (λ_ h=>?_) λ_ h=>?_
  .exact bK<|cF ((gN a (ByteArray.mk #[112,111,114,116]))) () h SF Z
  refine aT<|aC (fV Z Z) Z<|Q4 Z<|iA h Z (λ_ h=>?_) λ_ h=>?_
  .exact bK<|cF ((gN a (ByteArray.mk #[116,114,117,101]))) () h SF Z
  refine aT<|aC (fV Z Z) Z<|Q4 Z<|iA h Z (λ_ h=>?_) λ_ h=>?_
  .exact bK<|cF ((gN a (ByteArray.mk #[102,97,108,115,101]))) () h SF Z
  refine aT<|aC (fV Z Z) Z<|Q4 Z<|iA h Z (λ_ h=>?_) λ_ h=>?_
  .exact bK<|cF ((gN a (ByteArray.mk #[110,111,110,101]))) () h SF Z
  refine aT<|aC (fV Z Z) Z<|Q4 Z<|iA h Z (λ_ h=>?_) λ_ h=>?_
  .exact bK<|cF ((gN a (ByteArray.mk #[110]))) () h SF Z
  refine aT<|aC (fV Z Z) Z<|Q4 Z<|iA h Z (λ_ h=>?_) λ_ h=>?_
  .exact bK<|cF ((gN a (ByteArray.mk #[105,100,115]))) () h SF Z
  refine aT<|aC (fV Z Z) Z<|Q4 Z<|iA h Z (λ_ h=>?_) λ_ h=>?_
  .exact bK<|cF ((gN a (ByteArray.mk #[105,100]))) () h SF Z
  refine aT<|aC (fV Z Z) Z<|Q4 Z<|iA h Z (λ_ h=>?_) λ_ h=>?_
  .exact bK<|cF ((gN a (ByteArray.mk #[100,101,103]))) () h SF Z
  refine aT<|aC (fV Z Z) Z<|Q4 Z<|iA h Z (λ_ h=>?_) λ_ h=>?_
  .exact bK<|cF ((gN a (ByteArray.mk #[114,111,111,116]))) () h SF Z
  refine aT<|aC (fV Z Z) Z<|Q4 Z<|iA h Z (λ_ h=>?_) λ_ h=>?_
  .exact bK<|cF ((gN a (ByteArray.mk #[113]))) () h SF Z
  refine aT<|aC (fV Z Z) Z<|Q4 Z<|iA h Z (λ_ h=>?_) λ_ h=>?_
  .exact bK<|cF ((gN a (ByteArray.mk #[119,101,105,103,104,116]))) () h SF Z
  exact aL<|aC (fV Z Z) Z<|Q4 Z<|cF ((gN a (ByteArray.mk #[98,97,99,107]))) () h SF Z
 intro b e h;refine iA h Z (λ_ h=>?_) λ_ h=>?_
 .refine Q3 Z<|aP<|bB<|aG ?_;cases h;exact gM Z
 refine aI<|cC (λd=>gV d=some r) (λd f=>[(21,vB (d))]) (λd f=>[]) ?_ ?_
 .refine aT<|aC (fV Z Z) Z<|Q4 Z<|iA h Z (λ_ h=>?_) λ_ h=>?_
  .exact bK<|cF ((gN a (ByteArray.mk #[97,108,108]))) () h SF Z
  refine aT<|aC (fV Z Z) Z<|Q4 Z<|iA h Z (λ_ h=>?_) λ_ h=>?_
  .exact bK<|cF ((gN a (ByteArray.mk #[115,111,109,101]))) () h SF Z
  refine aT<|aC (fV Z Z) Z<|Q4 Z<|iA h Z (λ_ h=>?_) λ_ h=>?_
  .exact bK<|cF ((gN a (ByteArray.mk #[99,111,117,110,116]))) () h SF Z
  refine aT<|aC (fV Z Z) Z<|Q4 Z<|iA h Z (λ_ h=>?_) λ_ h=>?_
  .exact bK<|cF ((gN a (ByteArray.mk #[102,105,114,115,116]))) () h SF Z
  refine aT<|aC (fV Z Z) Z<|Q4 Z<|iA h Z (λ_ h=>?_) λ_ h=>?_
  .exact bK<|cF ((gN a (ByteArray.mk #[109,105,110]))) () h SF Z
  refine aT<|aC (fV Z Z) Z<|Q4 Z<|iA h Z (λ_ h=>?_) λ_ h=>?_
  .exact bK<|cF ((gN a (ByteArray.mk #[109,97,120]))) () h SF Z
  refine aT<|aC (fV Z Z) Z<|Q4 Z<|iA h Z (λ_ h=>?_) λ_ h=>?_
  .exact bK<|cF ((gN a (ByteArray.mk #[115,117,109]))) () h SF Z
  refine aT<|aC (fV Z Z) Z<|Q4 Z<|iA h Z (λ_ h=>?_) λ_ h=>?_
  .exact bK<|cF ((gN a (ByteArray.mk #[109,101,120]))) () h SF Z
  refine aT<|aC (fV Z Z) Z<|Q4 Z<|iA h Z (λ_ h=>?_) λ_ h=>?_
  .exact bK<|cF ((gN a (ByteArray.mk #[115,101,99,111,110,100]))) () h SF Z
  exact aL<|aC (fV Z Z) Z<|Q4 Z<|cF ((gN a (ByteArray.mk #[104,101,97,100]))) () h SF Z
 intro d f h;refine iA h Z (λ_ h=>?_) λ_ h=>?_
 .refine Q3 Z<|aP<|bB<|aG ?_;cases h;exact gM Z
 refine cZ<|jZ<|Q3 Z<|aP ?_;cases h;exact gM Z
def DV (a:ByteArray) (c:Unit):V1 V4:=
 Option.bind (zI U a) λb=>(some ((!b)))
def Av (c:ByteArray) (a:Int) (b:(Int)->V1 V4):V1 V4:=
 if a<((ByteArray.size c:Nat):Int)then(ck (0<=a/\a<((ByteArray.size c:Nat):Int)) (Option.bind (Dz U (PH c a)) λd=>(if(!d)=true then(some (false))else(b (wI .i64 (a+(1:Int)))))))else(DV U c (()))
def Au (b:ByteArray) (a:V4):V1 V4:=
 if a=true then(some (false))else(bG (Av U b) U (1:Int))
def zH (a:ByteArray):V1 V4:=
 if((ByteArray.size a:Nat):Int)<(1:Int)then(Au U a (true))else(if(24:Int)<((ByteArray.size a:Nat):Int)then(Au U a (true))else(ck (0<=(0:Int)/\(0:Int)<((ByteArray.size a:Nat):Int)) (Option.bind (xU U (PH a (0:Int))) λb=>(Au U a ((!b))))))
theorem Rp:aX prog 207:=call207
theorem Im {b:ByteArray} (r:V4) (h:zH U b=some r):
  aZ prog 207 #[vS (b)] [] (λx:Unit=>vB (r)) (λx l=>l) (λ_ l=>l):=by
 refine aZ.of func207 Z ntmps207 Z λc=>Q3 Z<|aI<|aI<|cC (λd=>Au U b d=some r) (λd o=>[(0,vS (b)),(17,vB (d))]) (λd o=>[]) ?_ ?_
 .refine aL<|aA Z<|aC (BG Z Z) Z<|cX Z<|aA Z<|mL h Z (λ_ h=>?_) λ_ h=>?_
  .exact aD Z<|aD Z<|aD Z<|bO Z<|aA Z<|aD Z<|aD Z<|aD Z<|aD Z<|bO Z<|aM<|cF (true) () h SF Z
  refine bH Z<|aF Z (BG Z Z) Z<|aF Z (mA Z Z) Z<|bT Z<|aA Z<|mL h Z (λ_ h=>?_) λ_ h=>?_
  .exact aD Z<|aD Z<|aD Z<|aD Z<|bO Z<|aM<|cF (true) () h SF Z
  exact bH Z<|eX h λj h=>aF Z (Ny Z Z Z j) Z<|dG h λf n h=>fU Z (zB8 WZ (Je U f n) Z .nil) Z λv=>aF Z (fF Z) Z<|bT Z<|aM<|cF ((!f)) () h SF Z
 intro d o h;refine iA h Z (λ_ h=>?_) λ_ h=>?_
 .refine Q3 Z<|aP<|aG ?_;cases h;exact gM Z
 refine bK<|aI<|cC (λg=>DV U b g=some r) (λg p=>[(0,vS (b))]) (λg p=>[]) ?_ ?_
 .refine Q3 Z<|aU<|eP (Av U b) (λa e=>[(0,vS (b)),(3,vI (a))]) (λa e=>[]) (1:Int) () h SF (aW.refl _) ?_;intro q a e h;refine aI<|Q5 Z<|aA Z<|aC (BG Z Z) Z<|cX Z<|aM<|eF h Z (λh=>?_) λh=>?_
  .refine bK<|aI<|aU<|Q5 Z<|aA Z<|eX h λi h=>aC (Ny Z Z Z i) Z<|dG h λk m h=>aK (zB8 adD (PQ U k m) Z .nil) Z λu=>aC (fF Z) Z<|aM<|iA h Z (λ_ h=>?_) λ_ h=>?_
   .refine Q3 Z<|aP<|bB<|aG<|aG<|bB<|aG ?_;cases h;exact gM Z
   exact cZ<|jZ<|aL<|aA Z<|cP Z<|Q4 Z<|Ac (wI .i64 (a+(1:Int))) () h SF Z
  exact fK<|cF () (()) h SF Z
 intro g p h;refine Q5 Z<|dG h λs t h=>aK (zB8 adE (Mz U s t) Z .nil) Z λw=>aC (fF Z) Z<|Q4 Z<|aP ?_;cases h;exact gM Z
def wD (a:V4):V1 V4:=
 some (a)
def lU (U:Nat) (a b c:Int):V1 V4:=
 if b<=a then(wD (decide (a<=c)))else(wD (false))
theorem HM:aX prog 147:=call147
theorem rI {b f d:Int} (r:V4) (h:lU U b f d=some r):
  aZ prog 147 #[vI (b),vI (f),vI (d)] [] (λx:Unit=>vB (r)) (λx l=>l) (λ_ l=>l):=by
 refine aZ.of func147 Z ntmps147 Z λc=>Q3 Z<|aI<|cC (λa=>wD a=some r) (λa e=>[(6,vB (a))]) (λa e=>[]) ?_ ?_
 .refine aL<|aA Z<|aA Z<|aC (lD Z Z) Z<|aA Z<|mL h Z (λ_ h=>?_) λ_ h=>?_
  .exact bH Z<|bH Z<|aF Z (nH Z Z) Z<|bO Z<|Q4 Z<|cF (decide (b<=d)) () h SF Z
  exact aD Z<|aD Z<|aD Z<|bT Z<|Q4 Z<|cF (false) () h SF Z
 intro a e h;unfold wD at h;refine aP ?_;cases h;exact gM Z
end Go.Proofs.YtemmagadjnlajaaGreatDoor