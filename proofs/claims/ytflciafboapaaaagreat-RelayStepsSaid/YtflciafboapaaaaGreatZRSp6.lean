/- Models and proofs. Conditions: none. -/
import Derived.Test.YtflciafboapaaaaGreatZRSp5
import Derived.Test.YtflciafboapaaaaGreatZRSp2
import Derived.Test.YtflciafboapaaaaGreatZRSp1
import Derived.KernelRfl
set_option linter.unusedVariables false
set_option linter.unusedSimpArgs false
set_option maxHeartbeats 4000000
set_option maxRecDepth 20000
namespace Go.Proofs.YtflciafboapaaaaGreat
open Go.Sx
def vC (a:Unit):Option Bool:=
 some (true)
def vD (b:Int) (a:(Int)->Option Bool) (c:Unit):Option Bool:=
 a (wI .i64 (b+(1:Int)))
def vE (b:Int) (a:(Int)->Option Bool) (c:Bool):Option Bool:=
 if c=true then(some (false))else(a (wI .i64 (b+(1:Int))))
def fV (U:Nat) (c:cJ) (a:Int) (f:(Int)->Option Bool) (b:Int) (e:(Int)->Option Bool):Option Bool:=
 ck (0<=a/\a<(c.2.length:Int)) (if b<((at' c.2 a).length:Int)then(ck (0<=a/\a<(c.2.length:Int)) (ck (0<=b/\b<((at' c.2 a).length:Int)) (Option.bind (sB U ((c.1,c.2)) ((at' (at' c.2 a) b).1) a) λd=>(if d<(0:Int)then(vE b e (true))else(ck (0<=((at' (at' c.2 a) b).1)/\((at' (at' c.2 a) b).1)<(c.2.length:Int)) (ck (0<=d/\d<((at' c.2 ((at' (at' c.2 a) b).1)).length:Int)) (vE b e (decide (((at' (at' c.2 ((at' (at' c.2 a) b).1)) d).2)≠((at' (at' c.2 a) b).2))))))))))else(vD a f (())))
def iG (U:Nat) (c:cJ) (a:Int) (b:(Int)->Option Bool):Option Bool:=
 if a<(c.2.length:Int)then(bL (fV U c a b) U (0:Int))else(vC (()))
def oK (U:Nat) (a:cJ) (b:Unit):Option Bool:=
 bL (iG U a) U (0:Int)
def vF (b:Int) (a:(Int)->Option Bool) (c:Unit):Option Bool:=
 a (wI .i64 (b+(1:Int)))
def iQ (e:cJ) (a:Int) (c:(Int)->Option Bool) (b:Int) (d:(Int)->Option Bool):Option Bool:=
 if b<a then(ck (0<=b/\b<(e.1.length:Int)) (ck (0<=a/\a<(e.1.length:Int)) (if(at' e.1 b)=(at' e.1 a)then(some (false))else(d (wI .i64 (b+(1:Int)))))))else(vF a c (()))
def mN (U:Nat) (d:cJ) (b:Int) (a:(Int)->Option Bool) (c:Bool):Option Bool:=
 if c=true then(some (false))else(bL (iQ d b a) U (0:Int))
def iH (U:Nat) (b:cJ) (a:Int) (c:(Int)->Option Bool):Option Bool:=
 if a<(b.2.length:Int)then(ck (0<=a/\a<(b.1.length:Int)) (Option.bind (iC U (at' b.1 a) (0:Int) (255:Int)) λd=>(if(!d)=true then(mN U b a c (true))else(ck (0<=a/\a<(b.2.length:Int)) (if(b.2.length:Int)<=((at' b.2 a).length:Int)then(mN U b a c (true))else(ck (0<=a/\a<(b.2.length:Int)) (Option.bind (mA U (at' b.2 a) a (b.2.length:Int)) λe=>(mN U b a c ((!e))))))))))else(oK U b (()))
def vA (U:Nat) (b:cJ) (a:Bool):Option Bool:=
 if a=true then(some (false))else(bL (iH U b) U (0:Int))
def lE (U:Nat) (a:cJ):Option Bool:=
 Option.bind (iC U (a.2.length:Int) (1:Int) (24:Int)) λb=>(if(!b)=true then(vA U a (true))else(vA U a (decide ((a.1.length:Int)≠(a.2.length:Int)))))
theorem Xr:bB Tryz.prog 74:=Tryz.call74
theorem HN (U:Nat) {f:cJ} (T V:V0) (z2:kX) (r:Bool) (h:lE U f=some r):
  bE Tryz.prog 74 #[Value.agg #[T,V]] [Sl aM T f.1,S2 aY V z2 f.2] (λx:Unit=>vB (r)) (λx l=>l) (λ_ l=>l):=by
 let d:=vI (f.2.length:Int);refine bE.of Tryz.func74 Z Tryz.ntmps74 Z λc=>?_;refine aU<|aJ (aQ.box (cs:=[T,V]) Z Z) Z λn=>let e:=bM n [T,V] 31;aC Z<|aP<|aU<|bV Z<|dK 0 Z<|aB (dM Z (mR Z) Z) Z<|aC Z<|aP<|aN<|aN<|eB (λD=>vA U f D=some r) (λD b4=>[(1,vP n),(3,d),(22,vB (D))]) (λD b4=>[e]) ?_ ?_
 ·refine aR<|aA Z<|eI h λad ah h=>aJ (zBb uQ (jL U ad ah) Z .nil) Z λan=>aB (jG Z) Z<|aA Z ?_;refine vW (by exact rfl) (by exact rfl) (λq=>?_) (λq=>?_)
  ·have h:=Hh q h;refine aO Z<|aO Z<|aO Z<|aO Z<|aO Z<|d_ Z<|aP ?_;exact f_ (true) () h SF Z
  have h:=En q h;refine aW Z (cT Z Z Z Z Z) Z<|aW Z (dL 0 Z Z Z Z Z) Z<|aW Z (fH Z (b_ Z) Z) Z<|dD Z<|aW Z (Bg Z Z) Z<|eR Z<|aP ?_;exact f_ (decide ((f.1.length:Int)≠(f.2.length:Int))) () h SF Z
 intro D b4 h;refine rR h Z (λ_ h=>?_) λ_ h=>?_
 ·refine aU<|aC Z<|aP<|aS<|aG ?_;cases h;exact mO Z
 refine cL<|aN<|eB (λW=>oK U f W=some r) (λW b7=>[(1,vP n),(3,d)]) (λW b7=>[e]) ?_ ?_
 ·refine aU<|aC Z<|aP<|aT<|eW (iH U f) (λb I=>[(1,vP n),(3,d),(4,vI (b))]) (λb I=>[e]) (0:Int) () h SF (a_.refl _) ?_;intro ab b I h;let B:=(bL (iH U f) ab)
  refine aN<|aU<|aA Z<|aA Z<|cU Z<|aP ?_;refine eG h Z (λh=>?_) λh=>?_
  ·refine cL<|aN<|eB (λt=>vF b B t=some r) (λt J=>[(1,vP n),(3,d),(4,vI (b))]) (λt J=>[e]) ?_ ?_
   ·refine aT<|aN<|aN<|eB (λm=>mN U f b B m=some r) (λm K=>[(1,vP n),(3,d),(4,vI (b)),(55,vB (m))]) (λm K=>[e]) ?_ ?_
    ·refine aR<|bV Z<|dK 0 Z<|aA Z<|cQ h λQ h=>aB (bG Z Z (b_ Z) Z Z Q) Z<|aB (cI Z (b_ Z) Z Z Z eZ Q) Z<|eI h λac af h=>aJ (zBb uQ (jL U ac af) Z .nil) Z λal=>aB (jG Z) Z<|aA Z ?_;refine vW (by exact rfl) (by exact rfl) (λp=>?_) (λp=>?_)
     ·have h:=Hh p h;refine aO Z<|aO Z<|aO Z<|aO Z<|aO Z<|aO Z<|aO Z<|aO Z<|d_ Z<|aA Z<|aO Z<|aO Z<|aO Z<|aO Z<|aO Z<|aO Z<|aO Z<|aO Z<|aO Z<|d_ Z<|aP ?_;exact f_ (true) () h SF Z
     have h:=En p h;refine aW Z (cT Z Z Z Z Z) Z<|aW Z (dL 0 Z Z Z Z Z) Z<|dD Z<|cQ h λw h=>aW Z (bK Z Z (mR Z) Z Z w) Z<|aW Z (bS Z (mR Z) Z Z w) Z<|aW Z (fH Z (zBc (mR Z) w.1 w.2) Z) Z<|dD Z<|aW Z (uI Z Z) Z<|eR Z<|aA Z ?_;refine Ds h Z (λ_ h=>?_) λ_ h=>?_
     ·refine aO Z<|aO Z<|aO Z<|aO Z<|aO Z<|aO Z<|aO Z<|aO Z<|aO Z<|d_ Z<|aP ?_;exact f_ (true) () h SF Z
     refine aW Z (cT Z Z Z Z Z) Z<|aW Z (dL 0 Z Z Z Z Z) Z<|dD Z<|cQ h λy h=>aW Z (bK Z Z (mR Z) Z Z y) Z<|aW Z (bS Z (mR Z) Z Z y) Z<|dD Z<|dD Z<|eI h λS ag h=>oU Z (zBb aae (Il U ((at' z2 b).1) S ag) Z (aH.cons (zBc (mR Z) y.1 y.2) .nil)) Z λam=>aW Z (jG Z) Z<|eR Z<|aP ?_;exact f_ ((!S)) () h SF Z
    intro m K h;refine rR h Z (λ_ h=>?_) λ_ h=>?_
    ·refine aU<|aC Z<|aP<|aS<|aG<|bF<|aG<|aG<|bF<|aG ?_;cases h;exact mO Z
    refine cL<|aU<|aC Z<|aP<|aT<|eW (iQ f b B) (λu L=>[(1,vP n),(3,d),(4,vI (b)),(5,vI (u))]) (λu L=>[e]) (0:Int) () h SF (a_.refl _) ?_;intro aj u L h;refine aN<|aU<|aA Z<|aA Z<|cU Z<|aP ?_;refine eG h Z (λh=>?_) λh=>?_
    ·refine cL<|aN<|aT<|aN ?_;refine rP [0,1,0,7,15,0,32,0,224,480,1023] 10 mixedOrders ?_;refine cC Z<|eQ 0 Z<|aV Z<|cQ h λO h=>bA Z .nil (eV 0 Z) (bG Z Z (b_ Z) Z Z O) aL.z<|bA Z .nil (eV 0 Z) (cI Z (b_ Z) Z Z Z eZ O) aL.z<|cC Z<|eQ 0 Z<|aV Z<|cQ h λP h=>bA Z .nil (eV 0 Z) (bG Z Z (b_ Z) Z Z P) aL.z<|bA Z .nil (eV 0 Z) (cI Z (b_ Z) Z Z Z eZ P) aL.z<|bN 10 Z Z<|cH Z<|aP ?_;refine eG h Z (λh=>?_) λh=>?_
     ·refine aU<|aC Z<|aP<|aS<|bF<|aG<|aG<|bF<|bF<|aG<|aG<|bF<|aG ?_;cases h;exact mO Z
     refine dW<|lA<|aR<|aA Z<|cN Z<|aC Z<|aP ?_;exact xD (wI .i64 (u+(1:Int))) () h SF Z
    refine uE<|g_<|g_<|Cr<|lA ?_;exact f_ () (()) h SF Z
   intro t J h;unfold vF at h;refine aR<|aA Z<|cN Z<|aC Z<|aP ?_;exact xD (wI .i64 (b+(1:Int))) () h SF Z
  refine eP ?_;exact f_ () (()) h SF Z
 intro W b7 h;unfold oK at h;refine aN<|eB (λX=>vC X=some r) (λX b9=>[]) (λX b9=>[]) ?_ ?_
 ·refine aU<|aC Z<|aP<|aT<|eW (iG U f) (λa E=>[(1,vP n),(3,d),(6,vI (a))]) (λa E=>[e]) (0:Int) () h SF (a_.refl _) ?_;intro Y a E h;let C:=(bL (iG U f) Y)
  refine aN<|aU<|aA Z<|aA Z<|cU Z<|aP ?_;refine eG h Z (λh=>?_) λh=>?_
  ·refine cL<|aN<|eB (λs=>vD a C s=some r) (λs F=>[(1,vP n),(3,d),(6,vI (a))]) (λs F=>[e]) ?_ ?_
   ·refine aT<|aU<|aC Z<|aP<|aT<|eW (fV U f a C) (λg G=>[(1,vP n),(3,d),(6,vI (a)),(7,vI (g))]) (λg G=>[e]) (0:Int) () h SF (a_.refl _) ?_;intro aa g G h;let A:=(at' (at' f.2 a) g)
    refine aN<|aU<|aA Z<|bV Z<|dK 0 Z<|aA Z<|cQ h λv h=>aB (bK Z Z (mR Z) Z Z v) Z<|aB (bS Z (mR Z) Z Z v) Z<|aB (fH Z (zBc (mR Z) v.1 v.2) Z) Z<|cU Z<|aP ?_;refine eG h Z (λh=>?_) λh=>?_
    ·refine cL<|aN<|aT<|aU<|bV Z<|dK 0 Z<|aA Z<|cQ h λi h=>aB (bK Z Z (mR Z) Z Z i) Z<|aB (bS Z (mR Z) Z Z i) Z<|aA Z<|cQ h λM h=>aB (bG Z Z (zBc (mR Z) i.1 i.2) Z Z M) Z<|aB (gS (cs:=[vI (A.1),vI (A.2)]) Z (zBc (mR Z) i.1 i.2) cR Z Z Z Z M) Z<|aJ (aQ.alloc (cs:=TF) Z Z) Z λai=>cD 0 (vs:=[vI ((at' (at' f.2 a) g).1),vI ((at' (at' f.2 a) g).2)]) Z Z Z Z Z Z<|aP<|aU<|cM 1 Z<|bV Z<|dK 0 Z<|aA Z<|eI h λR ae h=>aJ (zBb OE (FN U T V z2 R ae) Z (iB [0,1] Z)) Z λak=>aC Z<|aP<|aN<|eB (λk=>vE g (bL (fV U f a C) aa) k=some r) (λk H=>[(1,vP n),(3,d),(6,vI (a)),(7,vI (g)),(116,vB (k))]) (λk H=>[e]) ?_ ?_
     ·refine rP [0,1,3,7,15,7,39,127,255,7,1023,2047,4095,7,8199,32767,65535] 15 mixedOrders ?_;refine aV Z<|eN Z (EF Z Z)<|aV Z ?_;refine vX (by exact rfl) (by exact rfl) (by exact rfl) (λo=>?_) (λo=>?_)
      ·have h:=Hh o h;refine aK Z Z Z Z<|aK Z Z Z Z<|aK Z Z Z Z<|aK Z Z Z Z<|aK Z Z Z Z<|aK Z Z Z Z<|aK Z Z Z Z<|aK Z Z Z Z<|aK Z Z Z Z<|aK Z Z Z Z<|aK Z Z Z Z<|aK Z Z Z Z<|bN 15 Z Z<|aO Z<|d_ Z<|aP ?_;exact cB (true) () h SF (a_.ix [1] Z Z) (aH.refl _ _)
      have h:=VK o h;refine bW Z .nil .nil (cT Z Z Z Z Z) aL.z<|bW Z (a_.cons 1 Z .nil) .nil (dL 0 Z Z Z Z Z) aL.z<|bW Z .nil .nil (cT Z Z Z Z Z) aL.z<|bW Z (a_.cons 0 Z .nil) .nil (dL 0 Z Z Z Z Z) aL.z<|cQ h λj h=>bW Z .nil (eV 1 Z) (bK Z Z (b_ Z) Z Z j) aL.z<|bW Z .nil (eV 1 Z) (bS Z (b_ Z) Z Z j) aL.z<|bW Z .nil .nil (dG Z) aL.z<|cQ h λN h=>bW Z .nil (eV 1 Z) (bG Z Z (zBc (b_ Z) j.1 j.2) Z Z N) aL.z<|bW Z .nil .nil (dC Z Z Z Z Z) aL.z<|bW Z .nil (eV 1 Z) (eL Z (zBc (b_ Z) j.1 j.2) Z Z Z Fi N) aL.z<|bW Z .nil .nil (cT Z Z Z Z Z) aL.z<|bW Z (a_.cons 0 Z .nil) .nil (dL 0 Z Z Z Z Z) aL.z<|bN 15 Z Z<|aW Z (Bg Z Z) Z<|eR Z<|aP ?_;exact cB (decide (((at' (at' f.2 (A.1)) R).2)≠(A.2))) () h SF (a_.ix [1] Z Z) (aH.refl _ _)
     intro k H h;refine rR h Z (λ_ h=>?_) λ_ h=>?_
     ·refine aU<|aC Z<|aP<|aS<|bF<|aG<|aG<|bF<|bF<|aG<|aG<|bF<|aG ?_;cases h;exact mO Z
     refine dW<|lA<|aR<|aA Z<|cN Z<|aC Z<|aP ?_;exact xD (wI .i64 (g+(1:Int))) () h SF Z
    refine uE<|g_<|g_<|Cr<|lA ?_;exact f_ () (()) h SF Z
   intro s F h;unfold vD at h;refine aR<|aA Z<|cN Z<|aC Z<|aP ?_;exact xD (wI .i64 (a+(1:Int))) () h SF Z
  refine eP ?_;exact cB () (()) h SF .nil (aH.refl _ _)
 intro X b9 h;unfold vC at h;refine aU<|aC Z<|aP<|aS ?_;cases h;exact iR Z
end Go.Proofs.YtflciafboapaaaaGreat
namespace Go.Proofs.YtflciafboapaaaaGreat
open Go.Sx
theorem BS {R:Type} {step:Int->(Int->Option R)->Option R} {K:Option R} {bad:R} (N:Nat) (p:Nat->Prop)
  (r:∀(k:Nat) c,k<N->p k->step k c=c ((k:Int)+1)) (i:∀(k:Nat) c,k<N->¬p k->step k c=some bad) (j:∀c,step N c=K):
  ∀(b:Nat),N<b->((∀k,k<N->p k)->bL step b 0=K)/\(¬(∀k,k<N->p k)->bL step b 0=some bad):=by
 intro b q;have s:∀(d a b:Nat),a+d=N->d<b->((∀k,a<=k->k<N->p k)->bL step b (a:Int)=K)/\(¬(∀k,a<=k->k<N->p k)->bL step b (a:Int)=some bad):=by
  intro d
  induction d with
  |zero=>
   intro a b v q;obtain rfl:a=N:=by omega
   cases b with
   |zero=>omega
   |succ f=>exact⟨λ_=>j _,λh=>absurd (λk m g=>by omega) h⟩
  | succ d ih =>
   intro a b v q;cases b with
   |zero=>omega
   | succ f =>
    obtain⟨t,u⟩:=ih (a+1) f (by omega) (by omega);have e:((a+1:Nat):Int)=(a:Int)+1:=by omega
    rw[e]at t u;by_cases n:p a
    ·have w:bL step (f+1) (a:Int)=bL step f ((a:Int)+1):=r a _ (by omega) n;rw[w];refine⟨λh=>t λk m g=>h k (by omega) g,λh=>u λo=>h λk m g=> ?_⟩
     by_cases l:k=a
     ·subst l;exact n
     ·exact o k (by omega) g
    ·exact⟨λh=>absurd (h a (zAh _) (by omega)) n,λ_=>i a _ (by omega) n⟩
 obtain⟨m,g⟩:=s N 0 b (by omega) q;exact⟨λh=>m λk _ l=>h k l,λh=>g λo=>h λk l=>o k (by omega) l⟩
abbrev GR:=List Int×iI
theorem jF (a:Nat) (v c d:Int):iC a v c d=some (decide (c<=v/\v<=d)):=by
 unfold iC Cz;by_cases h:c<=v
 ·rw[if_pos h];congr 1;exact decide_eq_decide.2 ⟨λb=>⟨h,b⟩,λb=>b.2⟩
 ·rw[if_neg h,zA3 (λb=>h b.1)]
abbrev row (g:GR) (v:Nat):fI:=at' g.2 (v:Int)
abbrev Gs (g:GR) (v:Nat):Int:=at' g.1 (v:Int)
abbrev jM (l:fI) (i:Nat):fF:=at' l (i:Int)
def light (g:GR):Prop:=g.1.length<=30/\g.2.length<=30/\∀v,v<g.2.length->(row g v).length<=30
def Ju (l:fI) (v n i:Nat):Prop:=(0<=(jM l i).1/\(jM l i).1<=(n:Int) - 1)/\(jM l i).1≠v/\(1<=(jM l i).2/\(jM l i).2<=15)/\∀k,k<i->(jM l k).1≠(jM l i).1
def qE (l:fI) (v n:Nat):Prop:=∀i,i<l.length->Ju l v n i
theorem tF (l:fI) (v n:Nat) (o:l.length<=30) (p:n<=30):(qE l v n->mA 1000 l v n=some true)/\(¬qE l v n->mA 1000 l v n=some false):=by
 unfold mA;have a:∀(i:Nat) (b:Int->Option Bool),i<l.length->((∀k,k<i->(jM l k).1≠(jM l i).1)->bL (jY l i b) 1000 0=b ((i:Int)+1))/\(¬(∀k,k<i->(jM l k).1≠(jM l i).1)->bL (jY l i b) 1000 0=some false):=by
  intro i b h;refine BS i _ (λk d m c=> ?_) (λk d m c=> ?_) (λd=> ?_) 1000 (by omega)
  ·unfold jY;rw[if_pos (by omega),cF (by omega),cF (by omega),if_neg c,wr (by omega) (by omega)]
  ·unfold jY;rw[if_pos (by omega),cF (by omega),cF (by omega),if_pos (zAy.1 c)]
  ·unfold jY qL;rw[if_neg (by omega),wr (by omega) (by omega)]
 refine BS l.length (Ju l v n) (λi b h c=> ?_) (λi b h c=> ?_) (λb=> ?_) 1000 (by omega)
 ·obtain⟨e,f,g,j⟩:=c;unfold iW lP;rw[if_pos (by omega),cF (by omega),wr (x:=(n:Int) - 1) (by omega) (by omega),jF,zA4 e,bH Z,if_neg (by simp),cF (by omega),if_neg f,cF (by omega),jF,zA4 g,bH Z,if_neg (by simp)];exact(a i b h).1 j
 ·unfold iW lP;rw[if_pos (by omega),cF (by omega),wr (x:=(n:Int) - 1) (by omega) (by omega),jF];by_cases e:0<=(jM l i).1/\(jM l i).1<=(n:Int) - 1
  ·rw[zA4 e,bH Z,if_neg (by simp),cF (by omega)];by_cases f:(jM l i).1=v
   ·rw[if_pos f];rfl
   ·rw[if_neg f,cF (by omega),jF];by_cases g:1<=(jM l i).2/\(jM l i).2<=15
    ·rw[zA4 g,bH Z,if_neg (by simp)];exact(a i b h).2 λj=>c ⟨e,f,g,j⟩
    ·rw[zA3 g];rfl
  ·rw[zA3 e];rfl
 ·unfold iW qK;rw[if_neg (by omega)]
def BI (l:fI) (u:Int):Int:=match l.findIdx? (λx=>decide (x.1=u))with
 |some i=>i
 |none=> -1
theorem Ks {l:fI} {u:Int} (i:Nat) (b:i<l.length) (d:(jM l i).1=u) (c:∀k,k<i->(jM l k).1≠u):BI l u=i:=by
 have:l.findIdx? (λx=>decide (x.1=u))=some i:=by
  rw[List.findIdx?_eq_some_iff_getElem];have e:∀k (a:k<l.length),jM l k=l[k]:=λk a=>by rw[jM,mU,zAd,zA2 a];rfl
  refine⟨b,by rw[<-e i b];simpa using d,λk a=> ?_⟩
  have:=c k a;rw[e k (by omega)]at this;simpa using this
 rw[BI,this]
theorem QX {l:fI} {u:Int} (b:∀k,k<l.length->(jM l k).1≠u):BI l u = -1:=by
 have:l.findIdx? (λx=>decide (x.1=u))=none:=by
  rw[List.findIdx?_eq_none_iff];intro x c;obtain⟨k,a,rfl⟩:=List.getElem_of_mem c;have:=b k a;rw[jM,mU,zAd,zA2 a]at this;simpa using this
 rw[BI,this]
theorem wG (l:fI) (u:Int):(∃i,i<l.length/\(jM l i).1=u/\(∀k,k<i->(jM l k).1≠u)/\BI l u=i)\/((∀k,k<l.length->(jM l k).1≠u)/\BI l u = -1):=by
 by_cases h:∀k,k<l.length->(jM l k).1≠u
 ·exact .inr ⟨h,QX h⟩
 ·left;have f:∃k,k<l.length/\(jM l k).1=u:=by
   apply Classical.byContradiction;intro o;exact h λk g e=>o ⟨k,g,e⟩
  obtain⟨k,g,n⟩:=f;have:∀m,(∃k,k<=m/\k<l.length/\(jM l k).1=u)->∃i,i<l.length/\(jM l i).1=u/\∀k,k<i->(jM l k).1≠u:=by
   intro m
   induction m with
   |zero=>rintro⟨k,d,a,b⟩;exact⟨k,a,b,λj p=>by omega⟩
   |succ m q=>
    rintro⟨k,d,a,b⟩;by_cases c:∃j,j<=m/\j<l.length/\(jM l j).1=u
    ·exact q c
    ·exact⟨k,a,b,λj p e=>c ⟨j,by omega,by omega,e⟩⟩
  obtain⟨i,d,a,b⟩:=this k ⟨k,zAh _,g,n⟩;exact⟨i,d,a,b,Ks i d a b⟩
theorem Ig (g:GR) (v:Nat) (u:Int) (m:v<g.2.length) (l:(row g v).length<=30):sB 1000 g v u=some (BI (row g v) u):=by
 unfold sB;rcases wG (row g v) u with⟨i,j,h,c,b⟩|⟨c,b⟩
 ·rw[b];refine IL (λx:Int=>∃k:Nat,x=k/\k<=i) (λx=>31 - x.toNat) ?_ 1000 _ ⟨0,rfl,by omega⟩ (by omega);rintro x d ⟨k,rfl,f⟩ a;unfold BX;rw[cF (by omega),if_pos (show(k:Int)<((row g v).length:Int) by omega),cF (by omega),cF (show 0<=(k:Int)/\(k:Int)<((row g v).length:Int) by omega)];by_cases e:k=i
  ·subst e;exact if_pos h
  ·rw[if_neg (c k (by omega)),wr (by omega) (by omega)];exact a _ ⟨k+1,by omega,by omega⟩ (by omega)
 ·rw[b];refine IL (λx:Int=>∃k:Nat,x=k/\k<=(row g v).length) (λx=>31 - x.toNat) ?_ 1000 _ ⟨0,rfl,by omega⟩ (by omega);rintro x d ⟨k,rfl,f⟩ a;unfold BX;rw[cF (by omega)];by_cases e:k<(row g v).length
  ·rw[if_pos (show(k:Int)<((row g v).length:Int) by omega),cF (by omega),cF (show 0<=(k:Int)/\(k:Int)<((row g v).length:Int) by omega),if_neg (c k e),wr (by omega) (by omega)];exact a _ ⟨k+1,by omega,by omega⟩ (by omega)
  ·rw[if_neg (show¬(k:Int)<((row g v).length:Int) by omega)];rfl
theorem IM {X R:Type} {step:X->(X->Option R)->Option R} {K:X->Option R} {bad:R} (N:Nat) (p:Nat->Prop) (I:Nat->X->Prop)
  (t:∀(k:Nat) x g,k<N->I k x->p k->∃c,I (k+1) c/\step x g=g c) (j:∀(k:Nat) x g,k<N->I k x->¬p k->step x g=some bad) (l:∀x g,I N x->step x g=K x):
  ∀(b:Nat) (x:X),I 0 x->N<b->((∀k,k<N->p k)->∃c,I N c/\bL step b x=K c)/\(¬(∀k,k<N->p k)->bL step b x=some bad):=by
 intro b x e s;have v:∀(d a b:Nat) (x:X),a+d=N->d<b->I a x->((∀k,a<=k->k<N->p k)->∃c,I N c/\bL step b x=K c)/\(¬(∀k,a<=k->k<N->p k)->bL step b x=some bad):=by
  intro d
  induction d with
  |zero=>
   intro a b x w s e;obtain rfl:a=N:=by omega
   cases b with
   |zero=>omega
   |succ f=>exact⟨λ_=>⟨x,e,l _ _ e⟩,λh=>absurd (λk n i=>by omega) h⟩
  | succ d ih =>
   intro a b x w s e;cases b with
   |zero=>omega
   | succ f =>
    by_cases o:p a
    ·obtain⟨c,r,u⟩:=t a x (bL step f) (by omega) e o;have u:bL step (f+1) x=bL step f c:=u;obtain⟨y,z⟩:=ih (a+1) f c (by omega) (by omega) r;rw[u];refine⟨λh=>y λk n i=>h k (by omega) i,λh=>z λq=>h λk n i=> ?_⟩
     by_cases m:k=a
     ·subst m;exact o
     ·exact q k (by omega) i
    ·exact⟨λh=>absurd (h a (zAh _) (by omega)) o,λ_=>j a x _ (by omega) e o⟩
 obtain⟨n,i⟩:=v N 0 b x (by omega) s e;exact⟨λh=>n λk _ m=>h k m,λh=>i λq=>h λk m=>q k (by omega) m⟩
def Bf (g:GR) (v i:Nat):Prop:=∃j,j<(at' g.2 (jM (row g v) i).1).length/\(jM (at' g.2 (jM (row g v) i).1) j).1=v/\(jM (at' g.2 (jM (row g v) i).1) j).2=(jM (row g v) i).2
structure Lr (g:GR) (v:Nat):Prop where
 id:0<=Gs g v/\Gs g v<=255
 deg:(row g v).length<g.2.length
 links:qE (row g v) v g.2.length
 ids:∀k,k<v->Gs g k≠Gs g v
structure VG (g:GR):Prop where
 n1:1<=g.2.length
 n24:g.2.length<=24
 len:g.1.length=g.2.length
 node:∀v,v<g.2.length->Lr g v
 sym:∀v,v<g.2.length->∀i,i<(row g v).length->Bf g v i
theorem Rc (g:GR) (N:light g):(VG g->lE 1000 g=some true)/\(¬VG g->lE 1000 g=some false):=by
 obtain⟨S,H,t⟩:=N;unfold lE;rw[jF,bH Z];by_cases z:1<=g.2.length/\g.2.length<=24
 rotate_left
 ·rw[zA3 (by omega)];exact⟨λh=>absurd ⟨h.n1,h.n24⟩ z,λ_=>rfl⟩
 rw[zA4 (by omega),if_neg (by simp)];by_cases I:g.1.length=g.2.length
 rotate_left
 ·rw[zA4 (by omega)];exact⟨λh=>absurd h.len I,λ_=>rfl⟩
 rw[zA3 (by omega)];unfold vA;rw[if_neg (by simp)];have o:∀(v:Nat) (b:Int->Option Bool),v<g.2.length->((∀k,k<v->Gs g k≠Gs g v)->bL (iQ g v b) 1000 0=b ((v:Int)+1))/\(¬(∀k,k<v->Gs g k≠Gs g v)->bL (iQ g v b) 1000 0=some false):=by
  intro v b d;refine BS v _ (λk a C c=> ?_) (λk a C c=> ?_) (λa=> ?_) 1000 (by omega)
  ·unfold iQ;rw[if_pos (by omega),cF (by omega),cF (by omega),if_neg c,wr (by omega) (by omega)]
  ·unfold iQ;rw[if_pos (by omega),cF (by omega),cF (by omega),if_pos (zAy.1 c)]
  ·unfold iQ vF;rw[if_neg (by omega),wr (by omega) (by omega)]
 have l:=BS (step:=iH 1000 g) (K:=oK 1000 g ()) (bad:=false) g.2.length (Lr g) (λv b d c=> ?_) (λv b d c=> ?_) (λb=> ?_) 1000 (by omega)
 rotate_left
 ·unfold iH mN;rw[if_pos (by omega),cF (by omega),jF,zA4 c.id,bH Z,if_neg (by simp),cF (by omega),if_neg (show¬((g.2.length:Int)<=((row g v).length:Int))from by have:=c.deg;omega),cF (by omega),(tF (row g v) v g.2.length (t v d) H).1 c.links,bH Z,if_neg (by simp)];exact(o v b d).1 c.ids
 ·unfold iH mN;rw[if_pos (by omega),cF (by omega),jF];by_cases x:0<=Gs g v/\Gs g v<=255
  rotate_left
  ·rw[zA3 x];rfl
  rw[zA4 x,bH Z,if_neg (by simp),cF (by omega)];by_cases J:(row g v).length<g.2.length
  rotate_left
  ·rw[if_pos (show(g.2.length:Int)<=((row g v).length:Int) by omega)];rfl
  rw[if_neg (show¬(g.2.length:Int)<=((row g v).length:Int) by omega),cF (by omega)];by_cases y:qE (row g v) v g.2.length
  rotate_left
  ·rw[(tF (row g v) v g.2.length (t v d) H).2 y];rfl
  rw[(tF (row g v) v g.2.length (t v d) H).1 y,bH Z,if_neg (by simp)];exact(o v b d).2 λL=>c ⟨x,J,y,L⟩
 ·unfold iH;rw[if_neg (by omega)]
 by_cases q:∀v,v<g.2.length->Lr g v
 rotate_left
 ·exact⟨λh=>absurd h.node q,λ_=>l.2 q⟩
 rw[l.1 q];unfold oK;have f:∀(v:Nat) (b:Int->Option Bool),v<g.2.length->((∀i,i<(row g v).length->Bf g v i)->bL (fV 1000 g v b) 1000 0=b ((v:Int)+1))/\(¬(∀i,i<(row g v).length->Bf g v i)->bL (fV 1000 g v b) 1000 0=some false):=by
  intro v b d;have P:=t v d;have n:∀(i:Nat) a,i<(row g v).length->(Bf g v i->fV 1000 g v b i a=a ((i:Int)+1))/\(¬Bf g v i->fV 1000 g v b i a=some false):=by
   intro i a r;unfold fV;rw[cF (by omega),if_pos (show(i:Int)<((row g v).length:Int) by omega),cF (by omega),cF (show 0<=(i:Int)/\(i:Int)<((row g v).length:Int) by omega)];have R:=((q v d).links i r).1;obtain⟨u,G⟩:∃u:Nat,(jM (row g v) i).1=u:=⟨(jM (row g v) i).1.toNat,by omega⟩
   have p:u<g.2.length:=by omega
   unfold Bf;rw[show(at' (at' g.2 (v:Int)) (i:Int))=jM (row g v) i from rfl,G,Ig g u v p (t u p),bH Z];have F:=(q u p).links;rcases wG (row g u) v with⟨j,w,m,B,A⟩|⟨M,A⟩
   ·rw[A,if_neg (by omega),cF (by omega),cF (show 0<=(j:Int)/\(j:Int)<((at' g.2 (u:Int)).length:Int)from⟨by omega,by have:j<(row g u).length:=w;exact_mod_cast this⟩)];unfold vE;constructor
    ·rintro⟨k,C,s,E⟩;have D:k=j:=by
      rcases Nat.lt_trichotomy k j with h|h|h
      ·exact absurd s (B k h)
      ·exact h
      ·exact absurd (m.trans s.symm) ((F k C).2.2.2 j h)
     subst D;rw[if_neg (by rw[zA3];simp;exact λh=>h E),wr (by omega) (by omega)]
    ·intro h;rw[if_pos];exact zA4 λQ=>h ⟨j,w,m,Q⟩
   ·rw[A,if_pos (by decide)];exact⟨fun⟨j,w,m,_⟩=>absurd m (M j w),λ_=>rfl⟩
  refine BS (row g v).length _ (λi a r c=>(n i a r).1 c) (λi a r c=>(n i a r).2 c) (λa=> ?_) 1000 (by omega);unfold fV vD;rw[cF (by omega),if_neg (show¬(((row g v).length:Nat):Int)<((row g v).length:Int) by omega),wr (by omega) (by omega)]
 have e:=BS (step:=iG 1000 g) (K:=some true) (bad:=false) g.2.length (λv=>∀i,i<(row g v).length->Bf g v i) (λv b d c=> ?_) (λv b d c=> ?_) (λb=> ?_) 1000 (by omega)
 ·exact⟨λh=>e.1 h.sym,λh=>e.2 λO=>h ⟨z.1,z.2,I,q,O⟩⟩
 ·unfold iG;rw[if_pos (by omega)];exact(f v b d).1 c
 ·unfold iG;rw[if_pos (by omega)];exact(f v b d).2 c
 ·unfold iG vC;rw[if_neg (by omega)]
theorem Dq {a:Type} [Inhabited a] (l:List a) (i k:Nat) (y:a) (b:i<l.length):at' (l.set i y) (k:Int)=if k=i then y else at' l (k:Int):=by
 rw[mU,mU,zAd,zAd,List.getElem?_set];by_cases h:i=k
 ·rw[if_pos h,if_pos h.symm,if_pos (by omega)];rfl
 ·rw[if_neg h,if_neg (Ne.symm h)]
def Wy (l:bT) (k:Nat):Prop:=(0<=at' l (k:Int)/\at' l (k:Int)<=255)/\∀j,j<k->at' l (j:Int)≠at' l (k:Int)
theorem x_ (l:bT) (C:l.length<=30):((∀k,k<l.length->Wy l k)->kV 1000 l=some true)/\(¬(∀k,k<l.length->Wy l k)->kV 1000 l=some false):=by
 unfold kV;have i:=IM (step:=iZ l) (K:=λ_=>some true) (bad:=false) l.length (Wy l) (λk x=>x.1=(k:Int)/\x.2.length=256/\∀z:Nat,z<256->(at' x.2 (z:Int)=true↔∃j,j<k/\at' l (j:Int)=(z:Int))) ?_ ?_ ?_ 1000 ((0:Int),(List.replicate 256 false)) ⟨rfl,List.length_replicate ..,λz c=> ?_⟩ (by omega)
 ·exact⟨λh=>by obtain⟨x,_,b⟩:=i.1 h;exact b,i.2⟩
 ·rintro k ⟨t,m⟩ q w ⟨b,a,f⟩ ⟨D,v⟩;dsimp only at b a f;subst b;obtain⟨z,c⟩:∃z:Nat,at' l (k:Int)=z:=⟨(at' l (k:Int)).toNat,by omega⟩
  have p:z<256:=by omega
  have o:¬at' m (z:Int)=true:=by
   rw[f z p];rintro⟨j,e,d⟩;exact v j e (d.trans c.symm)
  refine⟨((k:Int)+1,m.set z true),⟨by simp,by simp[a],λy B=> ?_⟩,?_⟩
  ·dsimp only;rw[Dq _ _ _ _ (by omega)];by_cases g:y=z
   ·subst g;rw[if_pos Z];exact⟨λ_=>⟨k,by omega,c⟩,λ_=>rfl⟩
   ·rw[if_neg g,f y B];constructor
    ·rintro⟨j,e,d⟩;exact⟨j,by omega,d⟩
    ·rintro⟨j,e,d⟩;by_cases n:j=k
     ·subst n;rw[c]at d;omega
     ·exact⟨j,by omega,d⟩
  ·unfold iZ kB;dsimp only;rw[if_pos (by omega),cF (by omega),c,if_neg (by omega),if_neg (by omega),cF ⟨by omega,a⟩,if_neg o,cF ⟨by omega,a⟩,wr (by omega) (by omega)];rfl
 ·rintro k ⟨t,m⟩ q w ⟨b,a,f⟩ A;dsimp only at b a f;subst b;unfold iZ kB;dsimp only;rw[if_pos (by omega),cF (by omega)];by_cases r:at' l (k:Int)<0
  ·rw[if_pos r,if_pos Z]
  rw[if_neg r];by_cases s:255<at' l (k:Int)
  ·rw[if_pos s,if_pos Z]
  rw[if_neg s];obtain⟨z,c⟩:∃z:Nat,at' l (k:Int)=z:=⟨(at' l (k:Int)).toNat,by omega⟩
  rw[c,cF ⟨by omega,a⟩,if_pos];rw[f z (by omega)];apply Classical.byContradiction;intro u;exact A ⟨by omega,λj e d=>u ⟨j,e,d.trans c⟩⟩
 ·rintro⟨t,m⟩ q ⟨b,_,_⟩;dsimp only at b;subst b;unfold iZ oZ;dsimp only;rw[if_neg (by omega)]
 ·rw[show at' (List.replicate 256 false) (z:Int)=false by rw[mU,zAd,List.getElem?_replicate,if_pos c];rfl];exact⟨λh=>(by cases h),fun⟨j,e,_⟩=>(by omega)⟩
theorem VS {d e:Type} [DecidableEq d] (k c:d) (v:e):∀l:List (d×e),nW c (FC k v l)=if c=k then some v else nW c l
 | []=>by simp only[FC,nW]
 | x :: xs => by
  simp only[FC];by_cases h:k=x.1
  ·rw[if_pos h];simp only[nW];by_cases a:c=k
   ·rw[if_pos a,if_pos a]
   ·rw[if_neg a,if_neg a,if_neg (λb=>a (b.trans h.symm))]
  ·rw[if_neg h];simp only[nW];by_cases a:c=x.1
   ·rw[if_pos a,if_neg (λb=>h (b.symm.trans a)),if_pos a]
   ·rw[if_neg a,VS k c v xs];by_cases b:c=k
    ·rw[if_pos b,if_pos b]
    ·rw[if_neg b,if_neg b,if_neg a]
theorem QL {a b:Type} [DecidableEq a] {k:a} {v:b} {z:a×b} {l:List (a×b)} (c:nW k l=none):z∈FC k v l↔z=(k,v)\/z∈l:=by
 rw[JJ k v l c];simp[or_comm]
theorem JI {a c:Type} [DecidableEq a] {k:a}:∀{l:List (a×c)},(∀v,(k,v)∉l)->nW k l=none
 | [],_=>rfl
 |x::xs,h=>by
  simp only[nW];rw[if_neg (λe=>h x.2 (by rw[e];exact zAe ..))];exact JI λv b=>h v (zAl _ b)
theorem xN {b c:Type} [DecidableEq b] {k:b} {v:c}:∀{l:List (b×c)},nW k l=none->(k,v)∉l
 | [],_=>by simp
 | x :: xs, h => by
  simp only[nW]at h;by_cases e:k=x.1
  ·rw[if_pos e]at h;cases h
  ·rw[if_neg e]at h;intro d;rcases zAn.1 d with a|a
   ·exact e (by rw[<-a])
   ·exact xN h a
theorem EO {a b:Type} [DecidableEq a] {k:a} {v:b}:∀{l:List (a×b)},nW k l=some v->(k,v)∈l
 |x::xs,h=>by
  simp only[nW]at h;by_cases e:k=x.1
  ·rw[if_pos e]at h;cases h;rw[e];exact zAe ..
  ·rw[if_neg e]at h;exact zAl _ (EO h)
theorem Mb {a b:Type} (p:a×b->Prop) [DecidablePred p]:∀l:List (a×b),MV (λd x=>if p d then some false else x) (some true) l=some (decide (∀z∈l,¬p z))
 | []=>by simp[MV]
 |x::xs=>by
  show(if p x then some false else MV _ (some true) xs)=_;rw[Mb p xs];by_cases h:p x
  ·rw[if_pos h];congr 1;symm;exact zA3 λc=>c x (zAe ..) h
  ·rw[if_neg h];congr 1;apply decide_eq_decide.2;simp[h]
def Ql (c:iI) (v i:Nat) (z:(Int×Int)×Int):Prop:=∃a b:Nat,(a<v\/(a=v/\b<i))/\b<(at' c (a:Int)).length/\z=(((a:Int),(jM (at' c (a:Int)) b).1),(jM (at' c (a:Int)) b).2)
def Np (a:iI):Prop:=(∀v,v<a.length->qE (at' a (v:Int)) v a.length)/\∀v,v<a.length->∀i,i<(at' a (v:Int)).length->Bf ([],a) v i
theorem Jc (c:iI) (hn:c.length<=30) (hd:∀v,v<c.length->(at' c (v:Int)).length<=30):(Np c->jB 1000 c=some true)/\(¬Np c->jB 1000 c=some false):=by
 unfold jB;have s:∀(v:Nat) (m:List ((Int×Int)×Int)) p,v<c.length->(∀z,z∈m↔Ql c v 0 z)->
   (qE (at' c (v:Int)) v c.length->∃X,(∀z,z∈X↔Ql c (v+1) 0 z)/\bL (dU c ((v:Int),m) p) 1000 ((0:Int),m)=p ((v:Int)+1,X))/\
   (¬qE (at' c (v:Int)) v c.length->bL (dU c ((v:Int),m) p) 1000 ((0:Int),m)=some false):=by
  intro v m p F hm;have af:=hd v F;have R:=IM (step:=dU c ((v:Int),m) p) (K:=λx=>p ((v:Int)+1,x.2)) (bad:=false) (at' c (v:Int)).length (Ju (at' c (v:Int)) v c.length) (λi x=>x.1=(i:Int)/\∀z,z∈x.2↔Ql c v i z) ?_ ?_ ?_ 1000 ((0:Int),m) ⟨rfl,hm⟩ (by omega)
  ·refine⟨λh=> ?_,λh=>R.2 h⟩
   obtain⟨x,⟨ah,ad⟩,f⟩:=R.1 h;refine⟨x.2,λz=>(ad z).trans ⟨?_,?_⟩,f⟩
   ·rintro⟨a,b,y,e,l⟩;exact⟨a,b,by omega,e,l⟩
   ·rintro⟨a,b,y,e,l⟩;refine⟨a,b,?_,e,l⟩
    by_cases W:a=v
    ·subst W;exact .inr ⟨rfl,e⟩
    ·omega
  ·rintro i ⟨H,g⟩ I M ⟨f,d⟩ ⟨p1,p2,p3,p4⟩;dsimp only at f d;subst f;have q:nW (((v:Int),(jM (at' c (v:Int)) i).1)) g=none:=by
    apply JI;intro w hw;obtain⟨a,b,y,e,l⟩:=(d _).1 hw;simp only[Prod.mk.injEq]at l;obtain⟨⟨C,A⟩,_⟩:=l;have:a=v:=by omega
    subst this;have hb:b<i:=by omega
    exact p4 b hb A.symm
   refine⟨((i:Int)+1,FC (((v:Int),(jM (at' c (v:Int)) i).1)) (jM (at' c (v:Int)) i).2 g),⟨by simp,λz=> ?_⟩,?_⟩
   ·dsimp only;rw[QL q,d];constructor
    ·rintro(rfl|⟨a,b,y,e,l⟩)
     ·exact⟨v,i,.inr ⟨rfl,by omega⟩,M,rfl⟩
     ·exact⟨a,b,by omega,e,l⟩
    ·rintro⟨a,b,y,e,l⟩;by_cases J:a=v/\b=i
     ·left;rw[l,J.1,J.2]
     ·right;exact⟨a,b,by omega,e,l⟩
   ·replace p1:0<=(at' (at' c (v:Int)) (i:Int)).1/\(at' (at' c (v:Int)) (i:Int)).1<=(c.length:Int) - 1:=p1;replace p3:1<=(at' (at' c (v:Int)) (i:Int)).2/\(at' (at' c (v:Int)) (i:Int)).2<=15:=p3;unfold dU jJ kO;dsimp only;rw[if_pos (by omega),cF (by omega),if_neg (by omega),if_neg (by omega),if_neg (by rw[zA3 p2];simp),if_neg (by omega),if_neg (by rw[zA3 (by omega)];simp),q,if_neg (by simp),wr (by omega) (by omega)]
  ·rintro i ⟨H,g⟩ I M ⟨f,d⟩ P;dsimp only at f d;subst f;unfold dU jJ kO;dsimp only;rw[if_pos (by omega),cF (by omega)];by_cases y:(jM (at' c (v:Int)) i).1<0
   ·rw[if_pos y,if_pos Z]
   rw[if_neg y];by_cases e:(c.length:Int)<=(jM (at' c (v:Int)) i).1
   ·rw[if_pos e,if_pos Z]
   rw[if_neg e];by_cases l:(jM (at' c (v:Int)) i).1=v
   ·rw[if_pos (zA4 l)]
   rw[if_neg (by rw[zA3 l];simp)];by_cases C:(jM (at' c (v:Int)) i).2<1
   ·rw[if_pos C,if_pos Z]
   rw[if_neg C];by_cases A:15<(jM (at' c (v:Int)) i).2
   ·rw[if_pos (zA4 A)]
   rw[if_neg (by rw[zA3 A];simp)];have:∃k,k<i/\(jM (at' c (v:Int)) k).1=(jM (at' c (v:Int)) i).1:=by
    apply Classical.byContradiction;intro hc;exact P ⟨by omega,l,by omega,λk N L=>hc ⟨k,N,L⟩⟩
   obtain⟨k,N,L⟩:=this;have n:=(d _).2 ⟨v,k,.inr ⟨rfl,N⟩,by omega,rfl⟩;rw[if_pos];rw[<-L];cases q:nW (((v:Int),(jM (at' c (v:Int)) k).1)) g with
   |some w=>rfl
   | none => exact absurd n (by
     intro n;exact xN q n)
  ·rintro⟨H,g⟩ I ⟨f,d⟩;dsimp only at f d;subst f;unfold dU oC;dsimp only;rw[if_neg (by omega),wr (by omega) (by omega)]
 have t:=IM (step:=eM 1000 c) (K:=λx=>kN x.2) (bad:=false) c.length (λv=>qE (at' c (v:Int)) v c.length) (λv x=>x.1=(v:Int)/\∀z,z∈x.2↔Ql c v 0 z) ?_ ?_ ?_ 1000 ((0:Int),[]) ⟨rfl,λz=>⟨λh=>(by cases h),fun⟨a,b,y,_⟩=>(by omega)⟩⟩ (by omega)
 rotate_left
 ·rintro v ⟨H,g⟩ p F ⟨f,d⟩ P;dsimp only at f d;subst f;obtain⟨X,y,e⟩:=(s v g p F d).1 P;refine⟨((v:Int)+1,X),⟨by simp,y⟩,?_⟩
  ·unfold eM;dsimp only;rw[if_pos (by omega),cF (by omega)];exact e
 ·rintro v ⟨H,g⟩ p F ⟨f,d⟩ P;dsimp only at f d;subst f;unfold eM;dsimp only;rw[if_pos (by omega),cF (by omega)];exact(s v g p F d).2 P
 ·rintro⟨H,g⟩ p ⟨f,d⟩;dsimp only at f d;subst f;unfold eM;dsimp only;rw[if_neg (by omega)]
 by_cases D:∀v,v<c.length->qE (at' c (v:Int)) v c.length
 rotate_left
 ·exact⟨λh=>absurd h.1 D,λ_=>t.2 D⟩
 obtain⟨⟨H,g⟩,⟨f,d⟩,L⟩:=t.1 D;rw[L];dsimp only at d ⊢;have N:kN g=some (decide (∀z∈g,¬(Option.getD (nW (z.1.2,z.1.1) g) (0:Int))≠z.2)):=Mb (λz:(Int×Int)×Int=>(Option.getD (nW (z.1.2,z.1.1) g) (0:Int))≠z.2) g;rw[N];have E:(∀z∈g,¬(Option.getD (nW (z.1.2,z.1.1) g) (0:Int))≠z.2)↔∀v,v<c.length->∀i,i<(at' c (v:Int)).length->Bf ([],c) v i:=by
  constructor
  ·intro h v F i M;have hw:=(D v F i M).2.2.1;have n:=(d (((v:Int),(jM (at' c (v:Int)) i).1),(jM (at' c (v:Int)) i).2)).2 ⟨v,i,.inl F,M,rfl⟩;have e:=zAy.1 (h _ n);dsimp only at e;cases q:nW ((jM (at' c (v:Int)) i).1,(v:Int)) g with
   |none=>rw[q]at e;simp only[Option.getD]at e;omega
   | some w =>
    rw[q]at e;simp only[Option.getD]at e;obtain⟨a,b,l,C,A⟩:=(d _).1 (EO q);simp only[Prod.mk.injEq]at A;obtain⟨⟨T,U⟩,h8⟩:=A;refine⟨b,?_,?_,?_⟩
    ·show b<(at' c (jM (at' c (v:Int)) i).1).length;rw[T];exact C
    ·show(jM (at' c (jM (at' c (v:Int)) i).1) b).1=v;rw[T];exact U.symm
    ·show(jM (at' c (jM (at' c (v:Int)) i).1) b).2=(jM (at' c (v:Int)) i).2;rw[T,<-h8];exact e
  ·intro h z hz ac;obtain⟨a,b,l,C,rfl⟩:=(d z).1 hz;have W:a<c.length:=by omega
   apply ac;obtain⟨j,r,o,B⟩:=h a W b C;have hu:=(D a W b C).1;obtain⟨u,Q⟩:∃u:Nat,(jM (at' c (a:Int)) b).1=u:=⟨(jM (at' c (a:Int)) b).1.toNat,by omega⟩
   replace r:j<(at' c (jM (at' c (a:Int)) b).1).length:=r;replace o:(jM (at' c (jM (at' c (a:Int)) b).1) j).1=a:=o;replace B:(jM (at' c (jM (at' c (a:Int)) b).1) j).2=(jM (at' c (a:Int)) b).2:=B;rw[Q]at r o B;have G:u<c.length:=by omega
   dsimp only;rw[Q,<-B];have n:=(d (((u:Int),(jM (at' c (u:Int)) j).1),(jM (at' c (u:Int)) j).2)).2 ⟨u,j,.inl G,r,rfl⟩;rw[o]at n;cases q:nW ((u:Int),(a:Int)) g with
   |none=>exact absurd n (xN q)
   | some w =>
    obtain⟨Y,S,ae,aa,A⟩:=(d _).1 (EO q);simp only[Prod.mk.injEq]at A;obtain⟨⟨T,U⟩,h8⟩:=A;have:Y=u:=by omega
    subst this;have ab:S=j:=by
     rcases Nat.lt_trichotomy S j with O|O|O
     ·exact absurd (U.symm.trans o.symm) ((D Y G j r).2.2.2 S O)
     ·exact O
     ·exact absurd (o.trans U) ((D Y G S aa).2.2.2 j O)
    subst ab;exact h8
 by_cases V:∀v,v<c.length->∀i,i<(at' c (v:Int)).length->Bf ([],c) v i
 ·rw[zA4 (E.2 V)];exact⟨λ_=>rfl,λh=>absurd ⟨D,V⟩ h⟩
 ·rw[zA3 (λh=>V (E.1 h))];exact⟨λh=>absurd h.2 V,λ_=>rfl⟩
theorem Pm:∀(N:Nat) (f:Nat->Nat) (k:Nat),(∀i,i<k->f i<N)->(∀i j,i<j->j<k->f i≠f j)->k<=N
 |0,f,k,h,_=>by
  cases k with
  |zero=>omega
  |succ k=>exact absurd (h 0 (by omega)) (by omega)
 | N + 1, f, k, h, hd => by
  by_cases b:∃a,a<k/\f a=N
  ·obtain⟨a,g,l⟩:=b;have:=Pm N (λi=>if i<a then f i else f (i+1)) (k - 1) (λi c=>by
    split
    ·have:=h i (by omega);have:=hd i a (by omega) g;omega
    ·have:=h (i+1) (by omega);have:=hd a (i+1) (by omega) (by omega);omega) (λi j d m=>by
    split<;>split
    ·exact hd i j d (by omega)
    ·exact hd i (j+1) (by omega) (by omega)
    ·omega
    ·exact hd (i+1) (j+1) (by omega) (by omega))
   omega
  ·have:=Pm N f k (λi c=>by
    have:=h i c;have:f i≠N:=λe=>b ⟨i,c,e⟩;omega) hd
   omega
theorem SJ {l:fI} {v n:Nat} (b:v<n) (h:qE l v n):l.length<n:=by
 have:=Pm n (λi=>if i=l.length then v else(jM l i).1.toNat) (l.length+1) (λi e=>by
  split
  ·exact b
  ·have:=(h i (by omega)).1;omega) (λi j a f=>by
  rw[if_neg (by omega)];have c:=(h i (by omega)).1;split
  ·have:=(h i (by omega)).2.1;omega
  ·have d:=(h j (by omega)).1;have:=(h j (by omega)).2.2.2 i a;omega)
 omega
theorem afC (g:GR) (j:light g):(VG g->lD 1000 g=some true)/\(¬VG g->lD 1000 g=some false):=by
 obtain⟨e,f,i⟩:=j;unfold lD qT qU;by_cases l:g.1.length<1
 ·rw[if_pos (by omega)];exact⟨λh=>by have:=h.n1;have:=h.len;omega,λ_=>rfl⟩
 rw[if_neg (by omega)];by_cases m:24<g.1.length
 ·rw[if_pos (by omega)];exact⟨λh=>by have:=h.n24;have:=h.len;omega,λ_=>rfl⟩
 rw[if_neg (by omega)];by_cases d:g.1.length=g.2.length
 rotate_left
 ·rw[zA4 (by omega)];exact⟨λh=>absurd h.len d,λ_=>rfl⟩
 rw[zA3 (by omega),if_neg (by simp)];by_cases b:∀k,k<g.1.length->Wy g.1 k
 rotate_left
 ·rw[(x_ g.1 e).2 b,bH Z];exact⟨λh=>absurd (λk n=>⟨(h.node k (by omega)).id,(h.node k (by omega)).ids⟩) b,λ_=>rfl⟩
 rw[(x_ g.1 e).1 b,bH Z,if_pos Z];by_cases a:Np g.2
 ·rw[(Jc g.2 f i).1 a];exact⟨λ_=>rfl,λh=>absurd ⟨by omega,by omega,d,λv c=>⟨(b v (by omega)).1,SJ c (a.1 v c),a.1 v c,(b v (by omega)).2⟩,a.2⟩ h⟩
 ·rw[(Jc g.2 f i).2 a];exact⟨λh=>absurd ⟨λv c=>(h.node v c).links,h.sym⟩ a,λ_=>rfl⟩
theorem VG.light {g:GR} (h:VG g):light g:=⟨by have:=h.n24;have:=h.len;omega,by have:=h.n24;omega,λv a=>by have:=(h.node v a).deg;have:=h.n24;omega⟩
abbrev D (d:bT) (v:Nat):Int:=at' d (v:Int)
def Adj (g:GR) (v u:Nat):Prop:=∃i,i<(row g v).length/\(jM (row g v) i).1=(u:Int)
theorem VG.port {g:GR} (h:VG g) {v i:Nat} (b:v<g.2.length) (a:i<(row g v).length):∃u:Nat,u<g.2.length/\(jM (row g v) i).1=(u:Int)/\Adj g v u:=by
 have c:=((h.node v b).links i a).1;exact⟨(jM (row g v) i).1.toNat,by omega,by omega,i,a,by omega⟩
theorem abY (d:bT) (h:d.length<=30):OK (λr:Int=> -1<=r/\(∀v,v<d.length->D d v<=r)/\(r = -1\/∃v,v<d.length/\D d v=r)) (EK 1000 d):=by
 unfold EK;refine C_ (λz:fF=>∃k:Nat,z.2=k/\k<=d.length /\ -1<=z.1/\(∀v,v<k->D d v<=z.1)/\(z.1 = -1\/∃v,v<k/\D d v=z.1)) (λz=>31 - z.2.toNat) ?_ 1000 _ ⟨0,rfl,by omega,by omega,λv b=>by omega,.inl Z⟩ (by simp);rintro⟨m,z⟩ n ⟨k,j,o,g,c,a⟩ e;dsimp only at j g c a;subst j;unfold Ec Eb;dsimp only;by_cases l:k<d.length
 ·rw[if_pos (by omega),cF (by omega),wr (by omega) (by omega)];refine e _ ⟨k+1,by simp,by omega,by dsimp only;omega,λv b=> ?_,?_⟩ (by dsimp only;omega)
  ·by_cases f:v=k
   ·subst f;show D d v<=max m (D d v);omega
   ·have:=c v (by omega);show D d v<=max m (D d k);omega
  ·by_cases p:m<=D d k
   ·exact .inr ⟨k,by omega,by show D d k=max m (D d k);omega⟩
   ·rcases a with a|⟨v,b,i⟩
    ·left;show max m (D d k) = -1;omega
    ·exact .inr ⟨v,by omega,by show D d v=max m (D d k);omega⟩
 ·rw[if_neg (by omega)];refine⟨m,rfl,g,λv b=>c v (by omega),?_⟩
  rcases a with a|⟨v,b,i⟩
  ·exact .inl a
  ·exact .inr ⟨v,by omega,i⟩
theorem NP (g:GR) (v:Nat) (u:Int) (m:v<g.2.length) (l:(row g v).length<=30):mM 1000 g v u=some (BI (row g v) u):=by
 unfold mM;rw[cF (by omega)];rcases wG (row g v) u with⟨i,j,h,c,b⟩|⟨c,b⟩
 ·rw[b];refine IL (λx:Int=>∃k:Nat,x=k/\k<=i) (λx=>31 - x.toNat) ?_ 1000 _ ⟨0,rfl,by omega⟩ (by omega);rintro x d ⟨k,rfl,f⟩ a;unfold yD;rw[if_pos (show(k:Int)<((row g v).length:Int) by omega),cF (show 0<=(k:Int)/\(k:Int)<((row g v).length:Int) by omega)];by_cases e:k=i
  ·subst e;exact if_pos h
  ·rw[if_neg (c k (by omega)),wr (by omega) (by omega)];exact a _ ⟨k+1,by omega,by omega⟩ (by omega)
 ·rw[b];refine IL (λx:Int=>∃k:Nat,x=k/\k<=(row g v).length) (λx=>31 - x.toNat) ?_ 1000 _ ⟨0,rfl,by omega⟩ (by omega);rintro x d ⟨k,rfl,f⟩ a;unfold yD;by_cases e:k<(row g v).length
  ·rw[if_pos (show(k:Int)<((row g v).length:Int) by omega),cF (show 0<=(k:Int)/\(k:Int)<((row g v).length:Int) by omega),if_neg (c k e),wr (by omega) (by omega)];exact a _ ⟨k+1,by omega,by omega⟩ (by omega)
  ·rw[if_neg (show¬(k:Int)<((row g v).length:Int) by omega)];rfl
section
def ahp (f:Nat->Nat):Nat->Nat
 |0=>0
 |k+1=>ahp f k+f k
open Classical in
noncomputable def ind (p:Prop):Nat:=if p then 1 else 0
end
theorem acs (a:Nat) (h:a<4294967296):IntKind.u32.wrap (a:Int)=a:=by rw[<-MF];exact if_pos ⟨by omega,by omega⟩
def N32 (x:Int):Nat:=(BitVec.ofInt 32 x).toNat
theorem WL (x:Int):N32 x<4294967296:=(BitVec.ofInt 32 x).isLt
theorem TK {a:Nat} (h:a<4294967296):N32 (a:Int)=a:=by
 unfold N32;rw[BitVec.ofInt_natCast,BitVec.toNat_ofNat];exact Nat.mod_eq_of_lt h
theorem acN (x y:Int):Xe .u32 x y=((N32 x ||| N32 y:Nat):Int):=by
 show IntKind.u32.wrap (((BitVec.ofInt 32 x ||| BitVec.ofInt 32 y).toNat:Nat):Int)=_;rw[BitVec.toNat_or];exact acs _ (Nat.or_lt_two_pow (n:=32) (WL x) (WL y))
theorem acg {k:Nat} (a:k<32):2^k<4294967296:=Nat.pow_lt_pow_right (n:=32) (by omega) a
theorem aeI {k:Nat} (a:k<32):MS .u32 1 (k:Int)=((2^k:Nat):Int):=by
 show IntKind.u32.wrap (1*2^(min ((k:Int).toNat) 32))=_;rw[zAf,Nat.min_eq_left (by omega),Int.one_mul,show(2:Int)^k=((2^k:Nat):Int) by simp];exact acs _ (acg a)
def Lm (g:GR) (s:Nat):Prop:=(∀v,s.testBit v=true->v<g.2.length)/\∀v u,s.testBit v=true->s.testBit u=true->¬Adj g v u
theorem ahr {k:Nat} (a:k<32):wI .u64 (k:Int)=k:=by
 show IntKind.u64.wrap (k:Int)=k;have:∀j:Fin 32,IntKind.u64.wrap ((j.1:Nat):Int)=(j.1:Nat):=by decide
 exact this ⟨k,a⟩
def T (e:bT) (k v w:Nat):Int:=if 0<=D e w/\(D e w<k\/(D e w=k/\w<v))then D e w else -1
theorem Yg {X R:Type} {step:X->(X->Option R)->Option R} {K:X->Option R} {bad:R} (N:Nat) (p:Nat->Prop) (I:Nat->X->Prop) (B:Nat)
  (t:∀(k:Nat) x q,k<N->k<B->I k x->p k->∃c,I (k+1) c/\step x q=q c) (l:∀(k:Nat) x q,k<N->k<B->I k x->¬p k->step x q=some bad) (s:∀x q,I N x->N<B->step x q=K x):
  ∀(b:Nat) (x:X),I 0 x->B<=b->(N<B\/∃k,k<N/\k<B/\¬p k)->((∀k,k<N->p k)->∃c,I N c/\bL step b x=K c)/\(¬(∀k,k<N->p k)->bL step b x=some bad):=by
 intro b x e v hB;have r:∀(d a b:Nat) (x:X),I a x->a+d<N->a+d<B->¬p (a+d)->d<b->bL step b x=some bad:=by
  intro d
  induction d with
  |zero=>
   intro a b x e j g i v;obtain⟨f,rfl⟩:∃f,b=f+1:=⟨b - 1,by omega⟩
   exact l a x _ j g e i
  | succ d y =>
   intro a b x e j g i v;obtain⟨f,rfl⟩:∃f,b=f+1:=⟨b - 1,by omega⟩
   by_cases u:p a
   ·obtain⟨c,n,o⟩:=t a x (bL step f) (by omega) (by omega) e u;have o:bL step (f+1) x=bL step f c:=o;rw[o];exact y (a+1) f c n (by omega) (by omega) (by rw[show a+1+d=a+(d+1) by omega];exact i) (by omega)
   ·exact l a x _ (by omega) (by omega) e u
 have m:∀(d a b:Nat) (x:X),I a x->a+d=N->N<B->(∀k,a<=k->k<N->p k)->d<b->∃c,I N c/\bL step b x=K c:=by
  intro d
  induction d with
  |zero=>
   intro a b x e j g i v;obtain⟨f,rfl⟩:∃f,b=f+1:=⟨b - 1,by omega⟩
   obtain rfl:a=N:=by omega
   exact⟨x,e,s x _ e g⟩
  |succ d y=>
   intro a b x e j g i v;obtain⟨f,rfl⟩:∃f,b=f+1:=⟨b - 1,by omega⟩
   obtain⟨c,n,o⟩:=t a x (bL step f) (by omega) (by omega) e (i a (zAh _) (by omega));have o:bL step (f+1) x=bL step f c:=o;rw[o];exact y (a+1) f c n (by omega) g (λk j g=>i k (by omega) g) (by omega)
 constructor
 ·intro h;rcases hB with hB|⟨k,j,_,g⟩
  ·exact m N 0 b x e (by omega) hB (λk _ w=>h k w) (by omega)
  ·exact absurd (h k j) g
 ·intro h;have:∃k,k<N/\k<B/\¬p k:=by
   rcases hB with hB|hB
   ·apply Classical.byContradiction;intro A;exact h λk w=>Classical.byContradiction λi=>A ⟨k,w,by omega,i⟩
   ·exact hB
  obtain⟨k,j,g,z⟩:=this;exact r k 0 b x e (by omega) (by omega) (by rw[Nat.zero_add];exact z) (by omega)
theorem V_ {a:iI} (q:a.length<=30) {v:Nat} (r:v<a.length):(at' a (v:Int)).length<1000\/∃k,k<(at' a (v:Int)).length/\k<1000/\¬Ju (at' a (v:Int)) v a.length k:=by
 by_cases h:(at' a (v:Int)).length<1000
 ·exact .inl h
 ·right;apply Classical.byContradiction;intro f;have b:∀k,k<40->Ju (at' a (v:Int)) v a.length k:=λk p=>Classical.byContradiction λl=>f ⟨k,by omega,by omega,l⟩;have:=Pm a.length (λi=>(jM (at' a (v:Int)) i).1.toNat) 40 (λi g=>by have:=(b i g).1;omega) (λi j c d o=>by
   have m:=(b i (by omega)).1;have n:=(b j d).1;have e:=(b j d).2.2.2 i c;exact e (by omega))
  omega
theorem Pp (g:GR):(VG g->lE 1000 g=some true)/\(¬VG g->lE 1000 g=some false):=by
 unfold lE;rw[jF,bH Z];by_cases y:1<=g.2.length/\g.2.length<=24
 rotate_left
 ·rw[zA3 (by omega)];exact⟨λh=>absurd ⟨h.n1,h.n24⟩ y,λ_=>rfl⟩
 rw[zA4 (by omega),if_neg (by simp)];by_cases G:g.1.length=g.2.length
 rotate_left
 ·rw[zA4 (by omega)];exact⟨λh=>absurd h.len G,λ_=>rfl⟩
 rw[zA3 (by omega)];unfold vA;rw[if_neg (by simp)];have o:∀(v:Nat) (b:Int->Option Bool),v<g.2.length->((∀k,k<v->Gs g k≠Gs g v)->bL (iQ g v b) 1000 0=b ((v:Int)+1))/\(¬(∀k,k<v->Gs g k≠Gs g v)->bL (iQ g v b) 1000 0=some false):=by
  intro v b e;refine BS v _ (λk a B c=> ?_) (λk a B c=> ?_) (λa=> ?_) 1000 (by omega)
  ·unfold iQ;rw[if_pos (by omega),cF (by omega),cF (by omega),if_neg c,wr (by omega) (by omega)]
  ·unfold iQ;rw[if_pos (by omega),cF (by omega),cF (by omega),if_pos (zAy.1 c)]
  ·unfold iQ vF;rw[if_neg (by omega),wr (by omega) (by omega)]
 have l:=BS (step:=iH 1000 g) (K:=oK 1000 g ()) (bad:=false) g.2.length (Lr g) (λv b e c=> ?_) (λv b e c=> ?_) (λb=> ?_) 1000 (by omega)
 rotate_left
 ·unfold iH mN;rw[if_pos (by omega),cF (by omega),jF,zA4 c.id,bH Z,if_neg (by simp),cF (by omega),if_neg (show¬((g.2.length:Int)<=((row g v).length:Int))from by have:=c.deg;omega),cF (by omega),(tF (row g v) v g.2.length (by have:=c.deg;omega) (by omega)).1 c.links,bH Z,if_neg (by simp)];exact(o v b e).1 c.ids
 ·unfold iH mN;rw[if_pos (by omega),cF (by omega),jF];by_cases w:0<=Gs g v/\Gs g v<=255
  rotate_left
  ·rw[zA3 w];rfl
  rw[zA4 w,bH Z,if_neg (by simp),cF (by omega)];by_cases H:(row g v).length<g.2.length
  rotate_left
  ·rw[if_pos (show(g.2.length:Int)<=((row g v).length:Int) by omega)];rfl
  rw[if_neg (show¬(g.2.length:Int)<=((row g v).length:Int) by omega),cF (by omega)];by_cases x:qE (row g v) v g.2.length
  rotate_left
  ·rw[(tF (row g v) v g.2.length (by omega) (by omega)).2 x];rfl
  rw[(tF (row g v) v g.2.length (by omega) (by omega)).1 x,bH Z,if_neg (by simp)];exact(o v b e).2 λI=>c ⟨w,H,x,I⟩
 ·unfold iH;rw[if_neg (by omega)]
 by_cases p:∀v,v<g.2.length->Lr g v
 rotate_left
 ·exact⟨λh=>absurd h.node p,λ_=>l.2 p⟩
 rw[l.1 p];unfold oK;have f:∀(v:Nat) (b:Int->Option Bool),v<g.2.length->((∀i,i<(row g v).length->Bf g v i)->bL (fV 1000 g v b) 1000 0=b ((v:Int)+1))/\(¬(∀i,i<(row g v).length->Bf g v i)->bL (fV 1000 g v b) 1000 0=some false):=by
  intro v b e;have M:=(p v e).deg;have n:∀(i:Nat) a,i<(row g v).length->(Bf g v i->fV 1000 g v b i a=a ((i:Int)+1))/\(¬Bf g v i->fV 1000 g v b i a=some false):=by
   intro i a r;unfold fV;rw[cF (by omega),if_pos (show(i:Int)<((row g v).length:Int) by omega),cF (by omega),cF (show 0<=(i:Int)/\(i:Int)<((row g v).length:Int) by omega)];have O:=((p v e).links i r).1;obtain⟨u,F⟩:∃u:Nat,(jM (row g v) i).1=u:=⟨(jM (row g v) i).1.toNat,by omega⟩
   have q:u<g.2.length:=by omega
   unfold Bf;rw[show(at' (at' g.2 (v:Int)) (i:Int))=jM (row g v) i from rfl,F,Ig g u v q (by have:=(p u q).deg;omega),bH Z];have E:=(p u q).links;rcases wG (row g u) v with⟨j,t,m,A,z⟩|⟨J,z⟩
   ·rw[z,if_neg (by omega),cF (by omega),cF (show 0<=(j:Int)/\(j:Int)<((at' g.2 (u:Int)).length:Int)from⟨by omega,by have:j<(row g u).length:=t;exact_mod_cast this⟩)];unfold vE;constructor
    ·rintro⟨k,B,s,D⟩;have C:k=j:=by
      rcases Nat.lt_trichotomy k j with h|h|h
      ·exact absurd s (A k h)
      ·exact h
      ·exact absurd (m.trans s.symm) ((E k B).2.2.2 j h)
     subst C;rw[if_neg (by rw[zA3];simp;exact λh=>h D),wr (by omega) (by omega)]
    ·intro h;rw[if_pos];exact zA4 λN=>h ⟨j,t,m,N⟩
   ·rw[z,if_pos (by decide)];exact⟨fun⟨j,t,m,_⟩=>absurd m (J j t),λ_=>rfl⟩
  refine BS (row g v).length _ (λi a r c=>(n i a r).1 c) (λi a r c=>(n i a r).2 c) (λa=> ?_) 1000 (by omega);unfold fV vD;rw[cF (by omega),if_neg (show¬(((row g v).length:Nat):Int)<((row g v).length:Int) by omega),wr (by omega) (by omega)]
 have d:=BS (step:=iG 1000 g) (K:=some true) (bad:=false) g.2.length (λv=>∀i,i<(row g v).length->Bf g v i) (λv b e c=> ?_) (λv b e c=> ?_) (λb=> ?_) 1000 (by omega)
 ·exact⟨λh=>d.1 h.sym,λh=>d.2 λL=>h ⟨y.1,y.2,G,p,L⟩⟩
 ·unfold iG;rw[if_pos (by omega)];exact(f v b e).1 c
 ·unfold iG;rw[if_pos (by omega)];exact(f v b e).2 c
 ·unfold iG vC;rw[if_neg (by omega)]
theorem HJ (c:iI) (hn:c.length<=30):(Np c->jB 1000 c=some true)/\(¬Np c->jB 1000 c=some false):=by
 unfold jB;have s:∀(v:Nat) (m:List ((Int×Int)×Int)) p,v<c.length->(∀z,z∈m↔Ql c v 0 z)->
   (qE (at' c (v:Int)) v c.length->∃Y,(∀z,z∈Y↔Ql c (v+1) 0 z)/\bL (dU c ((v:Int),m) p) 1000 ((0:Int),m)=p ((v:Int)+1,Y))/\
   (¬qE (at' c (v:Int)) v c.length->bL (dU c ((v:Int),m) p) 1000 ((0:Int),m)=some false):=by
  intro v m p F hm;have L:=V_ hn F;have S:=Yg (step:=dU c ((v:Int),m) p) (K:=λx=>p ((v:Int)+1,x.2)) (bad:=false) (at' c (v:Int)).length (Ju (at' c (v:Int)) v c.length) (λi x=>x.1=(i:Int)/\∀z,z∈x.2↔Ql c v i z) 1000 ?_ ?_ ?_ 1000 ((0:Int),m) ⟨rfl,hm⟩ (by omega) L
  ·refine⟨λh=> ?_,λh=>S.2 h⟩
   obtain⟨x,⟨ah,ae⟩,f⟩:=S.1 h;refine⟨x.2,λz=>(ae z).trans ⟨?_,?_⟩,f⟩
   ·rintro⟨a,b,y,e,l⟩;exact⟨a,b,by omega,e,l⟩
   ·rintro⟨a,b,y,e,l⟩;refine⟨a,b,?_,e,l⟩
    by_cases X:a=v
    ·subst X;exact .inr ⟨rfl,e⟩
    ·omega
  ·rintro i ⟨H,g⟩ I N ac ⟨f,d⟩ ⟨p1,p2,p3,p4⟩;dsimp only at f d;subst f;have q:nW (((v:Int),(jM (at' c (v:Int)) i).1)) g=none:=by
    apply JI;intro w hw;obtain⟨a,b,y,e,l⟩:=(d _).1 hw;simp only[Prod.mk.injEq]at l;obtain⟨⟨C,A⟩,_⟩:=l;have:a=v:=by omega
    subst this;have hb:b<i:=by omega
    exact p4 b hb A.symm
   refine⟨((i:Int)+1,FC (((v:Int),(jM (at' c (v:Int)) i).1)) (jM (at' c (v:Int)) i).2 g),⟨by simp,λz=> ?_⟩,?_⟩
   ·dsimp only;rw[QL q,d];constructor
    ·rintro(rfl|⟨a,b,y,e,l⟩)
     ·exact⟨v,i,.inr ⟨rfl,by omega⟩,N,rfl⟩
     ·exact⟨a,b,by omega,e,l⟩
    ·rintro⟨a,b,y,e,l⟩;by_cases J:a=v/\b=i
     ·left;rw[l,J.1,J.2]
     ·right;exact⟨a,b,by omega,e,l⟩
   ·replace p1:0<=(at' (at' c (v:Int)) (i:Int)).1/\(at' (at' c (v:Int)) (i:Int)).1<=(c.length:Int) - 1:=p1;replace p3:1<=(at' (at' c (v:Int)) (i:Int)).2/\(at' (at' c (v:Int)) (i:Int)).2<=15:=p3;unfold dU jJ kO;dsimp only;rw[if_pos (by omega),cF (by omega),if_neg (by omega),if_neg (by omega),if_neg (by rw[zA3 p2];simp),if_neg (by omega),if_neg (by rw[zA3 (by omega)];simp),q,if_neg (by simp),wr (by omega) (by omega)]
  ·rintro i ⟨H,g⟩ I N ac ⟨f,d⟩ Q;dsimp only at f d;subst f;unfold dU jJ kO;dsimp only;rw[if_pos (by omega),cF (by omega)];by_cases y:(jM (at' c (v:Int)) i).1<0
   ·rw[if_pos y,if_pos Z]
   rw[if_neg y];by_cases e:(c.length:Int)<=(jM (at' c (v:Int)) i).1
   ·rw[if_pos e,if_pos Z]
   rw[if_neg e];by_cases l:(jM (at' c (v:Int)) i).1=v
   ·rw[if_pos (zA4 l)]
   rw[if_neg (by rw[zA3 l];simp)];by_cases C:(jM (at' c (v:Int)) i).2<1
   ·rw[if_pos C,if_pos Z]
   rw[if_neg C];by_cases A:15<(jM (at' c (v:Int)) i).2
   ·rw[if_pos (zA4 A)]
   rw[if_neg (by rw[zA3 A];simp)];have:∃k,k<i/\(jM (at' c (v:Int)) k).1=(jM (at' c (v:Int)) i).1:=by
    apply Classical.byContradiction;intro hc;exact Q ⟨by omega,l,by omega,λk O M=>hc ⟨k,O,M⟩⟩
   obtain⟨k,O,M⟩:=this;have n:=(d _).2 ⟨v,k,.inr ⟨rfl,O⟩,by omega,rfl⟩;rw[if_pos];rw[<-M];cases q:nW (((v:Int),(jM (at' c (v:Int)) k).1)) g with
   |some w=>rfl
   | none => exact absurd n (by
     intro n;exact xN q n)
  ·rintro⟨H,g⟩ I ⟨f,d⟩ _;dsimp only at f d;subst f;unfold dU oC;dsimp only;rw[if_neg (by omega),wr (by omega) (by omega)]
 have t:=IM (step:=eM 1000 c) (K:=λx=>kN x.2) (bad:=false) c.length (λv=>qE (at' c (v:Int)) v c.length) (λv x=>x.1=(v:Int)/\∀z,z∈x.2↔Ql c v 0 z) ?_ ?_ ?_ 1000 ((0:Int),[]) ⟨rfl,λz=>⟨λh=>(by cases h),fun⟨a,b,y,_⟩=>(by omega)⟩⟩ (by omega)
 rotate_left
 ·rintro v ⟨H,g⟩ p F ⟨f,d⟩ Q;dsimp only at f d;subst f;obtain⟨Y,y,e⟩:=(s v g p F d).1 Q;refine⟨((v:Int)+1,Y),⟨by simp,y⟩,?_⟩
  ·unfold eM;dsimp only;rw[if_pos (by omega),cF (by omega)];exact e
 ·rintro v ⟨H,g⟩ p F ⟨f,d⟩ Q;dsimp only at f d;subst f;unfold eM;dsimp only;rw[if_pos (by omega),cF (by omega)];exact(s v g p F d).2 Q
 ·rintro⟨H,g⟩ p ⟨f,d⟩;dsimp only at f d;subst f;unfold eM;dsimp only;rw[if_neg (by omega)]
 by_cases D:∀v,v<c.length->qE (at' c (v:Int)) v c.length
 rotate_left
 ·exact⟨λh=>absurd h.1 D,λ_=>t.2 D⟩
 obtain⟨⟨H,g⟩,⟨f,d⟩,M⟩:=t.1 D;rw[M];dsimp only at d ⊢;have O:kN g=some (decide (∀z∈g,¬(Option.getD (nW (z.1.2,z.1.1) g) (0:Int))≠z.2)):=Mb (λz:(Int×Int)×Int=>(Option.getD (nW (z.1.2,z.1.1) g) (0:Int))≠z.2) g;rw[O];have E:(∀z∈g,¬(Option.getD (nW (z.1.2,z.1.1) g) (0:Int))≠z.2)↔∀v,v<c.length->∀i,i<(at' c (v:Int)).length->Bf ([],c) v i:=by
  constructor
  ·intro h v F i N;have hw:=(D v F i N).2.2.1;have n:=(d (((v:Int),(jM (at' c (v:Int)) i).1),(jM (at' c (v:Int)) i).2)).2 ⟨v,i,.inl F,N,rfl⟩;have e:=zAy.1 (h _ n);dsimp only at e;cases q:nW ((jM (at' c (v:Int)) i).1,(v:Int)) g with
   |none=>rw[q]at e;simp only[Option.getD]at e;omega
   | some w =>
    rw[q]at e;simp only[Option.getD]at e;obtain⟨a,b,l,C,A⟩:=(d _).1 (EO q);simp only[Prod.mk.injEq]at A;obtain⟨⟨U,V⟩,h8⟩:=A;refine⟨b,?_,?_,?_⟩
    ·show b<(at' c (jM (at' c (v:Int)) i).1).length;rw[U];exact C
    ·show(jM (at' c (jM (at' c (v:Int)) i).1) b).1=v;rw[U];exact V.symm
    ·show(jM (at' c (jM (at' c (v:Int)) i).1) b).2=(jM (at' c (v:Int)) i).2;rw[U,<-h8];exact e
  ·intro h z hz ad;obtain⟨a,b,l,C,rfl⟩:=(d z).1 hz;have X:a<c.length:=by omega
   apply ad;obtain⟨j,r,o,B⟩:=h a X b C;have hu:=(D a X b C).1;obtain⟨u,R⟩:∃u:Nat,(jM (at' c (a:Int)) b).1=u:=⟨(jM (at' c (a:Int)) b).1.toNat,by omega⟩
   replace r:j<(at' c (jM (at' c (a:Int)) b).1).length:=r;replace o:(jM (at' c (jM (at' c (a:Int)) b).1) j).1=a:=o;replace B:(jM (at' c (jM (at' c (a:Int)) b).1) j).2=(jM (at' c (a:Int)) b).2:=B;rw[R]at r o B;have G:u<c.length:=by omega
   dsimp only;rw[R,<-B];have n:=(d (((u:Int),(jM (at' c (u:Int)) j).1),(jM (at' c (u:Int)) j).2)).2 ⟨u,j,.inl G,r,rfl⟩;rw[o]at n;cases q:nW ((u:Int),(a:Int)) g with
   |none=>exact absurd n (xN q)
   | some w =>
    obtain⟨a',T,af,aa,A⟩:=(d _).1 (EO q);simp only[Prod.mk.injEq]at A;obtain⟨⟨U,V⟩,h8⟩:=A;have:a'=u:=by omega
    subst this;have ab:T=j:=by
     rcases Nat.lt_trichotomy T j with P|P|P
     ·exact absurd (V.symm.trans o.symm) ((D a' G j r).2.2.2 T P)
     ·exact P
     ·exact absurd (o.trans V) ((D a' G T aa).2.2.2 j P)
    subst ab;exact h8
 by_cases W:∀v,v<c.length->∀i,i<(at' c (v:Int)).length->Bf ([],c) v i
 ·rw[zA4 (E.2 W)];exact⟨λ_=>rfl,λh=>absurd ⟨D,W⟩ h⟩
 ·rw[zA3 (λh=>W (E.1 h))];exact⟨λh=>absurd h.2 W,λ_=>rfl⟩
theorem Wk (g:GR):(VG g->lD 1000 g=some true)/\(¬VG g->lD 1000 g=some false):=by
 unfold lD qT qU;by_cases e:g.1.length<1
 ·rw[if_pos (by omega)];exact⟨λh=>by have:=h.n1;have:=h.len;omega,λ_=>rfl⟩
 rw[if_neg (by omega)];by_cases f:24<g.1.length
 ·rw[if_pos (by omega)];exact⟨λh=>by have:=h.n24;have:=h.len;omega,λ_=>rfl⟩
 rw[if_neg (by omega)];by_cases d:g.1.length=g.2.length
 rotate_left
 ·rw[zA4 (by omega)];exact⟨λh=>absurd h.len d,λ_=>rfl⟩
 rw[zA3 (by omega),if_neg (by simp)];by_cases b:∀k,k<g.1.length->Wy g.1 k
 rotate_left
 ·rw[(x_ g.1 (by omega)).2 b,bH Z];exact⟨λh=>absurd (λk i=>⟨(h.node k (by omega)).id,(h.node k (by omega)).ids⟩) b,λ_=>rfl⟩
 rw[(x_ g.1 (by omega)).1 b,bH Z,if_pos Z];by_cases a:Np g.2
 ·rw[(HJ g.2 (by omega)).1 a];exact⟨λ_=>rfl,λh=>absurd ⟨by omega,by omega,d,λv c=>⟨(b v (by omega)).1,SJ c (a.1 v c),a.1 v c,(b v (by omega)).2⟩,a.2⟩ h⟩
 ·rw[(HJ g.2 (by omega)).2 a];exact⟨λh=>absurd ⟨λv c=>(h.node v c).links,h.sym⟩ a,λ_=>rfl⟩
abbrev Vj:=Bo
theorem tI (v m:Int) (g:1<=m) (h:m<=4611686018427387904):iD 1000 v m=some (v%m):=by
 unfold iD tB;rw[if_neg (by omega),cF (by omega)];have c:=Int.tmod_eq_emod (a:=v) (b:=m);have f:=Int.emod_nonneg v (show m≠0 by omega);have i:=Int.emod_lt_of_pos v (show 0<m by omega);by_cases e:0<=v\/m∣v
 ·rw[if_pos e]at c;have d:v.tmod m=v%m:=by simpa using c
  rw[d,if_neg (by omega)]
 ·rw[if_neg e]at c;have:(m.natAbs:Int)=m:=by omega
  rw[c,if_pos (by omega),wr (by omega) (by omega)];congr 1;omega
theorem Qu (l:bT) (i:Int) (h:0<=i):uZ 1000 l i=some (at' l i):=by
 unfold uZ;by_cases a:i<(l.length:Int)
 ·rw[if_pos a,cF ⟨h,a⟩]
 ·rw[if_neg a];unfold at';rw[zAd,zAo (by omega)];rfl
theorem QR {i:Type} [DecidableEq i]:∀(e c:List i),e.Nodup->(∀x∈e,x∈c)->e.length<=c.length
 | [],_,_,_=>Nat.zero_le _
 | a :: t, c, hn, hs => by
  have b:=List.nodup_cons.1 hn;have f:=hs a (zAe ..);have:=QR t (c.erase a) b.2 λx h=>by
   have d:x≠a:=λj=>b.1 (j▸h);exact(List.mem_erase_of_ne d).2 (hs x (zAl _ h))
  rw[List.length_erase_of_mem f]at this;have g:0<c.length:=List.length_pos_of_mem f;simp only[zA8];omega
theorem Zg (d:Int) (c:bT) (t:Nat) (k:t<=200) (h:∀s,s<t->(d+(s:Int))%256∈c):t<=c.length:=by
 have:=QR ((List.range t).map λs:Nat=>(d+(s:Int))%256) c (by
  rw[List.nodup_iff_pairwise_ne,List.pairwise_map];refine List.Pairwise.imp_of_mem ?_ List.pairwise_lt_range;intro a b e g f;rw[zAt]at e g;omega) (λx j=>by
  obtain⟨s,i,rfl⟩:=zB5.1 j;exact h s (zAt.1 i))
 simpa using this
structure Ll (ids:bT):Prop where
 rng:∀y∈ids,0<=y/\y<=255
 nd:ids.Nodup
theorem Ll.snoc {c:bT} {y:Int} (h:Ll c) (j:0<=y/\y<=255) (i:y∉c):Ll (c++[y]):=by
 refine⟨λz d=> ?_,?_⟩
 ·rcases List.mem_append.1 d with d|d
  ·exact h.rng z d
  ·rw[List.mem_singleton.1 d];exact j
 ·rw[List.nodup_append];refine⟨h.nd,by simp,?_⟩
  intro a e b f;rw[List.mem_singleton.1 f];exact λg=>i (g▸e)
theorem EN {a:Type} [Inhabited a] {l:List a} {i:Nat} (h:i<l.length):at' l (i:Int)∈l:=by
 rw[mU,zAd,zA2 h];exact List.getElem_mem h
theorem Jx {a:Type} [Inhabited a] {l:List a} {x:a} (h:x∈l):∃i,i<l.length/\at' l ((i:Nat):Int)=x:=by
 obtain⟨i,b,c⟩:=List.getElem_of_mem h;refine⟨i,b,?_⟩
 rw[mU,zAd,zA2 b];exact c
theorem XX {Q:List Int×iI->Prop} {a:bT} (H:a.length<=24) (b:Int) (r:Int×bT->Option (List Int×iI))
  (m:∀y,0<=y->y<=255->y∉a->OK Q (r ((a.length:Int)+1,a++[y]))):OK Q (bL (mI ((a.length:Int),a) r) 1000 (b%256,0)):=by
 refine C_ (λs:fF=>∃(t u:Nat),s.1=(b+(t:Int))%256/\s.2=u/\u<=a.length/\t<=a.length/\(∀k,k<t->(b+(k:Int))%256∈a)/\∀j,j<u->at' a (j:Int)≠s.1)
  (λs=>(a.length - ((s.1 - b)%256).toNat)*30+(a.length - s.2.toNat)) ?_ 1000 _ ⟨0,0,by simp,rfl,by omega,by omega,λk p=>by omega,λj o=>by omega⟩ ?_
 ·rintro⟨i,j⟩ z ⟨t,u,g,v,F,C,w,l⟩ d;dsimp only at g v l;subst v;unfold mI uP mH;dsimp only;by_cases x:(u:Int)<(a.length:Int)
  ·rw[if_pos x,cF (by omega)];by_cases f:at' a (u:Int)=i
   ·rw[if_pos f,cF (by decide)];have n:(b+(t:Int))%256∈a:=by rw[<-g,<-f];exact EN (by omega)
    have c:∀k,k<t+1->(b+(k:Int))%256∈a:=λk p=>by
     rcases Nat.lt_succ_iff_lt_or_eq.1 p with h|h
     ·exact w k h
     ·subst h;exact n
    have E:=Zg b a (t+1) (by omega) c;have G:0<=i/\i<=255:=by omega
    rw[wr (by omega) (by omega),Int.tmod_eq_emod_of_nonneg (by omega),wr (by omega) (by omega)];refine d _ ⟨t+1,0,?_,by simp,by omega,E,c,λj o=>by omega⟩ ?_
    ·dsimp only;omega
    ·dsimp only;have A:((i+1)%256 - b)%256=(t:Int)+1:=by omega
     have B:(i - b)%256=(t:Int):=by omega
     rw[A,B];omega
   ·rw[if_neg f,wr (by omega) (by omega)];refine d _ ⟨t,u+1,g,by dsimp only;omega,by omega,C,w,λj o=> ?_⟩ ?_
    ·rcases Nat.lt_succ_iff_lt_or_eq.1 o with h|h
     ·exact l j h
     ·subst h;exact f
    ·dsimp only;omega
  ·rw[if_neg x];rw[cF (by simp;omega),wr (by omega) (by omega)];refine m i (by omega) (by omega) λD=> ?_;obtain⟨k,p,q⟩:=Jx D;exact l k (by omega) q
 ·dsimp only;have e:(b%256 - b)%256=0:=by omega
  rw[e];omega
theorem Yv (x:Vj) (a:Nat) (u:1<=a) (k:a<=24):OK (λg:GR=>Ll g.1/\g.2=List.replicate g.1.length []/\1<=g.1.length/\g.1.length<=a) (qJ 1000 x (a:Int)):=by
 unfold qJ;rw[bH (tI _ _ (by omega) (by omega))];generalize f:(wI .i64 (x.1 - 1))%(a:Int)=r;have m:0<=r:=by rw[<-f];exact Int.emod_nonneg _ (by omega)
 have n:r<a:=by rw[<-f];exact Int.emod_lt_of_pos _ (by omega)
 have i:wI .i64 (1+r)=1+r:=wr (by omega) (by omega);rw[i,cF (by omega)];refine C_ (λs:Int×bT=>s.1=(s.2.length:Int)/\(s.2.length:Int)<=1+r/\Ll s.2) (λs=>(1+r - s.1).toNat) ?_ 1000 _ ⟨rfl,by simp;omega,⟨λy o=>by simp at o,List.nodup_nil⟩⟩ (by dsimp only;omega);rintro⟨v,d⟩ j ⟨e,l,c⟩ b;dsimp only at e l c;subst e;unfold kS pM;dsimp only;rw[i];by_cases h:(d.length:Int)<1+r
 ·rw[if_pos h,bH (Qu _ _ (by omega)),bH (tI _ _ (by decide) (by decide))];exact XX (by omega) _ j λy p q t=>b _ ⟨by simp,by simp;omega,c.snoc ⟨p,q⟩ t⟩ (by dsimp only;omega)
 ·rw[if_neg h];refine⟨_,rfl,c,?_,by dsimp only;omega,by dsimp only;omega⟩
  dsimp only;congr 1;omega
structure VM (ids:bT) (P:iI):Prop where
 n1:1<=P.length
 n24:P.length<=24
 len:ids.length=P.length
 ok:Ll ids
 nd:∀v:Nat,v<P.length->((at' P (v:Int)).map Prod.fst).Nodup
 lk:∀v:Nat,v<P.length->∀x∈at' P (v:Int),(0<=x.1/\x.1<=(P.length:Int) - 1)/\x.1≠(v:Int)/\(1<=x.2/\x.2<=15)/\((v:Int),x.2)∈at' P x.1
theorem Yw {d:Type} [Inhabited d] {l:List d} (h:l.Nodup) {i j:Nat} (b:i<l.length) (c:j<l.length) (a:i<j):at' l (i:Int)≠at' l (j:Int):=by
 rw[mU,mU,zAd,zAd,zA2 b,zA2 c];exact List.pairwise_iff_getElem.1 (List.nodup_iff_pairwise_ne.1 h) i j b c a
theorem VM.vg {ids:bT} {P:iI} (h:VM ids P):VG (ids,P):=by
 have hlen:=h.len;have links:∀v,v<P.length->qE (row (ids,P) v) v P.length:=by
  intro v hv i hi;have hm:jM (row (ids,P) v) i∈at' P (v:Int):=EN hi;obtain⟨a1,a2,a3,_⟩:=h.lk v hv _ hm;refine⟨a1,a2,a3,λk hk=> ?_⟩
  have hk2:k<(row (ids,P) v).length:=by omega
  have:=List.pairwise_iff_getElem.1 (List.nodup_iff_pairwise_ne.1 (h.nd v hv)) k i (by simpa using hk2) (by simpa using hi) hk;rw[List.getElem_map,List.getElem_map]at this;have e:∀j (hj:j<(row (ids,P) v).length),jM (row (ids,P) v) j=(at' P (v:Int))[j]'hj:=λj hj=>by
   unfold jM;rw[mU,zAd,zA2 hj];rfl
  rw[e k hk2,e i hi];exact this
 refine⟨h.n1,h.n24,h.len,λv hv=>⟨?_,SJ hv (links v hv),links v hv,λk hk=> ?_⟩,λv hv i hi=> ?_⟩
 ·exact h.ok.rng _ (EN (by dsimp only at hv ⊢;omega))
 ·exact Yw h.ok.nd (by dsimp only at hv ⊢;omega) (by dsimp only at hv ⊢;omega) hk
 ·have hm:jM (row (ids,P) v) i∈at' P (v:Int):=EN hi;obtain⟨_,_,_,a4⟩:=h.lk v hv _ hm;obtain⟨j,hj,he⟩:=Jx a4;exact⟨j,hj,by unfold jM;rw[he],by unfold jM;rw[he]⟩
theorem VM.start {a:bT} (h:Ll a) (d:1<=a.length) (b:a.length<=24):VM a (List.replicate a.length []):=by
 have e:∀v:Nat,at' (List.replicate a.length ([]:fI)) (v:Int)=[]:=λv=>by
  rw[mU,zAd,List.getElem?_replicate];split<;>rfl
 refine⟨by simpa using d,by simpa using b,by simp,h,λv _=>by rw[e];exact List.nodup_nil,λv _ x c=> ?_⟩
 rw[e]at c;cases c
def pA (P:iI) (v u:Nat):Prop:=∃x∈at' P (v:Int),x.1=(u:Int)
theorem NM (d:bT) (P:iI) (a b:Nat) (u:a<P.length) (w:(at' P (a:Int)).length<=900):(pA P a b->oI 1000 (d,P) a b=some true)/\(¬pA P a b->oI 1000 (d,P) a b=some false):=by
 have c:∀(r:Bool),(r=true->pA P a b)->(r=false->¬pA P a b)->oI 1000 (d,P) a b=some r:=by
  intro r q p;unfold oI;refine IL (λi:Int=>∃k:Nat,i=k/\k<=(at' P (a:Int)).length/\∀j,j<k->(at' (at' P (a:Int)) ((j:Nat):Int)).1≠(b:Int)) (λi=>(at' P (a:Int)).length - i.toNat) ?_ 1000 0 ⟨0,rfl,by omega,λj m=>by omega⟩ (by omega);rintro i t ⟨k,rfl,v,f⟩ g;unfold CR yQ;dsimp only;rw[cF (by omega)];by_cases o:(k:Int)<((at' P (a:Int)).length:Int)
  ·rw[if_pos o,cF (by omega),cF (by omega)];by_cases e:(at' (at' P (a:Int)) (k:Int)).1=(b:Int)
   ·rw[if_pos e];cases r with
    |true=>rfl
    |false=>exact absurd ⟨_,EN (by omega),e⟩ (p Z)
   ·rw[if_neg e,wr (by omega) (by omega)];refine g _ ⟨k+1,by omega,by omega,λj m=> ?_⟩ (by omega);rcases Nat.lt_succ_iff_lt_or_eq.1 m with h|h
    ·exact f j h
    ·subst h;exact e
  ·rw[if_neg o];cases r with
   |false=>rfl
   |true=>
    obtain⟨x,s,e⟩:=q Z;obtain⟨j,m,n⟩:=Jx s;exact absurd (by rw[n];exact e) (f j (by omega))
 exact⟨λh=>c true (λ_=>h) (λl=>by cases l),λh=>c false (λl=>by cases l) (λ_=>h)⟩
theorem ZU (P:iI) (a b:Nat) (x y:fI) (e:a<P.length) (f:b<P.length) (v:Nat):at' ((P.set a x).set b y) (v:Int)=if v=b then y else if v=a then x else at' P (v:Int):=by
 rw[mU,mU,zAd,zAd,List.getElem?_set,List.getElem?_set];by_cases h:v=b
 ·subst h;rw[if_pos Z,if_pos Z,if_pos (by simpa using f)];rfl
 ·rw[if_neg (λd=>h d.symm),if_neg h];by_cases c:v=a
  ·subst c;rw[if_pos Z,if_pos Z,if_pos e];rfl
  ·rw[if_neg (λd=>c d.symm),if_neg c]
theorem VM.add {m:bT} {P:iI} (h:VM m P) {a b:Nat} {w:Int} (J:a<P.length) (A:b<P.length) (p:a≠b) (B:¬pA P a b) (D:1<=w/\w<=15)
  {x y:fI} (E:x.Perm (((b:Int),w)::at' P (a:Int))) (F:y.Perm (((a:Int),w)::at' P (b:Int))):
  VM m ((P.set a x).set b y)/\(∀v u,pA P v u->pA ((P.set a x).set b y) v u)/\pA ((P.set a x).set b y) a b:=by
 have r:¬pA P b a:=by
  rintro⟨z,g,i⟩;obtain⟨_,_,_,l⟩:=h.lk b A z g;rw[i]at l;exact B ⟨_,l,rfl⟩
 have C:=ZU P a b x y J A;have k:((P.set a x).set b y).length=P.length:=by simp
 have d:∀(v:Nat) (z:fF),z∈at' ((P.set a x).set b y) (v:Int)↔z∈at' P (v:Int)\/(v=b/\z=((a:Int),w))\/(v=a/\z=((b:Int),w)):=by
  intro v z;rw[C v];by_cases f:v=b
  ·subst f;rw[if_pos Z,F.mem_iff,zAn];constructor
   ·rintro(c|c)
    ·exact .inr (.inl ⟨rfl,c⟩)
    ·exact .inl c
   ·rintro(c|⟨_,c⟩|⟨e,_⟩)
    ·exact .inr c
    ·exact .inl c
    ·exact absurd e.symm p
  ·rw[if_neg f];by_cases c:v=a
   ·subst c;rw[if_pos Z,E.mem_iff,zAn];constructor
    ·rintro(e|e)
     ·exact .inr (.inr ⟨rfl,e⟩)
     ·exact .inl e
    ·rintro(e|⟨n,_⟩|⟨_,e⟩)
     ·exact .inr e
     ·exact absurd n f
     ·exact .inl e
   ·rw[if_neg c];exact⟨.inl,λe=>e.elim id λn=>n.elim (λo=>absurd o.1 f) λo=>absurd o.1 c⟩
 refine⟨⟨by rw[k];exact h.n1,by rw[k];exact h.n24,by rw[k];exact h.len,h.ok,λv j=> ?_,λv j z g=> ?_⟩,λv u s=> ?_,?_⟩
 ·rw[k]at j;rw[C v];by_cases f:v=b
  ·subst f;rw[if_pos Z,(F.map Prod.fst).nodup_iff,List.map_cons,List.nodup_cons];exact⟨λq=>by obtain⟨z,g,i⟩:=zB5.1 q;exact r ⟨z,g,i⟩,h.nd v j⟩
  ·rw[if_neg f];by_cases c:v=a
   ·subst c;rw[if_pos Z,(E.map Prod.fst).nodup_iff,List.map_cons,List.nodup_cons];exact⟨λq=>by obtain⟨z,g,i⟩:=zB5.1 q;exact B ⟨z,g,i⟩,h.nd v j⟩
   ·rw[if_neg c];exact h.nd v j
 ·rw[k]at j ⊢;rcases(d v z).1 g with f|⟨rfl,rfl⟩|⟨rfl,rfl⟩
  ·obtain⟨G,H,I,t⟩:=h.lk v j z f;refine⟨G,H,I,?_⟩
   obtain⟨u,K⟩:∃u:Nat,z.1=u:=⟨z.1.toNat,by omega⟩
   rw[K]at t ⊢;exact(d u _).2 (.inl t)
  ·exact⟨by dsimp only;omega,by dsimp only;omega,D,(d a _).2 (.inr (.inr ⟨rfl,rfl⟩))⟩
  ·exact⟨by dsimp only;omega,by dsimp only;omega,D,(d b _).2 (.inr (.inl ⟨rfl,rfl⟩))⟩
 ·obtain⟨z,g,i⟩:=s;exact⟨z,(d v z).2 (.inl g),i⟩
 ·exact⟨_,(d a _).2 (.inr (.inr ⟨rfl,rfl⟩)),rfl⟩
theorem Ux (x:Vj) {c:bT} {P:iI} (h:VM c P) {a b:Nat} {w:Int} (g:a<P.length) (m:b<P.length) (o:1<=w/\w<=15):
  ∃f,oE 1000 x (c,P) a b w=some f/\VM c f/\f.length=P.length/\(∀v u,pA P v u->pA f v u)/\(a≠b->pA f a b):=by
 have p:=h.n24;have n:∀v:Nat,v<P.length->(at' P (v:Int)).length<24:=λv s=>by
  have:=(h.vg.node v s).deg;have e:(at' P (v:Int)).length=(row (c,P) v).length:=rfl;dsimp only at this;omega
 have t:=n a g;have z:=n b m;unfold oE;by_cases d:a=b
 ·subst d;rw[if_pos Z];exact⟨P,rfl,h,rfl,λ_ _ h=>h,λr=>absurd Z r⟩
 rw[if_neg (by omega)];by_cases i:pA P a b
 ·rw[bH ((NM c P a b g (by omega)).1 i)];exact⟨P,rfl,h,rfl,λ_ _ h=>h,λ_=>i⟩
 rw[bH ((NM c P a b g (by omega)).2 i)];unfold qG;rw[if_neg (by simp)];dsimp only;cases q:x.2.2.2.2.2 with
 | true =>
  rw[if_pos Z];have e:at' (P.set (Int.toNat (a:Int)) ([((b:Int),w)]++at' P (a:Int))) (b:Int)=at' P (b:Int):=by
   rw[mU,zAd,List.getElem?_set,if_neg (by simpa using d),mU,zAd]
  rw[e];rw[cF (by omega),cF (by simp;omega),cF (by omega),cF (by simp;omega),cF (by simp;omega),cF (by simp;omega)];obtain⟨j,k,l⟩:=h.add g m d i o (List.Perm.refl _) (List.Perm.refl _);exact⟨_,rfl,j,by simp,k,λ_=>l⟩
 |false=>
  rw[if_neg (by simp)];rw[cF (by omega),cF (by omega),cF (by simp;omega),cF (by simp;omega),cF (by simpa using d),cF (by simp;omega),cF (by simp;omega)];obtain⟨j,k,l⟩:=h.add g m d i o (x:=at' P (a:Int)++[((b:Int),w)]) (y:=at' P (b:Int)++[((a:Int),w)]) List.perm_append_comm List.perm_append_comm;exact⟨_,rfl,j,by simp,k,λ_=>l⟩
theorem Od (v:Int):wI .i64 (1+v%15)=1+v%15/\1<=1+v%15/\1+v%15<=15:=by
 have:=Int.emod_nonneg v (show(15:Int)≠0 by decide);have:=Int.emod_lt_of_pos v (show(0:Int)<15 by decide);exact⟨wr (by omega) (by omega),by omega,by omega⟩
theorem abJ (x:Vj) (c:Nat) (F:1<=c) (m:c<=24):
  OK (λg:GR=>VM g.1 g.2/\g.2.length<=c/\∀v:Nat,1<=v->v<g.2.length->∃u:Nat,u<v/\pA g.2 u v) (oD 1000 x (c:Int)):=by
 unfold oD;obtain⟨⟨d,S⟩,D,h,z,e,q⟩:=Yv x c F m;dsimp only at z h e q;rw[bH D];dsimp only;subst z;have r:=VM.start h e (by omega);refine C_ (λs:Int×iI=>∃k:Nat,s.1=k/\1<=k/\k<=d.length/\VM d s.2/\s.2.length=d.length/\∀v:Nat,1<=v->v<k->∃u:Nat,u<v/\pA s.2 u v) (λs=>d.length - s.1.toNat) ?_ 1000 _ ⟨1,rfl,by omega,e,r,by simp,λv l f=>by omega⟩ (by dsimp only;omega);rintro⟨i,P⟩ T ⟨k,B,H,I,p,G,o⟩ j;dsimp only at B p G o;subst B;unfold xB qF;dsimp only;by_cases A:(k:Int)<(P.length:Int)
 ·rw[if_pos A,wr (by omega) (by omega),bH (Qu _ _ (by omega)),bH (tI _ _ (by omega) (by omega)),bH (Qu _ _ (by omega)),bH (tI _ _ (by decide) (by decide))];obtain⟨N,O,Q⟩:=Od (at' x.2.2.1 ((k:Int) - 1));rw[N];generalize C:at' x.2.1 ((k:Int) - 1)%(k:Int)=u;have U:0<=u:=by rw[<-C];exact Int.emod_nonneg _ (by omega)
  have V:u<k:=by rw[<-C];exact Int.emod_lt_of_pos _ (by omega)
  obtain⟨u,rfl⟩:∃n:Nat,u=n:=⟨u.toNat,by omega⟩
  obtain⟨R,E,K,W,L,M⟩:=Ux x p (a:=u) (b:=k) (by omega) (by omega) ⟨O,Q⟩;rw[bH E,wr (by omega) (by omega)];refine j _ ⟨k+1,by dsimp only;omega,by omega,by omega,K,by dsimp only;omega,λv l f=> ?_⟩ (by dsimp only;omega);by_cases y:v=k
  ·subst y;exact⟨u,by omega,M (by omega)⟩
  ·obtain⟨J,t,w⟩:=o v l (by omega);exact⟨J,t,L _ _ w⟩
 ·rw[if_neg A];exact⟨_,rfl,p,by dsimp only;omega,λv l f=>o v l (by dsimp only at f;omega)⟩
theorem abn (x:Vj) {c:bT} {P:iI} (h:VM c P):OK (λg:GR=>VM g.1 g.2/\g.1=c/\g.2.length=P.length/\∀v u,pA P v u->pA g.2 v u) (oF 1000 x (c,P)):=by
 unfold oF;have z:=h.n24;have B:=h.n1;refine C_ (λs:Int×iI=>∃k:Nat,s.1=k/\k<=100/\VM c s.2/\s.2.length=P.length/\∀v u,pA P v u->pA s.2 v u) (λs=>200 - s.1.toNat) ?_ 1000 _ ⟨P.length,rfl,by omega,h,rfl,λ_ _ h=>h⟩ (by dsimp only;omega);rintro⟨i,Q⟩ w ⟨k,p,A,f,o,e⟩ d;dsimp only at p f o e;subst p;have done:∀b:Bool,b=false->OK (λg:GR=>VM g.1 g.2/\g.1=c/\g.2.length=P.length/\∀v u,pA P v u->pA g.2 v u) (nC 1000 x (c,P) ((k:Int),Q) w b):=by
  rintro b rfl;exact⟨_,rfl,f,rfl,o,e⟩
 unfold qH;dsimp only;rw[wr (by omega) (by omega)];by_cases l:(k:Int)+1<(x.2.1.length:Int)
 rotate_left
 ·rw[if_neg l];exact done _ Z
 rw[if_pos l];by_cases m:(k:Int)<60
 rotate_left
 ·exact done _ (zA3 m)
 rw[zA4 m];unfold nC;dsimp only;rw[if_pos Z,cF (by omega),bH (tI _ _ (by omega) (by omega)),wr (by omega) (by omega),cF (by omega),bH (tI _ _ (by omega) (by omega)),bH (Qu _ _ (by omega)),bH (tI _ _ (by decide) (by decide))];obtain⟨E,F,G⟩:=Od (at' x.2.2.1 (k:Int));rw[E];generalize r:at' x.2.1 (k:Int)%(P.length:Int)=u;have K:0<=u:=by rw[<-r];exact Int.emod_nonneg _ (by omega)
 have L:u<P.length:=by rw[<-r];exact Int.emod_lt_of_pos _ (by omega)
 obtain⟨u,rfl⟩:∃n:Nat,u=n:=⟨u.toNat,by omega⟩
 generalize q:at' x.2.1 ((k:Int)+1)%(P.length:Int)=t;have I:0<=t:=by rw[<-q];exact Int.emod_nonneg _ (by omega)
 have J:t<P.length:=by rw[<-q];exact Int.emod_lt_of_pos _ (by omega)
 obtain⟨t,rfl⟩:∃n:Nat,t=n:=⟨t.toNat,by omega⟩
 obtain⟨H,y,C,M,D,N⟩:=Ux x f (a:=u) (b:=t) (by omega) (by omega) ⟨F,G⟩;rw[bH y,wr (by omega) (by omega)];exact d _ ⟨k+2,by dsimp only;omega,by omega,C,by dsimp only;omega,λv u j=>D _ _ (e v u j)⟩ (by dsimp only;omega)
theorem OO (x:Vj) (a:Nat) (m:1<=a) (c:a<=24):
  OK (λg:GR=>VM g.1 g.2/\g.2.length<=a/\∀v:Nat,1<=v->v<g.2.length->∃u:Nat,u<v/\pA g.2 u v) (kT 1000 x (a:Int)):=by
 unfold kT;obtain⟨⟨s,P⟩,k,o,n,i⟩:=abJ x a m c;obtain⟨⟨j,t⟩,l,b,p,d,h⟩:=abn x o;rw[bH k,bH l];dsimp only at n i b p d h;refine⟨_,rfl,b,by dsimp only;omega,λv r f=> ?_⟩
 obtain⟨u,q,e⟩:=i v r (by dsimp only at f;omega);exact⟨u,q,h _ _ e⟩
end Go.Proofs.YtflciafboapaaaaGreat
namespace Go.Proofs.YtflciafboapaaaaGreat
open Go Go.Sx
abbrev val (c:bQ) (v x:Nat):Int:=at' (at' c (v:Int)) (x:Int)
def abS (g:GR) (b:Int) (v:Nat) (a:Int):Prop:=if b = -1 then -1<=a/\a<=((row g v).length:Int) - 1 else 0<=a/\a<=b
instance (g:GR) (top:Int) (v:Nat) (a:Int):Decidable (abS g top v a):=by unfold abS;infer_instance
def jH (g:GR):Nat->Int
 |0=>0
 |k+1=>max (jH g k) (at' g.1 (k:Int))
theorem EM {g:GR} (a:VG g):∀k,k<=g.2.length->0<=jH g k/\jH g k<=255
 |0,_=>by simp[jH]
 |k+1,h=>by
  have b:=EM a k (by omega);have c:0<=at' g.1 (k:Int)/\at' g.1 (k:Int)<=255:=(a.node k (by omega)).id;simp only[jH];omega
abbrev EC:=GT
def Iy (x:EC):Prop:=(-100000<=x.2.2.2.1/\x.2.2.2.1<=100000)/\(0<=x.2.2.2.2.1/\x.2.2.2.2.1<=100000)/\(0<=x.2.2.2.2.2/\x.2.2.2.2.2<=100000)
def lo (g:GR) (x:EC) (v:Nat):Int:=if x.2.1=2 then 0 else if x.2.1=3 then -1 else x.2.2.1
def hi (g:GR) (x:EC) (v:Nat):Int:=if x.2.1=2 then 1 else if x.2.1=3 then((row g v).length:Int) - 1 else x.2.2.2.1+x.2.2.2.2.1*(g.2.length:Int)+x.2.2.2.2.2*jH g g.1.length
structure Wo (g:GR) (c:bQ) (vars:List EC):Prop where
 len:c.length=g.2.length
 row:∀v,v<g.2.length->(at' c (v:Int)).length=vars.length
 ok:∀v,v<g.2.length->∀x,x<vars.length->lo g (at' vars (x:Int)) v<=val c v x/\val c v x<=hi g (at' vars (x:Int)) v
theorem agW {a b:Nat} (c:a<4294967296) (d:b<4294967296):Xe .u32 (a:Int) (b:Int)=((a ||| b:Nat):Int):=by rw[acN,TK c,TK d]
theorem Sv {a k:Nat} (c:a<4294967296) (b:k<32):Xe .u32 (a:Int) (MS .u32 1 (k:Int))=((a ||| 2^k:Nat):Int):=by rw[aeI b,agW c (acg b)]
theorem Pd (p:Nat->Bool) {k:Nat} (a:k<=32):sX p k<4294967296:=zB0 (QK p k) (Nat.pow_le_pow_right (n:=2) (by omega) a)
theorem VG.to {g:GR} (c:VG g) {v i:Nat} (e:v<g.2.length) (d:i<(row g v).length):∃u:Nat,u<g.2.length/\(jM (row g v) i).1=(u:Int):=by
 obtain⟨u,a,b,_⟩:=c.port e d;exact⟨u,a,b⟩
def d0 (g:GR) (c:bQ) (d v:Nat):Int:=if d.testBit v=true then at' (at' c (v:Int)) 0 else if v=0 then 0 else(g.2.length:Int)
def start (g:GR) (c:bQ) (d:Nat):bT:=(List.range g.2.length).map (d0 g c d)
theorem Hn {a:Type} [Inhabited a] (l:List a) (x:a) {i:Nat} (b:i<l.length+1):at' (l++[x]) (i:Int)=if i<l.length then at' l (i:Int)else x:=by
 rw[mU,mU];by_cases h:i<l.length
 ·rw[if_pos h,zAd,zAd,zAc h]
 ·have:i=l.length:=by omega
  subst this;rw[if_neg h];simp
def WO (g:GR) (a:List EC) (v:Nat) (l:bT):Prop:=∀x,x<l.length->lo g (at' a (x:Int)) v<=at' l (x:Int)/\at' l (x:Int)<=hi g (at' a (x:Int)) v
theorem Vz {g:GR} (G:VG g) (d:List EC) (f:bT) (ht:d.length<=900) (U:∀x,x<d.length->Iy (at' d (x:Int)) /\ -100000<=(at' d (x:Int)).2.2.1/\(at' d (x:Int)).2.2.1<=(at' d (x:Int)).2.2.2.1):
  OK (λc=>Wo g c d) (kH 1000 g d f):=by
 have Q:=G.n24;have C:=G.len;have P:kH 1000 g d f=tA 1000 g d f (jH g g.2.length):=by
  unfold kH;refine dJ (F:=λk:Nat=>((jH g k,(k:Int)):fF)) g.2.length (λk B hk=> ?_) (λB=> ?_) 1000 (by omega)
  ·unfold yP;simp only;rw[if_pos (by omega),cF (by omega),wr (by omega) (by omega)];rfl
  ·unfold yP;simp only;rw[if_neg (by omega)]
 rw[P];obtain⟨M,X⟩:=EM G g.2.length (by omega);unfold tA;have J:=QF (step:=lU 1000 g d f (jH g g.2.length)) (K:=λx=>some x.1) g.2.length (λv x=>x.2=(v:Int)/\x.1.length=v/\∀w,w<v->(at' x.1 (w:Int)).length=d.length/\WO g d w (at' x.1 (w:Int))) (λv x B t q=> ?_) (λx B q=> ?_) 1000 (([]:bQ),(0:Int)) ⟨rfl,rfl,λw V=>by omega⟩ (by omega)
 ·obtain⟨⟨c,i⟩,⟨_,s,p⟩,I⟩:=J;exact⟨c,I,s,λv t=>(p v t).1,λv t x D=>(p v t).2 x (by rw[(p v t).1];exact D)⟩
 ·obtain⟨c,i⟩:=x;obtain⟨rfl,s,p⟩:=q;simp only at s p;have L:(at' g.2 (v:Int)).length<g.2.length:=(G.node v t).deg;unfold lU;simp only;rw[if_pos (by omega)];have E:=QF (step:=pI 1000 g d f (jH g g.2.length) (c,(v:Int)) B) (K:=λy=>B (c++[y.1],(v:Int)+1)) d.length (λx y=>y.2=(x:Int)/\y.1.length=x/\WO g d v y.1) (λx y n D q=> ?_) (λy n q=> ?_) 1000 (([]:bT),(0:Int)) ⟨rfl,rfl,λx D=>by simp at D⟩ (by omega)
  ·obtain⟨⟨l,j⟩,⟨_,h,u⟩,I⟩:=E;refine⟨(c++[l],(v:Int)+1),⟨by simp,by simp[s],λw V=> ?_⟩,I⟩
   simp only;rw[Hn c l (by omega),s];by_cases e:w<v
   ·rw[if_pos e];exact p w e
   ·rw[if_neg e];have:w=v:=by omega
    subst this;exact⟨h,u⟩
  ·obtain⟨l,j⟩:=y;obtain⟨rfl,h,u⟩:=q;simp only at h u;obtain⟨⟨s1,N,O⟩,s4,s5⟩:=U x D;have o:∀a b:Int,a=lo g (at' d (x:Int)) v->b=hi g (at' d (x:Int)) v -> -100000<=a->a<=b+1->b<=100000000->(a<=b\/(a = -1/\b = -1))->∃H,(H.2=((x+1:Nat):Int)/\H.1.length=x+1/\WO g d v H.1)/\pH 1000 d f (c,(v:Int)) (l,(x:Int)) n (a,b)=n H:=by
    intro a b R T q1 q2 q3 q4;have S:a<=b:=by omega
    unfold pH;simp only;have w1:wI .i64 ((v:Int)*(d.length:Int))=(v:Int)*(d.length:Int):=by
     have Y:0<=(v:Int)*(d.length:Int):=Int.mul_nonneg (by omega) (by omega);have p2:(v:Int)*(d.length:Int)<=24*900:=Int.mul_le_mul (by omega) (by omega) (by omega) (by omega);exact wr (by omega) (by omega)
    have Y:0<=(v:Int)*(d.length:Int):=Int.mul_nonneg (by omega) (by omega);have p2:(v:Int)*(d.length:Int)<=24*900:=Int.mul_le_mul (by omega) (by omega) (by omega) (by omega);rw[w1,wr (x:=(v:Int)*(d.length:Int)+(x:Int)) (by omega) (by omega),Qu _ _ (by omega),bH Z,wr (x:=b - a) (by omega) (by omega),wr (x:=b - a+1) (by omega) (by omega),tI _ _ (by omega) (by omega),bH Z];have r1:=Int.emod_nonneg (at' f ((v:Int)*(d.length:Int)+(x:Int))) (b:=b - a+1) (by omega);have r2:=Int.emod_lt_of_pos (at' f ((v:Int)*(d.length:Int)+(x:Int))) (b:=b - a+1) (by omega);generalize at' f ((v:Int)*(d.length:Int)+(x:Int))%(b - a+1)=r at r1 r2;rw[wr (x:=a+r) (by omega) (by omega),cF (by simp;omega),wr (by omega) (by omega)];refine⟨_,⟨by simp,by simp[h],λz W=> ?_⟩,rfl⟩
    simp only[zA5,zA8,zAg,h]at W;simp only;rw[Hn l _ (by omega),h];by_cases e:z<x
    ·rw[if_pos e];exact u z (by omega)
    ·rw[if_neg e];have:z=x:=by omega
     subst this;rw[<-R,<-T];omega
   unfold pI;simp only;rw[if_pos (by omega),cF (by omega),cF (by omega),cF (by omega),cF (by omega),cF (by omega)];by_cases m:(at' d (x:Int)).2.1=2
   ·rw[if_pos m];exact o 0 1 (by unfold lo;rw[if_pos m]) (by unfold hi;rw[if_pos m]) (by omega) (by omega) (by omega) (by omega)
   ·rw[if_neg m];by_cases A:(at' d (x:Int)).2.1=3
    ·rw[if_pos A,cF (by omega),wr (by omega) (by omega)];exact o (-1) _ (by unfold lo;rw[if_neg m,if_pos A]) (by unfold hi;rw[if_neg m,if_pos A]) (by omega) (by omega) (by omega) (by omega)
    ·rw[if_neg A];have q1:0<=(at' d (x:Int)).2.2.2.2.1*(g.2.length:Int):=Int.mul_nonneg N.1 (by omega);have q2:(at' d (x:Int)).2.2.2.2.1*(g.2.length:Int)<=100000*24:=Int.mul_le_mul N.2 (by omega) (by omega) (by omega);have q3:0<=(at' d (x:Int)).2.2.2.2.2*jH g g.2.length:=Int.mul_nonneg O.1 M;have q4:(at' d (x:Int)).2.2.2.2.2*jH g g.2.length<=100000*255:=Int.mul_le_mul O.2 X M (by omega);rw[wr (x:=(at' d (x:Int)).2.2.2.2.1*(g.2.length:Int)) (by omega) (by omega),wr (x:=(at' d (x:Int)).2.2.2.2.2*jH g g.2.length) (by omega) (by omega),wr (x:=(at' d (x:Int)).2.2.2.1+(at' d (x:Int)).2.2.2.2.1*(g.2.length:Int)) (by omega) (by omega),wr (by omega) (by omega)];exact o _ _ (by unfold lo;rw[if_neg m,if_neg A]) (by unfold hi;rw[if_neg m,if_neg A,C]) (by omega) (by omega) (by omega) (by omega)
  ·obtain⟨l,j⟩:=y;obtain⟨rfl,h,u⟩:=q;simp only at h u;unfold pI CQ;simp only;rw[if_neg (by omega),cF (by simp;omega),wr (by omega) (by omega)]
 ·obtain⟨c,i⟩:=x;obtain⟨rfl,s,p⟩:=q;unfold lU yO;simp only;rw[if_neg (by omega)]
end Go.Proofs.YtflciafboapaaaaGreat
namespace Go.Proofs.YtflciafboapaaaaGreat
open Go.Sx
def Cm (a:Int):Option (Int):=
 some (a)
def xY (c:bT) (a:fF) (b:fW->Option (Int)):Option (Int):=
 if a.2<(c.length:Int)then(ck (0<=a.2/\a.2<(c.length:Int)) (b ((max a.1 (at' c a.2)),(wI .i64 (a.2+(1:Int))))))else(Cm (a.1))
def Dc (U:Nat) (a:bT):Option (Int):=
 if(a.length:Int)<(1:Int)then(none)else(ck (0<=(0:Int)/\(0:Int)<(a.length:Int)) (bL (xY a) U ((at' a (0:Int)),(1:Int))))
theorem aah:bB Tryz.prog 128:=Tryz.call128
theorem PS (U:Nat) {f:bT} (g:V0) (r:Int) (h:Dc U f=some r):
  bE Tryz.prog 128 #[g] [Sl aM g f] (λx:Unit=>vI (r)) (λx l=>l) (λ_ l=>l):=by
 refine bE.of Tryz.func128 Z Tryz.ntmps128 Z λc=>?_;refine aU<|aC Z<|aP<|aN<|aU<|aA Z<|iL (b_ Z) Z<|cU Z<|aP ?_;refine eG h Z (λh=>?_) λh=>?_
 ·refine aR ?_;cases h
 refine cL<|aU<|aA Z<|cQ h λj h=>aB (bG Z Z (b_ Z) Z Z j) Z<|aB (cI Z (b_ Z) Z Z Z eZ j) Z<|aC Z<|aP<|aN<|eB (λb=>Cm b=some r) (λb i=>[(3,vI (b))]) (λb i=>[]) ?_ ?_
 ·refine aU<|aC Z<|aP<|aT<|eW (xY f) (λa d=>[(0,g),(3,vI (a.1)),(4,vI (a.2))]) (λa d=>[]) ((at' f (0:Int)),(1:Int)) () h SF (a_.refl _) ?_;intro k a d h;refine aN<|aU<|aA Z<|aA Z<|iL (b_ Z) Z<|cU Z<|aP ?_;refine eG h Z (λh=>?_) λh=>?_
  ·refine cL<|aN<|aT<|aR<|aA Z<|aA Z<|aA Z<|cQ h λe h=>aB (bG Z Z (b_ Z) Z Z e) Z<|aB (cI Z (b_ Z) Z Z Z eZ e) Z<|aB (HB Z Z) Z<|aC Z<|eS<|lA<|aR<|aA Z<|cN Z<|aC Z<|aP ?_;exact xD ((max a.1 (at' f a.2)),(wI .i64 (a.2+(1:Int)))) () h SF Z
  refine eP ?_;exact f_ (a.1) () h SF Z
 intro b i h;unfold Cm at h;refine aU<|aA Z<|aC Z<|aP<|aS ?_;cases h;exact iR Z
def pO (U:Nat) (a:GT) (b:cJ) (d:Int):Option fW:=
 Option.bind (Dc U b.1) λc=>(some (a.2.2.1,(wI .i64 ((wI .i64 (a.2.2.2.1+(wI .i64 (a.2.2.2.2.1*(b.1.length:Int)))))+(wI .i64 (a.2.2.2.2.2*c))))))
theorem aai:bB Tryz.prog 161:=Tryz.call161
theorem Jd (U:Nat) {a:GT} {d:cJ} {f:Int} (b e:V0) (k:kX) (r:fF) (h:pO U a d f=some r):
  bE Tryz.prog 161 #[Value.agg #[vS (a.1),vI (a.2.1),vI (a.2.2.1),vI (a.2.2.2.1),vI (a.2.2.2.2.1),vI (a.2.2.2.2.2)],Value.agg #[b,e],vI (f)] [Sl aM b d.1,S2 aY e k d.2] (λx:Unit=>Value.tuple #[vI (r.1),vI (r.2)]) (λx l=>l) (λ_ l=>l):=by
 refine bE.of Tryz.func161 Z Tryz.ntmps161 Z λc=>?_;refine aU<|aJ (aQ.box (cs:=[vS (a.1),vI (a.2.1),vI (a.2.2.1),vI (a.2.2.2.1),vI (a.2.2.2.2.1),vI (a.2.2.2.2.2)]) Z Z) Z λm=>aJ (aQ.box (cs:=[b,e]) Z Z) Z λn=>aC Z<|aC Z<|aP<|aN ?_;refine rP [0,1,0,4,0,16,0,64,192,496,1020,0,2048,0,8192,24576,63488,131068,57347,524287] 19 mixedOrders ?_;refine cC Z<|eQ 1 Z<|cC Z<|eQ 1 Z<|cC Z<|eQ 1 Z<|cC Z<|eQ 0 Z<|bA Z .nil (eV 0 Z) (fH Z (b_ Z) Z) aL.z<|eN Z (xA Z Z)<|eN Z (zN Z Z)<|cC Z<|eQ 1 Z<|cC Z<|eQ 0 Z<|eI h λg i h=>zBd Z Z Z (zBb aah (PS U b g i) Z (iB [0] Z)) Z (λj=>(nK [([1],[]),([],[0]),([0],[]),([1],[]),([1],[]),([1],[])] Z)) λj=>eN Z (xA Z Z)<|eN Z (zN Z Z)<|eN Z (zO Z)<|bN 19 Z Z<|aC Z<|aP<|aS ?_;cases h;exact gY () Z Z (RV.tmp Z) (RV.tmp Z) .nil aH.nil
def tT (U:Nat) (a:GT) (b:cJ) (c:Int):Option fW:=
 some ((0:Int),(1:Int))
theorem aaj:bB Tryz.prog 162:=Tryz.call162
theorem Je (U:Nat) {a:GT} {b:cJ} {f:Int} (d e:V0) (g:kX) (r:fF) (h:tT U a b f=some r):
  bE Tryz.prog 162 #[Value.agg #[vS (a.1),vI (a.2.1),vI (a.2.2.1),vI (a.2.2.2.1),vI (a.2.2.2.2.1),vI (a.2.2.2.2.2)],Value.agg #[d,e],vI (f)] [Sl aM d b.1,S2 aY e g b.2] (λx:Unit=>Value.tuple #[vI (r.1),vI (r.2)]) (λx l=>l) (λ_ l=>l):=by
 refine bE.of Tryz.func162 Z Tryz.ntmps162 Z λc=>?_;unfold tT at h;refine aU<|aJ (aQ.box (cs:=[vS (a.1),vI (a.2.1),vI (a.2.2.1),vI (a.2.2.2.1),vI (a.2.2.2.2.1),vI (a.2.2.2.2.2)]) Z Z) Z λi=>aJ (aQ.box (cs:=[d,e]) Z Z) Z λj=>aC Z<|aC Z<|aP<|aU<|aC Z<|aC Z<|aP<|aS ?_;cases h;exact gY () Z Z (RV.tmp Z) (RV.tmp Z) .nil aH.nil
def pP (U:Nat) (c:GT) (b:cJ) (a:Int):Option fW:=
 ck (0<=a/\a<(b.2.length:Int)) (some ((-1:Int),(wI .i64 (((at' b.2 a).length:Int) - (1:Int)))))
theorem aak:bB Tryz.prog 163:=Tryz.call163
theorem Jf (U:Nat) {a:GT} {d:cJ} {g:Int} (e f:V0) (i:kX) (r:fF) (h:pP U a d g=some r):
  bE Tryz.prog 163 #[Value.agg #[vS (a.1),vI (a.2.1),vI (a.2.2.1),vI (a.2.2.2.1),vI (a.2.2.2.2.1),vI (a.2.2.2.2.2)],Value.agg #[e,f],vI (g)] [Sl aM e d.1,S2 aY f i d.2] (λx:Unit=>Value.tuple #[vI (r.1),vI (r.2)]) (λx l=>l) (λ_ l=>l):=by
 refine bE.of Tryz.func163 Z Tryz.ntmps163 Z λc=>?_;refine aU<|aJ (aQ.box (cs:=[vS (a.1),vI (a.2.1),vI (a.2.2.1),vI (a.2.2.2.1),vI (a.2.2.2.2.1),vI (a.2.2.2.2.2)]) Z Z) Z λj=>aJ (aQ.box (cs:=[e,f]) Z Z) Z λk=>aC Z<|aC Z<|aP<|aN ?_;refine rP [0,1,0,7,15,31,63,0,255] 8 mixedOrders ?_;refine cC Z<|eQ 0 Z<|aV Z<|cQ h λb h=>bA Z .nil (eV 1 Z) (bK Z Z (b_ Z) Z Z b) aL.z<|bA Z .nil (eV 1 Z) (bS Z (b_ Z) Z Z b) aL.z<|bA Z .nil (eV 1 Z) (fH Z (zBc (b_ Z) b.1 b.2) Z) aL.z<|eN Z (nI Z Z)<|eN Z (zO Z)<|bN 8 Z Z<|aC Z<|aP<|aS ?_;cases h;exact gY () Z Z (RV.tmp Z) (RV.tmp Z) .nil aH.nil
def BD (a:Unit):Option fW:=
 some ((0:Int),(-1:Int))
def nT (c:Int) (a:(Int)->Option fW) (b:Unit):Option fW:=
 a (wI .i64 (c+(1:Int)))
def gF (U:Nat) (a:GT) (d:cJ) (h b:Int) (c:(Int)->Option fW):Option fW:=
 if b<(List.length ([((1:Int),(161:Nat)),((2:Int),(162:Nat)),((3:Int),(163:Nat))]):Int)then(ck (0<=b/\b<(List.length ([((1:Int),(161:Nat)),((2:Int),(162:Nat)),((3:Int),(163:Nat))]):Int)) (if b=(0:Int)then(if(1:Int)=a.2.1 then(Option.bind (pO U ((a.1,a.2.1,a.2.2.1,a.2.2.2.1,a.2.2.2.2.1,a.2.2.2.2.2)) ((d.1,d.2)) h) λe=>(some (e.1,e.2)))else(nT b c (())))else(if b=(1:Int)then(if(2:Int)=a.2.1 then(Option.bind (tT U ((a.1,a.2.1,a.2.2.1,a.2.2.2.1,a.2.2.2.2.1,a.2.2.2.2.2)) ((d.1,d.2)) h) λf=>(some (f.1,f.2)))else(nT b c (())))else(if(3:Int)=a.2.1 then(Option.bind (pP U ((a.1,a.2.1,a.2.2.1,a.2.2.2.1,a.2.2.2.2.1,a.2.2.2.2.2)) ((d.1,d.2)) h) λg=>(some (g.1,g.2)))else(nT b c (()))))))else(BD (()))
def lS (U:Nat) (a:GT) (b:cJ) (c:Int):Option fW:=
 bL (gF U a b c) U (0:Int)
theorem Xs:bB Tryz.prog 97:=Tryz.call97
theorem FY (U:Nat) {a:GT} {v:cJ} {n:Int} (i j:V0) (D:kX) (r:fF) (h:lS U a v n=some r):
  bE Tryz.prog 97 #[Value.agg #[vS (a.1),vI (a.2.1),vI (a.2.2.1),vI (a.2.2.2.1),vI (a.2.2.2.2.1),vI (a.2.2.2.2.2)],Value.agg #[i,j],vI (n)] [Sl aM i v.1,S2 aY j D v.2] (λx:Unit=>Value.tuple #[vI (r.1),vI (r.2)]) (λx l=>l) (λ_ l=>l):=by
 let b:=a.2.2.2;let s:=Value.func (.func 163) #[] #[];let p:=Value.func (.func 162) #[] #[];let o:=Value.func (.func 161) #[] #[];let z:=vI (List.length ([((1:Int),(161:Nat)),((2:Int),(162:Nat)),((3:Int),(163:Nat))]):Int);refine bE.of Tryz.func97 Z Tryz.ntmps97 Z λc=>?_;unfold lS at h;refine aU<|aJ (aQ.box (cs:=[vS (a.1),vI (a.2.1),vI (a.2.2.1),vI (b.1),vI (b.2.1),vI (b.2.2)]) Z Z) Z λE=>let y:=bM E [vS (a.1),vI (a.2.1),vI (a.2.2.1),vI (b.1),vI (b.2.1),vI (b.2.2)] 82;aJ (aQ.box (cs:=[i,j]) Z Z) Z λC=>aC Z<|aC Z<|aP<|aU ?_
 refine aB (Gi (r:=Value.agg #[vI (1:Int),Value.func (.func 161) #[] #[]]) Z Z (by intro w;simp[Instr.build,Instr.fill,gT,fN,e_,gU,gV,fO,iS])) Z ?_;refine aB (Gi (r:=Value.agg #[vI (2:Int),Value.func (.func 162) #[] #[]]) Z Z (by intro w;simp[Instr.build,Instr.fill,gT,fN,e_,gU,gV,fO,iS])) Z ?_;refine aB (Gi (r:=Value.agg #[vI (3:Int),Value.func (.func 163) #[] #[]]) Z Z (by intro w;simp[Instr.build,Instr.fill,gT,fN,e_,gU,gV,fO,iS])) Z ?_;refine aJ (cX (e:=KP) ([(((1:Int),((161:Nat)))),(((2:Int),((162:Nat)))),(((3:Int),((163:Nat))))]) [(0,Value.agg #[vI (1:Int),o]),(1,Value.agg #[vI (2:Int),p]),(2,Value.agg #[vI (3:Int),s])] Z Z Z Z (XU (vI (1:Int)) (o) (vI (2:Int)) (p) (vI (3:Int)) (s)) Z Z Z) Z λJ=>let A:=Ar KP J ([((1:Int),(161:Nat)),((2:Int),(162:Nat)),((3:Int),(163:Nat))]);aC Z<|aP<|aN<|eB (λB=>BD B=some r) (λB N=>[]) (λB N=>[]) ?_ ?_
 ·refine aU<|aA Z<|aB (fH Z (dR (aI.res 0 Z) DT) Z) Z<|aA Z<|aP<|aT<|eW (gF U a v n) (λm O=>[(2,vI (n)),(3,vP E),(4,vP C),(15,J),(16,z),(17,vI (m))]) (λm O=>[A,bM C [i,j] 31,y]) (0:Int) () h SF (a_.refl _) ?_;intro F m O h;refine aU<|cU Z<|aP<|aN ?_;refine eG h Z (λh=>?_) λh=>?_
  ·refine cL<|aN<|eB (λk=>nT m (bL (gF U a v n) F) k=some r) (λk t=>[(2,vI (n)),(3,vP E),(4,vP C),(15,J),(16,z),(17,vI (m))]) (λk t=>[A,bM C [i,j] 31,y]) ?_ ?_
   ·refine aT<|aU<|cQ h λg h=>aB (bG Z Z (dR (aI.res 0 Z) DT) Z Z g) Z ?_;by_cases d:m=(0:Int)
    ·have h:=Hh d h;refine aB (gS (cs:=[vI (1:Int),o]) Z (dR (aI.res 0 Z) DT) DT (by rw[d];rfl) Z Z Z g) Z ?_;refine aJ (aQ.alloc (cs:=[vI (0:Int),Value.nilFunc]) Z Z) Z λP=>cD 0 (vs:=[vI (1:Int),Value.func (.func 161) #[] #[]]) Z Z Z Z Z Z<|aP<|aU<|bV Z<|dK 0 Z<|bV Z<|dK 3 Z<|cH Z<|aP ?_;refine eG h Z (λh=>?_) λh=>?_
     ·refine aU<|bV Z<|dK 0 Z<|cM 3 Z<|cM 2 Z<|aA Z<|eI h λG K h=>aJ (uF (vs:=[Value.agg #[vS (a.1),vI (a.2.1),vI (a.2.2.1),vI (a.2.2.2.1),vI (a.2.2.2.2.1),vI (a.2.2.2.2.2)],Value.agg #[i,j],vI (n)]) (cs:=[]) aai Z (Jd U i j D G K) Z (iB [0,1] Z) (λ_ _=>rfl)) Z λS=>iN Z<|iN Z<|aC Z<|aC Z<|aP<|aS<|bF<|aG<|aG<|bF<|aG ?_;cases h;exact gY () Z Z (RV.tmp Z) (RV.tmp Z) .nil aH.nil
     refine dW<|lA ?_;exact cB () (()) h SF (a_.ix [1,2,3] Z Z) (aH.refl _ _)
    have h:=VK d h;by_cases f:m=(1:Int)
    ·have h:=Hh f h;refine aB (gS (cs:=[vI (2:Int),p]) Z (dR (aI.res 0 Z) DT) DT (by rw[f];rfl) Z Z Z g) Z ?_;refine aJ (aQ.alloc (cs:=[vI (0:Int),Value.nilFunc]) Z Z) Z λQ=>cD 0 (vs:=[vI (2:Int),Value.func (.func 162) #[] #[]]) Z Z Z Z Z Z<|aP<|aU<|bV Z<|dK 0 Z<|bV Z<|dK 3 Z<|cH Z<|aP ?_;refine eG h Z (λh=>?_) λh=>?_
     ·refine aU<|bV Z<|dK 0 Z<|cM 3 Z<|cM 2 Z<|aA Z<|eI h λH L h=>aJ (uF (vs:=[Value.agg #[vS (a.1),vI (a.2.1),vI (a.2.2.1),vI (a.2.2.2.1),vI (a.2.2.2.2.1),vI (a.2.2.2.2.2)],Value.agg #[i,j],vI (n)]) (cs:=[]) aaj Z (Je U i j D H L) Z (iB [0,1] Z) (λ_ _=>rfl)) Z λT=>iN Z<|iN Z<|aC Z<|aC Z<|aP<|aS<|bF<|aG<|aG<|bF<|aG ?_;cases h;exact gY () Z Z (RV.tmp Z) (RV.tmp Z) .nil aH.nil
     refine dW<|lA ?_;exact cB () (()) h SF (a_.ix [1,2,3] Z Z) (aH.refl _ _)
    have h:=VK f h;have u:m=(2:Int):=by have q:=g;simp only[zA8,zAg]at q;omega
    refine aB (gS (cs:=[vI (3:Int),s]) Z (dR (aI.res 0 Z) DT) DT (by rw[u];rfl) Z Z Z g) Z ?_;refine aJ (aQ.alloc (cs:=[vI (0:Int),Value.nilFunc]) Z Z) Z λR=>cD 0 (vs:=[vI (3:Int),Value.func (.func 163) #[] #[]]) Z Z Z Z Z Z<|aP<|aU<|bV Z<|dK 0 Z<|bV Z<|dK 3 Z<|cH Z<|aP ?_;refine eG h Z (λh=>?_) λh=>?_
    ·refine aU<|bV Z<|dK 0 Z<|cM 3 Z<|cM 2 Z<|aA Z<|eI h λI M h=>aJ (uF (vs:=[Value.agg #[vS (a.1),vI (a.2.1),vI (a.2.2.1),vI (a.2.2.2.1),vI (a.2.2.2.2.1),vI (a.2.2.2.2.2)],Value.agg #[i,j],vI (n)]) (cs:=[]) aak Z (Jf U i j D I M) Z (iB [0,1] Z) (λ_ _=>rfl)) Z λV=>iN Z<|iN Z<|aC Z<|aC Z<|aP<|aS<|bF<|aG<|aG<|bF<|aG ?_;cases h;exact gY () Z Z (RV.tmp Z) (RV.tmp Z) .nil aH.nil
    refine dW<|lA ?_;exact cB () (()) h SF (a_.ix [1,2,3] Z Z) (aH.refl _ _)
   intro k t h;unfold nT at h;refine aR<|cN Z<|aA Z<|aP ?_;exact xD (wI .i64 (m+(1:Int))) () h SF Z
  refine eP ?_;exact cB () (()) h SF .nil (aH.refl _ _)
 intro B N h;unfold BD at h;refine aU<|aC Z<|aC Z<|aP<|aS ?_;cases h;exact gY () Z Z (RV.tmp Z) (RV.tmp Z) (a_.refl _) aH.nil
def yB (a:iI):Option (iI):=
 some (a)
def yC (b:Int×iI) (a:(Int×iI)->Option (iI)) (c:iI):Option (iI):=
 a ((wI .i64 (b.1+(1:Int))),c)
def pD (U:Nat) (d:fE) (g:cJ) (b:Int×iI) (e:(Int×iI)->Option (iI)) (a:Int×iI) (f:(Int×iI)->Option (iI)):Option (iI):=
 if a.1<(d.2.1.length:Int)then(ck (0<=a.1/\a.1<(d.2.1.length:Int)) (ck (0<=b.1/\b.1<(a.2.length:Int)) (ck (0<=b.1/\b.1<(a.2.length:Int)) (Option.bind (lS U ((((at' d.2.1 a.1).1),((at' d.2.1 a.1).2.1),((at' d.2.1 a.1).2.2.1),((at' d.2.1 a.1).2.2.2.1),((at' d.2.1 a.1).2.2.2.2.1),((at' d.2.1 a.1).2.2.2.2.2))) ((g.1,g.2)) b.1) λc=>(ck (0<=a.1/\a.1<((at' a.2 b.1).length:Int)) (ck (0<=a.1/\a.1<((at' (List.set a.2 (Int.toNat b.1) (List.set (at' a.2 b.1) (Int.toNat a.1) (c.1,((at' (at' a.2 b.1) a.1).2)))) b.1).length:Int)) (f ((wI .i64 (a.1+(1:Int))),(List.set (List.set a.2 (Int.toNat b.1) (List.set (at' a.2 b.1) (Int.toNat a.1) (c.1,((at' (at' a.2 b.1) a.1).2)))) (Int.toNat b.1) (List.set (at' (List.set a.2 (Int.toNat b.1) (List.set (at' a.2 b.1) (Int.toNat a.1) (c.1,((at' (at' a.2 b.1) a.1).2)))) b.1) (Int.toNat a.1) (((at' (at' (List.set a.2 (Int.toNat b.1) (List.set (at' a.2 b.1) (Int.toNat a.1) (c.1,((at' (at' a.2 b.1) a.1).2)))) b.1) a.1).1),c.2)))))))))))else(yC b e (a.2))
def mY (U:Nat) (c:fE) (d:cJ) (a:Int×iI) (b:(Int×iI)->Option (iI)):Option (iI):=
 if a.1<((List.replicate (Int.toNat (List.length d.1:Int)) ([]:fI)).length:Int)then(ck (0<=(c.2.1.length:Int)/\(c.2.1.length:Int)<=1099511627) (ck (0<=a.1/\a.1<(a.2.length:Int)) (bL (pD U c d a b) U ((0:Int),(List.set a.2 (Int.toNat a.1) (List.replicate (Int.toNat (c.2.1.length:Int)) ((0:Int),(0:Int))))))))else(yB (a.2))
def lJ (U:Nat) (b:fE) (a:cJ):Option (iI):=
 ck (0<=(a.1.length:Int)/\(a.1.length:Int)<=1099511627) (bL (mY U b a) U ((0:Int),(List.replicate (Int.toNat (a.1.length:Int)) ([]:fI))))
theorem SA:bB Tryz.prog 48:=Tryz.call48
theorem DG (U:Nat) {d:fE} {y:cJ} (H Y v2 v3:V0) (z4:kX) (r:iI) (h:lJ U d y=some r):
  bE Tryz.prog 48 #[Value.agg #[vS (d.1),H,Y],Value.agg #[v2,v3]] [Sl aE H d.2.1,Sl aD Y d.2.2,PF (Value.agg #[vS d.1,H,Y]),Sl aM v2 y.1,S2 aY v3 z4 y.2] (λx:DN=>x.1) (λx l=>Ar bJ.raw x.1 x.2::fQ bX x.2 r::l) (λ_ l=>l):=by
 let A:=(Int.toNat (y.1.length:Int))
 let X:=(List.replicate A ([]:fI))
 let D:=vI (X.length:Int);refine bE.of Tryz.func48 Z Tryz.ntmps48 Z λc=>?_;refine aU<|aJ (aQ.box (cs:=[vS (d.1),H,Y]) Z Z) Z λb1=>let C:=bM b1 [vS (d.1),H,Y] 36;aJ (aQ.box (cs:=[v2,v3]) Z Z) Z λb2=>let F:=bM b2 [v2,v3] 31;aC Z<|aP<|aU<|bV Z<|dK 0 Z<|iL (Bh Z) Z<|cQ h λj3 h=>bZ (Ct bX A)<|aJ (By (e:=bJ.raw) (cW) Z Z Z Z j3 Z Z Z) Z λw=>aC Z<|aP<|aN<|KC (B:=fL) (λI=>yB I=some r) (λI K=>[(5,w)]) (λI K=>[Ar bJ.raw w K,fQ bX K I]) ?_ ?_
 ·refine aU<|aA Z<|aB (dM Z (fG (i:=0) (j:=1) Z Z cR) Z) Z<|aA Z<|aP<|aT<|eW (B:=fL) (mY U d y) (λb p=>[(2,vP b1),(3,vP b2),(5,w),(14,D),(15,vI (b.1))]) (λb p=>[Ar bJ.raw w p,fQ bX p b.2,F,C]) ((0:Int),X) (List.replicate A (cW)) h SF (a_.refl _) ?_;intro W b p h;let v:=(Int.toNat b.1)
  refine aU<|cU Z<|aP<|aN ?_;refine eG h Z (λh=>?_) λh=>?_
  ·refine cL<|aN<|KC (B:=fL) (λn=>yC b (bL (mY U d y) W) n=some r) (λn s=>[(2,vP b1),(3,vP b2),(5,w),(14,D),(15,vI (b.1))]) (λn s=>[Ar bJ.raw w s,fQ bX s n,F,C]) ?_ ?_
   ·refine aT<|aU<|aA Z<|aC Z<|aP<|aU<|aA Z<|aA Z<|bV Z<|dK 3 Z<|iL (b_ Z) Z<|cQ h λaa h=>aJ (By (e:=bX) (((0:Int),(0:Int))) Z Z Z Z aa Z Z Z) Z λab=>let E:=(List.set p v ab);cQ h λt h=>aB (bK Z Z (fG (i:=1) (j:=2) Z Z cR) Z Z t) Z<|bD (Know.one ((dR (aI.res 0 Z) cR))) λR=>bZ (Dp (k:=b.1) 2 0 Z Z Z t) ?_
    refine Bv 0 1 ⟨t.1,by first|exact t.2|simpa using t.2⟩ Z Z Z Z Z (by simp) R Z ?_;refine aP<|aU<|bV Z<|dK 3 Z<|iL (b_ Z) Z<|aA Z<|aP<|aT<|eW (pD U d y b (bL (mY U d y) W)) (λa J=>[(2,vP b1),(3,vP b2),(5,w),(6,vI (b.1)),(14,D),(15,vI (b.1)),(26,H),(27,vI (d.2.1.length:Int)),(28,vI (a.1))]) (λa J=>[Ar bJ.raw w E,fQ bX E a.2,F,C]) ((0:Int),(List.set b.2 v (List.replicate (Int.toNat (d.2.1.length:Int)) ((0:Int),(0:Int))))) () h SF (a_.refl _) ?_;intro ag a J h;let G:=(at' a.2 b.1)
    let q:=(at' d.2.1 a.1)
    refine aU<|cU Z<|aP<|aN ?_;refine eG h Z (λh=>?_) λh=>?_
    ·refine cL<|aN<|aT<|aU<|aA Z<|cQ h λS h=>aB (bG Z Z (b_ Z) Z Z S) Z<|aB (gS (cs:=[vS (q.1),vI (q.2.1),vI (q.2.2.1),vI (q.2.2.2.1),vI (q.2.2.2.2.1),vI (q.2.2.2.2.2)]) Z (b_ Z) qD Z Z Z Z S) Z<|aJ (aQ.alloc (cs:=vD1) Z Z) Z λaf=>aC Z<|cD 0 (vs:=[vS ((at' d.2.1 a.1).1),vI ((at' d.2.1 a.1).2.1),vI ((at' d.2.1 a.1).2.2.1),vI ((at' d.2.1 a.1).2.2.2.1),vI ((at' d.2.1 a.1).2.2.2.2.1),vI ((at' d.2.1 a.1).2.2.2.2.2)]) Z Z Z Z Z Z<|aP ?_;refine rP [0,0,3,7,0,0,0,96,224,0,0,0,0,7168,15360,31744,31744,31,196095,458239,992,2097151,4194303] 21 mixedOrders ?_;refine aV Z<|aV Z<|cQ h λg h=>aZ (dQ 2 Z) λL=>?_;refine bA Z (a_.cons 1 Z .nil) .nil (uJ 0 Z Z Z Z Z g.1 (by have q1:=g.2;have q2:=L;(try simp only[zA1]at q1);(try simp only[zA1]at q2);(try simp only[zA1]);omega)) aL.z ?_;refine aZ (dQ 2 Z) λM=>bA Z (a_.cons 1 Z .nil) .nil (gE 0 Z Z M Z Z g) aL.z<|aV Z<|aV Z<|aV Z<|cQ h λf h=>aZ (dQ 2 Z) λN=>?_;refine bA Z (a_.cons 1 Z .nil) .nil (uJ 0 Z Z Z Z Z f.1 (by have q1:=f.2;have q2:=N;(try simp only[zA1]at q1);(try simp only[zA1]at q2);(try simp only[zA1]);omega)) aL.z ?_;refine aZ (dQ 2 Z) λO=>bA Z (a_.cons 1 Z .nil) .nil (gE 0 Z Z O Z Z f) aL.z<|aV Z<|jA 0 Z<|jA 3 Z<|aV Z<|eI h λm ac h=>let u:=(List.set a.2 v (List.set G (Int.toNat a.1) (m.1,((at' G a.1).2))));zBd Z Z Z (zBb Xs (FY U v2 v3 z4 m ac) Z (iB [3,4] Z)) Z (λad=>(nK [([1],[]),([1],[]),([1],[]),([1],[])] Z)) λad=>eN Z (dG Z)<|eN Z (vY Z Z)<|eN Z (vY Z Z)<|cQ h λT h=>aZ (Know.len (aI.row (j:=2) Z cR g.1 g.2)) λP=>eN Z (cO Z Z P Z Z T) ?_
     refine eN Z (Ha (i:=0) Z Z Z Z Z (by decide)) ?_;refine Qd Z Z Z (zM (us:=[vI (m.1)]) (o:=0) (k:=b.1) 2 ((m.1,((at' G a.1).2))) ⟨g.1,by first|exact g.2|simpa using g.2⟩ T Z Z Z Z Z Z Z Z Z Z) (λae=>(nK [] Z)) λae=>cQ h λV h=>aZ (Know.len (aI.row (j:=2) Z cR f.1 (by first|exact f.2|simpa using f.2))) λQ=>?_;refine eN Z (cO Z Z Q Z Z V)<|bN 21 Z Z ?_;refine aB (Ha (i:=1) Z Z Z Z Z (by decide)) Z ?_;refine tP (zM (us:=[vI (m.2)]) (o:=1) (k:=b.1) 2 ((((at' (at' u b.1) a.1).1),m.2)) ⟨f.1,by first|exact f.2|simpa using f.2⟩ V Z Z Z Z Z Z Z Z Z Z) λah=>eS<|lA<|aR<|cN Z<|aA Z<|aP ?_;exact iP ((wI .i64 (a.1+(1:Int))),(List.set u v (List.set (at' u b.1) (Int.toNat a.1) (((at' (at' u b.1) a.1).1),m.2)))) () h SF (a_.ix [1,2,3,4] Z Z) (aH.refl _ _)
    refine uE<|g_<|g_<|Cr<|lA ?_;exact f_ (a.2) E h SF Z
   intro n s h;unfold yC at h;refine aR<|cN Z<|aA Z<|aP ?_;exact xD ((wI .i64 (b.1+(1:Int))),n) (s) h SF Z
  refine eP ?_;exact cB (b.2) (p) h SF (a_.ix [0,1] Z Z) (aH.refl _ _)
 intro I K h;unfold yB at h;refine aU<|aA Z<|aC Z<|aP<|aS ?_;cases h;exact kY (w,K) Z Z (RV.tmp Z) (a_.refl _) aH.nil
def zR (a:Unit):Option (Int):=
 some (0:Int)
def qP (b:Int) (a:(Int)->Option (Int)) (c:Unit):Option (Int):=
 a (wI .i64 (b+(1:Int)))
def zS (b:Int) (a:(Int)->Option (Int)) (c:Bool):Option (Int):=
 if c=true then(some (9:Int))else(qP b a (()))
def oB (U:Nat) (c:fE) (e:cJ) (a:Int) (b:(Int)->Option (Int)):Option (Int):=
 if a<(c.2.1.length:Int)then(ck (0<=a/\a<(c.2.1.length:Int)) (if((at' c.2.1 a).2.1)≠(1:Int)then(qP a b (()))else(Option.bind (lS U ((((at' c.2.1 a).1),((at' c.2.1 a).2.1),((at' c.2.1 a).2.2.1),((at' c.2.1 a).2.2.2.1),((at' c.2.1 a).2.2.2.2.1),((at' c.2.1 a).2.2.2.2.2))) ((e.1,e.2)) (0:Int)) λd=>(if d.2<d.1 then(zS a b (true))else(zS a b (decide ((4096:Int)<(wI .i64 ((wI .i64 (d.2 - d.1))+(1:Int))))))))))else(zR (()))
def pV (U:Nat) (a:fE) (b:cJ):Option (Int):=
 Option.bind (Et U ((a.1,a.2.1,a.2.2))) λc=>(if(!c)=true then(some (8:Int))else(Option.bind (lD U ((b.1,b.2))) λd=>(if(!d)=true then(some (1:Int))else(bL (oB U a b) U (0:Int)))))
theorem TT:bB Tryz.prog 107:=Tryz.call107
theorem HK (U:Nat) {b:fE} {n:cJ} (i y o p:V0) (B:kX) (r:Int) (h:pV U b n=some r):
  bE Tryz.prog 107 #[Value.agg #[vS (b.1),i,y],Value.agg #[o,p]] [Sl aE i b.2.1,Sl aD y b.2.2,PF (Value.agg #[vS b.1,i,y]),Sl aM o n.1,S2 aY p B n.2] (λx:Unit=>vI (r)) (λx l=>l) (λ_ l=>l):=by
 let j:=vI (b.2.1.length:Int);refine bE.of Tryz.func107 Z Tryz.ntmps107 Z λc=>?_;refine aU<|aJ (aQ.box (cs:=[vS (b.1),i,y]) Z Z) Z λI=>aJ (aQ.box (cs:=[o,p]) Z Z) Z λz=>let k:=bM z [o,p] 31;aC Z<|aP<|aN<|aU<|cM 1 Z<|eI h λD F h=>aJ (zBb TX (Ng U i y D F) Z (iB [0,1,2] Z)) Z λJ=>aB (jG Z) Z<|aP ?_
 refine rR h Z (λ_ h=>?_) λ_ h=>?_
 ·refine aU<|aC Z<|aP<|aS<|aG ?_;cases h;exact mO Z
 refine cL<|aN<|aU<|cM 0 Z<|eI h λE G h=>aJ (zBb Xq (HL U o p B E G) Z (iB [3,4] Z)) Z λK=>aB (jG Z) Z<|aP ?_;refine rR h Z (λ_ h=>?_) λ_ h=>?_
 ·refine aU<|aC Z<|aP<|aS<|aG ?_;cases h;exact mO Z
 refine cL<|aN<|eB (λf=>zR f=some r) (λf q=>[]) (λf q=>[]) ?_ ?_
 ·refine aU<|bV Z<|dK 1 Z<|iL (b_ Z) Z<|aA Z<|aP<|aT<|eW (oB U b n) (λa s=>[(3,vP z),(16,i),(17,j),(18,vI (a))]) (λa s=>[k]) (0:Int) () h SF (a_.ix [0] Z Z) ?_;intro w a s h;let d:=(at' b.2.1 a)
  refine aU<|cU Z<|aP<|aN ?_;refine eG h Z (λh=>?_) λh=>?_
  ·refine cL<|aN<|eB (λg=>qP a (bL (oB U b n) w) g=some r) (λg t=>[(3,vP z),(16,i),(17,j),(18,vI (a))]) (λg t=>[k]) ?_ ?_
   ·refine aT<|aU<|cQ h λv h=>aB (bG Z Z (b_ Z) Z Z v) Z<|aB (gS (cs:=[vS (d.1),vI (d.2.1),vI (d.2.2.1),vI (d.2.2.2.1),vI (d.2.2.2.2.1),vI (d.2.2.2.2.2)]) Z (b_ Z) qD Z Z Z Z v) Z<|aJ (aQ.alloc (cs:=vD1) Z Z) Z λC=>cD 0 (vs:=[vS ((at' b.2.1 a).1),vI ((at' b.2.1 a).2.1),vI ((at' b.2.1 a).2.2.1),vI ((at' b.2.1 a).2.2.2.1),vI ((at' b.2.1 a).2.2.2.2.1),vI ((at' b.2.1 a).2.2.2.2.2)]) Z Z Z Z Z Z<|aP<|aN<|aU<|bV Z<|dK 0 Z<|lB Z<|aP ?_;refine eG h Z (λh=>?_) λh=>?_
    ·refine uE<|g_<|Cr<|Fc ?_;exact cB () (()) h SF (a_.ix [1] Z Z) (aH.refl _ _)
    refine cL<|aU<|cM 0 Z<|cM 1 Z<|eI h λm A h=>aJ (zBb Xs (FY U o p B m A) Z (iB [3,4] Z)) Z λH=>aA Z<|iN Z<|iN Z<|aC Z<|aC Z<|aP<|aN<|eB (λe=>zS a (bL (oB U b n) w) e=some r) (λe u=>[(3,vP z),(16,i),(17,j),(18,vI (a)),(40,vB (e))]) (λe u=>[k]) ?_ ?_
    ·refine aR<|aA Z<|aA Z<|cU Z<|aA Z ?_;refine Ds h Z (λ_ h=>?_) λ_ h=>?_
     ·refine aO Z<|aO Z<|aO Z<|aO Z<|aO Z<|d_ Z<|aP ?_;exact cB (true) () h SF (a_.ix [1] Z Z) (aH.refl _ _)
     refine dD Z<|dD Z<|aW Z (nI Z Z) Z<|aW Z (zN Z Z) Z<|aW Z (wY Z Z) Z<|eR Z<|aP ?_;exact cB (decide ((4096:Int)<(wI .i64 ((wI .i64 (m.2 - m.1))+(1:Int))))) () h SF (a_.ix [1] Z Z) (aH.refl _ _)
    intro e u h;refine rR h Z (λ_ h=>?_) λ_ h=>?_
    ·refine aU<|aC Z<|aP<|aS<|bF<|aG<|aG<|bF<|aG ?_;cases h;exact mO Z
    refine dW<|lA ?_;exact f_ () (()) h SF Z
   intro g t h;unfold qP at h;refine aR<|cN Z<|aA Z<|aP ?_;exact xD (wI .i64 (a+(1:Int))) () h SF Z
  refine eP ?_;exact cB () (()) h SF .nil (aH.refl _ _)
 intro f q h;unfold zR at h;refine aU<|aC Z<|aP<|aS ?_;cases h;exact iR Z
def yH (a:Unit):Option Bool:=
 some (true)
def yI (c:Int) (b:(Int)->Option Bool) (a:Bool):Option Bool:=
 if a=true then(some (false))else(b (wI .i64 (c+(1:Int))))
def sY (c:fI) (d:bT) (a:Int) (b:(Int)->Option Bool):Option Bool:=
 if a<(d.length:Int)then(ck (0<=a/\a<(d.length:Int)) (ck (0<=a/\a<(c.length:Int)) (if(at' d a)<((at' c a).1)then(yI a b (true))else(ck (0<=a/\a<(c.length:Int)) (yI a b (decide (((at' c a).2)<(at' d a))))))))else(yH (()))
def uU (U:Nat) (a:fI) (b:bT):Option Bool:=
 if(b.length:Int)≠(a.length:Int)then(some (false))else(bL (sY a b) U (0:Int))
theorem Xl:bB Tryz.prog 50:=Tryz.call50
theorem GL (U:Nat) {k:fI} {d:bT} (n o:V0) (r:Bool) (h:uU U k d=some r):
  bE Tryz.prog 50 #[n,o] [Sl aY n k,Sl aM o d] (λx:Unit=>vB (r)) (λx l=>l) (λ_ l=>l):=by
 refine bE.of Tryz.func50 Z Tryz.ntmps50 Z λc=>?_;refine aU<|aC Z<|aP<|aN<|aU<|aA Z<|iL (mR Z) Z<|aA Z<|iL (b_ Z) Z<|lB Z<|aP ?_;refine eG h Z (λh=>?_) λh=>?_
 ·refine aU<|aC Z<|aP<|aS<|aG ?_;cases h;exact iR Z
 refine cL<|aN<|eB (λm=>yH m=some r) (λm p=>[]) (λm p=>[]) ?_ ?_
 ·refine aU<|aA Z<|iL (mR Z) Z<|aA Z<|aP<|aT<|eW (sY k d) (λb q=>[(0,n),(12,o),(13,vI (d.length:Int)),(14,vI (b))]) (λb q=>[]) (0:Int) () h SF (a_.refl _) ?_;intro s b q h;refine aU<|cU Z<|aP<|aN ?_;refine eG h Z (λh=>?_) λh=>?_
  ·refine cL<|aN<|aT<|aU<|aA Z<|cQ h λf h=>aB (bG Z Z (mR Z) Z Z f) Z<|aB (cI Z (mR Z) Z Z Z eZ f) Z<|aC Z<|aC Z<|aP<|aN<|eB (λa=>yI b (bL (sY k d) s) a=some r) (λa e=>[(0,n),(12,o),(13,vI (d.length:Int)),(14,vI (b)),(34,vB (a))]) (λa e=>[]) ?_ ?_
   ·refine aR<|aA Z<|aA Z<|aA Z<|cQ h λg h=>aB (bG Z Z (b_ Z) Z Z g) Z ?_;refine aB (Ha (i:=0) Z Z Z Z Z (by decide)) Z ?_;refine aB (eL Z (b_ Z) Z Z Z gA g) Z<|cU Z<|aA Z ?_;refine Ds h Z (λ_ h=>?_) λ_ h=>?_
    ·refine aO Z<|aO Z<|aO Z<|aO Z<|aO Z<|aO Z<|aO Z<|d_ Z<|aP ?_;exact f_ (true) () h SF Z
    refine dD Z<|dD Z<|dD Z<|cQ h λj h=>aW Z (bG Z Z (b_ Z) Z Z j) Z ?_;refine aW Z (Ha (i:=1) Z Z Z Z Z (by decide)) Z ?_;refine aW Z (eL Z (b_ Z) Z Z Z Fi j) Z<|aW Z (wY Z Z) Z<|eR Z<|aP ?_;exact f_ (decide (((at' k b).2)<(at' d b))) () h SF Z
   intro a e h;refine rR h Z (λ_ h=>?_) λ_ h=>?_
   ·refine aU<|aC Z<|aP<|aS<|bF<|aG<|aG<|bF<|aG ?_;cases h;exact iR Z
   refine dW<|lA<|aR<|cN Z<|aA Z<|aP ?_;exact xD (wI .i64 (b+(1:Int))) () h SF Z
  refine eP ?_;exact f_ () (()) h SF Z
 intro m p h;unfold yH at h;refine aU<|aC Z<|aP<|aS ?_;cases h;exact iR Z
def wD (a:Unit):Option Bool:=
 some (true)
def wE (U:Nat) (c:iI) (e:bQ) (a:Int) (b:(Int)->Option Bool):Option Bool:=
 if a<(c.length:Int)then(ck (0<=a/\a<(c.length:Int)) (ck (0<=a/\a<(e.length:Int)) (Option.bind (uU U (at' c a) (at' e a)) λd=>(if(!d)=true then(some (false))else(b (wI .i64 (a+(1:Int))))))))else(wD (()))
def yG (U:Nat) (a:iI) (b:bQ):Option Bool:=
 if(b.length:Int)≠(a.length:Int)then(some (false))else(bL (wE U a b) U (0:Int))
theorem aaf:bB Tryz.prog 119:=Tryz.call119
theorem KH (U:Nat) {f:iI} {g:bQ} (j:V0) (p:kX) (k:V0) (q:nG) (r:Bool) (h:yG U f g=some r):
  bE Tryz.prog 119 #[j,k] [S2 aY j p f,S2 aM k q g] (λx:Unit=>vB (r)) (λx l=>l) (λ_ l=>l):=by
 refine bE.of Tryz.func119 Z Tryz.ntmps119 Z λc=>?_;refine aU<|aC Z<|aP<|aN<|aU<|aA Z<|aB (dM Z (mR Z) Z) Z<|aA Z<|aB (dM Z (b_ Z) Z) Z<|lB Z<|aP ?_;refine eG h Z (λh=>?_) λh=>?_
 ·refine aU<|aC Z<|aP<|aS<|aG ?_;cases h;exact iR Z
 refine cL<|aN<|eB (λe=>wD e=some r) (λe n=>[]) (λe n=>[]) ?_ ?_
 ·refine aU<|aA Z<|aB (dM Z (b_ Z) Z) Z<|aA Z<|aP<|aT<|eW (wE U f g) (λd o=>[(1,k),(12,j),(13,vI (f.length:Int)),(14,vI (d))]) (λd o=>[]) (0:Int) () h SF (a_.refl _) ?_;intro t d o h;refine aU<|cU Z<|aP<|aN ?_;refine eG h Z (λh=>?_) λh=>?_
  ·refine cL<|aN<|aT<|aU<|aA Z<|cQ h λa h=>aB (bK Z Z (b_ Z) Z Z a) Z<|aB (bS Z (b_ Z) Z Z a) Z<|aC Z<|aC Z<|aP<|aU<|aA Z<|aA Z<|aA Z<|cQ h λb h=>aB (bK Z Z (mR Z) Z Z b) Z<|aB (bS Z (mR Z) Z Z b) Z<|eI h λi m h=>aJ (zBb Xl (GL U ((at' p d).1) ((at' q d).1) i m) Z (aH.cons (zBc (b_ Z) a.1 a.2) (aH.cons (zBc (mR Z) b.1 b.2) .nil))) Z λs=>aB (jG Z) Z<|aP ?_;refine rR h Z (λ_ h=>?_) λ_ h=>?_
   ·refine aU<|aC Z<|aP<|aS<|bF<|aG<|aG<|bF<|aG ?_;cases h;exact iR Z
   refine dW<|lA<|aR<|cN Z<|aA Z<|aP ?_;exact xD (wI .i64 (d+(1:Int))) () h SF Z
  refine eP ?_;exact f_ () (()) h SF Z
 intro e n h;unfold wD at h;refine aU<|aC Z<|aP<|aS ?_;cases h;exact iR Z
def uT (U:Nat) (a:fE) (b:cJ) (e:bQ):Option (Int):=
 Option.bind (pV U ((a.1,a.2.1,a.2.2)) ((b.1,b.2))) λd=>(if d≠(0:Int)then(some (d))else(Option.bind (lJ U ((a.1,a.2.1,a.2.2)) ((b.1,b.2))) λf=>(Option.bind (yG U f e) λc=>(if(!c)=true then(some (10:Int))else(some (0:Int))))))
theorem adk:bB Tryz.prog 75:=Tryz.call75
theorem Mm (U:Nat) {a:fE} {g:cJ} {p:bQ} (b d e f:V0) (o:kX) (m:V0) (t:nG) (r:Int) (h:uT U a g p=some r):
  bE Tryz.prog 75 #[Value.agg #[vS (a.1),b,d],Value.agg #[e,f],m] [Sl aE b a.2.1,Sl aD d a.2.2,PF (Value.agg #[vS a.1,b,d]),Sl aM e g.1,S2 aY f o g.2,S2 aM m t p] (λx:Unit=>vI (r)) (λx l=>l) (λ_ l=>l):=by
 refine bE.of Tryz.func75 Z Tryz.ntmps75 Z λc=>?_;refine aU<|aJ (aQ.box (cs:=[vS (a.1),b,d]) Z Z) Z λz=>aJ (aQ.box (cs:=[e,f]) Z Z) Z λA=>aC Z<|aP<|aN<|aU<|cM 1 Z<|cM 0 Z<|eI h λu v h=>aJ (zBb TT (HK U b d e f o u v) Z (iB [0,1,2,3,4] Z)) Z λB=>aC Z<|aP<|aU<|aA Z<|lB Z<|aP ?_;refine eG h Z (λh=>?_) λh=>?_
 ·refine aU<|aA Z<|aC Z<|aP<|aS<|aG ?_;cases h;exact mO Z
 refine cL<|aN<|aU<|cM 1 Z<|cM 0 Z<|eI h λq w h=>aJ (zBb SA (DG U b d e f o q w) Z (iB [0,1,2,3,4] Z)) Z λs=>aA Z<|eI h λk n h=>aJ (zBb aaf (KH U s.1 (List.zip s.2 q) m t k n) Z (aH.cons (fG (i:=0) (j:=1) Z Z cR) (iB [5] Z))) Z λy=>aB (jG Z) Z<|aP ?_;refine rR h Z (λ_ h=>?_) λ_ h=>?_
 ·refine aU<|aC Z<|aP<|aS<|aG ?_;cases h;exact mO Z
 refine cL<|aU<|aC Z<|aP<|aS ?_;cases h;exact mO Z
def Am (a:bQ):Option bQ:=
 some (a)
def u_ (c:bQ) (a:Int×bQ) (b:(Int×bQ)->Option bQ):Option bQ:=
 if a.1<(c.length:Int)then(ck (0<=a.1/\a.1<(c.length:Int)) (ck ((List.length ([]:bT):Int)+((at' c a.1).length:Int)<=1099511627) (ck (0<=a.1/\a.1<(a.2.length:Int)) (b ((wI .i64 (a.1+(1:Int))),(List.set a.2 (Int.toNat a.1) (([]:bT)++(at' c a.1))))))))else(Am (a.2))
def pY (U:Nat) (a:bQ):Option bQ:=
 ck (0<=(a.length:Int)/\(a.length:Int)<=1099511627) (bL (u_ a) U ((0:Int),(List.replicate (Int.toNat (a.length:Int)) ([]:bT))))
theorem SD:bB Tryz.prog 76:=Tryz.call76
theorem Ew (U:Nat) {g:bQ} (t:V0) (w:nG) (r:bQ) (h:pY U g=some r):
  bE Tryz.prog 76 #[t] [S2 aM t w g] (λx:DN=>x.1) (λx l=>Ar bJ.raw x.1 x.2::fQ fT x.2 r::l) (λ_ l=>l):=by
 refine bE.of Tryz.func76 Z Tryz.ntmps76 Z λc=>?_;refine aU<|aC Z<|aP<|aU<|aA Z<|aB (dM Z (b_ Z) Z) Z<|cQ h λu h=>bZ (Ct fT (Int.toNat (g.length:Int)))<|aJ (By (e:=bJ.raw) (cW) Z Z Z Z u Z Z Z) Z λp=>aC Z<|aP<|aN<|KC (B:=fL) (λm=>Am m=some r) (λm n=>[(3,p)]) (λm n=>[Ar bJ.raw p n,fQ fT n m]) ?_ ?_
 ·refine aU<|aA Z<|aB (dM Z (b_ Z) Z) Z<|aA Z<|aP<|aT<|eW (B:=fL) (u_ g) (λa b=>[(3,p),(9,t),(10,vI (g.length:Int)),(11,vI (a.1))]) (λa b=>[Ar bJ.raw p b,fQ fT b a.2]) ((0:Int),(List.replicate (Int.toNat (g.length:Int)) ([]:bT))) (List.replicate (Int.toNat (g.length:Int)) (cW)) h SF (a_.refl _) ?_;intro v a b h;refine aU<|cU Z<|aP<|aN ?_;refine eG h Z (λh=>?_) λh=>?_
  ·refine cL<|aN<|aT<|aU<|aA Z<|cQ h λf h=>aB (bK Z Z (b_ Z) Z Z f) Z<|aB (bS Z (b_ Z) Z Z f) Z<|aC Z<|aC Z<|aP<|aR<|aA Z<|aA Z<|aA Z<|bZ (gC fT)<|cQ h λq h=>aJ (jN 0 iY Z Z Z (zBc (b_ Z) f.1 f.2) Z Z Z Z q Z) Z λs=>cQ h λd h=>aB (bK Z Z (fG (i:=1) (j:=2) Z Z iY) Z Z d) Z<|bD (Know.one ((dR (aI.res 0 Z) iY))) λo=>bZ (Dp (k:=a.1) 2 0 Z Z Z d) ?_;refine Bv 0 1 ⟨d.1,by first|exact d.2|simpa using d.2⟩ Z Z Z Z Z (by simp) o Z ?_;refine eS<|lA<|aR<|cN Z<|aA Z<|aP ?_;exact xD ((wI .i64 (a.1+(1:Int))),(List.set a.2 (Int.toNat a.1) (([]:bT)++(at' g a.1)))) (List.set b (Int.toNat a.1) s) h SF Z
  refine eP ?_;exact f_ (a.2) (b) h SF Z
 intro m n h;unfold Am at h;refine aU<|aA Z<|aC Z<|aP<|aS ?_;cases h;exact kY (p,n) Z Z (RV.tmp Z) (a_.refl _) aH.nil
end Go.Proofs.YtflciafboapaaaaGreat
namespace Go.Proofs.YtflciafboapaaaaGreat
open Go Go.Sx
abbrev Fh:=ByteArray×(List EC)×(List zB)
structure gR (g:GR) (vars:List EC):Prop where
 len:vars.length<=20
 small:∀x,x<vars.length->Iy (at' vars (x:Int))
 kind:∀x,x<vars.length->(at' vars (x:Int)).2.1=1\/(at' vars (x:Int)).2.1=2\/(at' vars (x:Int)).2.1=3
 range:∀x,x<vars.length->(at' vars (x:Int)).2.1=1 -> -100000<=lo g (at' vars (x:Int)) 0/\lo g (at' vars (x:Int)) 0<=hi g (at' vars (x:Int)) 0/\hi g (at' vars (x:Int)) 0 - lo g (at' vars (x:Int)) 0+1<=4096
theorem adS {g:GR} (a:VG g):Dc 1000 g.1=some (jH g g.1.length):=by
 have d:=a.n24;have b:=a.len;have h:=a.n1;have f:0<=at' g.1 ((0:Nat):Int):=(a.node 0 (by omega)).id.1;unfold Dc;rw[if_neg (by omega),cF (by omega)];have:=dJ (step:=xY g.1) (K:=some (jH g g.1.length)) (g.1.length - 1) (λk=>(jH g (k+1),((k+1:Nat):Int))) (λk c i=>by
  unfold xY;dsimp only;rw[if_pos (by omega),cF (by omega),cV (by omega)];rfl) (λc=>by
  unfold xY Cm;dsimp only;rw[if_neg (by omega),show g.1.length - 1+1=g.1.length by omega]) 1000 (by omega)
 have e:jH g (0+1)=at' g.1 (0:Int):=by
  show max (jH g 0) (at' g.1 ((0:Nat):Int))=_;simp only[jH];have:at' g.1 ((0:Nat):Int)=at' g.1 (0:Int):=rfl;omega
 rw[e]at this;exact this
theorem Nt {g:GR} (c:VG g) {x:EC} (o:Iy x) (n:x.2.1=1\/x.2.1=2\/x.2.1=3) {v:Nat} (p:v<g.2.length):lS 1000 x g (v:Int)=some (lo g x v,hi g x v):=by
 obtain⟨⟨B,C⟩,⟨r,s⟩,t,u⟩:=o;have l:=c.n24;have d:=c.len;have e:=EM c g.1.length (by omega);have w:0<=x.2.2.2.2.1*(g.1.length:Int):=Int.mul_nonneg r (by omega);have y:x.2.2.2.2.1*(g.1.length:Int)<=100000*24:=Int.mul_le_mul s (by omega) (by omega) (by omega);have z:0<=x.2.2.2.2.2*jH g g.1.length:=Int.mul_nonneg t e.1;have A:x.2.2.2.2.2*jH g g.1.length<=100000*255:=Int.mul_le_mul u e.2 e.1 (by omega);have i:pO 1000 x g (v:Int)=some (x.2.2.1,x.2.2.2.1+x.2.2.2.2.1*(g.2.length:Int)+x.2.2.2.2.2*jH g g.1.length):=by
  unfold pO;rw[bH (adS c),wr (x:=x.2.2.2.2.1*_) (by omega) (by omega),wr (x:=x.2.2.2.2.2*_) (by omega) (by omega),wr (x:=x.2.2.2.1+_) (by omega) (by omega),wr (by omega) (by omega),d]
 have j:pP 1000 x g (v:Int)=some (-1,((row g v).length:Int) - 1):=by
  have k:=(c.node v p).deg;unfold pP;rw[cF (by omega)];show some ((-1:Int),wI .i64 (((row g v).length:Int) - 1))=_;rw[wr (by omega) (by omega)]
 have q:∀(f:Nat) (a:Int),bL (gF 1000 x g (v:Int)) (f+1) a=gF 1000 x g (v:Int) a (bL (gF 1000 x g (v:Int)) f):=λf a=>rfl;have b:∀(f:Nat) (a:Int),a=0\/a=1\/a=2->bL (gF 1000 x g (v:Int)) (f+1) a=if a=0 then(if 1=x.2.1 then pO 1000 x g (v:Int)else bL (gF 1000 x g (v:Int)) f 1)else if a=1 then(if 2=x.2.1 then tT 1000 x g (v:Int)else bL (gF 1000 x g (v:Int)) f 2)else(if 3=x.2.1 then pP 1000 x g (v:Int)else bL (gF 1000 x g (v:Int)) f 3):=by
  intro f a m;rw[q];generalize bL (gF 1000 x g (v:Int)) f=G;unfold gF nT;rcases m with rfl|rfl|rfl
  ·rw[if_pos (by decide),cF (by decide),if_pos Z,if_pos Z];split
   ·rw[i];rfl
   ·rfl
  ·rw[if_pos (by decide),cF (by decide),if_neg (show¬(1:Int)=0 by decide),if_pos Z,if_neg (show¬(1:Int)=0 by decide),if_pos Z];split
   ·rfl
   ·rfl
  ·rw[if_pos (by decide),cF (by decide),if_neg (show¬(2:Int)=0 by decide),if_neg (show¬(2:Int)=1 by decide),if_neg (show¬(2:Int)=0 by decide),if_neg (show¬(2:Int)=1 by decide)];split
   ·rw[j];rfl
   ·rfl
 unfold lS lo hi;rcases n with h|h|h
 ·rw[b 999 0 (.inl Z),if_pos Z,if_pos h.symm,i,h,if_neg (by decide),if_neg (by decide),if_neg (by decide),if_neg (by decide)]
 ·rw[b 999 0 (.inl Z),if_pos Z,if_neg (by omega),b 998 1 (.inr (.inl Z)),if_neg (by decide),if_pos Z,if_pos h.symm,h,if_pos Z,if_pos Z];rfl
 ·rw[b 999 0 (.inl Z),if_pos Z,if_neg (by omega),b 998 1 (.inr (.inl Z)),if_neg (by decide),if_pos Z,if_neg (by omega),b 997 2 (.inr (.inr Z)),if_neg (by decide),if_neg (by decide),if_pos h.symm,j,h,if_neg (by decide),if_pos Z,if_neg (by decide),if_pos Z]
def qB (g:GR) (a:List EC) (v x:Nat):fF:=(lo g (at' a (x:Int)) v,hi g (at' a (x:Int)) v)
def Hu (g:GR) (a:List EC) (v:Nat):fI:=(List.range a.length).map (qB g a v)
def BO (g:GR) (a:List EC):iI:=(List.range g.2.length).map (Hu g a)
theorem ES {a:Type} [Inhabited a] (f:Nat->a) {n k:Nat} (h:k<n):at' ((List.range n).map f) (k:Int)=f k:=by
 rw[kE (by simpa using h)];simp
theorem BW {a:Type} (f:Nat->a) (z:a) (n k:Nat) (h:k<n):((List.range k).map f++List.replicate (n - k) z).set k (f k)=(List.range (k+1)).map f++List.replicate (n - (k+1)) z:=by
 rw[show n - k=(n - (k+1))+1 by omega,List.replicate_succ,List.set_append_right _ _ (by simp),List.range_succ];simp
theorem Mz {g:GR} (m:VG g) {p:Fh} (n:gR g p.2.1):lJ 1000 p g=some (BO g p.2.1):=by
 have s:=m.n24;have d:=m.len;have w:=n.len;let a:=p.2.1;let Q:Nat->iI:=λk=>(List.range k).map (Hu g a)++List.replicate (g.2.length - k) [];have c:∀k,k<=g.2.length->(Q k).length=g.2.length:=λk f=>by simp[Q];omega
 let R:Nat->Nat->fI:=λk j=>(List.range j).map (qB g a k)++List.replicate (a.length - j) (0,0);have l:∀k j,j<=a.length->(R k j).length=a.length:=λk j b=>by simp[R];omega
 unfold lJ;rw[cF (by omega)];rw[show List.replicate (Int.toNat (g.1.length:Int)) ([]:fI)=Q 0 by simp[Q,d]];refine dJ (step:=mY 1000 p g) (K:=some (BO g a)) g.2.length (λk=>((k:Int),Q k)) (λk e f=> ?_) (λe=> ?_) 1000 (by omega)
 ·unfold mY;dsimp only;rw[if_pos (by simp;omega),cF (by omega),cF (by rw[c k (by omega)];omega)];refine Eq.trans (?_:_=bL (pD 1000 p g ((k:Int),Q k) e) 1000 ((0:Int),(Q k).set k (R k 0))) ?_
  ·rw[zAf,zAf];simp[R,a]
  refine dJ (step:=pD 1000 p g ((k:Int),Q k) e) (K:=e (((k+1:Nat):Int),Q (k+1))) a.length (λj=>((j:Int),(Q k).set k (R k j))) (λj h b=> ?_) (λh=> ?_) 1000 (by show p.2.1.length<1000;omega)
  ·have u:j<p.2.1.length:=b;have t:=Nt m (n.small j b) (n.kind j b) f;have v:k<(Q k).length:=by rw[c k (by omega)];exact f
   have o:∀X:fI,at' ((Q k).set k X) (k:Int)=X:=λX=>by rw[Dq _ _ _ _ v,if_pos Z]
   have i:j<(R k j).length:=by rw[l k j (by omega)];exact b
   unfold pD;dsimp only;rw[if_pos (by omega),cF (by omega),cF (by simp only[zA1];omega),cF (by simp only[zA1];omega),bH (show lS 1000 _ g (k:Int)=_ from t),zAf,zAf];simp only[o,List.set_set];rw[cF (by omega),cF (by simp only[zA1];omega),cV (by omega)];have:(R k j).set j (lo g (at' p.2.1 (j:Int)) k,hi g (at' p.2.1 (j:Int)) k)=R k (j+1):=BW (qB g a k) (0,0) a.length j b;rw[Dq _ _ _ _ i,if_pos Z];dsimp only;rw[this]
  ·unfold pD yC;dsimp only;rw[if_neg (show¬((a.length:Nat):Int)<(p.2.1.length:Int)from Int.lt_irrefl _),cV (by omega)];have q:R k a.length=Hu g a k:=by simp[R,Hu]
   have r:(Q k).set k (Hu g a k)=Q (k+1):=BW (Hu g a) [] g.2.length k f;rw[q,r]
 ·unfold mY yB;dsimp only;rw[if_neg (by simp;omega)];simp[Q,BO]
theorem Un {g:GR} (c:VG g) {p:Fh} (b:gR g p.2.1):pV 1000 p g=some 0:=by
 have i:=c.n1;have h:=b.len;unfold pV;rw[bH (show Et 1000 _=some true from rfl),if_neg (by decide),bH (show lD 1000 g=some true from(Wk g).1 c),if_neg (by decide)];refine dJ (step:=oB 1000 p g) (K:=some 0) p.2.1.length (λk=>(k:Int)) (λk e d=> ?_) (λe=> ?_) 1000 (by omega)
 ·unfold oB qP zS qP;rw[if_pos (by omega),cF (by omega),cV (by omega)];by_cases a:(at' p.2.1 (k:Int)).2.1=1
  ·obtain⟨j,l,m⟩:=b.range k d a;have f:=Nt c (b.small k d) (b.kind k d) (v:=0) (by omega);rw[if_neg (by simpa using a),bH (show lS 1000 _ g (0:Int)=_ from f)];dsimp only;rw[if_neg (by omega),wr (x:=hi g (at' p.2.1 (k:Int)) 0 - lo g (at' p.2.1 (k:Int)) 0) (by omega) (by omega),wr (by omega) (by omega),if_neg (by rw[zAa];omega)]
  ·rw[if_pos a]
 ·unfold oB zR;rw[if_neg (by omega)]
theorem Uj (c:bQ) (h:c.length<=900) (e:∀v,v<c.length->(at' c (v:Int)).length<=1000):pY 1000 c=some c:=by
 unfold pY;rw[cF (by omega)];let Q:Nat->bQ:=λk=>(List.range k).map (λv:Nat=>at' c (v:Int))++List.replicate (c.length - k) [];rw[show List.replicate (Int.toNat (c.length:Int)) ([]:bT)=Q 0 by simp[Q]];refine dJ (step:=u_ c) (K:=some c) c.length (λk=>((k:Int),Q k)) (λk b a=> ?_) (λb=> ?_) 1000 (by omega)
 ·have g:(Q k).length=c.length:=by simp[Q];omega
  have:=e k a;unfold u_;dsimp only;rw[if_pos (by omega),cF (by omega),cF (by simp;omega),cF (by omega),cV (by omega),zAf,zB8];have:(Q k).set k (at' c (k:Int))=Q (k+1):=BW (λv:Nat=>at' c (v:Int)) [] c.length k a;rw[this]
 ·unfold u_ Am;dsimp only;rw[if_neg (by omega)];congr 1;refine List.ext_getElem (by simp[Q]) λi f d=> ?_;simp[Q,kE d]
def sat (x:Int):Int:=max (-1073741824) (min x 1073741824)
def unD (o x:Int):Int:=if o=18 then wI .i64 (0 - x)else RX (decide (x=0))
def Q_ (a b:Int):Int:=if b=0 then 0 else if Int.tmod a b≠0/\((decide (a<0)) != (decide (b<0)))=true then wI .i64 (wI .i64 (Int.tdiv a b) - 1)else wI .i64 (Int.tdiv a b)
def adt (o x y:Int):Bool:=if o=35 then decide (x=y)else if o=36 then decide (x≠y)else if o=37 then decide (x<y)else if o=38 then decide (x<=y)else if o=39 then decide (y<x)else decide (y<=x)
def biD (o x y:Int):Int:=
 if o=30 then sat (wI .i64 (x*y))else if o=31 then sat (Q_ x y)else if o=32 then(if y=0 then 0 else sat (wI .i64 (x - wI .i64 (y*Q_ x y))))else if o=33 then sat (wI .i64 (x+y))else if o=34 then sat (wI .i64 (x - y))
 else if o=41 then RX (decide (x≠0)&&decide (y≠0))else if o=42 then RX (decide (x≠0)||decide (y≠0))else RX (adt o x y)
theorem Zi (f:Nat) (o x:Int):Db f o x=some (unD o x):=by
 unfold Db unD;split
 ·rfl
 ·rw[bH (xZ f _)]
theorem YH (f:Nat) (a b:Int):sR f a b=some (Q_ a b):=by
 unfold sR Q_;by_cases c:b=0
 ·rw[if_pos c,if_pos c]
 ·rw[if_neg c,if_neg c,cF c,cF c];by_cases d:Int.tmod a b=0
  ·rw[if_neg (by simpa using d),if_neg (by simp[d])];rfl
  ·rw[if_pos d];unfold wB qS;by_cases e:((decide (a<0)) != (decide (b<0)))=true
   ·rw[if_pos e,if_pos ⟨d,e⟩]
   ·rw[if_neg e,if_neg (λq=>e q.2)]
theorem adu (f:Nat) (o x y:Int):yF f o x y=some (adt o x y):=by
 unfold yF adt
 repeat' split
 all_goals rfl
theorem Vs (f:Nat) (o x y:Int):BV f o x y=some (biD o x y):=by
 unfold BV biD;by_cases h:o=30
 ·rw[if_pos h,if_pos h];rfl
 rw[if_neg h,if_neg h];by_cases h:o=31
 ·rw[if_pos h,if_pos h,bH (YH f x y)];rfl
 rw[if_neg h,if_neg h];by_cases h:o=32
 ·rw[if_pos h,if_pos h];by_cases b:y=0
  ·rw[if_pos b,if_pos b]
  ·rw[if_neg b,if_neg b,bH (YH f x y)];rfl
 rw[if_neg h,if_neg h];by_cases h:o=33
 ·rw[if_pos h,if_pos h];rfl
 rw[if_neg h,if_neg h];by_cases h:o=34
 ·rw[if_pos h,if_pos h];rfl
 rw[if_neg h,if_neg h];by_cases h:o=41
 ·rw[if_pos h,if_pos h];by_cases a:x=0
  ·rw[if_neg (by simpa using a),bH (xZ f _)];simp[a,qQ]
  ·rw[if_pos a,bH (xZ f _)];simp[a,qQ]
 rw[if_neg h,if_neg h];by_cases h:o=42
 ·rw[if_pos h,if_pos h];by_cases a:x=0
  ·rw[if_neg (by simpa using a),bH (xZ f _)];simp[a,qR]
  ·rw[if_pos a,bH (xZ f _)];simp[a,qR]
 rw[if_neg h,if_neg h,bH (adu f o x y),bH (xZ f _)]
def E.den (L:Int->Int->Int->Int) (b:Nat):E->Int->Int
 |lf o a,p=>L o a p
 |un o x,p=>unD o (x.den L b p)
 |ag o x,_=>II o ((List.range b).map λq=>x.den L b ((q:Nat):Int))
 |bi o x y,p=>biD o (x.den L b p) (y.den L b p)
 |ite x y z,p=>if x.den L b p≠0 then y.den L b p else z.den L b p
def E.wf (c:Nat):Bool->E->Bool
 |b,lf o a=>decide (1<=o)&&decide (o<=17)&&(b||decide (o<=10))&&((decide (o≠5)&&decide (o≠12))||(decide (0<=a)&&decide (a<(c:Int))))
 |b,un o x=>decide (18<=o)&&decide (o<=19)&&x.wf c b
 |_,ag o x=>(decide (o=20)||decide (o=21)||decide (o=22)||decide (o=23)||decide (o=24)||decide (o=26)||decide (o=27))&&x.wf c true
 |b,bi o x y=>decide (30<=o)&&decide (o<=42)&&x.wf c b&&y.wf c b
 |b,ite x y z=>x.wf c b&&y.wf c b&&z.wf c b
theorem ZD {i:Nat}:∀{e:E} {b:Bool},e.wf i b=true->e.arOk=true:=by
 intro e
 induction e with
 |lf o a=>intro b h;simp[E.wf,E.arOk]at h ⊢;omega
 |un o x f=>intro b h;simp[E.wf,E.arOk]at h ⊢;exact⟨h.1,f h.2⟩
 |ag o x f=>intro b h;simp[E.wf,E.arOk]at h ⊢;exact⟨by omega,f h.2⟩
 |bi o x y c d=>intro b h;simp[E.wf,E.arOk]at h ⊢;exact⟨⟨h.1.1,c h.1.2⟩,d h.2⟩
 |ite x y z c d g=>intro b h;simp[E.wf,E.arOk]at h ⊢;exact⟨⟨c h.1.1,d h.1.2⟩,g h.2⟩
def Yt (W:WLK) (p:Int):Int:=(at' (at' W.1.2.1.2 W.2.2.1) p).1
def Pa (W:WLK) (o a p:Int):Int:=
 if o=1 then a else if o=2 then 1 else if o=3 then 0 else if o=4 then -1 else if o=5 then at' (at' W.2.1 W.2.2.1) a else if o=12 then at' (at' W.2.1 (Yt W p)) a
 else if o=6 then(W.1.2.1.1.length:Int)else if o=7 then W.1.2.2.1 else if o=8 then at' W.1.2.1.1 W.2.2.1 else if o=9 then((at' W.1.2.1.2 W.2.2.1).length:Int)else if o=10 then RX (decide (W.2.2.1=0))else if o=11 then p
 else if o=13 then at' W.1.2.1.1 (Yt W p)else if o=14 then((at' W.1.2.1.2 (Yt W p)).length:Int)else if o=15 then RX (decide (Yt W p=0))else if o=16 then(at' (at' W.1.2.1.2 W.2.2.1) p).2 else at' (at' W.1.2.2.2 W.2.2.1) p
structure WOk (W:WLK) (nv n v:Nat):Prop where
 node:W.2.2.1=(v:Int)
 lt:v<n
 ports:W.1.2.1.2.length=n
 ids:W.1.2.1.1.length=n
 c:W.2.1.length=n
 row:∀u:Nat,u<n->(at' W.2.1 (u:Int)).length=nv
 to:∀u:Nat,u<n->∀i:Nat,i<(at' W.1.2.1.2 (u:Int)).length->0<=(at' (at' W.1.2.1.2 (u:Int)) (i:Int)).1/\(at' (at' W.1.2.1.2 (u:Int)) (i:Int)).1<(n:Int)
 bl:W.1.2.2.2.length=n
 br:∀u:Nat,u<n->(at' W.1.2.2.2 (u:Int)).length=(at' W.1.2.1.2 (u:Int)).length
def Ou (b:Bool) (a:Nat) (p:Int):Prop:=b=true->∃q:Nat,p=(q:Int)/\q<a
theorem abi {W:WLK} {k n v:Nat} (h:WOk W k n v) (f:Nat) {b:Bool} {o a p:Int} (s:(E.lf o a).wf k b=true) (r:Ou b (at' W.1.2.1.2 (v:Int)).length p):nE f W (o,a) p=some (Pa W o a p):=by
 obtain⟨y,c,A,B,C,l,m,F,w⟩:=h;simp only[E.wf,zA6,zB1,zAa]at s;obtain⟨⟨⟨G,H⟩,d⟩,I⟩:=s;have z:(at' W.2.1 (v:Int)).length=k:=l v c;unfold nE Pa Yt;dsimp only;rw[y];by_cases e:o=1
 ·simp only[if_pos e]
 simp only[if_neg e];by_cases e:o=2
 ·simp only[if_pos e]
 simp only[if_neg e];by_cases e:o=3
 ·simp only[if_pos e]
 simp only[if_neg e];by_cases e:o=4
 ·simp only[if_pos e]
 simp only[if_neg e];by_cases e:o=5
 ·simp only[if_pos e];rw[cF (by omega),cF (by omega)]
 simp only[if_neg e];by_cases e:o=12
 ·have i:b=true:=by
   rcases d with d|d
   ·exact d
   ·omega
  obtain⟨q,rfl,j⟩:=r i;have g:=m v c q j;obtain⟨u,x⟩:∃u:Nat,(at' (at' W.1.2.1.2 (v:Int)) (q:Int)).1=(u:Int):=⟨_,(Int.toNat_of_nonneg g.1).symm⟩
  simp only[if_pos e];rw[x]at g ⊢;have D:=l u (by omega);rw[cF (by omega),cF (by omega),cF (by omega),cF (by omega)]
 simp only[if_neg e];unfold uS;dsimp only;by_cases e:o=6
 ·simp only[if_pos e];rfl
 simp only[if_neg e];by_cases e:o=7
 ·simp only[if_pos e];rfl
 simp only[if_neg e];by_cases e:o=8
 ·simp only[if_pos e];rw[cF (by omega)];rfl
 simp only[if_neg e];by_cases e:o=9
 ·simp only[if_pos e];rw[cF (by omega)];rfl
 simp only[if_neg e];by_cases e:o=10
 ·simp only[if_pos e];rw[bH (xZ f _)];rfl
 simp only[if_neg e];by_cases e:o=11
 ·simp only[if_pos e];rfl
 simp only[if_neg e];have i:b=true:=by
  rcases d with d|d
  ·exact d
  ·omega
 obtain⟨q,rfl,j⟩:=r i;have g:=m v c q j;rw[cF (by omega),cF (by omega)];by_cases e:o=13
 ·simp only[if_pos e];rw[cF (by omega)];rfl
 simp only[if_neg e];by_cases e:o=14
 ·simp only[if_pos e];rw[cF (by omega)];rfl
 simp only[if_neg e];by_cases e:o=15
 ·simp only[if_pos e];rw[bH (xZ f _)];rfl
 simp only[if_neg e];by_cases e:o=16
 ·simp only[if_pos e];rfl
 simp only[if_neg e];have t:=w v c;rw[cF (by omega),cF (by omega)];rfl
theorem Zw {W:WLK} {nv n v:Nat} (h:WOk W nv n v) {deg:Nat} (m:(at' W.1.2.1.2 (v:Int)).length=deg) (L:deg<=24) (S:W.2.2.2.length<=800):
  ∀(e:E) (b:Bool) (c k:Nat) (p:Int) (g d:fI),W.2.2.2=g++(e.ts++d)->g.length=k->e.wf nv b=true->Ou b deg p->e.depth+850<=c->
   cP c W (k:Int) p=some (e.den (Pa W) deg p,(((k+e.ts.length:Nat)):Int)):=by
 obtain⟨Q,ab,h1,h2,h3,h4,h5,_,_⟩:=id h;have i:∀{t:fF} {l g d:fI} {k:Nat},W.2.2.2=g++((t::l)++d)->g.length=k->at' W.2.2.2 (k:Int)=t/\(k:Int)<(W.2.2.2.length:Int):=by
  intro t l g d k j r;refine⟨TR (rest:=l++d) (by simpa using j) r,?_⟩
  rw[j];simp;omega
 intro e
 induction e with
 |lf o a=>
  intro b c k p g d j r u w B;obtain⟨c,rfl⟩:∃f,c=f+1:=⟨c - 1,by omega⟩
  obtain⟨A,s⟩:=i (l:=[]) j r;show eO (cP c) c W (k:Int) p=_;unfold eO;rw[cF ⟨by omega,s⟩,A];dsimp only;have X:=u;simp only[E.wf,zA6,zB1,zAa]at X;have hl:=abi h c u (m▸w);rw[if_pos (by omega),bH (show nE c _ (o,a) p=some (Pa W o a p)from hl),cV (by omega)];rfl
 |un o x ih=>
  intro b c k p g d j r u w B;obtain⟨c,rfl⟩:∃f,c=f+1:=⟨c - 1,by omega⟩
  obtain⟨A,s⟩:=i (l:=x.ts) j r;show eO (cP c) c W (k:Int) p=_;unfold eO;rw[cF ⟨by omega,s⟩,A];dsimp only;simp only[E.wf,zA6,zAa]at u;simp only[E.depth]at B;have F:=ih b c (k+1) p (g++[(o,0)]) d (by rw[j];simp[E.ts]) (by simp[r]) u.2 w (by omega);rw[if_neg (by omega),if_pos (by omega),cV (by omega),bH (show cP c _ _ p=_ from F),bH (Zi c _ _)];simp only[E.den,E.ts,zA8];rw[show k+1+x.ts.length=k+(x.ts.length+1) by omega]
 |bi o x y G H=>
  intro b c k p g d j r u w B;obtain⟨c,rfl⟩:∃f,c=f+1:=⟨c - 1,by omega⟩
  obtain⟨A,s⟩:=i (l:=x.ts++y.ts) j r;show eO (cP c) c W (k:Int) p=_;unfold eO;rw[cF ⟨by omega,s⟩,A];dsimp only;simp only[E.wf,zA6,zAa]at u;simp only[E.depth]at B;have F:=G b c (k+1) p (g++[(o,0)]) (y.ts++d) (by rw[j];simp[E.ts]) (by simp[r]) u.1.2 w (by omega);have Y:=H b c (k+1+x.ts.length) p (g++(o,0)::x.ts) d (by rw[j];simp[E.ts]) (by simp[r];omega) u.2 w (by omega);rw[if_neg (by omega),if_neg (by omega),if_neg (by omega),if_pos (by omega),cV (by omega),bH (show cP c _ _ p=_ from F),bH (show cP c _ _ p=_ from Y),bH (Vs c _ _ _)];simp only[E.den,E.ts,zA8,zA5];rw[show k+1+x.ts.length+y.ts.length=k+(x.ts.length+y.ts.length+1) by omega]
 |ite x y z G H aa=>
  intro b c k p g d j r u w B;obtain⟨c,rfl⟩:∃f,c=f+1:=⟨c - 1,by omega⟩
  obtain⟨A,s⟩:=i (l:=x.ts++(y.ts++z.ts)) j r;show eO (cP c) c W (k:Int) p=_;unfold eO;rw[cF ⟨by omega,s⟩,A];dsimp only;simp only[E.wf,zA6]at u;simp only[E.depth]at B;have F:=G b c (k+1) p (g++[(43,0)]) (y.ts++z.ts++d) (by rw[j];simp[E.ts]) (by simp[r]) u.1.1 w (by omega);have Y:=H b c (k+1+x.ts.length) p (g++(43,0)::x.ts) (z.ts++d) (by rw[j];simp[E.ts]) (by simp[r];omega) u.1.2 w (by omega);have hz:=aa b c (k+1+x.ts.length+y.ts.length) p (g++(43,0)::(x.ts++y.ts)) d (by rw[j];simp[E.ts]) (by simp[r];omega) u.2 w (by omega);rw[if_neg (by decide),if_neg (by decide),if_neg (by decide),if_neg (by decide),cV (by omega),bH (show cP c _ _ p=_ from F),bH (show cP c _ _ p=_ from Y),bH (show cP c _ _ p=_ from hz)];simp only[E.den,E.ts,zA8,zA5];rw[show k+1+x.ts.length+y.ts.length+z.ts.length=k+(x.ts.length+(y.ts.length+z.ts.length)+1) by omega];split<;>rfl
 | ag o x ih =>
  intro b c k p g d j r u w B;obtain⟨c,rfl⟩:∃f,c=f+1:=⟨c - 1,by omega⟩
  obtain⟨A,s⟩:=i (l:=x.ts) j r;have T:=ZD u;have R:=u;simp only[E.wf,zA6,zB1,zAa]at R;simp only[E.depth]at B;have P:(E.ag o x).ts.length=x.ts.length+1:=rfl;have M:=congrArg List.length j;simp only[zA5]at M;show eO (cP c) c W (k:Int) p=_;unfold eO;rw[cF ⟨by omega,s⟩,A];dsimp only;rw[if_neg (by omega),if_neg (by omega),if_pos (by omega),cF (by omega)];let D:Nat->Int:=λq=>x.den (Pa W) deg ((q:Nat):Int);let V:Nat->bT:=λq=>(List.range q).map D++List.replicate (24 - q) 0;have J:∀q,q<=24->(V q).length=24:=λq U=>by simp[V];omega
  have O:∀q,q<24->(V q).set q (D q)=V (q+1):=λq U=>by
   show((List.range q).map D++List.replicate (24 - q) 0).set q (D q)=(List.range (q+1)).map D++List.replicate (24 - (q+1)) 0;rw[show 24 - q=(24 - (q+1))+1 by omega,List.replicate_succ,List.set_append_right _ _ (by simp),List.range_succ];simp
  let N:Nat->Int:=λq=>if q=0 then 0 else(((k+1+x.ts.length:Nat)):Int)
  refine Eq.trans (dJ (step:=lX c W (k:Int) (cP c)) (K:=some ((E.ag o x).den (Pa W) deg p,(((k+(E.ag o x).ts.length:Nat)):Int))) deg (λq=>(N q,(q:Int),V q)) (λq ag U=> ?_) (λag=> ?_) c (by omega)) Z
  ·unfold lX;dsimp only;have F:=ih true c (k+1) ((q:Nat):Int) (g++[(o,0)]) d (by rw[j];simp[E.ts]) (by simp[r]) R.2 (λ_=>⟨q,rfl,U⟩) (by omega);rw[if_pos (by rw[Q,m];omega),cV (by omega),bH (show cP c _ _ _=_ from F),cF ⟨by omega,J q (by omega)⟩,cV (by omega),zAf];show ag (_,_,(V q).set q (D q))=_;rw[O q (by omega)];simp only[N];rw[if_neg (by omega)]
  ·unfold lX;dsimp only;rw[if_neg (by rw[Q,m];omega)];have C:List.take deg (V deg)=(List.range deg).map D:=by
    show List.take deg ((List.range deg).map D++_)=_;exact List.take_left' (by simp)
   have I:∀y:Int,y=(((k+1+x.ts.length:Nat)):Int)->lW c W (k:Int) (N deg,V deg) y=some ((E.ag o x).den (Pa W) deg p,(((k+(E.ag o x).ts.length:Nat)):Int)):=by
    rintro y rfl;unfold lW;dsimp only;rw[Q,m,cF ⟨by omega,by omega,by rw[J deg L];omega⟩,A,zAf,C,bH (aaY c o _ (by omega) (by simp;omega) (by omega))];unfold oV;rw[P,show k+1+x.ts.length=k+(x.ts.length+1) by omega];rfl
   unfold tK;dsimp only;by_cases h0:deg=0
   ·rw[if_pos (by rw[Q,m];omega),bH (ady c (E.ag o x) T j r S (by omega))];exact I _ (by rw[P];omega)
   ·rw[if_neg (by rw[Q,m];omega)];exact I _ (by simp only[N];rw[if_neg h0])
end Go.Proofs.YtflciafboapaaaaGreat
namespace Go.Proofs.YtflciafboapaaaaGreat
open Go.Sx
def i_ (U:Nat) (a:Wh) (b:bQ) (c:Int) (d:fI):Option (Int):=
 Option.bind (cP U ((((((a.1.1,a.1.2.1,a.1.2.2)),((a.2.1.1,a.2.1.2)),a.2.2.1,a.2.2.2)),b,c,d)) (0:Int) (-1:Int)) λe=>(some (e.1))
theorem TZ:bB Tryz.prog 172:=Tryz.call172
theorem Bj (U:Nat) {d:Wh} {s:bQ} {f:Int} {t:fI} (a:Nat) (m n o p:V0) (u:kX) (q:V0) (v:nG) (e:V0) (y:nG) (b:V0) (r:Int) (h:i_ U d s f t=some r):
  bE Tryz.prog 172 #[vP a,e,vI (f),b] [bM a [vS (d.1.1),m,n,o,p,vI (d.2.2.1),q] 206,Sl aE m d.1.2.1,Sl aD n d.1.2.2,Sl aM o d.2.1.1,S2 aY p u d.2.1.2,S2 aM q v d.2.2.2,S2 aM e y s,Sl aY b t] (λx:Unit=>vI (r)) (λx l=>l) (λ_ l=>l):=by
 refine bE.of Tryz.func172 Z Tryz.ntmps172 Z λc=>?_;refine aU<|aC Z<|aP<|aU<|aA Z<|aA Z<|aA Z<|aA Z<|bD (tM (Fy Z)) λg=>bD (Know.one ((z_ Z))) λi=>?_;refine aB (WR (r:=Value.agg #[Value.pointer (some ⟨a,0,none⟩),e,vI (f),b]) Z Z Z Z (by intro w;simp[Instr.build,Instr.fill,gT,fN,e_,gU,gV,fO,iS,iF g,iF i])) Z ?_;refine aJ (aQ.alloc (cs:=[Value.pointer none,cW,vI (0:Int),cW]) Z Z) Z λz=>bD (tM (Fy Z)) λj=>bD (Know.one ((z_ Z))) λk=>cD 0 (vs:=[vP a,e,vI (f),b]) Z Z (fY Z (fY j (fY Z (fY k Z)))) Z Z Z<|aP<|aU<|eI h λA B h=>aJ (zBb DW (GG U z a m n o p u q v e y b A B) Z (aH.cons (aI.res 0 Z) (iB [0,1,2,3,4,5,6,7] Z))) Z λC=>aA Z<|iN Z<|iN Z<|aC Z<|aC Z<|aP<|aU<|aA Z<|aC Z<|aP<|aS ?_;cases h;exact mO Z
def l_ (U:Nat) (a:Wh) (c:bQ) (d b:Int):Option Bool:=
 ck (0<=b/\b<(a.1.2.2.length:Int)) (Option.bind (i_ U ((((a.1.1,a.1.2.1,a.1.2.2)),((a.2.1.1,a.2.1.2)),a.2.2.1,a.2.2.2)) c d ((at' a.1.2.2 b).2.1.2)) λe=>(some (decide (e≠(0:Int)))))
theorem aal:bB Tryz.prog 165:=Tryz.call165
theorem Gb (U:Nat) {a:Wh} {n:bQ} {o e:Int} (b:Nat) (f g i j:V0) (p:kX) (k:V0) (q:nG) (m:V0) (s:nG) (r:Bool) (h:l_ U a n o e=some r):
  bE Tryz.prog 165 #[vP b,m,vI (o),vI (e)] [bM b [vS (a.1.1),f,g,i,j,vI (a.2.2.1),k] 206,Sl aE f a.1.2.1,Sl aD g a.1.2.2,Sl aM i a.2.1.1,S2 aY j p a.2.1.2,S2 aM k q a.2.2.2,S2 aM m s n] (λx:Unit=>vB (r)) (λx l=>l) (λ_ l=>l):=by
 refine bE.of Tryz.func165 Z Tryz.ntmps165 Z λc=>?_;refine aU<|aC Z<|aP<|aU<|aA Z<|aA Z<|aA Z<|aA Z<|aB (bU Z) Z<|bV Z<|bV Z<|aB (fU Z (b_ Z) Z Z Z) Z<|aA Z<|cQ h λd h=>aB (bG Z Z (zI Z) Z Z d) Z<|aB (dC Z Z Z Z Z) Z<|aB (eL Z (zI Z) Z Z Z tQ d) Z<|eI h λt u h=>aJ (zBb TZ (Bj U b f g i j p k q m s ((at' a.1.2.2 e).2.1.1) t u) Z (aH.cons (b_ Z) (aH.cons (mR Z) (aH.cons (zI Z) (aH.cons (Bh Z) (aH.cons (CL Z) (aH.cons (zJ Z) (aH.cons (Fy Z) (aH.cons (kA (zI Z) tS d.1 d.2) .nil))))))))) Z λv=>lB Z<|aC Z<|aP<|aS ?_;cases h;exact iR Z
def oY (a:Unit):Option (Int):=
 some (-1:Int)
def lZ (U:Nat) (a:Wg) (d:bQ) (e b:Int) (c:(Int)->Option (Int)):Option (Int):=
 if b<(a.1.2.2.length:Int)then(Option.bind (l_ U ((((a.2.1.1.1,a.2.1.1.2.1,a.2.1.1.2.2)),((a.2.1.2.1.1,a.2.1.2.1.2)),a.2.1.2.2.1,a.2.1.2.2.2)) d e b) λf=>(if f=true then(some (b))else(c (wI .i64 (b+(1:Int))))))else(oY (()))
def fP (U:Nat) (a:Wg) (b:bQ) (c:Int):Option (Int):=
 bL (lZ U a b c) U (0:Int)
theorem OC:bB Tryz.prog 102:=Tryz.call102
theorem vQ (U:Nat) {p0:Wg} {p1:bQ} {p2:Int} (b:Nat) (v w:V0) (d:Nat) (k m n o:V0) (y:kX) (p:V0) (f:nG) (e:V0) (s:kX) (a:V0) (g:nG) (r:Int) (h:fP U p0 p1 p2=some r):
  bE Tryz.prog 102 #[vP b,a,vI (p2)] [bM b [vS (p0.1.1),v,w,vP d,e] 157,Sl aE v p0.1.2.1,Sl aD w p0.1.2.2,bM d [vS (p0.2.1.1.1),k,m,n,o,vI (p0.2.1.2.2.1),p] 206,Sl aE k p0.2.1.1.2.1,Sl aD m p0.2.1.1.2.2,Sl aM n p0.2.1.2.1.1,S2 aY o y p0.2.1.2.1.2,S2 aM p f p0.2.1.2.2.2,S2 aY e s p0.2.2,S2 aM a g p1] (λx:Unit=>vI (r)) (λx l=>l) (λ_ l=>l):=by
 refine bE.of Tryz.func102 Z Tryz.ntmps102 Z λc=>?_;unfold fP at h;refine aU<|aC Z<|aP<|aN<|eB (λi=>oY i=some r) (λi t=>[]) (λi t=>[]) ?_ ?_
 ·refine aU<|aA Z<|aB (bU Z) Z<|bV Z<|bV Z<|aB (fU Z (b_ Z) Z Z Z) Z<|iL (zI Z) Z<|aA Z<|aP<|aT<|eW (lZ U p0 p1 p2) (λj u=>[(0,vP b),(1,a),(2,vI (p2)),(13,vI (p0.1.2.2.length:Int)),(14,vI (j))]) (λj u=>[]) (0:Int) () h SF (a_.refl _) ?_;intro B j u h;refine aU<|cU Z<|aP<|aN ?_;refine eG h Z (λh=>?_) λh=>?_
  ·refine cL<|aN<|aT<|aU<|aA Z<|aC Z<|aP<|aU<|aA Z<|aB (bU Z) Z<|bV Z<|aB (fU Z (b_ Z) Z Z Z) Z<|aA Z<|aA Z<|aA Z<|eI h λz q h=>aJ (zBb aal (Gb U d k m n o y p f a g z q) Z (iB [3,4,5,6,7,8,10] Z)) Z λA=>aP ?_;refine rR h Z (λ_ h=>?_) λ_ h=>?_
   ·refine aU<|aA Z<|aC Z<|aP<|aS<|bF<|aG<|aG<|bF<|aG ?_;cases h;exact iR Z
   refine dW<|lA<|aR<|cN Z<|aA Z<|aP ?_;exact xD (wI .i64 (j+(1:Int))) () h SF Z
  refine eP ?_;exact f_ () (()) h SF Z
 intro i t h;unfold oY at h;refine aU<|aC Z<|aP<|aS ?_;cases h;exact iR Z
def yA (d:Int) (a:fF) (b:Int) (c:Bool):Option (Int):=
 if c=true then(some (b))else(if d=(3:Int)then(some (-1:Int))else(if b<a.1 then(some (a.1))else(some (a.2))))
def Aa (U:Nat) (c:Int) (a:fF) (b:Int):Option (Int):=
 if a.1<=b then(yA c a b (decide (b<=a.2)))else(yA c a b (false))
theorem aao:bB Tryz.prog 173:=Tryz.call173
theorem Ml (U:Nat) {e:Int} {a:fF} {d:Int} (r:Int) (h:Aa U e a d=some r):
  bE Tryz.prog 173 #[vI (e),Value.agg #[vI (a.1),vI (a.2)],vI (d)] [] (λx:Unit=>vI (r)) (λx l=>l) (λ_ l=>l):=by
 refine bE.of Tryz.func173 Z Tryz.ntmps173 Z λc=>?_;refine aU<|aJ (aQ.box (cs:=[vI (a.1),vI (a.2)]) Z Z) Z λf=>aC Z<|aP<|aN<|aT<|aN<|eB (λb=>yA e a d b=some r) (λb g=>[(0,vI (e)),(2,vI (d)),(4,vP f),(7,vB (b))]) (λb g=>[bM f [vI (a.1),vI (a.2)] 138]) ?_ ?_
 ·refine aR<|aA Z ?_;refine aB (pU (i:=0) Z Z Z Z Z (by decide)) Z ?_;refine dK 0 Z<|aB (uI Z Z) Z<|aA Z ?_;refine Ds h Z (λ_ h=>?_) λ_ h=>?_
  ·refine dD Z ?_;refine aW Z (pU (i:=1) Z Z Z Z Z (by decide)) Z ?_;refine aW Z (dL 0 Z Z Z Z Z) Z<|aW Z (CS Z Z) Z<|d_ Z<|aC Z<|aP ?_;exact f_ (decide (d<=a.2)) () h SF Z
  refine aO Z<|aO Z<|aO Z<|aO Z<|eR Z<|aC Z<|aP ?_;exact f_ (false) () h SF Z
 intro b g h;refine rR h Z (λ_ h=>?_) λ_ h=>?_
 ·refine aU<|aA Z<|aC Z<|aP<|aS<|bF<|aG ?_;cases h;exact mO Z
 refine aU<|aA Z<|cH Z<|aC Z<|aP ?_;refine eG h Z (λh=>?_) λh=>?_
 ·refine aU<|aC Z<|aP<|aS<|bF<|aG ?_;cases h;exact mO Z
 refine aU<|aA Z ?_;refine aB (pU (i:=0) Z Z Z Z Z (by decide)) Z ?_;refine dK 0 Z<|cU Z<|aC Z<|aP ?_;refine eG h Z (λh=>?_) λh=>?_
 ·refine aU ?_;refine aB (pU (i:=0) Z Z Z Z Z (by decide)) Z ?_;refine dK 0 Z<|aC Z<|aP<|aS<|bF<|aG ?_;cases h;exact mO Z
 refine dW<|lA<|aU ?_;refine aB (pU (i:=1) Z Z Z Z Z (by decide)) Z ?_;refine dK 0 Z<|aC Z<|aP<|aS ?_;cases h;exact mO Z
def oW (a:bT):Option bT:=
 some (a)
def lY (U:Nat) (b:Wg) (h:bQ) (d c:Int) (a:Int×bT) (e:(Int×bT)->Option bT):Option bT:=
 if a.1<(((at' b.1.2.2 c).2.2.2).length:Int)then(ck (0<=a.1/\a.1<(((at' b.1.2.2 c).2.2.2).length:Int)) (Option.bind (i_ U ((((b.2.1.1.1,b.2.1.1.2.1,b.2.1.1.2.2)),((b.2.1.2.1.1,b.2.1.2.1.2)),b.2.1.2.2.1,b.2.1.2.2.2)) h d ((at' ((at' b.1.2.2 c).2.2.2) a.1).2.2)) λf=>(ck (0<=((at' ((at' b.1.2.2 c).2.2.2) a.1).1)/\((at' ((at' b.1.2.2 c).2.2.2) a.1).1)<(b.1.2.1.length:Int)) (ck (0<=d/\d<(b.2.2.length:Int)) (ck (0<=((at' ((at' b.1.2.2 c).2.2.2) a.1).1)/\((at' ((at' b.1.2.2 c).2.2.2) a.1).1)<((at' b.2.2 d).length:Int)) (Option.bind (Aa U ((at' b.1.2.1 ((at' ((at' b.1.2.2 c).2.2.2) a.1).1)).2.1) ((((at' (at' b.2.2 d) ((at' ((at' b.1.2.2 c).2.2.2) a.1).1)).1),((at' (at' b.2.2 d) ((at' ((at' b.1.2.2 c).2.2.2) a.1).1)).2))) f) λg=>(ck (0<=((at' ((at' b.1.2.2 c).2.2.2) a.1).1)/\((at' ((at' b.1.2.2 c).2.2.2) a.1).1)<(a.2.length:Int)) (e ((wI .i64 (a.1+(1:Int))),(List.set a.2 (Int.toNat ((at' ((at' b.1.2.2 c).2.2.2) a.1).1)) g))))))))))else(oW (a.2))
def mL (U:Nat) (d:Wg) (b:bQ) (a c:Int):Option bT:=
 ck (0<=a/\a<(b.length:Int)) (ck ((List.length ([]:bT):Int)+((at' b a).length:Int)<=1099511627) (ck (0<=c/\c<(d.1.2.2.length:Int)) (bL (lY U d b a c) U ((0:Int),(([]:bT)++(at' b a))))))
theorem aag:bB Tryz.prog 123:=Tryz.call123
theorem GI (U:Nat) {p0:Wg} {p1:bQ} {p2 n:Int} (i:Nat) (O P:V0) (j:Nat) (E F G H:V0) (Q:kX) (I:V0) (A:nG) (y:V0) (M:kX) (g:V0) (B:nG) (r:bT) (h:mL U p0 p1 p2 n=some r):
  bE Tryz.prog 123 #[vP i,g,vI (p2),vI (n)] [bM i [vS (p0.1.1),O,P,vP j,y] 157,Sl aE O p0.1.2.1,Sl aD P p0.1.2.2,bM j [vS (p0.2.1.1.1),E,F,G,H,vI (p0.2.1.2.2.1),I] 206,Sl aE E p0.2.1.1.2.1,Sl aD F p0.2.1.1.2.2,Sl aM G p0.2.1.2.1.1,S2 aY H Q p0.2.1.2.1.2,S2 aM I A p0.2.1.2.2.2,S2 aY y M p0.2.2,S2 aM g B p1] (λx:V0=>x) (λx l=>Ar fT x r::l) (λ_ l=>l):=by
 let k:=(at' p0.1.2.2 n)
 refine bE.of Tryz.func123 Z Tryz.ntmps123 Z λc=>?_;refine aU<|aC Z<|aP<|aU<|aA Z<|aA Z<|cQ h λC h=>aB (bK Z Z (Gw Z) Z Z C) Z<|aB (bS Z (Gw Z) Z Z C) Z<|bZ (gC fT)<|cQ h λS h=>aJ (jN 0 iY Z Z Z (zBc (Gw Z) C.1 C.2) Z Z Z Z S Z) Z λw=>aC Z<|aP<|aN<|eB (λo=>oW o=some r) (λo N=>[(9,w)]) (λo N=>[Ar fT w o]) ?_ ?_
 ·refine aU<|aA Z<|aB (bU Z) Z<|bV Z<|bV Z<|aB (fU Z (b_ Z) Z Z Z) Z<|aA Z<|cQ h λe h=>aB (bG Z Z (zI Z) Z Z e) Z<|aB (dC Z Z Z Z Z) Z<|aB (eL Z (zI Z) Z Z Z tR e) Z<|aB (fH Z (kA (zI Z) cS e.1 e.2) Z) Z<|aA Z<|aP<|aT<|eW (lY U p0 p1 p2 n) (λa p=>[(0,vP i),(1,g),(2,vI (p2)),(9,w),(26,k.2.2.1),(27,vI ((k.2.2.2).length:Int)),(28,vI (a.1))]) (λa p=>[Ar fT w a.2]) ((0:Int),(([]:bT)++(at' p1 p2))) () h SF (a_.refl _) ?_;intro T a p h;let f:=(at' (k.2.2.2) a.1)
  let v:=(at' (at' p0.2.2 p2) (f.1))
  refine aU<|cU Z<|aP<|aN ?_;refine eG h Z (λh=>?_) λh=>?_
  ·refine cL<|aN<|aT<|aU<|cQ h λb h=>aB (bG Z Z (kA (zI Z) cS e.1 e.2) Z Z b) Z<|aB (Sq (cs:=[vI (f.1),f.2.1]) Z (kA (zI Z) cS e.1 e.2) MP Z Z Z Z b) Z<|aJ (aQ.alloc (cs:=[vI (0:Int),cW]) Z Z) Z λR=>bD (Know.one ((kA (kA (zI Z) cS e.1 e.2) CF b.1 b.2))) λq=>cD 0 (vs:=[vI ((at' ((at' p0.1.2.2 n).2.2.2) a.1).1),(at' ((at' p0.1.2.2 n).2.2.2) a.1).2.1]) Z Z (fY Z (fY q Z)) Z Z Z<|aP<|aN ?_;refine rP [0,1,3,7,0,0,0,64,255,511] 8 mixedOrders ?_;refine aV Z<|eN Z (bU Z)<|cC Z<|bA Z .nil (eV 0 Z) (fU Z (b_ Z) Z Z Z) aL.z<|aV Z<|aV Z<|cC Z<|eQ 0 Z<|bN 8 Z Z<|eI h λD J h=>aJ (zBb TZ (Bj U j E F G H Q I A g B (f.2.1) D J) Z (aH.cons (Bh Z) (aH.cons (CL Z) (aH.cons (zJ Z) (aH.cons (Fy Z) (aH.cons (z_ Z) (aH.cons (QI Z) (aH.cons (Gw Z) (aH.cons (kA (kA (zI Z) cS e.1 e.2) CF b.1 b.2) .nil))))))))) Z λV=>aC Z<|aP ?_;refine rP [0,0,2,0,8,24,56,120,0,256,1016,2040,4088,0,8192,24576,57344,0,253952,516096,0,1048576,4186112,8380416,0,33554424,67108863,134217727] 26 mixedOrders ?_;refine aV Z<|cC Z<|eQ 0 Z<|aV Z<|eN Z (bU Z)<|cC Z<|cC Z<|bA Z .nil (eV 0 Z) (fU Z (b_ Z) Z Z Z) aL.z<|cC Z<|eQ 0 Z<|cQ h λs h=>bA Z .nil (eV 1 Z) (bG Z Z (b_ Z) Z Z s) aL.z<|eN Z (dC Z Z Z Z Z)<|bA Z .nil (eV 1 Z) (eL Z (b_ Z) Z Z Z lV s) aL.z<|aV Z<|eN Z (bU Z)<|cC Z<|bA Z .nil (eV 0 Z) (fU Z (b_ Z) Z Z Z) aL.z<|aV Z<|cQ h λd h=>bA Z .nil (eV 9 Z) (bK Z Z (b_ Z) Z Z d) aL.z<|bA Z .nil (eV 9 Z) (bS Z (b_ Z) Z Z d) aL.z<|cC Z<|eQ 0 Z<|cQ h λt h=>bA Z .nil (eV 9 Z) (bG Z Z (zBc (b_ Z) d.1 d.2) Z Z t) aL.z<|bA Z .nil (eV 9 Z) (gS (cs:=[vI (v.1),vI (v.2)]) Z (zBc (b_ Z) d.1 d.2) cR Z Z Z Z t) aL.z<|aV Z<|eI h λm K h=>zBd Z Z Z (zBb aao (Ml U m K) Z .nil) Z (λL=>(nK [([0],[])] Z)) λL=>bN 26 Z Z<|cQ h λu h=>aB (bG Z Z (dR (aI.res 1 Z) iY) Z Z u) Z<|Lo 1 m u Z Z Z Z Z Z Z<|eS<|lA<|aR<|cN Z<|aA Z<|aP ?_;exact iP ((wI .i64 (a.1+(1:Int))),(List.set a.2 (Int.toNat (f.1)) m)) () h SF (a_.ix [1] Z Z) (aH.refl _ _)
  refine eP ?_;exact f_ (a.2) () h SF Z
 intro o N h;unfold oW at h;refine aU<|aA Z<|aC Z<|aP<|aS ?_;cases h;exact kY (w) Z Z (RV.tmp Z) (a_.refl _) aH.nil
end Go.Proofs.YtflciafboapaaaaGreat