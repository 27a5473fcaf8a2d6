/- Models and proofs. Conditions: none. -/
import Derived.Test.YtgciopekomcbfaaGreatDoorZTMA2
import Derived.Test.YtgciopekomcbfaaGreatDoorZTMA8
import Derived.Test.YtgciopekomcbfaaGreatDoorZTMA5
import Derived.Test.YtgciopekomcbfaaGreatDoorZTMA3
set_option linter.unusedVariables false
set_option linter.unusedSimpArgs false
set_option maxHeartbeats 4000000
set_option maxRecDepth 20000
open Go.Proofs.Tryz
namespace Go.Proofs.YtgciopekomcbfaaGreatDoor
open Go.Sx
def AU (a:Int):V1 (Int):=
 some (a)
def w_ (c:aW) (a:gO) (b:jF->V1 (Int)):V1 (Int):=
 if a.2<(c.length:Int)then(ck (0<=a.2/\a.2<(c.length:Int)) (b ((max a.1 (at' c a.2)),(wI .i64 (a.2+(1:Int))))))else(AU (a.1))
def BP (U:Nat) (a:aW):V1 (Int):=
 if(a.length:Int)<(1:Int)then(none)else(ck (0<=(0:Int)/\(0:Int)<(a.length:Int)) (bN (w_ a) U ((at' a (0:Int)),(1:Int))))
theorem ahs:aU prog 96:=call96
theorem QT (U:Nat) {f:aW} (g:V0) (r:Int) (h:BP U f=some r):
  a_ prog 96 #[g] [Sl aL g f] (λx:Unit=>vI (r)) (λx l=>l) (λ_ l=>l):=by
 refine a_.of func96 Z ntmps96 Z λc=>Q4 Z<|aK<|Q6 Z<|kG (dH Z) Z<|dD Z<|aM<|eI h Z (λh=>?_) λh=>?_
 .refine aR ?_;cases h
 refine cQ<|Q6 Z<|dV h λj h=>aB (bR Z Z (dH Z) Z Z j) Z<|aB (cK Z (dH Z) Z Z Z gF j) Z<|Q5 Z<|aK<|iA (λb=>AU b=some r) (λb i=>[(3,vI (b))]) (λb i=>[]) ?_ ?_
 .refine Q4 Z<|aS<|gC (w_ f) (λa d=>[(0,g),(3,vI (a.1)),(4,vI (a.2))]) (λa d=>[]) ((at' f (0:Int)),(1:Int)) () h SF (aX.refl _) ?_;intro k a d h;refine aK<|Q6 Z<|aA Z<|kG (dH Z) Z<|dD Z<|aM<|eI h Z (λh=>?_) λh=>?_
  .exact cQ<|aK<|aS<|aR<|aA Z<|aA Z<|aA Z<|dV h λe h=>aB (bR Z Z (dH Z) Z Z e) Z<|aB (cK Z (dH Z) Z Z Z gF e) Z<|aB (LU Z Z) Z<|aC Z<|eW<|m_<|aR<|aA Z<|cU Z<|Q5 Z<|BD ((max a.1 (at' f a.2)),(wI .i64 (a.2+(1:Int)))) () h SF Z
  exact fO<|j_ (a.1) () h SF Z
 intro b i h;unfold AU at h;refine Q6 Z<|Q5 Z<|aT ?_;cases h;exact mA Z
def pU (U:Nat) (a:Ge) (b:dM) (d:Int):V1 jF:=
 Option.bind (BP U b.1) λc=>(some (a.2.2.1,(wI .i64 ((wI .i64 (a.2.2.2.1+(wI .i64 (a.2.2.2.2.1*(b.1.length:Int)))))+(wI .i64 (a.2.2.2.2.2*c))))))
theorem aef:aU prog 204:=call204
theorem IP (U:Nat) {a:Ge} {d:dM} {f:Int} (b e:V0) (k:mS) (r:gO) (h:pU U a d f=some r):
  a_ prog 204 #[Value.agg #[vS (a.1),vI (a.2.1),vI (a.2.2.1),vI (a.2.2.2.1),vI (a.2.2.2.2.1),vI (a.2.2.2.2.2)],Value.agg #[b,e],vI (f)] [Sl aL b d.1,S2 aY e k d.2] (λx:Unit=>Value.tuple #[vI (r.1),vI (r.2)]) (λx l=>l) (λ_ l=>l):=by
 refine a_.of func204 Z ntmps204 Z λc=>?_;refine aP<|aI (aN.box (cs:=[vS (a.1),vI (a.2.1),vI (a.2.2.1),vI (a.2.2.2.1),vI (a.2.2.2.2.1),vI (a.2.2.2.2.2)]) Z Z) Z λm=>aI (aN.box (cs:=[b,e]) Z Z) Z λn=>aC Z<|aC Z<|aM<|aK ?_;refine yP [0,1,0,4,0,16,0,64,192,496,1020,0,2048,0,8192,24576,63488,131068,57347,524287] 19 mixedOrders ?_;refine cN Z<|gW 1 Z<|cN Z<|gW 1 Z<|cN Z<|gW 1 Z<|cN Z<|gW 0 Z<|bK Z .nil (nD 0 Z) (iN Z (dH Z) Z) aO.z<|jL Z (En Z Z)<|jL Z (Br Z Z)<|cN Z<|gW 1 Z<|cN Z<|gW 0 Z<|fP h λg i h=>zBl Z Z Z (zBk ahs (QT U b g i) Z (jS [0] Z)) Z (λj=>(pB [([1],[]),([],[0]),([0],[]),([1],[]),([1],[]),([1],[])] Z)) λj=>jL Z (En Z Z)<|jL Z (Br Z Z)<|jL Z (Cg Z)<|bU 19 Z Z<|aC Z<|aM<|aT ?_;cases h;exact kU () Z Z (RV.tmp Z) (RV.tmp Z) .nil aF.nil
def tG (U:Nat) (a:Ge) (b:dM) (c:Int):V1 jF:=
 some ((0:Int),(1:Int))
theorem aeg:aU prog 205:=call205
theorem IQ (U:Nat) {a:Ge} {b:dM} {f:Int} (d e:V0) (g:mS) (r:gO) (h:tG U a b f=some r):
  a_ prog 205 #[Value.agg #[vS (a.1),vI (a.2.1),vI (a.2.2.1),vI (a.2.2.2.1),vI (a.2.2.2.2.1),vI (a.2.2.2.2.2)],Value.agg #[d,e],vI (f)] [Sl aL d b.1,S2 aY e g b.2] (λx:Unit=>Value.tuple #[vI (r.1),vI (r.2)]) (λx l=>l) (λ_ l=>l):=by
 refine a_.of func205 Z ntmps205 Z λc=>?_;unfold tG at h;refine aP<|aI (aN.box (cs:=[vS (a.1),vI (a.2.1),vI (a.2.2.1),vI (a.2.2.2.1),vI (a.2.2.2.2.1),vI (a.2.2.2.2.2)]) Z Z) Z λi=>aI (aN.box (cs:=[d,e]) Z Z) Z λj=>aC Z<|Q5 Z<|aP<|aC Z<|Q5 Z<|aT ?_;cases h;exact kU () Z Z (RV.tmp Z) (RV.tmp Z) .nil aF.nil
def pV (U:Nat) (c:Ge) (b:dM) (a:Int):V1 jF:=
 ck (0<=a/\a<(b.2.length:Int)) (some ((-1:Int),(wI .i64 (((at' b.2 a).length:Int) - (1:Int)))))
theorem aeh:aU prog 206:=call206
theorem IR (U:Nat) {a:Ge} {d:dM} {g:Int} (e f:V0) (i:mS) (r:gO) (h:pV U a d g=some r):
  a_ prog 206 #[Value.agg #[vS (a.1),vI (a.2.1),vI (a.2.2.1),vI (a.2.2.2.1),vI (a.2.2.2.2.1),vI (a.2.2.2.2.2)],Value.agg #[e,f],vI (g)] [Sl aL e d.1,S2 aY f i d.2] (λx:Unit=>Value.tuple #[vI (r.1),vI (r.2)]) (λx l=>l) (λ_ l=>l):=by
 refine a_.of func206 Z ntmps206 Z λc=>?_;refine aP<|aI (aN.box (cs:=[vS (a.1),vI (a.2.1),vI (a.2.2.1),vI (a.2.2.2.1),vI (a.2.2.2.2.1),vI (a.2.2.2.2.2)]) Z Z) Z λj=>aI (aN.box (cs:=[e,f]) Z Z) Z λk=>aC Z<|aC Z<|aM<|aK ?_;refine yP [0,1,0,7,15,31,63,0,255] 8 mixedOrders ?_;refine cN Z<|gW 0 Z<|bD Z<|dV h λb h=>bK Z .nil (nD 1 Z) (cA Z Z (dH Z) Z Z b) aO.z<|bK Z .nil (nD 1 Z) (cW Z (dH Z) Z Z b) aO.z<|bK Z .nil (nD 1 Z) (iN Z (zBm (dH Z) b.1 b.2) Z) aO.z<|jL Z (vZ Z Z)<|jL Z (Cg Z)<|bU 8 Z Z<|aC Z<|aM<|aT ?_;cases h;exact kU () Z Z (RV.tmp Z) (RV.tmp Z) .nil aF.nil
def Ay (a:Unit):V1 jF:=
 some ((0:Int),(-1:Int))
def nU (c:Int) (a:(Int)->V1 jF) (b:Unit):V1 jF:=
 a (wI .i64 (c+(1:Int)))
def fQ (U:Nat) (a:Ge) (d:dM) (h b:Int) (c:(Int)->V1 jF):V1 jF:=
 if b<(List.length ([((1:Int),(204:Nat)),((2:Int),(205:Nat)),((3:Int),(206:Nat))]):Int)then(ck (0<=b/\b<(List.length ([((1:Int),(204:Nat)),((2:Int),(205:Nat)),((3:Int),(206:Nat))]):Int)) (if b=(0:Int)then(if(1:Int)=a.2.1 then(Option.bind (pU U ((a.1,a.2.1,a.2.2.1,a.2.2.2.1,a.2.2.2.2.1,a.2.2.2.2.2)) ((d.1,d.2)) h) λe=>(some (e.1,e.2)))else(nU b c (())))else(if b=(1:Int)then(if(2:Int)=a.2.1 then(Option.bind (tG U ((a.1,a.2.1,a.2.2.1,a.2.2.2.1,a.2.2.2.2.1,a.2.2.2.2.2)) ((d.1,d.2)) h) λf=>(some (f.1,f.2)))else(nU b c (())))else(if(3:Int)=a.2.1 then(Option.bind (pV U ((a.1,a.2.1,a.2.2.1,a.2.2.2.1,a.2.2.2.2.1,a.2.2.2.2.2)) ((d.1,d.2)) h) λg=>(some (g.1,g.2)))else(nU b c (()))))))else(Ay (()))
def lG (U:Nat) (a:Ge) (b:dM) (c:Int):V1 jF:=
 bN (fQ U a b c) U (0:Int)
theorem Wp:aU prog 168:=call168
theorem EP (U:Nat) {a:Ge} {v:dM} {n:Int} (i j:V0) (D:mS) (r:gO) (h:lG U a v n=some r):
  a_ prog 168 #[Value.agg #[vS (a.1),vI (a.2.1),vI (a.2.2.1),vI (a.2.2.2.1),vI (a.2.2.2.2.1),vI (a.2.2.2.2.2)],Value.agg #[i,j],vI (n)] [Sl aL i v.1,S2 aY j D v.2] (λx:Unit=>Value.tuple #[vI (r.1),vI (r.2)]) (λx l=>l) (λ_ l=>l):=by
 let b:=a.2.2.2;let s:=Value.func (.func 206) #[] #[];let p:=Value.func (.func 205) #[] #[];let o:=Value.func (.func 204) #[] #[];let z:=vI (List.length ([((1:Int),(204:Nat)),((2:Int),(205:Nat)),((3:Int),(206:Nat))]):Int);refine a_.of func168 Z ntmps168 Z λc=>?_;unfold lG at h;refine aP<|aI (aN.box (cs:=[vS (a.1),vI (a.2.1),vI (a.2.2.1),vI (b.1),vI (b.2.1),vI (b.2.2)]) Z Z) Z λE=>let y:=bH E [vS (a.1),vI (a.2.1),vI (a.2.2.1),vI (b.1),vI (b.2.1),vI (b.2.2)] 72;aI (aN.box (cs:=[i,j]) Z Z) Z λC=>aC Z<|Q5 Z<|aP ?_
 refine aB (El (r:=Value.agg #[vI (1:Int),Value.func (.func 204) #[] #[]]) Z Z (by intro w;simp[Instr.build,Instr.fill,cY,cI,cD,cZ,c_,cJ,dU])) Z ?_;refine aB (El (r:=Value.agg #[vI (2:Int),Value.func (.func 205) #[] #[]]) Z Z (by intro w;simp[Instr.build,Instr.fill,cY,cI,cD,cZ,c_,cJ,dU])) Z ?_;refine aB (El (r:=Value.agg #[vI (3:Int),Value.func (.func 206) #[] #[]]) Z Z (by intro w;simp[Instr.build,Instr.fill,cY,cI,cD,cZ,c_,cJ,dU])) Z ?_;refine aI (b_ (e:=KW) ([(((1:Int),((204:Nat)))),(((2:Int),((205:Nat)))),(((3:Int),((206:Nat))))]) [(0,Value.agg #[vI (1:Int),o]),(1,Value.agg #[vI (2:Int),p]),(2,Value.agg #[vI (3:Int),s])] Z Z Z Z (aaS (vI (1:Int)) (o) (vI (2:Int)) (p) (vI (3:Int)) (s)) Z Z Z) Z λJ=>let A:=Ar KW J ([((1:Int),(204:Nat)),((2:Int),(205:Nat)),((3:Int),(206:Nat))]);Q5 Z<|aK<|iA (λB=>Ay B=some r) (λB N=>[]) (λB N=>[]) ?_ ?_
 .refine Q6 Z<|aB (iN Z (bP (aG.res 0 Z) CR) Z) Z<|aA Z<|aM<|aS<|gC (fQ U a v n) (λm O=>[(2,vI (n)),(3,vP E),(4,vP C),(15,J),(16,z),(17,vI (m))]) (λm O=>[A,bH C [i,j] 28,y]) (0:Int) () h SF (aX.refl _) ?_;intro F m O h;refine aP<|dD Z<|aM<|aK<|eI h Z (λh=>?_) λh=>?_
  .refine cQ<|aK<|iA (λk=>nU m (bN (fQ U a v n) F) k=some r) (λk t=>[(2,vI (n)),(3,vP E),(4,vP C),(15,J),(16,z),(17,vI (m))]) (λk t=>[A,bH C [i,j] 28,y]) ?_ ?_
   .refine aS<|aP<|dV h λg h=>aB (bR Z Z (bP (aG.res 0 Z) CR) Z Z g) Z ?_;by_cases d:m=(0:Int)
    .have h:=SE d h;refine aB (gT (cs:=[vI (1:Int),o]) Z (bP (aG.res 0 Z) CR) CR (by rw[d];rfl) Z Z Z g) Z ?_;refine aI (aN.alloc (cs:=[vI (0:Int),Value.nilFunc]) Z Z) Z λP=>bQ 0 (vs:=[vI (1:Int),Value.func (.func 204) #[] #[]]) Z Z Z Z Z Z<|aM<|aP<|bT Z<|dO 0 Z<|bT Z<|dO 3 Z<|bZ Z<|aM<|eI h Z (λh=>?_) λh=>?_
     .refine aP<|bT Z<|dO 0 Z<|dL 3 Z<|dL 2 Z<|aA Z<|fP h λG K h=>aI (nN (vs:=[Value.agg #[vS (a.1),vI (a.2.1),vI (a.2.2.1),vI (a.2.2.2.1),vI (a.2.2.2.2.1),vI (a.2.2.2.2.2)],Value.agg #[i,j],vI (n)]) (cs:=[]) aef Z (IP U i j D G K) Z (jS [0,1] Z) (λ_ _=>rfl)) Z λS=>kF Z<|kF Z<|aC Z<|Q5 Z<|aT<|bW<|aJ<|aJ<|bW<|aJ ?_;cases h;exact kU () Z Z (RV.tmp Z) (RV.tmp Z) .nil aF.nil
     exact eP<|m_<|cT () (()) h SF (aX.ix [1,2,3] Z Z) (aF.refl _ _)
    have h:=ifN d h;by_cases f:m=(1:Int)
    .have h:=SE f h;refine aB (gT (cs:=[vI (2:Int),p]) Z (bP (aG.res 0 Z) CR) CR (by rw[f];rfl) Z Z Z g) Z ?_;refine aI (aN.alloc (cs:=[vI (0:Int),Value.nilFunc]) Z Z) Z λQ=>bQ 0 (vs:=[vI (2:Int),Value.func (.func 205) #[] #[]]) Z Z Z Z Z Z<|aM<|aP<|bT Z<|dO 0 Z<|bT Z<|dO 3 Z<|bZ Z<|aM<|eI h Z (λh=>?_) λh=>?_
     .refine aP<|bT Z<|dO 0 Z<|dL 3 Z<|dL 2 Z<|aA Z<|fP h λH L h=>aI (nN (vs:=[Value.agg #[vS (a.1),vI (a.2.1),vI (a.2.2.1),vI (a.2.2.2.1),vI (a.2.2.2.2.1),vI (a.2.2.2.2.2)],Value.agg #[i,j],vI (n)]) (cs:=[]) aeg Z (IQ U i j D H L) Z (jS [0,1] Z) (λ_ _=>rfl)) Z λT=>kF Z<|kF Z<|aC Z<|Q5 Z<|aT<|bW<|aJ<|aJ<|bW<|aJ ?_;cases h;exact kU () Z Z (RV.tmp Z) (RV.tmp Z) .nil aF.nil
     exact eP<|m_<|cT () (()) h SF (aX.ix [1,2,3] Z Z) (aF.refl _ _)
    have h:=ifN f h;have u:m=(2:Int):=by have q:=g;simp only[zA9,zAm]at q;omega
    refine aB (gT (cs:=[vI (3:Int),s]) Z (bP (aG.res 0 Z) CR) CR (by rw[u];rfl) Z Z Z g) Z ?_;refine aI (aN.alloc (cs:=[vI (0:Int),Value.nilFunc]) Z Z) Z λR=>bQ 0 (vs:=[vI (3:Int),Value.func (.func 206) #[] #[]]) Z Z Z Z Z Z<|aM<|aP<|bT Z<|dO 0 Z<|bT Z<|dO 3 Z<|bZ Z<|aM<|eI h Z (λh=>?_) λh=>?_
    .refine aP<|bT Z<|dO 0 Z<|dL 3 Z<|dL 2 Z<|aA Z<|fP h λI M h=>aI (nN (vs:=[Value.agg #[vS (a.1),vI (a.2.1),vI (a.2.2.1),vI (a.2.2.2.1),vI (a.2.2.2.2.1),vI (a.2.2.2.2.2)],Value.agg #[i,j],vI (n)]) (cs:=[]) aeh Z (IR U i j D I M) Z (jS [0,1] Z) (λ_ _=>rfl)) Z λV=>kF Z<|kF Z<|aC Z<|Q5 Z<|aT<|bW<|aJ<|aJ<|bW<|aJ ?_;cases h;exact kU () Z Z (RV.tmp Z) (RV.tmp Z) .nil aF.nil
    exact eP<|m_<|cT () (()) h SF (aX.ix [1,2,3] Z Z) (aF.refl _ _)
   intro k t h;unfold nU at h;exact aR<|cU Z<|aA Z<|aM<|BD (wI .i64 (m+(1:Int))) () h SF Z
  exact fO<|cT () (()) h SF .nil (aF.refl _ _)
 intro B N h;unfold Ay at h;refine aP<|aC Z<|Q5 Z<|aT ?_;cases h;exact kU () Z Z (RV.tmp Z) (RV.tmp Z) (aX.refl _) aF.nil
def yX (a:Unit):V1 (Int):=
 some (0:Int)
def qT (b:Int) (a:(Int)->V1 (Int)) (c:Unit):V1 (Int):=
 a (wI .i64 (b+(1:Int)))
def yY (b:Int) (a:(Int)->V1 (Int)) (c:V4):V1 (Int):=
 if c=true then(some (9:Int))else(qT b a (()))
def oD (U:Nat) (c:nM) (e:dM) (a:Int) (b:(Int)->V1 (Int)):V1 (Int):=
 if a<(c.2.1.length:Int)then(ck (0<=a/\a<(c.2.1.length:Int)) (if((at' c.2.1 a).2.1)≠(1:Int)then(qT a b (()))else(Option.bind (lG U ((((at' c.2.1 a).1),((at' c.2.1 a).2.1),((at' c.2.1 a).2.2.1),((at' c.2.1 a).2.2.2.1),((at' c.2.1 a).2.2.2.2.1),((at' c.2.1 a).2.2.2.2.2))) ((e.1,e.2)) (0:Int)) λd=>(if d.2<d.1 then(yY a b (true))else(yY a b (decide ((4096:Int)<(wI .i64 ((wI .i64 (d.2 - d.1))+(1:Int))))))))))else(yX (()))
def nQ (U:Nat) (a:nM) (b:dM):V1 (Int):=
 Option.bind (Dy U ((a.1,a.2.1,a.2.2))) λc=>(if(!c)=true then(some (8:Int))else(Option.bind (h_ U ((b.1,b.2))) λd=>(if(!d)=true then(some (1:Int))else(bN (oD U a b) U (0:Int)))))
theorem Wi:aU prog 115:=call115
theorem Hl (U:Nat) {b:nM} {n:dM} (i y o p:V0) (B:mS) (r:Int) (h:nQ U b n=some r):
  a_ prog 115 #[Value.agg #[vS (b.1),i,y],Value.agg #[o,p]] [Sl aH i b.2.1,Sl aD y b.2.2,PF (Value.agg #[vS b.1,i,y]),Sl aL o n.1,S2 aY p B n.2] (λx:Unit=>vI (r)) (λx l=>l) (λ_ l=>l):=by
 let j:=vI (b.2.1.length:Int);refine a_.of func115 Z ntmps115 Z λc=>aP<|aI (aN.box (cs:=[vS (b.1),i,y]) Z Z) Z λI=>aI (aN.box (cs:=[o,p]) Z Z) Z λz=>let k:=bH z [o,p] 28;Q5 Z<|aK<|aP<|dL 1 Z<|fP h λD F h=>aI (zBk PI (NM U i y D F) Z (jS [0,1,2] Z)) Z λJ=>aB (sI Z) Z<|aM ?_
 refine Ca h Z (λ_ h=>?_) λ_ h=>?_
 .refine Q4 Z<|aT<|aJ ?_;cases h;exact xT Z
 refine cQ<|aK<|aP<|dL 0 Z<|fP h λE G h=>aI (zBk PL (AX U o p B E G) Z (jS [3,4] Z)) Z λK=>aB (sI Z) Z<|aM<|Ca h Z (λ_ h=>?_) λ_ h=>?_
 .refine Q4 Z<|aT<|aJ ?_;cases h;exact xT Z
 refine cQ<|aK<|iA (λf=>yX f=some r) (λf q=>[]) (λf q=>[]) ?_ ?_
 .refine aP<|bT Z<|dO 1 Z<|kG (dH Z) Z<|aA Z<|aM<|aS<|gC (oD U b n) (λa s=>[(3,vP z),(16,i),(17,j),(18,vI (a))]) (λa s=>[k]) (0:Int) () h SF (aX.ix [0] Z Z) ?_;intro w a s h;let d:=(at' b.2.1 a)
  refine aP<|dD Z<|aM<|aK<|eI h Z (λh=>?_) λh=>?_
  .refine cQ<|aK<|iA (λg=>qT a (bN (oD U b n) w) g=some r) (λg t=>[(3,vP z),(16,i),(17,j),(18,vI (a))]) (λg t=>[k]) ?_ ?_
   .refine aS<|aP<|dV h λv h=>aB (bR Z Z (dH Z) Z Z v) Z<|aB (gT (cs:=[vS (d.1),vI (d.2.1),vI (d.2.2.1),vI (d.2.2.2.1),vI (d.2.2.2.2.1),vI (d.2.2.2.2.2)]) Z (dH Z) qH Z Z Z Z v) Z<|aI (aN.alloc (cs:=vD4) Z Z) Z λC=>bQ 0 (vs:=[vS ((at' b.2.1 a).1),vI ((at' b.2.1 a).2.1),vI ((at' b.2.1 a).2.2.1),vI ((at' b.2.1 a).2.2.2.1),vI ((at' b.2.1 a).2.2.2.2.1),vI ((at' b.2.1 a).2.2.2.2.2)]) Z Z Z Z Z Z<|aM<|aK<|aP<|bT Z<|dO 0 Z<|oZ Z<|aM<|eI h Z (λh=>?_) λh=>?_
    .exact tB<|fT<|Aj<|CU<|cT () (()) h SF (aX.ix [1] Z Z) (aF.refl _ _)
    refine cQ<|aP<|dL 0 Z<|dL 1 Z<|fP h λm A h=>aI (zBk Wp (EP U o p B m A) Z (jS [3,4] Z)) Z λH=>aA Z<|kF Z<|kF Z<|aC Z<|Q5 Z<|aK<|iA (λe=>yY a (bN (oD U b n) w) e=some r) (λe u=>[(3,vP z),(16,i),(17,j),(18,vI (a)),(40,vB (e))]) (λe u=>[k]) ?_ ?_
    .refine aR<|aA Z<|aA Z<|dD Z<|aA Z<|GN h Z (λ_ h=>?_) λ_ h=>?_
     .exact aQ Z<|aQ Z<|aQ Z<|aQ Z<|aQ Z<|gE Z<|aM<|cT (true) () h SF (aX.ix [1] Z Z) (aF.refl _ _)
     exact iP Z<|iP Z<|bA Z (vZ Z Z) Z<|bA Z (Br Z Z) Z<|bA Z (wM Z Z) Z<|jD Z<|aM<|cT (decide ((4096:Int)<(wI .i64 ((wI .i64 (m.2 - m.1))+(1:Int))))) () h SF (aX.ix [1] Z Z) (aF.refl _ _)
    intro e u h;refine Ca h Z (λ_ h=>?_) λ_ h=>?_
    .refine Q4 Z<|aT<|bW<|aJ<|aJ<|bW<|aJ ?_;cases h;exact xT Z
    exact eP<|m_<|j_ () (()) h SF Z
   intro g t h;unfold qT at h;exact aR<|cU Z<|aA Z<|aM<|BD (wI .i64 (a+(1:Int))) () h SF Z
  exact fO<|cT () (()) h SF .nil (aF.refl _ _)
 intro f q h;unfold yX at h;refine Q4 Z<|aT ?_;cases h;exact mA Z
def xK (a:fY):V1 (fY):=
 some (a)
def xL (b:Int×fY) (a:(Int×fY)->V1 (fY)) (c:fY):V1 (fY):=
 a ((wI .i64 (b.1+(1:Int))),c)
def pC (U:Nat) (d:nM) (g:dM) (b:Int×fY) (e:(Int×fY)->V1 (fY)) (a:Int×fY) (f:(Int×fY)->V1 (fY)):V1 (fY):=
 if a.1<(d.2.1.length:Int)then(ck (0<=a.1/\a.1<(d.2.1.length:Int)) (ck (0<=b.1/\b.1<(a.2.length:Int)) (ck (0<=b.1/\b.1<(a.2.length:Int)) (Option.bind (lG U ((((at' d.2.1 a.1).1),((at' d.2.1 a.1).2.1),((at' d.2.1 a.1).2.2.1),((at' d.2.1 a.1).2.2.2.1),((at' d.2.1 a.1).2.2.2.2.1),((at' d.2.1 a.1).2.2.2.2.2))) ((g.1,g.2)) b.1) λc=>(ck (0<=a.1/\a.1<((at' a.2 b.1).length:Int)) (ck (0<=a.1/\a.1<((at' (List.set a.2 (Int.toNat b.1) (List.set (at' a.2 b.1) (Int.toNat a.1) (c.1,((at' (at' a.2 b.1) a.1).2)))) b.1).length:Int)) (f ((wI .i64 (a.1+(1:Int))),(List.set (List.set a.2 (Int.toNat b.1) (List.set (at' a.2 b.1) (Int.toNat a.1) (c.1,((at' (at' a.2 b.1) a.1).2)))) (Int.toNat b.1) (List.set (at' (List.set a.2 (Int.toNat b.1) (List.set (at' a.2 b.1) (Int.toNat a.1) (c.1,((at' (at' a.2 b.1) a.1).2)))) b.1) (Int.toNat a.1) (((at' (at' (List.set a.2 (Int.toNat b.1) (List.set (at' a.2 b.1) (Int.toNat a.1) (c.1,((at' (at' a.2 b.1) a.1).2)))) b.1) a.1).1),c.2)))))))))))else(xL b e (a.2))
def mZ (U:Nat) (c:nM) (d:dM) (a:Int×fY) (b:(Int×fY)->V1 (fY)):V1 (fY):=
 if a.1<((List.replicate (Int.toNat (List.length d.1:Int)) ([]:gV)).length:Int)then(ck (0<=(c.2.1.length:Int)/\(c.2.1.length:Int)<=1099511627) (ck (0<=a.1/\a.1<(a.2.length:Int)) (bN (pC U c d a b) U ((0:Int),(List.set a.2 (Int.toNat a.1) (List.replicate (Int.toNat (c.2.1.length:Int)) ((0:Int),(0:Int))))))))else(xK (a.2))
def gZ (U:Nat) (b:nM) (a:dM):V1 (fY):=
 ck (0<=(a.1.length:Int)/\(a.1.length:Int)<=1099511627) (bN (mZ U b a) U ((0:Int),(List.replicate (Int.toNat (a.1.length:Int)) ([]:gV))))
theorem Lc:aU prog 135:=call135
theorem Ad (U:Nat) {d:nM} {y:dM} (H Y v2 v3:V0) (z4:mS) (r:fY) (h:gZ U d y=some r):
  a_ prog 135 #[Value.agg #[vS (d.1),H,Y],Value.agg #[v2,v3]] [Sl aH H d.2.1,Sl aD Y d.2.2,PF (Value.agg #[vS d.1,H,Y]),Sl aL v2 y.1,S2 aY v3 z4 y.2] (λx:Hp=>x.1) (λx l=>Ar bI.raw x.1 x.2::fE bO x.2 r::l) (λ_ l=>l):=by
 let A:=(Int.toNat (y.1.length:Int))
 let X:=(List.replicate A ([]:gV))
 let D:=vI (X.length:Int);refine a_.of func135 Z ntmps135 Z λc=>?_;refine aP<|aI (aN.box (cs:=[vS (d.1),H,Y]) Z Z) Z λb1=>let C:=bH b1 [vS (d.1),H,Y] 33;aI (aN.box (cs:=[v2,v3]) Z Z) Z λb2=>let F:=bH b2 [v2,v3] 28;aC Z<|aM<|aP<|bT Z<|dO 0 Z<|kG (Dw Z) Z<|dV h λj3 h=>cF (yJ bO A)<|aI (tZ (e:=bI.raw) (eV) Z Z Z Z j3 Z Z Z) Z λw=>aC Z<|aM<|aK<|Ez (B:=e_) (λI=>xK I=some r) (λI K=>[(5,w)]) (λI K=>[Ar bI.raw w K,fE bO K I]) ?_ ?_
 .refine aP<|aA Z<|aB (fN Z (cC (i:=0) (j:=1) Z Z bX) Z) Z<|aA Z<|aM<|aS<|gC (B:=e_) (mZ U d y) (λb p=>[(2,vP b1),(3,vP b2),(5,w),(14,D),(15,vI (b.1))]) (λb p=>[Ar bI.raw w p,fE bO p b.2,F,C]) ((0:Int),X) (List.replicate A (eV)) h SF (aX.refl _) ?_;intro W b p h;let v:=(Int.toNat b.1)
  refine aP<|dD Z<|aM<|aK ?_;refine eI h Z (λh=>?_) λh=>?_
  .refine cQ<|aK<|Ez (B:=e_) (λn=>xL b (bN (mZ U d y) W) n=some r) (λn s=>[(2,vP b1),(3,vP b2),(5,w),(14,D),(15,vI (b.1))]) (λn s=>[Ar bI.raw w s,fE bO s n,F,C]) ?_ ?_
   .refine aS<|aP<|aA Z<|aC Z<|aM<|aP<|aA Z<|aA Z<|bT Z<|dO 3 Z<|kG (dH Z) Z<|dV h λaa h=>aI (tZ (e:=bO) (((0:Int),(0:Int))) Z Z Z Z aa Z Z Z) Z λab=>let E:=(List.set p v ab);dV h λt h=>aB (cA Z Z (cC (i:=1) (j:=2) Z Z bX) Z Z t) Z<|bG (Know.one ((bP (aG.res 0 Z) bX))) λR=>cF (Aw (k:=b.1) 2 0 Z Z Z t) ?_
    refine tU 0 1 ⟨t.1,by first|exact t.2|simpa using t.2⟩ Z Z Z Z Z (by simp) R Z ?_;refine aM<|aP<|bT Z<|dO 3 Z<|kG (dH Z) Z<|aA Z<|aM<|aS<|gC (pC U d y b (bN (mZ U d y) W)) (λa J=>[(2,vP b1),(3,vP b2),(5,w),(6,vI (b.1)),(14,D),(15,vI (b.1)),(26,H),(27,vI (d.2.1.length:Int)),(28,vI (a.1))]) (λa J=>[Ar bI.raw w E,fE bO E a.2,F,C]) ((0:Int),(List.set b.2 v (List.replicate (Int.toNat (d.2.1.length:Int)) ((0:Int),(0:Int))))) () h SF (aX.refl _) ?_;intro ag a J h;let G:=(at' a.2 b.1)
    let q:=(at' d.2.1 a.1)
    refine aP<|dD Z<|aM<|aK ?_;refine eI h Z (λh=>?_) λh=>?_
    .refine cQ<|aK<|aS<|aP<|aA Z<|dV h λS h=>aB (bR Z Z (dH Z) Z Z S) Z<|aB (gT (cs:=[vS (q.1),vI (q.2.1),vI (q.2.2.1),vI (q.2.2.2.1),vI (q.2.2.2.2.1),vI (q.2.2.2.2.2)]) Z (dH Z) qH Z Z Z Z S) Z<|aI (aN.alloc (cs:=vD4) Z Z) Z λaf=>aC Z<|bQ 0 (vs:=[vS ((at' d.2.1 a.1).1),vI ((at' d.2.1 a.1).2.1),vI ((at' d.2.1 a.1).2.2.1),vI ((at' d.2.1 a.1).2.2.2.1),vI ((at' d.2.1 a.1).2.2.2.2.1),vI ((at' d.2.1 a.1).2.2.2.2.2)]) Z Z Z Z Z Z<|aM ?_;refine yP [0,0,3,7,0,0,0,96,224,0,0,0,0,7168,15360,31744,31744,31,196095,458239,992,2097151,4194303] 21 mixedOrders ?_;refine bD Z<|bD Z<|dV h λg h=>bJ (dQ 2 Z) λL=>?_;refine bK Z (aX.cons 1 Z .nil) .nil (sH 0 Z Z Z Z Z g.1 (by have q1:=g.2;have q2:=L;(try simp only[zA2]at q1);(try simp only[zA2]at q2);(try simp only[zA2]);omega)) aO.z ?_;refine bJ (dQ 2 Z) λM=>bK Z (aX.cons 1 Z .nil) .nil (jT 0 Z Z M Z Z g) aO.z<|bD Z<|bD Z<|bD Z<|dV h λf h=>bJ (dQ 2 Z) λN=>?_;refine bK Z (aX.cons 1 Z .nil) .nil (sH 0 Z Z Z Z Z f.1 (by have q1:=f.2;have q2:=N;(try simp only[zA2]at q1);(try simp only[zA2]at q2);(try simp only[zA2]);omega)) aO.z ?_;refine bJ (dQ 2 Z) λO=>bK Z (aX.cons 1 Z .nil) .nil (jT 0 Z Z O Z Z f) aO.z<|bD Z<|nP 0 Z<|nP 3 Z<|bD Z<|fP h λm ac h=>let u:=(List.set a.2 v (List.set G (Int.toNat a.1) (m.1,((at' G a.1).2))));zBl Z Z Z (zBk Wp (EP U v2 v3 z4 m ac) Z (jS [3,4] Z)) Z (λad=>(pB [([1],[]),([1],[]),([1],[]),([1],[])] Z)) λad=>jL Z (iO Z)<|jL Z (uU Z Z)<|jL Z (uU Z Z)<|dV h λT h=>bJ (Know.len (aG.row (j:=2) Z bX g.1 g.2)) λP=>jL Z (mI Z Z P Z Z T) ?_
     refine jL Z (Gq (i:=0) Z Z Z Z Z (by decide)) ?_;refine Ce Z Z Z (Cf (us:=[vI (m.1)]) (o:=0) (k:=b.1) 2 ((m.1,((at' G a.1).2))) ⟨g.1,by first|exact g.2|simpa using g.2⟩ T Z Z Z Z Z Z Z Z Z Z) (λae=>(pB [] Z)) λae=>dV h λV h=>bJ (Know.len (aG.row (j:=2) Z bX f.1 (by first|exact f.2|simpa using f.2))) λQ=>?_;refine jL Z (mI Z Z Q Z Z V)<|bU 21 Z Z ?_;refine aB (Gq (i:=1) Z Z Z Z Z (by decide)) Z ?_;refine CS (Cf (us:=[vI (m.2)]) (o:=1) (k:=b.1) 2 ((((at' (at' u b.1) a.1).1),m.2)) ⟨f.1,by first|exact f.2|simpa using f.2⟩ V Z Z Z Z Z Z Z Z Z Z) λah=>eW<|m_<|aR<|cU Z<|aA Z<|aM ?_;exact iH ((wI .i64 (a.1+(1:Int))),(List.set u v (List.set (at' u b.1) (Int.toNat a.1) (((at' (at' u b.1) a.1).1),m.2)))) () h SF (aX.ix [1,2,3,4] Z Z) (aF.refl _ _)
    refine tB<|fT<|fT<|Aj<|m_ ?_;exact j_ (a.2) E h SF Z
   intro n s h;unfold xL at h;refine aR<|cU Z<|aA Z<|aM ?_;exact BD ((wI .i64 (b.1+(1:Int))),n) (s) h SF Z
  refine fO ?_;exact cT (b.2) (p) h SF (aX.ix [0,1] Z Z) (aF.refl _ _)
 intro I K h;unfold xK at h;refine aP<|aA Z<|aC Z<|aM<|aT ?_;cases h;exact fD (w,K) Z Z (RV.tmp Z) (aX.refl _) aF.nil
def sQ (a:Unit):V1 V4:=
 some (true)
def sR (c:Int) (b:(Int)->V1 V4) (a:V4):V1 V4:=
 if a=true then(some (false))else(b (wI .i64 (c+(1:Int))))
def lH (c:gV) (d:aW) (a:Int) (b:(Int)->V1 V4):V1 V4:=
 if a<(d.length:Int)then(ck (0<=a/\a<(d.length:Int)) (ck (0<=a/\a<(c.length:Int)) (if(at' d a)<((at' c a).1)then(sR a b (true))else(ck (0<=a/\a<(c.length:Int)) (sR a b (decide (((at' c a).2)<(at' d a))))))))else(sQ (()))
def oI (U:Nat) (a:gV) (b:aW):V1 V4:=
 if(b.length:Int)≠(a.length:Int)then(some (false))else(bN (lH a b) U (0:Int))
theorem Wm:aU prog 137:=call137
theorem FV (U:Nat) {k:gV} {d:aW} (n o:V0) (r:V4) (h:oI U k d=some r):
  a_ prog 137 #[n,o] [Sl aY n k,Sl aL o d] (λx:Unit=>vB (r)) (λx l=>l) (λ_ l=>l):=by
 refine a_.of func137 Z ntmps137 Z λc=>Q4 Z<|aK<|Q6 Z<|kG (yQ Z) Z<|aA Z<|kG (dH Z) Z<|oZ Z<|aM<|eI h Z (λh=>?_) λh=>?_
 .refine Q4 Z<|aT<|aJ ?_;cases h;exact mA Z
 refine cQ<|aK<|iA (λm=>sQ m=some r) (λm p=>[]) (λm p=>[]) ?_ ?_
 .refine Q6 Z<|kG (yQ Z) Z<|aA Z<|aM<|aS<|gC (lH k d) (λb q=>[(0,n),(12,o),(13,vI (d.length:Int)),(14,vI (b))]) (λb q=>[]) (0:Int) () h SF (aX.refl _) ?_;intro s b q h;refine aP<|dD Z<|aM<|aK<|eI h Z (λh=>?_) λh=>?_
  .refine cQ<|aK<|aS<|Q6 Z<|dV h λf h=>aB (bR Z Z (yQ Z) Z Z f) Z<|aB (cK Z (yQ Z) Z Z Z gF f) Z<|aC Z<|Q5 Z<|aK<|iA (λa=>sR b (bN (lH k d) s) a=some r) (λa e=>[(0,n),(12,o),(13,vI (d.length:Int)),(14,vI (b)),(34,vB (a))]) (λa e=>[]) ?_ ?_
   .refine aR<|aA Z<|aA Z<|aA Z<|dV h λg h=>aB (bR Z Z (dH Z) Z Z g) Z<|aB (Gq (i:=0) Z Z Z Z Z Q2) Z ?_;refine aB (qI Z (dH Z) Z Z Z Aq g) Z<|dD Z<|aA Z<|GN h Z (λ_ h=>?_) λ_ h=>?_
    .exact aQ Z<|aQ Z<|aQ Z<|aQ Z<|aQ Z<|aQ Z<|aQ Z<|gE Z<|aM<|j_ (true) () h SF Z
    refine iP Z<|iP Z<|iP Z<|dV h λj h=>bA Z (bR Z Z (dH Z) Z Z j) Z<|bA Z (Gq (i:=1) Z Z Z Z Z Q2) Z ?_;exact bA Z (qI Z (dH Z) Z Z Z Ut j) Z<|bA Z (wM Z Z) Z<|jD Z<|aM<|j_ (decide (((at' k b).2)<(at' d b))) () h SF Z
   intro a e h;refine Ca h Z (λ_ h=>?_) λ_ h=>?_
   .refine Q4 Z<|aT<|bW<|aJ<|aJ<|bW<|aJ ?_;cases h;exact mA Z
   exact eP<|m_<|aR<|cU Z<|aA Z<|aM<|BD (wI .i64 (b+(1:Int))) () h SF Z
  exact fO<|j_ () (()) h SF Z
 intro m p h;unfold sQ at h;refine Q4 Z<|aT ?_;cases h;exact mA Z
def rA (a:Unit):V1 V4:=
 some (true)
def lZ (U:Nat) (c:fY) (e:bE) (a:Int) (b:(Int)->V1 V4):V1 V4:=
 if a<(c.length:Int)then(ck (0<=a/\a<(c.length:Int)) (ck (0<=a/\a<(e.length:Int)) (Option.bind (oI U (at' c a) (at' e a)) λd=>(if(!d)=true then(some (false))else(b (wI .i64 (a+(1:Int))))))))else(rA (()))
def pG (U:Nat) (a:fY) (b:bE):V1 V4:=
 if(b.length:Int)≠(a.length:Int)then(some (false))else(bN (lZ U a b) U (0:Int))
theorem aea:aU prog 173:=call173
theorem KQ (U:Nat) {f:fY} {g:bE} (j:V0) (p:mS) (k:V0) (q:lI) (r:V4) (h:pG U f g=some r):
  a_ prog 173 #[j,k] [S2 aY j p f,S2 aL k q g] (λx:Unit=>vB (r)) (λx l=>l) (λ_ l=>l):=by
 refine a_.of func173 Z ntmps173 Z λc=>Q4 Z<|aK<|Q6 Z<|aB (fN Z (yQ Z) Z) Z<|aA Z<|aB (fN Z (dH Z) Z) Z<|oZ Z<|aM<|eI h Z (λh=>?_) λh=>?_
 .refine Q4 Z<|aT<|aJ ?_;cases h;exact mA Z
 refine cQ<|aK<|iA (λe=>rA e=some r) (λe n=>[]) (λe n=>[]) ?_ ?_
 .refine Q6 Z<|aB (fN Z (dH Z) Z) Z<|aA Z<|aM<|aS<|gC (lZ U f g) (λd o=>[(1,k),(12,j),(13,vI (f.length:Int)),(14,vI (d))]) (λd o=>[]) (0:Int) () h SF (aX.refl _) ?_;intro t d o h;refine aP<|dD Z<|aM<|aK<|eI h Z (λh=>?_) λh=>?_
  .refine cQ<|aK<|aS<|Q6 Z<|dV h λa h=>aB (cA Z Z (dH Z) Z Z a) Z<|aB (cW Z (dH Z) Z Z a) Z<|aC Z<|Q5 Z<|Q6 Z<|aA Z<|aA Z<|dV h λb h=>aB (cA Z Z (yQ Z) Z Z b) Z<|aB (cW Z (yQ Z) Z Z b) Z<|fP h λi m h=>aI (zBk Wm (FV U ((at' p d).1) ((at' q d).1) i m) Z (aF.cons (zBm (dH Z) a.1 a.2) (aF.cons (zBm (yQ Z) b.1 b.2) .nil))) Z λs=>aB (sI Z) Z<|aM<|Ca h Z (λ_ h=>?_) λ_ h=>?_
   .refine Q4 Z<|aT<|bW<|aJ<|aJ<|bW<|aJ ?_;cases h;exact mA Z
   exact eP<|m_<|aR<|cU Z<|aA Z<|aM<|BD (wI .i64 (d+(1:Int))) () h SF Z
  exact fO<|j_ () (()) h SF Z
 intro e n h;unfold rA at h;refine Q4 Z<|aT ?_;cases h;exact mA Z
def kY (U:Nat) (a:nM) (b:dM) (e:bE):V1 (Int):=
 Option.bind (nQ U ((a.1,a.2.1,a.2.2)) ((b.1,b.2))) λd=>(if d≠(0:Int)then(some (d))else(Option.bind (gZ U ((a.1,a.2.1,a.2.2)) ((b.1,b.2))) λf=>(Option.bind (pG U f e) λc=>(if(!c)=true then(some (10:Int))else(some (0:Int))))))
theorem Wj:aU prog 124:=call124
theorem FU (U:Nat) {a:nM} {g:dM} {p:bE} (b d e f:V0) (o:mS) (m:V0) (t:lI) (r:Int) (h:kY U a g p=some r):
  a_ prog 124 #[Value.agg #[vS (a.1),b,d],Value.agg #[e,f],m] [Sl aH b a.2.1,Sl aD d a.2.2,PF (Value.agg #[vS a.1,b,d]),Sl aL e g.1,S2 aY f o g.2,S2 aL m t p] (λx:Unit=>vI (r)) (λx l=>l) (λ_ l=>l):=by
 refine a_.of func124 Z ntmps124 Z λc=>aP<|aI (aN.box (cs:=[vS (a.1),b,d]) Z Z) Z λz=>aI (aN.box (cs:=[e,f]) Z Z) Z λA=>Q5 Z<|aK<|aP<|dL 1 Z<|dL 0 Z<|fP h λu v h=>aI (zBk Wi (Hl U b d e f o u v) Z (jS [0,1,2,3,4] Z)) Z λB=>Q5 Z<|Q6 Z<|oZ Z<|aM<|eI h Z (λh=>?_) λh=>?_
 .refine Q6 Z<|Q5 Z<|aT<|aJ ?_;cases h;exact xT Z
 refine cQ<|aK<|aP<|dL 1 Z<|dL 0 Z<|fP h λq w h=>aI (zBk Lc (Ad U b d e f o q w) Z (jS [0,1,2,3,4] Z)) Z λs=>aA Z<|fP h λk n h=>aI (zBk aea (KQ U s.1 (List.zip s.2 q) m t k n) Z (aF.cons (cC (i:=0) (j:=1) Z Z bX) (jS [5] Z))) Z λy=>aB (sI Z) Z<|aM<|Ca h Z (λ_ h=>?_) λ_ h=>?_
 .refine Q4 Z<|aT<|aJ ?_;cases h;exact xT Z
 refine cQ<|Q4 Z<|aT ?_;cases h;exact xT Z
def zL (a:bE):V1 bE:=
 some (a)
def uL (c:bE) (a:Dj) (b:(Int×bE)->V1 bE):V1 bE:=
 if a.1<(c.length:Int)then(ck (0<=a.1/\a.1<(c.length:Int)) (ck ((List.length ([]:aW):Int)+((at' c a.1).length:Int)<=1099511627) (ck (0<=a.1/\a.1<(a.2.length:Int)) (b ((wI .i64 (a.1+(1:Int))),(List.set a.2 (Int.toNat a.1) (([]:aW)++(at' c a.1))))))))else(zL (a.2))
def mF (U:Nat) (a:bE):V1 bE:=
 ck (0<=(a.length:Int)/\(a.length:Int)<=1099511627) (bN (uL a) U ((0:Int),(List.replicate (Int.toNat (a.length:Int)) ([]:aW))))
theorem Ij:aU prog 170:=call170
theorem xC (U:Nat) {m:bE} (u:V0) (y:lI) (r:bE) (h:mF U m=some r):
  a_ prog 170 #[u] [S2 aL u y m] (λx:Hp=>x.1) (λx l=>Ar bI.raw x.1 x.2::fE dW x.2 r::l) (λ_ l=>l):=by
 let g:=(Int.toNat (m.length:Int))
 refine a_.of func170 Z ntmps170 Z λc=>?_;refine aP<|aC Z<|aM<|aP<|aA Z<|aB (fN Z (dH Z) Z) Z<|dV h λv h=>cF (yJ dW g)<|aI (tZ (e:=bI.raw) (eV) Z Z Z Z v Z Z Z) Z λq=>aC Z<|aM<|aK<|Ez (B:=e_) (λn=>zL n=some r) (λn o=>[(3,q)]) (λn o=>[Ar bI.raw q o,fE dW o n]) ?_ ?_
 .refine aP<|aA Z<|aB (fN Z (dH Z) Z) Z<|aA Z<|aM<|aS<|gC (B:=e_) (uL m) (λa b=>[(3,q),(9,u),(10,vI (m.length:Int)),(11,vI (a.1))]) (λa b=>[Ar bI.raw q b,fE dW b a.2]) ((0:Int),(List.replicate g ([]:aW))) (List.replicate g (eV)) h SF (aX.refl _) ?_;intro w a b h;refine aP<|dD Z<|aM<|aK ?_;refine eI h Z (λh=>?_) λh=>?_
  .refine cQ<|aK<|aS<|aP<|aA Z<|dV h λf h=>aB (cA Z Z (dH Z) Z Z f) Z<|aB (cW Z (dH Z) Z Z f) Z<|aC Z<|aC Z<|aM<|aR<|aA Z<|aA Z<|aA Z<|cF (fK dW)<|dV h λs h=>aI (fU 0 fG Z Z Z (zBm (dH Z) f.1 f.2) Z Z Z Z s Z) Z λt=>dV h λd h=>aB (cA Z Z (cC (i:=1) (j:=2) Z Z fG) Z Z d) Z<|bG (Know.one ((bP (aG.res 0 Z) fG))) λp=>cF (Aw (k:=a.1) 2 0 Z Z Z d) ?_;refine tU 0 1 ⟨d.1,by first|exact d.2|simpa using d.2⟩ Z Z Z Z Z (by simp) p Z ?_;refine eW<|m_<|aR<|cU Z<|aA Z<|aM ?_;exact BD ((wI .i64 (a.1+(1:Int))),(List.set a.2 (Int.toNat a.1) (([]:aW)++(at' m a.1)))) (List.set b (Int.toNat a.1) t) h SF Z
  refine fO ?_;exact j_ (a.2) (b) h SF Z
 intro n o h;unfold zL at h;refine aP<|aA Z<|aC Z<|aM<|aT ?_;cases h;exact fD (q,o) Z Z (RV.tmp Z) (aX.refl _) aF.nil
end Go.Proofs.YtgciopekomcbfaaGreatDoor
namespace Go.Proofs.YtgciopekomcbfaaGreatDoor
open Go Go.Sx
abbrev tC:=ByteArray×(V6 xF)×(V6 pP)
structure lV (g:GR) (vars:List xF):Prop where
 len:vars.length<=20
 small:∀x,x<vars.length->DK (at' vars (x:Int))
 kind:∀x,x<vars.length->(at' vars (x:Int)).2.1=1\/(at' vars (x:Int)).2.1=2\/(at' vars (x:Int)).2.1=3
 range:∀x,x<vars.length->(at' vars (x:Int)).2.1=1 -> -100000<=lo g (at' vars (x:Int)) 0/\lo g (at' vars (x:Int)) 0<=hi g (at' vars (x:Int)) 0/\hi g (at' vars (x:Int)) 0 - lo g (at' vars (x:Int)) 0+1<=4096
theorem aif {g:GR} (a:VG g):BP 1000 g.1=some (eO g g.1.length):=by
 have d:=a.n24;have b:=a.len;have h:=a.n1;have f:0<=at' g.1 ((0:Nat):Int):=(a.node 0 V7).id.1;unfold BP;rw[Q0,Q7];have:=dZ (step:=w_ g.1) (K:=some (eO g g.1.length)) (g.1.length - 1) (λk=>(eO g (k+1),((k+1:Nat):Int))) (λk c i=>by
  unfold w_;dsimp only;rw[Q3,Q7,Q8];rfl) (λc=>by
  unfold w_ AU;dsimp only;rw[Q0,show g.1.length - 1+1=g.1.length by omega]) 1000 V7
 have e:eO g (0+1)=at' g.1 (0:Int):=by
  show max (eO g 0) (at' g.1 ((0:Nat):Int))=_;simp only[eO];have:at' g.1 ((0:Nat):Int)=at' g.1 (0:Int):=rfl;omega
 rw[e]at this;exact this
theorem Oc {g:GR} (c:VG g) {x:xF} (o:DK x) (n:x.2.1=1\/x.2.1=2\/x.2.1=3) {v:Nat} (p:v<g.2.length):lG 1000 x g (v:Int)=some (lo g x v,hi g x v):=by
 obtain⟨⟨B,C⟩,⟨r,s⟩,t,u⟩:=o;have l:=c.n24;have d:=c.len;have e:=sP c g.1.length V7;have w:0<=x.2.2.2.2.1*(g.1.length:Int):=Int.mul_nonneg r V7;have y:x.2.2.2.2.1*(g.1.length:Int)<=100000*24:=Int.mul_le_mul s V7 V7 V7;have z:0<=x.2.2.2.2.2*eO g g.1.length:=Int.mul_nonneg t e.1;have A:x.2.2.2.2.2*eO g g.1.length<=100000*255:=Int.mul_le_mul u e.2 e.1 V7;have i:pU 1000 x g (v:Int)=some (x.2.2.1,x.2.2.2.1+x.2.2.2.2.1*(g.2.length:Int)+x.2.2.2.2.2*eO g g.1.length):=by
  unfold pU;rw[bF (aif c),Q9 (x:=x.2.2.2.2.1*_),Q9 (x:=x.2.2.2.2.2*_),Q9 (x:=x.2.2.2.1+_),Q9,d]
 have j:pV 1000 x g (v:Int)=some (-1,((row g v).length:Int) - 1):=by
  have k:=(c.node v p).deg;unfold pV;rw[Q7];show some ((-1:Int),wI .i64 (((row g v).length:Int) - 1))=_;rw[Q9]
 have q:∀(f:Nat) (a:Int),bN (fQ 1000 x g (v:Int)) (f+1) a=fQ 1000 x g (v:Int) a (bN (fQ 1000 x g (v:Int)) f):=λf a=>rfl;have b:∀(f:Nat) (a:Int),a=0\/a=1\/a=2->bN (fQ 1000 x g (v:Int)) (f+1) a=if a=0 then(if 1=x.2.1 then pU 1000 x g (v:Int)else bN (fQ 1000 x g (v:Int)) f 1)else if a=1 then(if 2=x.2.1 then tG 1000 x g (v:Int)else bN (fQ 1000 x g (v:Int)) f 2)else(if 3=x.2.1 then pV 1000 x g (v:Int)else bN (fQ 1000 x g (v:Int)) f 3):=by
  intro f a m;rw[q];generalize bN (fQ 1000 x g (v:Int)) f=G;unfold fQ nU;rcases m with rfl|rfl|rfl
  .rw[if_pos Q2,cR Q2,if_pos Z,if_pos Z];split
   .rw[i];rfl
   .rfl
  .rw[if_pos Q2,cR Q2,if_neg (show¬(1:Int)=0 by decide),if_pos Z,if_neg (show¬(1:Int)=0 by decide),if_pos Z];split
   .rfl
   .rfl
  .rw[if_pos Q2,cR Q2,if_neg (show¬(2:Int)=0 by decide),if_neg (show¬(2:Int)=1 by decide),if_neg (show¬(2:Int)=0 by decide),if_neg (show¬(2:Int)=1 by decide)];split
   .rw[j];rfl
   .rfl
 unfold lG lo hi;rcases n with h|h|h
 .rw[b 999 0 (.inl Z),if_pos Z,if_pos h.symm,i,h,if_neg Q2,if_neg Q2,if_neg Q2,if_neg Q2]
 .rw[b 999 0 (.inl Z),if_pos Z,Q0,b 998 1 (.inr (.inl Z)),if_neg Q2,if_pos Z,if_pos h.symm,h,if_pos Z,if_pos Z];rfl
 .rw[b 999 0 (.inl Z),if_pos Z,Q0,b 998 1 (.inr (.inl Z)),if_neg Q2,if_pos Z,Q0,b 997 2 (.inr (.inr Z)),if_neg Q2,if_neg Q2,if_pos h.symm,j,h,if_neg Q2,if_pos Z,if_neg Q2,if_pos Z]
def pT (g:GR) (a:V6 xF) (v x:Nat):gO:=(lo g (at' a (x:Int)) v,hi g (at' a (x:Int)) v)
def CP (g:GR) (a:V6 xF) (v:Nat):gV:=(List.range a.length).map (pT g a v)
def tP (g:GR) (a:V6 xF):fY:=(List.range g.2.length).map (CP g a)
theorem wV {a:Type} [Inhabited a] (f:Nat->a) {n k:Nat} (h:k<n):at' ((List.range n).map f) (k:Int)=f k:=by
 rw[gK (by simpa using h)];simp
theorem wR {a:Type} (f:Nat->a) (z:a) (n k:Nat) (h:k<n):((List.range k).map f++List.replicate (n - k) z).set k (f k)=(List.range (k+1)).map f++List.replicate (n - (k+1)) z:=by
 rw[show n - k=(n - (k+1))+1 by omega,List.replicate_succ,List.set_append_right _ _ V8,List.range_succ];simp
theorem FZ {g:GR} (m:VG g) {p:tC} (n:lV g p.2.1):gZ 1000 p g=some (tP g p.2.1):=by
 have s:=m.n24;have d:=m.len;have w:=n.len;let a:=p.2.1;let Q:Nat->fY:=λk=>(List.range k).map (CP g a)++List.replicate (g.2.length - k) [];have c:∀k,k<=g.2.length->(Q k).length=g.2.length:=λk f=>by simp[Q];omega
 let R:Nat->Nat->gV:=λk j=>(List.range j).map (pT g a k)++List.replicate (a.length - j) (0,0);have l:∀k j,j<=a.length->(R k j).length=a.length:=λk j b=>by simp[R];omega
 unfold gZ;rw[Q7];rw[show List.replicate (Int.toNat (g.1.length:Int)) ([]:gV)=Q 0 by simp[Q,d]];refine dZ (step:=mZ 1000 p g) (K:=some (tP g a)) g.2.length (λk=>((k:Int),Q k)) (λk e f=> ?_) (λe=> ?_) 1000 V7
 .unfold mZ;dsimp only;rw[if_pos Q1,Q7,cR (by rw[c k V7];omega)];refine Eq.trans (?_:_=bN (pC 1000 p g ((k:Int),Q k) e) 1000 ((0:Int),(Q k).set k (R k 0))) ?_
  .rw[zAf,zAf];simp[R,a]
  refine dZ (step:=pC 1000 p g ((k:Int),Q k) e) (K:=e (((k+1:Nat):Int),Q (k+1))) a.length (λj=>((j:Int),(Q k).set k (R k j))) (λj h b=> ?_) (λh=> ?_) 1000 (by show p.2.1.length<1000;omega)
  .have u:j<p.2.1.length:=b;have t:=Oc m (n.small j b) (n.kind j b) f;have v:k<(Q k).length:=by rw[c k V7];exact f
   have o:∀X:gV,at' ((Q k).set k X) (k:Int)=X:=λX=>by rw[tE _ _ _ _ v,if_pos Z]
   have i:j<(R k j).length:=by rw[l k j V7];exact b
   unfold pC;dsimp only;rw[Q3,Q7,cR (by simp only[zA2];omega),cR (by simp only[zA2];omega),bF (show lG 1000 _ g (k:Int)=_ from t),zAf,zAf];simp only[o,List.set_set];rw[Q7,cR (by simp only[zA2];omega),Q8];have:(R k j).set j (lo g (at' p.2.1 (j:Int)) k,hi g (at' p.2.1 (j:Int)) k)=R k (j+1):=wR (pT g a k) (0,0) a.length j b;rw[tE _ _ _ _ i,if_pos Z];dsimp only;rw[this]
  .unfold pC xL;dsimp only;rw[if_neg (show¬((a.length:Nat):Int)<(p.2.1.length:Int)from Int.lt_irrefl _),Q8];have q:R k a.length=CP g a k:=by simp[R,CP]
   have r:(Q k).set k (CP g a k)=Q (k+1):=wR (CP g a) [] g.2.length k f;rw[q,r]
 .unfold mZ xK;dsimp only;rw[if_neg Q1];simp[Q,tP]
theorem PX {g:GR} (c:VG g) {p:tC} (b:lV g p.2.1):nQ 1000 p g=some 0:=by
 have i:=c.n1;have h:=b.len;unfold nQ;rw[bF (show Dy 1000 _=some true from rfl),if_neg Q2,bF (show h_ 1000 g=some true from(OY g).1 c),if_neg Q2];refine dZ (step:=oD 1000 p g) (K:=some 0) p.2.1.length (λk=>(k:Int)) (λk e d=> ?_) (λe=> ?_) 1000 V7
 .unfold oD qT yY qT;rw[Q3,Q7,Q8];by_cases a:(at' p.2.1 (k:Int)).2.1=1
  .obtain⟨j,l,m⟩:=b.range k d a;have f:=Oc c (b.small k d) (b.kind k d) (v:=0) V7;rw[if_neg (by simpa using a),bF (show lG 1000 _ g (0:Int)=_ from f)];dsimp only;rw[Q0,Q9 (x:=hi g (at' p.2.1 (k:Int)) 0 - lo g (at' p.2.1 (k:Int)) 0),Q9,if_neg (by rw[zA1];omega)]
  .rw[if_pos a]
 .unfold oD yX;rw[Q0]
theorem acy {g:GR} {a:V6 xF} (i:a.length<=20) {v:Nat} {l:aW} (c:l.length=a.length) (d:∀x,x<a.length->lo g (at' a (x:Int)) v<=at' l (x:Int)/\at' l (x:Int)<=hi g (at' a (x:Int)) v):oI 1000 (CP g a v) l=some true:=by
 have f:(CP g a v).length=a.length:=by simp[CP]
 unfold oI;rw[if_neg (by rw[f,c];simp)];refine dZ (step:=lH (CP g a v) l) (K:=some true) l.length (λk=>(k:Int)) (λk b h=> ?_) (λb=> ?_) 1000 V7
 .have e:at' (CP g a v) (k:Int)=pT g a v k:=wV _ V7;have:=d k V7;unfold lH sR;rw[Q3,Q7,Q7,e];rw[if_neg (show¬at' l (k:Int)<(pT g a v k).1 from Int.not_lt.2 this.1),Q7,if_neg (by rw[zA1];exact Int.not_lt.2 this.2),Q8]
 .unfold lH sQ;rw[Q0]
theorem aau {g:GR} (a:VG g) {p:tC} (f:lV g p.2.1) {c:bE} (b:CM g c p.2.1):kY 1000 p g c=some 0:=by
 have i:=a.n24;have l:(tP g p.2.1).length=g.2.length:=by simp[tP]
 have d:=b.len;unfold kY;rw[bF (show nQ 1000 _ _=some 0 from PX a f),if_neg Q2,bF (show gZ 1000 _ _=_ from FZ a f)];have:pG 1000 (tP g p.2.1) c=some true:=by
  unfold pG;rw[if_neg (by rw[l,d];simp)];refine dZ (step:=lZ 1000 (tP g p.2.1) c) (K:=some true) g.2.length (λk=>(k:Int)) (λk h e=> ?_) (λh=> ?_) 1000 V7
  .have j:at' (tP g p.2.1) (k:Int)=CP g p.2.1 k:=wV _ e;unfold lZ;rw[Q3,Q7,Q7,j,bF (acy f.len (b.row k e) (b.ok k e)),if_neg Q2,Q8]
  .unfold lZ rA;rw[Q0]
 rw[bF this,if_neg Q2]
theorem Le (c:bE) (h:c.length<=900) (e:∀v,v<c.length->(at' c (v:Int)).length<=1000):mF 1000 c=some c:=by
 unfold mF;rw[Q7];let Q:Nat->bE:=λk=>(List.range k).map (λv:Nat=>at' c (v:Int))++List.replicate (c.length - k) [];rw[show List.replicate (Int.toNat (c.length:Int)) ([]:aW)=Q 0 by simp[Q]];refine dZ (step:=uL c) (K:=some c) c.length (λk=>((k:Int),Q k)) (λk b a=> ?_) (λb=> ?_) 1000 V7
 .have g:(Q k).length=c.length:=by simp[Q];omega
  have:=e k a;unfold uL;dsimp only;rw[Q3,Q7,cR Q1,Q7,Q8,zAf,List.nil_append];have:(Q k).set k (at' c (k:Int))=Q (k+1):=wR (λv:Nat=>at' c (v:Int)) [] c.length k a;rw[this]
 .unfold uL zL;dsimp only;rw[Q0];congr 1;refine List.ext_getElem (by simp[Q]) λi f d=> ?_;simp[Q,gK d]
def NE (x:Int):Int:=max (-1073741824) (min x 1073741824)
def unD (o x:Int):Int:=if o=18 then wI .i64 (0 - x)else xG (decide (x=0))
def Tm (a b:Int):Int:=if b=0 then 0 else if Int.tmod a b≠0/\((decide (a<0)) != (decide (b<0)))=true then wI .i64 (wI .i64 (Int.tdiv a b) - 1)else wI .i64 (Int.tdiv a b)
def ahD (o x y:Int):V4:=if o=35 then decide (x=y)else if o=36 then decide (x≠y)else if o=37 then decide (x<y)else if o=38 then decide (x<=y)else if o=39 then decide (y<x)else decide (y<=x)
def biD (o x y:Int):Int:=
 if o=30 then NE (wI .i64 (x*y))else if o=31 then NE (Tm x y)else if o=32 then(if y=0 then 0 else NE (wI .i64 (x - wI .i64 (y*Tm x y))))else if o=33 then NE (wI .i64 (x+y))else if o=34 then NE (wI .i64 (x - y))
 else if o=41 then xG (decide (x≠0)&&decide (y≠0))else if o=42 then xG (decide (x≠0)||decide (y≠0))else xG (ahD o x y)
theorem acL (f:Nat) (o x:Int):BN f o x=some (unD o x):=by
 unfold BN unD;split
 .rfl
 .rw[bF (xD f _)]
theorem acd (f:Nat) (a b:Int):sO f a b=some (Tm a b):=by
 unfold sO Tm;by_cases c:b=0
 .rw[if_pos c,if_pos c]
 .rw[if_neg c,if_neg c,cR c,cR c];by_cases d:Int.tmod a b=0
  .rw[if_neg (by simpa using d),if_neg (by simp[d])];rfl
  .rw[if_pos d];unfold vA qW;by_cases e:((decide (a<0)) != (decide (b<0)))=true
   .rw[if_pos e,if_pos ⟨d,e⟩]
   .rw[if_neg e,if_neg (λq=>e q.2)]
theorem ahE (f:Nat) (o x y:Int):xQ f o x y=some (ahD o x y):=by
 unfold xQ ahD
 repeat' split
 all_goals rfl
theorem XW (f:Nat) (o x y:Int):AO f o x y=some (biD o x y):=by
 unfold AO biD;by_cases h:o=30
 .rw[if_pos h,if_pos h];rfl
 rw[if_neg h,if_neg h];by_cases h:o=31
 .rw[if_pos h,if_pos h,bF (acd f x y)];rfl
 rw[if_neg h,if_neg h];by_cases h:o=32
 .rw[if_pos h,if_pos h];by_cases b:y=0
  .rw[if_pos b,if_pos b]
  .rw[if_neg b,if_neg b,bF (acd f x y)];rfl
 rw[if_neg h,if_neg h];by_cases h:o=33
 .rw[if_pos h,if_pos h];rfl
 rw[if_neg h,if_neg h];by_cases h:o=34
 .rw[if_pos h,if_pos h];rfl
 rw[if_neg h,if_neg h];by_cases h:o=41
 .rw[if_pos h,if_pos h];by_cases a:x=0
  .rw[if_neg (by simpa using a),bF (xD f _)];simp[a,qU]
  .rw[if_pos a,bF (xD f _)];simp[a,qU]
 rw[if_neg h,if_neg h];by_cases h:o=42
 .rw[if_pos h,if_pos h];by_cases a:x=0
  .rw[if_neg (by simpa using a),bF (xD f _)];simp[a,qV]
  .rw[if_pos a,bF (xD f _)];simp[a,qV]
 rw[if_neg h,if_neg h,bF (ahE f o x y),bF (xD f _)]
def E.den (L:Int->Int->Int->Int) (b:Nat):E->Int->Int
 |lf o a,p=>L o a p
 |un o x,p=>unD o (x.den L b p)
 |ag o x,_=>WN o ((List.range b).map λq=>x.den L b ((q:Nat):Int))
 |bi o x y,p=>biD o (x.den L b p) (y.den L b p)
 |ite x y z,p=>if x.den L b p≠0 then y.den L b p else z.den L b p
def E.wf (c:Nat):V4->E->V4
 |b,lf o a=>decide (1<=o)&&decide (o<=17)&&(b||decide (o<=10))&&((decide (o≠5)&&decide (o≠12))||(decide (0<=a)&&decide (a<(c:Int))))
 |b,un o x=>decide (18<=o)&&decide (o<=19)&&x.wf c b
 |_,ag o x=>(decide (o=20)||decide (o=21)||decide (o=22)||decide (o=23)||decide (o=24)||decide (o=26)||decide (o=27))&&x.wf c true
 |b,bi o x y=>decide (30<=o)&&decide (o<=42)&&x.wf c b&&y.wf c b
 |b,ite x y z=>x.wf c b&&y.wf c b&&z.wf c b
theorem adr {i:Nat}:∀{e:E} {b:V4},e.wf i b=true->e.arOk=true:=by
 intro e
 induction e with
 |lf o a=>intro b h;simp[E.wf,E.arOk]at h ⊢;omega
 |un o x f=>intro b h;simp[E.wf,E.arOk]at h ⊢;exact⟨h.1,f h.2⟩
 |ag o x f=>intro b h;simp[E.wf,E.arOk]at h ⊢;exact⟨V7,f h.2⟩
 |bi o x y c d=>intro b h;simp[E.wf,E.arOk]at h ⊢;exact⟨⟨h.1.1,c h.1.2⟩,d h.2⟩
 |ite x y z c d g=>intro b h;simp[E.wf,E.arOk]at h ⊢;exact⟨⟨c h.1.1,d h.1.2⟩,g h.2⟩
def abG (W:WLK) (p:Int):Int:=(at' (at' W.1.2.1.2 W.2.2.1) p).1
def KL (W:WLK) (o a p:Int):Int:=
 if o=1 then a else if o=2 then 1 else if o=3 then 0 else if o=4 then -1 else if o=5 then at' (at' W.2.1 W.2.2.1) a else if o=12 then at' (at' W.2.1 (abG W p)) a
 else if o=6 then(W.1.2.1.1.length:Int)else if o=7 then W.1.2.2.1 else if o=8 then at' W.1.2.1.1 W.2.2.1 else if o=9 then((at' W.1.2.1.2 W.2.2.1).length:Int)else if o=10 then xG (decide (W.2.2.1=0))else if o=11 then p
 else if o=13 then at' W.1.2.1.1 (abG W p)else if o=14 then((at' W.1.2.1.2 (abG W p)).length:Int)else if o=15 then xG (decide (abG W p=0))else if o=16 then(at' (at' W.1.2.1.2 W.2.2.1) p).2 else at' (at' W.1.2.2.2 W.2.2.1) p
structure WOk (W:WLK) (nv n v:Nat):Prop where
 node:W.2.2.1=(v:Int)
 lt:v<n
 ports:W.1.2.1.2.length=n
 ids:W.1.2.1.1.length=n
 c:W.2.1.length=n
 row:∀u:Nat,u<n->(at' W.2.1 (u:Int)).length=nv
 to:∀u:Nat,u<n->∀i:Nat,i<(at' W.1.2.1.2 (u:Int)).length->0<=(at' (at' W.1.2.1.2 (u:Int)) (i:Int)).1/\(at' (at' W.1.2.1.2 (u:Int)) (i:Int)).1<(n:Int)
 bl:W.1.2.2.2.length=n
 br:∀u:Nat,u<n->(at' W.1.2.2.2 (u:Int)).length=(at' W.1.2.1.2 (u:Int)).length
def ZF (b:V4) (a:Nat) (p:Int):Prop:=b=true->∃q:Nat,p=(q:Int)/\q<a
theorem afc {W:WLK} {k n v:Nat} (h:WOk W k n v) (f:Nat) {b:V4} {o a p:Int} (s:(E.lf o a).wf k b=true) (r:ZF b (at' W.1.2.1.2 (v:Int)).length p):nH f W (o,a) p=some (KL W o a p):=by
 obtain⟨y,c,A,B,C,l,m,F,w⟩:=h;simp only[E.wf,zA4,zAx,zA1]at s;obtain⟨⟨⟨G,H⟩,d⟩,I⟩:=s;have z:(at' W.2.1 (v:Int)).length=k:=l v c;unfold nH KL abG;dsimp only;rw[y];by_cases e:o=1
 .simp only[if_pos e]
 simp only[if_neg e];by_cases e:o=2
 .simp only[if_pos e]
 simp only[if_neg e];by_cases e:o=3
 .simp only[if_pos e]
 simp only[if_neg e];by_cases e:o=4
 .simp only[if_pos e]
 simp only[if_neg e];by_cases e:o=5
 .simp only[if_pos e];rw[Q7,Q7]
 simp only[if_neg e];by_cases e:o=12
 .have i:b=true:=by
   rcases d with d|d
   .exact d
   .omega
  obtain⟨q,rfl,j⟩:=r i;have g:=m v c q j;obtain⟨u,x⟩:∃u:Nat,(at' (at' W.1.2.1.2 (v:Int)) (q:Int)).1=(u:Int):=⟨_,(Int.toNat_of_nonneg g.1).symm⟩
  simp only[if_pos e];rw[x]at g ⊢;have D:=l u V7;rw[Q7,Q7,Q7,Q7]
 simp only[if_neg e];unfold uE;dsimp only;by_cases e:o=6
 .simp only[if_pos e];rfl
 simp only[if_neg e];by_cases e:o=7
 .simp only[if_pos e];rfl
 simp only[if_neg e];by_cases e:o=8
 .simp only[if_pos e];rw[Q7];rfl
 simp only[if_neg e];by_cases e:o=9
 .simp only[if_pos e];rw[Q7];rfl
 simp only[if_neg e];by_cases e:o=10
 .simp only[if_pos e];rw[bF (xD f _)];rfl
 simp only[if_neg e];by_cases e:o=11
 .simp only[if_pos e];rfl
 simp only[if_neg e];have i:b=true:=by
  rcases d with d|d
  .exact d
  .omega
 obtain⟨q,rfl,j⟩:=r i;have g:=m v c q j;rw[Q7,Q7];by_cases e:o=13
 .simp only[if_pos e];rw[Q7];rfl
 simp only[if_neg e];by_cases e:o=14
 .simp only[if_pos e];rw[Q7];rfl
 simp only[if_neg e];by_cases e:o=15
 .simp only[if_pos e];rw[bF (xD f _)];rfl
 simp only[if_neg e];by_cases e:o=16
 .simp only[if_pos e];rfl
 simp only[if_neg e];have t:=w v c;rw[Q7,Q7];rfl
theorem ade {W:WLK} {nv n v:Nat} (h:WOk W nv n v) {deg:Nat} (m:(at' W.1.2.1.2 (v:Int)).length=deg) (L:deg<=24) (S:W.2.2.2.length<=800):
  ∀(e:E) (b:V4) (c k:Nat) (p:Int) (g d:gV),W.2.2.2=g++(e.ts++d)->g.length=k->e.wf nv b=true->ZF b deg p->e.depth+850<=c->
   cB c W (k:Int) p=some (e.den (KL W) deg p,(((k+e.ts.length:Nat)):Int)):=by
 obtain⟨Q,ab,h1,h2,h3,h4,h5,_,_⟩:=id h;have i:∀{t:gO} {l g d:gV} {k:Nat},W.2.2.2=g++((t::l)++d)->g.length=k->at' W.2.2.2 (k:Int)=t/\(k:Int)<(W.2.2.2.length:Int):=by
  intro t l g d k j r;refine⟨PC (rest:=l++d) (by simpa using j) r,?_⟩
  rw[j];simp;omega
 intro e
 induction e with
 |lf o a=>
  intro b c k p g d j r u w B;obtain⟨c,rfl⟩:∃f,c=f+1:=⟨c - 1,V7⟩
  obtain⟨A,s⟩:=i (l:=[]) j r;show eC (cB c) c W (k:Int) p=_;unfold eC;rw[cR ⟨V7,s⟩,A];dsimp only;have X:=u;simp only[E.wf,zA4,zAx,zA1]at X;have hl:=afc h c u (m▸w);rw[Q3,bF (show nH c _ (o,a) p=some (KL W o a p)from hl),Q8];rfl
 |un o x ih=>
  intro b c k p g d j r u w B;obtain⟨c,rfl⟩:∃f,c=f+1:=⟨c - 1,V7⟩
  obtain⟨A,s⟩:=i (l:=x.ts) j r;show eC (cB c) c W (k:Int) p=_;unfold eC;rw[cR ⟨V7,s⟩,A];dsimp only;simp only[E.wf,zA4,zA1]at u;simp only[E.depth]at B;have F:=ih b c (k+1) p (g++[(o,0)]) d (by rw[j];simp[E.ts]) (by simp[r]) u.2 w V7;rw[Q0,Q3,Q8,bF (show cB c _ _ p=_ from F),bF (acL c _ _)];simp only[E.den,E.ts,zA9];rw[show k+1+x.ts.length=k+(x.ts.length+1) by omega]
 |bi o x y G H=>
  intro b c k p g d j r u w B;obtain⟨c,rfl⟩:∃f,c=f+1:=⟨c - 1,V7⟩
  obtain⟨A,s⟩:=i (l:=x.ts++y.ts) j r;show eC (cB c) c W (k:Int) p=_;unfold eC;rw[cR ⟨V7,s⟩,A];dsimp only;simp only[E.wf,zA4,zA1]at u;simp only[E.depth]at B;have F:=G b c (k+1) p (g++[(o,0)]) (y.ts++d) (by rw[j];simp[E.ts]) (by simp[r]) u.1.2 w V7;have Y:=H b c (k+1+x.ts.length) p (g++(o,0)::x.ts) d (by rw[j];simp[E.ts]) (by simp[r];omega) u.2 w V7;rw[Q0,Q0,Q0,Q3,Q8,bF (show cB c _ _ p=_ from F),bF (show cB c _ _ p=_ from Y),bF (XW c _ _ _)];simp only[E.den,E.ts,zA9,zA5];rw[show k+1+x.ts.length+y.ts.length=k+(x.ts.length+y.ts.length+1) by omega]
 |ite x y z G H aa=>
  intro b c k p g d j r u w B;obtain⟨c,rfl⟩:∃f,c=f+1:=⟨c - 1,V7⟩
  obtain⟨A,s⟩:=i (l:=x.ts++(y.ts++z.ts)) j r;show eC (cB c) c W (k:Int) p=_;unfold eC;rw[cR ⟨V7,s⟩,A];dsimp only;simp only[E.wf,zA4]at u;simp only[E.depth]at B;have F:=G b c (k+1) p (g++[(43,0)]) (y.ts++z.ts++d) (by rw[j];simp[E.ts]) (by simp[r]) u.1.1 w V7;have Y:=H b c (k+1+x.ts.length) p (g++(43,0)::x.ts) (z.ts++d) (by rw[j];simp[E.ts]) (by simp[r];omega) u.1.2 w V7;have hz:=aa b c (k+1+x.ts.length+y.ts.length) p (g++(43,0)::(x.ts++y.ts)) d (by rw[j];simp[E.ts]) (by simp[r];omega) u.2 w V7;rw[if_neg Q2,if_neg Q2,if_neg Q2,if_neg Q2,Q8,bF (show cB c _ _ p=_ from F),bF (show cB c _ _ p=_ from Y),bF (show cB c _ _ p=_ from hz)];simp only[E.den,E.ts,zA9,zA5];rw[show k+1+x.ts.length+y.ts.length+z.ts.length=k+(x.ts.length+(y.ts.length+z.ts.length)+1) by omega];split<;>rfl
 | ag o x ih =>
  intro b c k p g d j r u w B;obtain⟨c,rfl⟩:∃f,c=f+1:=⟨c - 1,V7⟩
  obtain⟨A,s⟩:=i (l:=x.ts) j r;have T:=adr u;have R:=u;simp only[E.wf,zA4,zAx,zA1]at R;simp only[E.depth]at B;have P:(E.ag o x).ts.length=x.ts.length+1:=rfl;have M:=congrArg List.length j;simp only[zA5]at M;show eC (cB c) c W (k:Int) p=_;unfold eC;rw[cR ⟨V7,s⟩,A];dsimp only;rw[Q0,Q0,Q3,Q7];let D:Nat->Int:=λq=>x.den (KL W) deg ((q:Nat):Int);let V:Nat->aW:=λq=>(List.range q).map D++List.replicate (24 - q) 0;have J:∀q,q<=24->(V q).length=24:=λq U=>by simp[V];omega
  have O:∀q,q<24->(V q).set q (D q)=V (q+1):=λq U=>by
   show((List.range q).map D++List.replicate (24 - q) 0).set q (D q)=(List.range (q+1)).map D++List.replicate (24 - (q+1)) 0;rw[show 24 - q=(24 - (q+1))+1 by omega,List.replicate_succ,List.set_append_right _ _ V8,List.range_succ];simp
  let N:Nat->Int:=λq=>if q=0 then 0 else(((k+1+x.ts.length:Nat)):Int)
  refine Eq.trans (dZ (step:=lN c W (k:Int) (cB c)) (K:=some ((E.ag o x).den (KL W) deg p,(((k+(E.ag o x).ts.length:Nat)):Int))) deg (λq=>(N q,(q:Int),V q)) (λq ag U=> ?_) (λag=> ?_) c V7) Z
  .unfold lN;dsimp only;have F:=ih true c (k+1) ((q:Nat):Int) (g++[(o,0)]) d (by rw[j];simp[E.ts]) (by simp[r]) R.2 (λ_=>⟨q,rfl,U⟩) V7;rw[if_pos (by rw[Q,m];omega),Q8,bF (show cB c _ _ _=_ from F),cR ⟨V7,J q V7⟩,Q8,zAf];show ag (_,_,(V q).set q (D q))=_;rw[O q V7];simp only[N];rw[Q0]
  .unfold lN;dsimp only;rw[if_neg (by rw[Q,m];omega)];have C:List.take deg (V deg)=(List.range deg).map D:=by
    show List.take deg ((List.range deg).map D++_)=_;exact List.take_left' V8
   have I:∀y:Int,y=(((k+1+x.ts.length:Nat)):Int)->lM c W (k:Int) (N deg,V deg) y=some ((E.ag o x).den (KL W) deg p,(((k+(E.ag o x).ts.length:Nat)):Int)):=by
    rintro y rfl;unfold lM;dsimp only;rw[Q,m,cR ⟨V7,V7,by rw[J deg L];omega⟩,A,zAf,C,bF (aeM c o _ V7 Q1 V7)];unfold oS;rw[P,show k+1+x.ts.length=k+(x.ts.length+1) by omega];rfl
   unfold tD;dsimp only;by_cases h0:deg=0
   .rw[if_pos (by rw[Q,m];omega),bF (ahJ c (E.ag o x) T j r S V7)];exact I _ (by rw[P];omega)
   .rw[if_neg (by rw[Q,m];omega)];exact I _ (by simp only[N];rw[if_neg h0])
end Go.Proofs.YtgciopekomcbfaaGreatDoor
namespace Go.Proofs.YtgciopekomcbfaaGreatDoor
open Go.Sx
def iF (U:Nat) (a:YW) (b:bE) (c:Int) (d:gV):V1 (Int):=
 Option.bind (cB U ((((((a.1.1,a.1.2.1,a.1.2.2)),((a.2.1.1,a.2.1.2)),a.2.2.1,a.2.2.2)),b,c,d)) (0:Int) (-1:Int)) λe=>(some (e.1))
theorem Wu:aU prog 207:=call207
theorem Am (U:Nat) {d:YW} {s:bE} {f:Int} {t:gV} (a:Nat) (m n o p:V0) (u:mS) (q:V0) (v:lI) (e:V0) (y:lI) (b:V0) (r:Int) (h:iF U d s f t=some r):
  a_ prog 207 #[vP a,e,vI (f),b] [bH a [vS (d.1.1),m,n,o,p,vI (d.2.2.1),q] 225,Sl aH m d.1.2.1,Sl aD n d.1.2.2,Sl aL o d.2.1.1,S2 aY p u d.2.1.2,S2 aL q v d.2.2.2,S2 aL e y s,Sl aY b t] (λx:Unit=>vI (r)) (λx l=>l) (λ_ l=>l):=by
 refine a_.of func207 Z ntmps207 Z λc=>Q4 Z<|Q6 Z<|aA Z<|aA Z<|aA Z<|bG (AA (JB Z)) λg=>bG (Know.one ((GT Z))) λi=>aB (Pt (r:=Value.agg #[Value.pointer (some ⟨a,0,none⟩),e,vI (f),b]) Z Z Z Z (by intro w;simp[Instr.build,Instr.fill,cY,cI,cD,cZ,c_,cJ,dU,f_ g,f_ i])) Z ?_;refine aI (aN.alloc (cs:=[Value.pointer none,eV,vI (0:Int),eV]) Z Z) Z λz=>bG (AA (JB Z)) λj=>bG (Know.one ((GT Z))) λk=>bQ 0 (vs:=[vP a,e,vI (f),b]) Z Z (eJ Z (eJ j (eJ Z (eJ k Z)))) Z Z Z<|aM<|aP<|fP h λA B h=>aI (zBk CX (FN U z a m n o p u q v e y b A B) Z (aF.cons (aG.res 0 Z) (jS [0,1,2,3,4,5,6,7] Z))) Z λC=>aA Z<|kF Z<|kF Z<|aC Z<|Q5 Z<|Q6 Z<|Q5 Z<|aT ?_;cases h;exact xT Z
def lS (U:Nat) (a:YW) (c:bE) (d b:Int):V1 V4:=
 ck (0<=b/\b<(a.1.2.2.length:Int)) (Option.bind (iF U ((((a.1.1,a.1.2.1,a.1.2.2)),((a.2.1.1,a.2.1.2)),a.2.2.1,a.2.2.2)) c d ((at' a.1.2.2 b).2.1.2)) λe=>(some (decide (e≠(0:Int)))))
theorem aee:aU prog 183:=call183
theorem Fb (U:Nat) {a:YW} {n:bE} {o e:Int} (b:Nat) (f g i j:V0) (p:mS) (k:V0) (q:lI) (m:V0) (s:lI) (r:V4) (h:lS U a n o e=some r):
  a_ prog 183 #[vP b,m,vI (o),vI (e)] [bH b [vS (a.1.1),f,g,i,j,vI (a.2.2.1),k] 225,Sl aH f a.1.2.1,Sl aD g a.1.2.2,Sl aL i a.2.1.1,S2 aY j p a.2.1.2,S2 aL k q a.2.2.2,S2 aL m s n] (λx:Unit=>vB (r)) (λx l=>l) (λ_ l=>l):=by
 refine a_.of func183 Z ntmps183 Z λc=>Q4 Z<|Q6 Z<|aA Z<|aA Z<|aA Z<|aB (bL Z) Z<|bT Z<|bT Z<|aB (eQ Z (dH Z) Z Z Z) Z<|aA Z<|dV h λd h=>aB (bR Z Z (DU Z) Z Z d) Z<|aB (nT Z Z Z Z Z) Z<|aB (qI Z (DU Z) Z Z Z BJ d) Z<|fP h λt u h=>aI (zBk Wu (Am U b f g i j p k q m s ((at' a.1.2.2 e).2.1.1) t u) Z (aF.cons (dH Z) (aF.cons (yQ Z) (aF.cons (DU Z) (aF.cons (Dw Z) (aF.cons (CN Z) (aF.cons (Jf Z) (aF.cons (JB Z) (aF.cons (yG (DU Z) BL d.1 d.2) .nil))))))))) Z λv=>oZ Z<|Q5 Z<|aT ?_;cases h;exact mA Z
def oU (a:Unit):V1 (Int):=
 some (-1:Int)
def lP (U:Nat) (a:Kc) (d:bE) (e b:Int) (c:(Int)->V1 (Int)):V1 (Int):=
 if b<(a.1.2.2.length:Int)then(Option.bind (lS U ((((a.2.1.1.1,a.2.1.1.2.1,a.2.1.1.2.2)),((a.2.1.2.1.1,a.2.1.2.1.2)),a.2.1.2.2.1,a.2.1.2.2.2)) d e b) λf=>(if f=true then(some (b))else(c (wI .i64 (b+(1:Int))))))else(oU (()))
def dR (U:Nat) (a:Kc) (b:bE) (c:Int):V1 (Int):=
 bN (lP U a b c) U (0:Int)
theorem Ld:aU prog 140:=call140
theorem pY (U:Nat) {p0:Kc} {p1:bE} {p2:Int} (b:Nat) (v w:V0) (d:Nat) (k m n o:V0) (y:mS) (p:V0) (f:lI) (e:V0) (s:mS) (a:V0) (g:lI) (r:Int) (h:dR U p0 p1 p2=some r):
  a_ prog 140 #[vP b,a,vI (p2)] [bH b [vS (p0.1.1),v,w,vP d,e] 180,Sl aH v p0.1.2.1,Sl aD w p0.1.2.2,bH d [vS (p0.2.1.1.1),k,m,n,o,vI (p0.2.1.2.2.1),p] 225,Sl aH k p0.2.1.1.2.1,Sl aD m p0.2.1.1.2.2,Sl aL n p0.2.1.2.1.1,S2 aY o y p0.2.1.2.1.2,S2 aL p f p0.2.1.2.2.2,S2 aY e s p0.2.2,S2 aL a g p1] (λx:Unit=>vI (r)) (λx l=>l) (λ_ l=>l):=by
 refine a_.of func140 Z ntmps140 Z λc=>?_;unfold dR at h;refine Q4 Z<|aK<|iA (λi=>oU i=some r) (λi t=>[]) (λi t=>[]) ?_ ?_
 .refine Q6 Z<|aB (bL Z) Z<|bT Z<|bT Z<|aB (eQ Z (dH Z) Z Z Z) Z<|kG (DU Z) Z<|aA Z<|aM<|aS<|gC (lP U p0 p1 p2) (λj u=>[(0,vP b),(1,a),(2,vI (p2)),(13,vI (p0.1.2.2.length:Int)),(14,vI (j))]) (λj u=>[]) (0:Int) () h SF (aX.refl _) ?_;intro B j u h;refine aP<|dD Z<|aM<|aK<|eI h Z (λh=>?_) λh=>?_
  .refine cQ<|aK<|aS<|Q6 Z<|Q5 Z<|Q6 Z<|aB (bL Z) Z<|bT Z<|aB (eQ Z (dH Z) Z Z Z) Z<|aA Z<|aA Z<|aA Z<|fP h λz q h=>aI (zBk aee (Fb U d k m n o y p f a g z q) Z (jS [3,4,5,6,7,8,10] Z)) Z λA=>aM<|Ca h Z (λ_ h=>?_) λ_ h=>?_
   .refine Q6 Z<|Q5 Z<|aT<|bW<|aJ<|aJ<|bW<|aJ ?_;cases h;exact mA Z
   exact eP<|m_<|aR<|cU Z<|aA Z<|aM<|BD (wI .i64 (j+(1:Int))) () h SF Z
  exact fO<|j_ () (()) h SF Z
 intro i t h;unfold oU at h;refine Q4 Z<|aT ?_;cases h;exact mA Z
def xJ (d:Int) (a:gO) (b:Int) (c:V4):V1 (Int):=
 if c=true then(some (b))else(if d=(3:Int)then(some (-1:Int))else(if b<a.1 then(some (a.1))else(some (a.2))))
def zG (U:Nat) (c:Int) (a:gO) (b:Int):V1 (Int):=
 if a.1<=b then(xJ c a b (decide (b<=a.2)))else(xJ c a b (false))
theorem aei:aU prog 208:=call208
theorem Ni (U:Nat) {e:Int} {a:gO} {d:Int} (r:Int) (h:zG U e a d=some r):
  a_ prog 208 #[vI (e),Value.agg #[vI (a.1),vI (a.2)],vI (d)] [] (λx:Unit=>vI (r)) (λx l=>l) (λ_ l=>l):=by
 refine a_.of func208 Z ntmps208 Z λc=>aP<|aI (aN.box (cs:=[vI (a.1),vI (a.2)]) Z Z) Z λf=>Q5 Z<|aK<|aS<|aK<|iA (λb=>xJ e a d b=some r) (λb g=>[(0,vI (e)),(2,vI (d)),(4,vP f),(7,vB (b))]) (λb g=>[bH f [vI (a.1),vI (a.2)] 186]) ?_ ?_
 .refine aR<|aA Z<|aB (p_ (i:=0) Z Z Z Z Z Q2) Z ?_;refine dO 0 Z<|aB (CV Z Z) Z<|aA Z<|GN h Z (λ_ h=>?_) λ_ h=>?_
  .refine iP Z<|bA Z (p_ (i:=1) Z Z Z Z Z Q2) Z ?_;exact bA Z (eB 0 Z Z Z Z Z) Z<|bA Z (EM Z Z) Z<|gE Z<|Q5 Z<|j_ (decide (d<=a.2)) () h SF Z
  exact aQ Z<|aQ Z<|aQ Z<|aQ Z<|jD Z<|Q5 Z<|j_ (false) () h SF Z
 intro b g h;refine Ca h Z (λ_ h=>?_) λ_ h=>?_
 .refine Q6 Z<|Q5 Z<|aT<|bW<|aJ ?_;cases h;exact xT Z
 refine Q6 Z<|bZ Z<|Q5 Z<|eI h Z (λh=>?_) λh=>?_
 .refine Q4 Z<|aT<|bW<|aJ ?_;cases h;exact xT Z
 refine Q6 Z<|aB (p_ (i:=0) Z Z Z Z Z Q2) Z ?_;refine dO 0 Z<|dD Z<|Q5 Z<|eI h Z (λh=>?_) λh=>?_
 .refine aP<|aB (p_ (i:=0) Z Z Z Z Z Q2) Z ?_;refine dO 0 Z<|Q5 Z<|aT<|bW<|aJ ?_;cases h;exact xT Z
 refine eP<|m_<|aP<|aB (p_ (i:=1) Z Z Z Z Z Q2) Z ?_;refine dO 0 Z<|Q5 Z<|aT ?_;cases h;exact xT Z
def oT (a:aW):V1 aW:=
 some (a)
def lO (U:Nat) (b:Kc) (h:bE) (d c:Int) (a:Di) (e:(Int×aW)->V1 aW):V1 aW:=
 if a.1<(((at' b.1.2.2 c).2.2.2).length:Int)then(ck (0<=a.1/\a.1<(((at' b.1.2.2 c).2.2.2).length:Int)) (Option.bind (iF U ((((b.2.1.1.1,b.2.1.1.2.1,b.2.1.1.2.2)),((b.2.1.2.1.1,b.2.1.2.1.2)),b.2.1.2.2.1,b.2.1.2.2.2)) h d ((at' ((at' b.1.2.2 c).2.2.2) a.1).2.2)) λf=>(ck (0<=((at' ((at' b.1.2.2 c).2.2.2) a.1).1)/\((at' ((at' b.1.2.2 c).2.2.2) a.1).1)<(b.1.2.1.length:Int)) (ck (0<=d/\d<(b.2.2.length:Int)) (ck (0<=((at' ((at' b.1.2.2 c).2.2.2) a.1).1)/\((at' ((at' b.1.2.2 c).2.2.2) a.1).1)<((at' b.2.2 d).length:Int)) (Option.bind (zG U ((at' b.1.2.1 ((at' ((at' b.1.2.2 c).2.2.2) a.1).1)).2.1) ((((at' (at' b.2.2 d) ((at' ((at' b.1.2.2 c).2.2.2) a.1).1)).1),((at' (at' b.2.2 d) ((at' ((at' b.1.2.2 c).2.2.2) a.1).1)).2))) f) λg=>(ck (0<=((at' ((at' b.1.2.2 c).2.2.2) a.1).1)/\((at' ((at' b.1.2.2 c).2.2.2) a.1).1)<(a.2.length:Int)) (e ((wI .i64 (a.1+(1:Int))),(List.set a.2 (Int.toNat ((at' ((at' b.1.2.2 c).2.2.2) a.1).1)) g))))))))))else(oT (a.2))
def iZ (U:Nat) (d:Kc) (b:bE) (a c:Int):V1 aW:=
 ck (0<=a/\a<(b.length:Int)) (ck ((List.length ([]:aW):Int)+((at' b a).length:Int)<=1099511627) (ck (0<=c/\c<(d.1.2.2.length:Int)) (bN (lO U d b a c) U ((0:Int),(([]:aW)++(at' b a))))))
theorem Wq:aU prog 171:=call171
theorem Bj (U:Nat) {p0:Kc} {p1:bE} {p2 n:Int} (i:Nat) (O P:V0) (j:Nat) (E F G H:V0) (Q:mS) (I:V0) (A:lI) (y:V0) (M:mS) (g:V0) (B:lI) (r:aW) (h:iZ U p0 p1 p2 n=some r):
  a_ prog 171 #[vP i,g,vI (p2),vI (n)] [bH i [vS (p0.1.1),O,P,vP j,y] 180,Sl aH O p0.1.2.1,Sl aD P p0.1.2.2,bH j [vS (p0.2.1.1.1),E,F,G,H,vI (p0.2.1.2.2.1),I] 225,Sl aH E p0.2.1.1.2.1,Sl aD F p0.2.1.1.2.2,Sl aL G p0.2.1.2.1.1,S2 aY H Q p0.2.1.2.1.2,S2 aL I A p0.2.1.2.2.2,S2 aY y M p0.2.2,S2 aL g B p1] (λx:V0=>x) (λx l=>Ar dW x r::l) (λ_ l=>l):=by
 let k:=(at' p0.1.2.2 n)
 refine a_.of func171 Z ntmps171 Z λc=>?_;refine aP<|aC Z<|aM<|aP<|aA Z<|aA Z<|dV h λC h=>aB (cA Z Z (aG.fact 10 Z) Z Z C) Z<|aB (cW Z (aG.fact 10 Z) Z Z C) Z<|cF (fK dW)<|dV h λS h=>aI (fU 0 fG Z Z Z (zBm (aG.fact 10 Z) C.1 C.2) Z Z Z Z S Z) Z λw=>aC Z<|aM<|aK<|iA (λo=>oT o=some r) (λo N=>[(9,w)]) (λo N=>[Ar dW w o]) ?_ ?_
 .refine aP<|aA Z<|aB (bL Z) Z<|bT Z<|bT Z<|aB (eQ Z (dH Z) Z Z Z) Z<|aA Z<|dV h λe h=>aB (bR Z Z (DU Z) Z Z e) Z<|aB (nT Z Z Z Z Z) Z<|aB (qI Z (DU Z) Z Z Z BK e) Z<|aB (iN Z (yG (DU Z) iI e.1 e.2) Z) Z<|aA Z<|aM<|aS<|gC (lO U p0 p1 p2 n) (λa p=>[(0,vP i),(1,g),(2,vI (p2)),(9,w),(26,k.2.2.1),(27,vI ((k.2.2.2).length:Int)),(28,vI (a.1))]) (λa p=>[Ar dW w a.2]) ((0:Int),(([]:aW)++(at' p1 p2))) () h SF (aX.refl _) ?_;intro T a p h;let f:=(at' (k.2.2.2) a.1)
  let v:=(at' (at' p0.2.2 p2) (f.1))
  refine aP<|dD Z<|aM<|aK ?_;refine eI h Z (λh=>?_) λh=>?_
  .refine cQ<|aK<|aS<|aP<|dV h λb h=>aB (bR Z Z (yG (DU Z) iI e.1 e.2) Z Z b) Z<|aB (Uz (cs:=[vI (f.1),f.2.1]) Z (yG (DU Z) iI e.1 e.2) Nw Z Z Z Z b) Z<|aI (aN.alloc (cs:=[vI (0:Int),eV]) Z Z) Z λR=>bG (Know.one ((yG (yG (DU Z) iI e.1 e.2) EL b.1 b.2))) λq=>bQ 0 (vs:=[vI ((at' ((at' p0.1.2.2 n).2.2.2) a.1).1),(at' ((at' p0.1.2.2 n).2.2.2) a.1).2.1]) Z Z (eJ Z (eJ q Z)) Z Z Z<|aM<|aK ?_;refine yP [0,1,3,7,0,0,0,64,255,511] 8 mixedOrders ?_;refine bD Z<|jL Z (bL Z)<|cN Z<|bK Z .nil (nD 0 Z) (eQ Z (dH Z) Z Z Z) aO.z<|bD Z<|bD Z<|cN Z<|gW 0 Z<|bU 8 Z Z<|fP h λD J h=>aI (zBk Wu (Am U j E F G H Q I A g B (f.2.1) D J) Z (aF.cons (Dw Z) (aF.cons (CN Z) (aF.cons (Jf Z) (aF.cons (JB Z) (aF.cons (GT Z) (aF.cons (WY Z) (aF.cons (aG.fact 10 Z) (aF.cons (yG (yG (DU Z) iI e.1 e.2) EL b.1 b.2) .nil))))))))) Z λV=>aC Z<|aM ?_;refine yP [0,0,2,0,8,24,56,120,0,256,1016,2040,4088,0,8192,24576,57344,0,253952,516096,0,1048576,4186112,8380416,0,33554424,67108863,134217727] 26 mixedOrders ?_;refine bD Z<|cN Z<|gW 0 Z<|bD Z<|jL Z (bL Z)<|cN Z<|cN Z<|bK Z .nil (nD 0 Z) (eQ Z (dH Z) Z Z Z) aO.z<|cN Z<|gW 0 Z<|dV h λs h=>bK Z .nil (nD 1 Z) (bR Z Z (dH Z) Z Z s) aO.z<|jL Z (nT Z Z Z Z Z)<|bK Z .nil (nD 1 Z) (qI Z (dH Z) Z Z Z Al s) aO.z<|bD Z<|jL Z (bL Z)<|cN Z<|bK Z .nil (nD 0 Z) (eQ Z (dH Z) Z Z Z) aO.z<|bD Z<|dV h λd h=>bK Z .nil (nD 9 Z) (cA Z Z (dH Z) Z Z d) aO.z<|bK Z .nil (nD 9 Z) (cW Z (dH Z) Z Z d) aO.z<|cN Z<|gW 0 Z<|dV h λt h=>bK Z .nil (nD 9 Z) (bR Z Z (zBm (dH Z) d.1 d.2) Z Z t) aO.z<|bK Z .nil (nD 9 Z) (gT (cs:=[vI (v.1),vI (v.2)]) Z (zBm (dH Z) d.1 d.2) bX Z Z Z Z t) aO.z<|bD Z<|fP h λm K h=>zBl Z Z Z (zBk aei (Ni U m K) Z .nil) Z (λL=>(pB [([0],[])] Z)) λL=>bU 26 Z Z<|dV h λu h=>aB (bR Z Z (bP (aG.res 1 Z) fG) Z Z u) Z<|Fg 1 m u Z Z Z Z Z Z Z<|eW<|m_<|aR<|cU Z<|aA Z<|aM ?_;exact iH ((wI .i64 (a.1+(1:Int))),(List.set a.2 (Int.toNat (f.1)) m)) () h SF (aX.ix [1] Z Z) (aF.refl _ _)
  refine fO ?_;exact j_ (a.2) () h SF Z
 intro o N h;unfold oT at h;refine aP<|aA Z<|aC Z<|aM<|aT ?_;cases h;exact fD (w) Z Z (RV.tmp Z) (aX.refl _) aF.nil
def oV (a:bE):V1 bE:=
 some (a)
def lQ (b:Dj) (a:(Int×bE)->V1 bE) (c:bE):V1 bE:=
 a ((wI .i64 (b.1+(1:Int))),c)
def jU (U:Nat) (b:Kc) (d:bE) (g:Int) (a:Dj) (c:(Int×bE)->V1 bE):V1 bE:=
 if a.1<(d.length:Int)then(ck (0<=a.1) (if(fF .u32 (rW .u32 g a.1) (1:Int))=(1:Int)then(Option.bind (dR U ((((b.1.1,b.1.2.1,b.1.2.2)),((((b.2.1.1.1,b.2.1.1.2.1,b.2.1.1.2.2)),((b.2.1.2.1.1,b.2.1.2.1.2)),b.2.1.2.2.1,b.2.1.2.2.2)),b.2.2)) d a.1) λe=>(Option.bind (iZ U ((((b.1.1,b.1.2.1,b.1.2.2)),((((b.2.1.1.1,b.2.1.1.2.1,b.2.1.1.2.2)),((b.2.1.2.1.1,b.2.1.2.1.2)),b.2.1.2.2.1,b.2.1.2.2.2)),b.2.2)) d a.1 e) λf=>(ck (0<=a.1/\a.1<(a.2.length:Int)) (lQ a c (List.set a.2 (Int.toNat a.1) f)))))else(lQ a c (a.2))))else(oV (a.2))
def kP (U:Nat) (b:Kc) (a:bE) (c:Int):V1 bE:=
 Option.bind (mF U a) λd=>(bN (jU U b a c) U ((0:Int),d))
theorem aec:aU prog 177:=call177
theorem FP (U:Nat) {e:Kc} {v:bE} {w:Int} (g:Nat) (D E:V0) (o:Nat) (F G H I:V0) (Q:mS) (J:V0) (t:lI) (p:V0) (u:mS) (d:V0) (q:lI) (r:bE) (h:kP U e v w=some r):
  a_ prog 177 #[vP g,d,vU (w)] [bH g [vS (e.1.1),D,E,vP o,p] 180,Sl aH D e.1.2.1,Sl aD E e.1.2.2,bH o [vS (e.2.1.1.1),F,G,H,I,vI (e.2.1.2.2.1),J] 225,Sl aH F e.2.1.1.2.1,Sl aD G e.2.1.1.2.2,Sl aL H e.2.1.2.1.1,S2 aY I Q e.2.1.2.1.2,S2 aL J t e.2.1.2.2.2,S2 aY p u e.2.2,S2 aL d q v] (λx:Hp=>x.1) (λx l=>Ar bI.raw x.1 x.2::fE dW x.2 r::l) (λ_ l=>l):=by
 refine a_.of func177 Z ntmps177 Z λc=>?_;refine aP<|aC Z<|aM<|aP<|aA Z<|fP h λR S h=>aI (zBk Ij (xC U d q R S) Z (jS [10] Z)) Z λs=>aC Z<|aM<|aK<|Ez (B:=e_) (λy=>oV y=some r) (λy z=>[(7,s.1)]) (λy z=>[Ar bI.raw s.1 z,fE dW z y]) ?_ ?_
 .refine aP<|aA Z<|aB (fN Z (aG.fact 10 Z) Z) Z<|aA Z<|aM<|aS<|gC (B:=e_) (jU U e v w) (λa b=>[(0,vP g),(1,d),(2,vU (w)),(7,s.1),(12,vI (v.length:Int)),(13,vI (a.1))]) (λa b=>[Ar bI.raw s.1 b,fE dW b a.2]) ((0:Int),R) (s.2) h SF (aX.refl _) ?_;intro L a b h;refine aP<|dD Z<|aM<|aK ?_;refine eI h Z (λh=>?_) λh=>?_
  .refine cQ<|aK<|Ez (B:=e_) (λf=>lQ a (bN (jU U e v w) L) f=some r) (λf m=>[(0,vP g),(1,d),(2,vU (w)),(7,s.1),(12,vI (v.length:Int)),(13,vI (a.1))]) (λf m=>[Ar bI.raw s.1 m,fE dW m f]) ?_ ?_
   .refine aS<|aP<|aA Z<|aC Z<|aM<|aP<|aA Z<|aA Z<|dV h λK h=>aB (N_ Z Z K) Z<|BG Z<|bZ Z<|aM ?_;refine eI h Z (λh=>?_) λh=>?_
    .refine aR<|aA Z<|aA Z<|aA Z<|aA Z<|aA Z<|aA Z<|aA Z<|aA Z<|fP h λM N h=>aI (zBk Ld (pY U g D E o F G H I Q J t p u d q M N) Z (jS [0,1,2,3,4,5,6,7,8,9,10] Z)) Z λT=>fP h λC O h=>aI (zBk Wq (Bj U g D E o F G H I Q J t p u d q C O) Z (jS [0,1,2,3,4,5,6,7,8,9,10] Z)) Z λP=>dV h λn h=>aB (cA Z Z (cC (i:=1) (j:=2) Z Z fG) Z Z n) Z<|bG (Know.one ((bP (aG.res 0 Z) fG))) λA=>cF (Aw (k:=a.1) 2 0 Z Z Z n) ?_;refine tU 0 1 ⟨n.1,by first|exact n.2|simpa using n.2⟩ Z Z Z Z Z (by simp) A Z ?_;refine eW<|m_ ?_;exact j_ (List.set a.2 (Int.toNat a.1) C) (List.set b (Int.toNat a.1) P) h SF Z
    refine eP<|m_ ?_;exact j_ (a.2) (b) h SF Z
   intro f m h;unfold lQ at h;refine aR<|cU Z<|aA Z<|aM ?_;exact BD ((wI .i64 (a.1+(1:Int))),f) (m) h SF Z
  refine fO ?_;exact j_ (a.2) (b) h SF Z
 intro y z h;unfold oV at h;refine aP<|aA Z<|aC Z<|aM<|aT ?_;cases h;exact fD (s.1,z) Z Z (RV.tmp Z) (aX.refl _) aF.nil
def AW (a:Int):V1 (Int):=
 some (a)
def xB (c:gO) (b:jF->V1 (Int)) (a:Int):V1 (Int):=
 b (a,(wI .i64 (c.2+(1:Int))))
def tA (e:Int) (d:Int->V1 V4) (a:gO) (b:jF->V1 (Int)):V1 (Int):=
 if a.2<e then(Option.bind (d a.2) λc=>(if c=true then(ck (0<=a.2) (xB a b (Nz .u32 a.1 (Dq .u32 (1:Int) a.2))))else(xB a b (a.1))))else(AW (a.1))
def BR (U:Nat) (b:Int) (a:Int->V1 V4):V1 (Int):=
 bN (tA b a) U ((0:Int),(0:Int))
theorem aej:aU prog 209:=call209
theorem QV (U:Nat) {j:Int} {o:Int->V1 V4} (n:FuncId) (d:e_) (k:V6 aZ) (f:aU prog n) (g:∀(v:Int) (r:V4),o v=some r->a_ prog n ([vI (v)]++d).toArray k (λ_:Unit=>vB (r)) (λ_ l=>l) (λ_ l=>l)) (r:Int) (h:BR U j o=some r):
  a_ prog 209 #[vI (j),Value.func (.func n) #[] (d).toArray] ([]++k) (λx:Unit=>vU (r)) (λx l=>l) (λ_ l=>l):=by
 let m:=Value.func (.func n) #[] (d).toArray;refine a_.of func209 Z ntmps209 Z λc=>?_;unfold BR at h;refine Q4 Z<|Q4 Z<|aK<|lT (B:=Unit) (λi=>AW i=some r) (λi p=>[(5,vU (i))]) (λi p=>[]) (λi p=>([]++k)) ?_ ?_
 .refine Q6 Z<|aA Z<|aM<|aS<|pN (B:=Unit) (tA j o) (λb q=>[(1,m),(5,vU (b.1)),(7,vI (j)),(8,vI (b.2))]) (λb q=>[]) (λb q=>([]++k)) ((0:Int),(0:Int)) () h SF (aX.refl _) (aF.refl _ _) ?_;intro w b q h;refine aP<|dD Z<|aM<|aK<|eI h Z (λh=>?_) λh=>?_
  .refine cQ<|aK<|lT (B:=Unit) (λa=>xB b (bN (tA j o) w) a=some r) (λa e=>[(1,m),(5,vU (a)),(7,vI (j)),(8,vI (b.2))]) (λa e=>[]) (λa e=>([]++k)) ?_ ?_
   .refine aS<|Q6 Z<|Q5 Z<|Q6 Z<|aA Z<|fP h λt u h=>aI (nN (vs:=[vI (b.2)]) (cs:=d) f Z (g b.2 t u) Z (aF.tail _) (λ_ _=>rfl)) Z λy=>aM<|Ca h Z (λ_ h=>?_) λ_ h=>?_
    .exact aR<|aA Z<|aA Z<|dV h λs h=>aB (NZ Z Z s) Z<|aB (ZP Z Z) Z<|aC Z<|eW<|m_<|j_ (Nz .u32 b.1 (Dq .u32 (1:Int) b.2)) () h SF Z
    exact eP<|m_<|j_ (b.1) () h SF Z
   intro a e h;unfold xB at h;exact aR<|cU Z<|aA Z<|aM<|BD (a,(wI .i64 (b.2+(1:Int)))) () h SF Z
  exact fO<|j_ (b.1) () h SF Z
 intro i p h;unfold AW at h;refine Q6 Z<|Q5 Z<|aT ?_;cases h;exact mA Z
def lL (U:Nat) (b:Int) (a:Kc) (c:bE):V1 V4:=
 Option.bind (dR U ((((a.1.1,a.1.2.1,a.1.2.2)),((((a.2.1.1.1,a.2.1.1.2.1,a.2.1.1.2.2)),((a.2.1.2.1.1,a.2.1.2.1.2)),a.2.1.2.2.1,a.2.1.2.2.2)),a.2.2)) c b) λd=>(some (decide ((0:Int)<=d)))
theorem aek:aU prog 210:=call210
theorem CQ (U:Nat) {v:Int} {a:Kc} {w:bE} (j d:Nat) (o p:V0) (e:Nat) (q s t u:V0) (y:mS) (f:V0) (k:lI) (g:V0) (m:mS) (b:Nat) (i:V0) (n:lI) (r:V4) (h:lL U v a w=some r):
  a_ prog 210 #[vI (v),vP j,vP b] [bH j [vP d] 82,bH d [vS (a.1.1),o,p,vP e,g] 180,Sl aH o a.1.2.1,Sl aD p a.1.2.2,bH e [vS (a.2.1.1.1),q,s,t,u,vI (a.2.1.2.2.1),f] 225,Sl aH q a.2.1.1.2.1,Sl aD s a.2.1.1.2.2,Sl aL t a.2.1.2.1.1,S2 aY u y a.2.1.2.1.2,S2 aL f k a.2.1.2.2.2,S2 aY g m a.2.2,bH b [i] 36,S2 aL i n w] (λx:Unit=>vB (r)) (λx l=>l) (λ_ l=>l):=by
 refine a_.of func210 Z ntmps210 Z λc=>Q4 Z<|aP<|aB (eQ Z (dH Z) Z Z Z) Z<|aB (eQ Z (aG.fact 11 Z) Z Z Z) Z<|aA Z<|fP h λz A h=>aI (zBk Ld (pY U d o p e q s t u y f k g m i n z A) Z (jS [1,2,3,4,5,6,7,8,9,10,12] Z)) Z λB=>aB (CV Z Z) Z<|Q5 Z<|aT ?_;cases h;exact mA Z
def fL (U:Nat) (a:Kc) (b:bE):V1 (Int):=
 Option.bind (BR U (a.2.2.length:Int) (λd=>lL U d ((((a.1.1,a.1.2.1,a.1.2.2)),((((a.2.1.1.1,a.2.1.1.2.1,a.2.1.1.2.2)),((a.2.1.2.1.1,a.2.1.2.1.2)),a.2.1.2.2.1,a.2.1.2.2.2)),a.2.2)) b)) λc=>(some (c))
theorem Wr:aU prog 174:=call174
theorem yT (U:Nat) {a:Kc} {w:bE} (b:Nat) (k m:V0) (e:Nat) (n o p q:V0) (y:mS) (s:V0) (g:lI) (f:V0) (i:mS) (d:V0) (j:lI) (r:Int) (h:fL U a w=some r):
  a_ prog 174 #[vP b,d] [bH b [vS (a.1.1),k,m,vP e,f] 180,Sl aH k a.1.2.1,Sl aD m a.1.2.2,bH e [vS (a.2.1.1.1),n,o,p,q,vI (a.2.1.2.2.1),s] 225,Sl aH n a.2.1.1.2.1,Sl aD o a.2.1.1.2.2,Sl aL p a.2.1.2.1.1,S2 aY q y a.2.1.2.1.2,S2 aL s g a.2.1.2.2.2,S2 aY f i a.2.2,S2 aL d j w] (λx:Unit=>vU (r)) (λx l=>l) (λ_ l=>l):=by
 refine a_.of func174 Z ntmps174 Z λc=>aP<|aI (aN.box (cs:=[vP b]) Z Z) Z λt=>bG (AA (aG.fact 10 Z)) λv=>aI (aN.box (cs:=[d]) Z (by rw[f_ v])) Z λu=>?_;refine Q5 Z<|aP<|dO 1 Z<|aB (bL Z) Z<|bT Z<|aB (eQ Z (dH Z) Z Z Z) Z<|aB (fN Z (Vk Z) Z) Z<|aB (uB (cs:=[.tmp 2,.tmp 3]) (vs:=[vP t,vP u]) Z) Z<|fP h λz A h=>aI (zBk aej (QV U 210 [vP t,vP u] [bH t [vP b] 82,bH b [vS (a.1.1),k,m,vP e,f] 180,Sl aH k a.1.2.1,Sl aD m a.1.2.2,bH e [vS (a.2.1.1.1),n,o,p,q,vI (a.2.1.2.2.1),s] 225,Sl aH n a.2.1.1.2.1,Sl aD o a.2.1.1.2.2,Sl aL p a.2.1.2.1.1,S2 aY q y a.2.1.2.1.2,S2 aL s g a.2.1.2.2.2,S2 aY f i a.2.2,bH u [d] 36,S2 aL d j w] aek (λC r h=>CQ U t b k m e n o p q y s g f i u d j r h) z A) Z (aF.cons (aG.res 1 Z) (aF.cons (dH Z) (aF.cons (yQ Z) (aF.cons (DU Z) (aF.cons (Dw Z) (aF.cons (CN Z) (aF.cons (Jf Z) (aF.cons (JB Z) (aF.cons (GT Z) (aF.cons (WY Z) (aF.cons (Vk Z) (aF.cons (aG.res 0 Z) (jS [10] Z)))))))))))))) Z λB=>Q5 Z<|aT ?_;cases h;exact xT Z
end Go.Proofs.YtgciopekomcbfaaGreatDoor
namespace Go.Proofs.YtgciopekomcbfaaGreatDoor
open Go Go.Sx
abbrev RL:=E×V6 (Nat×E)
abbrev Bq:=tC×GR×Int×bE
def Dr (R:V6 RL):OT:=R.map λr=>(r.1.ts,r.2.map λs=>((s.1:Int),s.2.ts))
def On (a:Nat) (e:E):V4:=e.wf a false&&decide (e.depth<=100)&&decide (e.ts.length<=800)
def oP (a:Nat) (R:V6 RL):V4:=decide (R.length<=20)&&R.all λr=>On a r.1&&decide (r.2.length<=20)&&r.2.all λs=>decide (s.1<a)&&On a s.2
instance:Inhabited E:=⟨.lf 1 0⟩
def Ma (g:GR) (v i:Nat):Int:=AC (row g (iU (row g v) i).1.toNat) (v:Int)
def fH (g:GR):bE:=(List.range g.2.length).map λv=>(List.range (row g v).length).map (Ma g v)
def fV (S:Bq) (c:bE) (v:Nat) (e:E):Int:=e.den (KL (S,c,(v:Int),[])) (row S.2.1 v).length (-1)
def jH (S:Bq) (R:V6 RL) (c:bE) (v:Nat):Int:=jP (R.map λr=>fV S c v r.1)
def qR (a:Int) (b:gO) (x:Int):Int:=if b.1<=x/\x<=b.2 then x else if a=3 then -1 else if x<b.1 then b.1 else b.2
def QG (S:Bq) (a:V6 xF) (c:bE) (v:Nat) (b:aW) (s:Nat×E):aW:=b.set s.1 (qR (at' a (s.1:Int)).2.1 (pT S.2.1 a v s.1) (fV S c v s.2))
def zM (S:Bq) (a:V6 xF) (R:V6 RL) (c:bE) (v:Nat) (i:Int):aW:=(at' R i).2.foldl (QG S a c v) (at' c (v:Int))
def KI (S:Bq) (R:V6 RL) (c:bE):Nat:=tI (λv=>decide (0<=jH S R c v)) S.2.1.2.length
def jR (S:Bq) (a:V6 xF) (R:V6 RL) (c:bE) (t:Nat):bE:=(List.range c.length).map λv=>if t.testBit v=true then zM S a R c v (jH S R c v)else at' c (v:Int)
structure yI (g:GR) (nv:Nat) (c:bE):Prop where
 len:c.length=g.2.length
 row:∀v:Nat,v<g.2.length->(at' c (v:Int)).length=nv
theorem CM.shape {g:GR} {c:bE} {a:V6 xF} (h:CM g c a):yI g a.length c:=⟨h.len,h.row⟩
section
variable {S:Bq} {nv:Nat} {c:V6 (V6 Int)} {v:Nat}
theorem wok (b:S.2.2.2=fH S.2.1) (d:VG S.2.1) (e:yI S.2.1 nv c) (h:v<S.2.1.2.length) (j:V6 (Int×Int)):WOk (S,c,(v:Int),j) nv S.2.1.2.length v:=by
 refine⟨rfl,h,rfl,d.len,e.len,e.row,λu a i g=> ?_,by show S.2.2.2.length=_;rw[b];simp[fH],λu a=>by
  show(at' S.2.2.2 (u:Int)).length=_;rw[b,fH,wV _ a,List.length_map,List.length_range]⟩
 obtain⟨w,k,f⟩:=d.to a g;show 0<=(iU (row S.2.1 u) i).1/\(iU (row S.2.1 u) i).1<_;rw[f];omega
theorem TV (i:S.2.2.2=fH S.2.1) (a:VG S.2.1) (j:yI S.2.1 nv c) (f:v<S.2.1.2.length) {e:E} (b:On nv e=true):iF 1000 S c (v:Int) e.ts=some (fV S c v e):=by
 simp only[On,zA4,zA1]at b;have g:=a.n24;have d:=(a.node v f).deg;unfold iF;have:=ade (wok i a j f e.ts) (deg:=(row S.2.1 v).length) Z V7 b.2 e false 1000 0 (-1) [] [] V8 Z b.1.1 (λh=>by cases h) V7;rw[bF (show cB 1000 _ (0:Int) (-1)=_ from this)];rfl
end
section
variable {p:tC} {g:GR} {gr:Int} {R:V6 RL} {nv:Nat} {c:V6 (V6 Int)} {v:Nat}
theorem IE (a:p.2.2.map tO=Dr R):p.2.2.length=R.length:=by simpa [Dr]using congrArg List.length a
theorem Xi (b:p.2.2.map tO=Dr R) {i:Nat} (a:i<R.length):tO (at' p.2.2 (i:Int))=((at' R (i:Int)).1.ts,(at' R (i:Int)).2.map λs=>((s.1:Int),s.2.ts)):=by
 have d:=IE b;have:=congrArg (λq=>q[i]?) b;simp only[Dr,List.getElem?_map,zA0 a,zA0 (show i<p.2.2.length by omega),Option.map_some,Option.some.injEq]at this;rw[gK a,gK (show i<p.2.2.length by omega)];exact this
theorem QC (a:oP nv R=true) {i:Nat} (b:i<R.length):On nv (at' R (i:Int)).1=true/\(at' R (i:Int)).2.length<=20/\∀s∈(at' R (i:Int)).2,s.1<nv/\On nv s.2=true:=by
 simp only[oP,zA4,zA7,zA1]at a;have:=a.2 (at' R (i:Int)) (by rw[gK b];exact List.getElem_mem b);exact⟨this.1.1,this.1.2,λs d=>this.2 s d⟩
theorem afB (a:oP nv R=true):R.length<=20:=by
 simp only[oP,zA4,zA1]at a;exact a.1
theorem aba (f:VG g) (h:yI g nv c) (j:v<g.2.length) (b:p.2.2.map tO=Dr R) (d:oP nv R=true) {i:Nat} (a:i<R.length):lS 1000 (p,g,gr,fH g) c (v:Int) (i:Int)=some (nz (fV (p,g,gr,fH g) c v (at' R (i:Int)).1)):=by
 have k:=IE b;have e:(at' p.2.2 (i:Int)).2.1.2=(at' R (i:Int)).1.ts:=congrArg Prod.fst (Xi b a);unfold lS;dsimp only;rw[Q7,e];rw[bF (show iF 1000 _ c (v:Int) _=_ from TV (S:=(p,g,gr,fH g)) Z f h j (QC d a).1)];rfl
theorem Lt (z:VG g) (A:yI g nv c) (C:v<g.2.length) (w:p.2.2.map tO=Dr R) (s:oP nv R=true) (h:V6 (V6 (Int×Int))):dR 1000 (p,(p,g,gr,fH g),h) c (v:Int)=some (jH (p,g,gr,fH g) R c v):=by
 have E:=IE w;have y:=afB s;let l:=R.map λr=>fV (p,g,gr,fH g) c v r.1;have B:l.length=R.length:=by simp[l]
 have o:∀i,i<R.length->at' l (i:Int)=fV (p,g,gr,fH g) c v (at' R (i:Int)).1:=λi t=>by
  rw[gK V7,gK t];simp[l]
 have b:∀(k:Nat) a,k<R.length->lP 1000 (p,(p,g,gr,fH g),h) c (v:Int) (k:Int) a=if nz (at' l (k:Int))=true then some (k:Int)else a (((k+1:Nat):Int)):=by
  intro k a d;unfold lP;dsimp only;rw[Q3,bF (show lS 1000 _ c (v:Int) (k:Int)=_ from aba z A C w s d),o k d,Q8]
 unfold dR jH;by_cases f:∃i,i<R.length/\at' l (i:Int)≠0
 .obtain⟨i,t,x⟩:=f;obtain⟨m,D,q,n⟩:=least (p:=λi=>at' l (i:Int)≠0) i x;have n:∀j,j<m->at' l (j:Int)=0:=λj u=>zAw.1 (n j u);rw[show jP _=(m:Int)from C_ (l:=l) V7 q n];exact dZ (K:=some (m:Int)) m (λk=>(k:Int)) (λk a d=>by rw[b k a V7,if_neg (by simp[nz,n k d])]) (λa=>by rw[b m a V7,if_pos (by simpa [nz]using q)]) 1000 V7
 .have f:∀j,j<l.length->at' l (j:Int)=0:=λj u=>zAw.1 λe=>f ⟨j,V7,e⟩;rw[show jP _=(-1:Int)from Bc (l:=l) f];exact dZ (K:=some (-1)) R.length (λk=>(k:Int)) (λk a d=>by rw[b k a d,if_neg (by simp[nz,f k V7])]) (λa=>by
   unfold lP oU;dsimp only;rw[Q0]) 1000 V7
theorem Cu (S:Bq) (R:V6 RL) (c:V6 (V6 Int)) (v:Nat):jH S R c v = -1\/∃i:Nat,jH S R c v=(i:Int)/\i<R.length/\fV S c v (at' R (i:Int)).1≠0:=by
 let l:=R.map λr=>fV S c v r.1;by_cases h:∃i,i<l.length/\at' l (i:Int)≠0
 .obtain⟨i,n,k⟩:=h;obtain⟨m,o,f,a⟩:=least (p:=λi=>at' l (i:Int)≠0) i k;have a:∀j,j<m->at' l (j:Int)=0:=λj b=>zAw.1 (a j b);have d:m<R.length:=by simp[l]at n;omega
  refine .inr ⟨m,C_ (l:=l) V7 f a,d,?_⟩;have:at' l (m:Int)=fV S c v (at' R (m:Int)).1:=by rw[gK (by simpa [l]using d),gK d];simp[l]
  rw[<-this];exact f
 .exact .inl (Bc (l:=l) λj b=>zAw.1 λe=>h ⟨j,b,e⟩)
theorem Nb {S:Bq} {R:V6 RL} {c:V6 (V6 Int)} {v:Nat}:jH S R c v = -1↔∀i:Nat,i<R.length->fV S c v (at' R (i:Int)).1=0:=by
 let l:=R.map λr=>fV S c v r.1;have a:∀i,i<R.length->at' l (i:Int)=fV S c v (at' R (i:Int)).1:=λi b=>by rw[gK (by simpa [l]using b),gK b];simp[l]
 constructor
 .intro h i b;refine zAw.1 λe=> ?_;obtain⟨m,n,k,f⟩:=least (p:=λi=>at' l (i:Int)≠0) i (by rw[a i b];exact e);have f:∀j,j<m->at' l (j:Int)=0:=λj d=>zAw.1 (f j d);have:jH S R c v=(m:Int):=C_ (l:=l) (by simp[l];omega) k f;omega
 .intro h;exact Bc (l:=l) λj d=>by rw[a j (by simpa [l]using d)];exact h j (by simpa [l]using d)
theorem UO (hV:VG g) (hc:yI g nv c) (hz:p.2.2.map tO=Dr R) (hR:oP nv R=true) {tab:List (List (Int×Int))} (ht:tab.length=g.2.length):fL 1000 (p,(p,g,gr,fH g),tab) c=some ((KI (p,g,gr,fH g) R c:Nat):Int):=by
 have h24:=hV.n24;unfold fL BR;let q:Nat->Bool:=λv=>decide (0<=jH (p,g,gr,fH g) R c v);have:=dZ (step:=tA (tab.length:Int) (λy0=>lL 1000 y0 (p,(p,g,gr,fH g),tab) c)) (K:=some ((tI q g.2.length:Nat):Int)) g.2.length (λk=>(((tI q k:Nat):Int),(k:Int))) (λk ag hk=>by
  have hm:=Qq q (k:=k) (by omega);unfold tA xB lL;dsimp only;rw[if_pos (by omega),bF (show Option.bind (dR 1000 _ c (k:Int)) _=some (q k) by rw[bF (show dR 1000 _ c (k:Int)=_ from Lt hV hc hk hz hR tab)]),dC (by omega)];cases hq:q k with
  |true=>
   rw[if_pos Z,cR (by omega),L_ hm (by omega)];simp only[tI,hq,if_true]
  |false=>
   rw[if_neg (by decide)];simp only[tI,hq];rfl) (λag=>by
  unfold tA AW;dsimp only;rw[if_neg (by omega)]) 1000 (by omega)
 rw[bF (show bN _ 1000 ((0:Int),(0:Int))=_ from this)];rfl
end
theorem aap (f:Nat) (k:Int) (b:gO) (x:Int):zG f k b x=some (qR k b x):=by
 unfold zG xJ qR;by_cases a:b.1<=x
 .by_cases c:x<=b.2
  .simp only[a,c,and_self,if_true,decide_true]
  .simp only[a,c,and_false,if_true,if_false,decide_false,Bool.false_eq_true];split
   .rfl
   .split<;>rfl
 .simp only[a,false_and,if_false,Bool.false_eq_true];split
  .rfl
  .split<;>rfl
theorem Tz {S:Bq} {a:V6 xF} {c:bE} {v:Nat} (l:V6 (Nat×E)) (b:aW):(l.foldl (QG S a c v) b).length=b.length:=by
 induction l generalizing b with
 |nil=>rfl
 |cons s l d=>rw[List.foldl_cons,d];simp[QG]
theorem YD {S:Bq} {a:V6 xF} {R:V6 RL} {c:bE} {v:Nat} {i:Int}:(zM S a R c v i).length=(at' c (v:Int)).length:=Tz _ _
section
variable {p:tC} {g:GR} {gr:Int} {R:V6 RL} {c:V6 (V6 Int)} {v:Nat}
theorem Xb (A:VG g) (J:lV g p.2.1) (o:yI g p.2.1.length c) (x:v<g.2.length) (E:p.2.2.map tO=Dr R) (H:oP p.2.1.length R=true) {i:Nat} (B:i<R.length):
  iZ 1000 (p,(p,g,gr,fH g),tP g p.2.1) c (v:Int) (i:Int)=some (zM (p,g,gr,fH g) p.2.1 R c v (i:Int)):=by
 have G:=A.n24;have I:=o.len;have l:=o.row v x;have N:=J.len;have O:=IE E;have r:=Xi E B;obtain⟨-,m,d⟩:=QC H B;have D:(tP g p.2.1).length=g.2.length:=by simp[tP]
 have w:at' (tP g p.2.1) (v:Int)=CP g p.2.1 v:=wV _ x;have L:(CP g p.2.1 v).length=p.2.1.length:=by simp[CP]
 have y:(at' p.2.2 (i:Int)).2.2.2.map (λs=>(s.1,s.2.2))=(at' R (i:Int)).2.map λs=>((s.1:Int),s.2.ts):=congrArg Prod.snd r;have n:(at' p.2.2 (i:Int)).2.2.2.length=(at' R (i:Int)).2.length:=by simpa using congrArg List.length y
 unfold iZ;dsimp only;rw[Q7,cR Q1,Q7,List.nil_append];unfold zM;let a:=(at' R (i:Int)).2;have:=dZ (step:=lO 1000 (p,(p,g,gr,fH g),tP g p.2.1) c (v:Int) (i:Int)) (K:=some (a.foldl (QG (p,g,gr,fH g) p.2.1 c v) (at' c (v:Int)))) a.length (λk=>((k:Int),(a.take k).foldl (QG (p,g,gr,fH g) p.2.1 c v) (at' c (v:Int)))) (λk F e=>by
  have j:k<(at' p.2.2 (i:Int)).2.2.2.length:=by rw[n];exact e
  have z:((at' (at' p.2.2 (i:Int)).2.2.2 (k:Int)).1,(at' (at' p.2.2 (i:Int)).2.2.2 (k:Int)).2.2)=(((at' a (k:Int)).1:Int),(at' a (k:Int)).2.ts):=by
   have:=congrArg (λq=>q[k]?) y;simp only[List.getElem?_map,zA0 j,zA0 (show k<(at' R (i:Int)).2.length from e),Option.map_some,Option.some.injEq]at this;rw[gK j,gK e];exact this
  have f:=congrArg Prod.fst z;have h:=congrArg Prod.snd z;dsimp only at f h;obtain⟨t,u⟩:=d (at' a (k:Int)) (by rw[gK e];exact List.getElem_mem e);have C:((a.take k).foldl (QG (p,g,gr,fH g) p.2.1 c v) (at' c (v:Int))).length=p.2.1.length:=by rw[Tz,l]
  have b:at' (CP g p.2.1 v) ((at' a (k:Int)).1:Int)=pT g p.2.1 v (at' a (k:Int)).1:=wV _ t;have M:a.length<=20:=m;unfold lO;dsimp only;rw[Q3,Q7,f,h,bF (show iF 1000 _ c (v:Int) _=_ from TV (S:=(p,g,gr,fH g)) Z A o x u),Q7,Q7,w,Q7,b,bF (aap 1000 _ _ _),Q7,Q8,zAf,vO e,List.foldl_append];rfl) (λF=>by
  unfold lO oT;dsimp only;rw[if_neg (by show¬(a.length:Int)<_;rw[n];exact Int.lt_irrefl _),List.take_length]) 1000 (by show(at' R (i:Int)).2.length<1000;omega)
 exact this
theorem afI (m:VG g) (s:lV g p.2.1) (l:yI g p.2.1.length c) (u:p.2.2.map tO=Dr R) (o:oP p.2.1.length R=true) {t:Nat} (b:t<4294967296) (B:∀v,t.testBit v=true->0<=jH (p,g,gr,fH g) R c v):
  kP 1000 (p,(p,g,gr,fH g),tP g p.2.1) c (t:Int)=some (jR (p,g,gr,fH g) p.2.1 R c t):=by
 have x:=m.n24;have z:=l.len;have C:=s.len;unfold kP;rw[bF (Le c V7 (λv D=>by rw[l.row v V7];omega))];let f:Nat->V6 Int:=λv=>if t.testBit v=true then zM (p,g,gr,fH g) p.2.1 R c v (jH (p,g,gr,fH g) R c v)else at' c (v:Int);let Q:Nat->V6 (V6 Int):=λk=>(List.range k).map f++c.drop k;have y:∀k,k<=c.length->(Q k).length=c.length:=λk a=>by simp[Q];omega
 have j:∀k,k<c.length->(Q k).set k (f k)=Q (k+1):=λk a=>by
  show((List.range k).map f++c.drop k).set k (f k)=(List.range (k+1)).map f++c.drop (k+1);rw[List.set_append_right _ _ V8,List.length_map,List.length_range,Nat.sub_self,List.drop_eq_getElem_cons a,List.set_cons_zero,List.range_succ,List.map_append,List.map_singleton,zB6];rfl
 have d:∀k,k<c.length->f k=at' c (k:Int)->Q k=Q (k+1):=λk a A=>by
  show(List.range k).map f++c.drop k=(List.range (k+1)).map f++c.drop (k+1);rw[List.range_succ,List.drop_eq_getElem_cons a,List.map_append,List.map_singleton,A,gK a];simp
 rw[show c=Q 0 by simp[Q]];refine dZ (step:=jU 1000 (p,(p,g,gr,fH g),tP g p.2.1) (Q 0) (t:Int)) (K:=some (jR (p,g,gr,fH g) p.2.1 R (Q 0) t)) c.length (λk=>((k:Int),Q k)) (λk w a=> ?_) (λw=> ?_) 1000 V7
 .rw[show Q 0=c by simp[Q]];unfold jU lQ;dsimp only;rw[Q3,Q7,Q8];by_cases h:t.testBit k=true
  .obtain⟨i,r,n,_⟩:=(Cu (p,g,gr,fH g) R c k).resolve_left (λe=>by have:=B k h;omega);rw[if_pos ((abb V7 b).2 h),bF (show dR 1000 _ c (k:Int)=_ from Lt m l V7 u o _),r,bF (show iZ 1000 _ c (k:Int) (i:Int)=_ from Xb m s l V7 u o n),cR (by rw[y k V7];omega),zAf];have:zM (p,g,gr,fH g) p.2.1 R c k (i:Int)=f k:=by simp only[f];rw[if_pos h,r]
   rw[this,j k a]
  .rw[if_neg (λq=>h ((abb V7 b).1 q)),d k a (by simp only[f];rw[if_neg h])]
 .rw[show Q 0=c by simp[Q]];unfold jU oV;dsimp only;rw[Q0];simp[Q,jR,f]
theorem JU {S:Bq} {a:V6 xF} {t:Nat}:(jR S a R c t).length=c.length:=by simp[jR]
theorem FK {S:Bq} {a:V6 xF} {t:Nat} (b:v<c.length):at' (jR S a R c t) (v:Int)=if t.testBit v=true then zM S a R c v (jH S R c v)else at' c (v:Int):=wV _ b
theorem yI.step {S:Bq} {a:V6 xF} {t e:Nat} {g:GR} (b:yI g e c):yI g e (jR S a R c t):=⟨by rw[JU,b.len],λv d=>by
 rw[FK (by rw[b.len];exact d)];split
 .rw[YD,b.row v d]
 .exact b.row v d⟩
end
end Go.Proofs.YtgciopekomcbfaaGreatDoor
namespace Go.Proofs.YtgciopekomcbfaaGreatDoor
open Go.Sx
def nF (a:Unit):V1 V4:=
 some (true)
def jO (c:aW) (a:Int) (b:(Int)->V1 V4):V1 V4:=
 if a<(c.length:Int)then(ck (0<=a/\a<(c.length:Int)) (if(xH .u32 (at' c a) (16777215:Int))≠(0:Int)then(some (false))else(b (wI .i64 (a+(1:Int))))))else(nF (()))
def jA (U:Nat) (a:aW):V1 V4:=
 bN (jO a) U (0:Int)
theorem Ww:aU prog 213:=call213
theorem CC (U:Nat) {d:aW} (e:V0) (r:V4) (h:jA U d=some r):
  a_ prog 213 #[e] [Sl Eh e d] (λx:Unit=>vB (r)) (λx l=>l) (λ_ l=>l):=by
 refine a_.of func213 Z ntmps213 Z λc=>?_;unfold jA at h;refine Q4 Z<|aK<|iA (λa=>nF a=some r) (λa f=>[]) (λa f=>[]) ?_ ?_
 .refine Q6 Z<|kG (dH Z) Z<|aA Z<|aM<|aS<|gC (jO d) (λb g=>[(5,e),(6,vI (d.length:Int)),(7,vI (b))]) (λb g=>[]) (0:Int) () h SF (aX.refl _) ?_;intro j b g h;refine aP<|dD Z<|aM<|aK<|eI h Z (λh=>?_) λh=>?_
  .refine cQ<|aK<|aS<|aP<|dV h λi h=>aB (bR Z Z (dH Z) Z Z i) Z<|aB (cK Z (dH Z) Z Z Z Jo i) Z<|Q5 Z<|Q6 Z<|aB (LQ Z Z) Z<|oZ Z<|aM<|eI h Z (λh=>?_) λh=>?_
   .refine Q4 Z<|aT<|bW<|aJ<|aJ<|bW<|aJ ?_;cases h;exact mA Z
   exact eP<|m_<|aR<|cU Z<|aA Z<|aM<|BD (wI .i64 (b+(1:Int))) () h SF Z
  exact fO<|j_ () (()) h SF Z
 intro a f h;unfold nF at h;refine Q4 Z<|aT ?_;cases h;exact mA Z
def lW (a:V4):V1 V4:=
 some (a)
def jI (U:Nat) (a:Ho) (c:V4):V1 V4:=
 if c=true then(some (false))else(if(wI .i64 (a.2.2.1+(1:Int)))<a.2.2.2.1 then(some (false))else(if a.1<=a.2.1 then(if a.2.1<=(wI .i64 ((24:Int)*a.1))then(Option.bind (jA U ([a.2.2.2.2])) λb=>(lW (b)))else(lW (false)))else(lW (false))))
def kB (U:Nat) (a:Ho):V1 V4:=
 if a.1<(0:Int)then(jI U a (true))else(if(4096:Int)<a.1 then(jI U a (true))else(if a.2.2.1<(0:Int)then(jI U a (true))else(if a.2.2.2.1<a.2.2.1 then(jI U a (true))else(jI U a (decide (a.1<a.2.2.2.1))))))
theorem aem:aU prog 212:=call212
theorem KN (U:Nat) {a:Ho} (r:V4) (h:kB U a=some r):
  a_ prog 212 #[Value.agg #[vI (a.1),vI (a.2.1),vI (a.2.2.1),vI (a.2.2.2.1),vU (a.2.2.2.2)]] [] (λx:Unit=>vB (r)) (λx l=>l) (λ_ l=>l):=by
 let b:=vU (a.2.2.2.2);refine a_.of func212 Z ntmps212 Z λc=>aP<|aI (aN.box (cs:=[vI (a.1),vI (a.2.1),vI (a.2.2.1),vI (a.2.2.2.1),b]) Z Z) Z λk=>Q5 Z<|aK<|aK<|iA (λd=>jI U a d=some r) (λd m=>[(1,vP k),(29,vB (d))]) (λd m=>[bH k [vI (a.1),vI (a.2.1),vI (a.2.2.1),vI (a.2.2.2.1),b] 57]) ?_ ?_
 .refine aR<|bT Z<|dO 0 Z<|dD Z<|aA Z<|GN h Z (λ_ h=>?_) λ_ h=>?_
  .exact aQ Z<|aQ Z<|aQ Z<|gE Z<|aA Z<|aQ Z<|aQ Z<|aQ Z<|gE Z<|aA Z<|aQ Z<|aQ Z<|aQ Z<|aQ Z<|aQ Z<|gE Z<|aA Z<|aQ Z<|aQ Z<|aQ Z<|aQ Z<|aQ Z<|gE Z<|aM<|j_ (true) () h SF Z
  refine bA Z (cV Z Z Z Z Z) Z<|bA Z (eB 0 Z Z Z Z Z) Z<|bA Z (wM Z Z) Z<|jD Z<|aA Z<|GN h Z (λ_ h=>?_) λ_ h=>?_
  .exact aQ Z<|aQ Z<|aQ Z<|gE Z<|aA Z<|aQ Z<|aQ Z<|aQ Z<|aQ Z<|aQ Z<|gE Z<|aA Z<|aQ Z<|aQ Z<|aQ Z<|aQ Z<|aQ Z<|gE Z<|aM<|j_ (true) () h SF Z
  refine bA Z (cV Z Z Z Z Z) Z<|bA Z (eB 0 Z Z Z Z Z) Z<|bA Z (Ft Z Z) Z<|jD Z<|aA Z<|GN h Z (λ_ h=>?_) λ_ h=>?_
  .exact aQ Z<|aQ Z<|aQ Z<|aQ Z<|aQ Z<|gE Z<|aA Z<|aQ Z<|aQ Z<|aQ Z<|aQ Z<|aQ Z<|gE Z<|aM<|j_ (true) () h SF Z
  refine bA Z (cV Z Z Z Z Z) Z<|bA Z (eB 0 Z Z Z Z Z) Z<|bA Z (cV Z Z Z Z Z) Z<|bA Z (eB 0 Z Z Z Z Z) Z<|bA Z (wM Z Z) Z<|jD Z<|aA Z<|GN h Z (λ_ h=>?_) λ_ h=>?_
  .exact aQ Z<|aQ Z<|aQ Z<|aQ Z<|aQ Z<|gE Z<|aM<|j_ (true) () h SF Z
  exact bA Z (cV Z Z Z Z Z) Z<|bA Z (eB 0 Z Z Z Z Z) Z<|bA Z (cV Z Z Z Z Z) Z<|bA Z (eB 0 Z Z Z Z Z) Z<|bA Z (wM Z Z) Z<|jD Z<|aM<|j_ (decide (a.1<a.2.2.2.1)) () h SF Z
 intro d m h;refine Ca h Z (λ_ h=>?_) λ_ h=>?_
 .refine Q4 Z<|aT<|aJ ?_;cases h;exact xT Z
 refine cQ<|aK<|aP<|bT Z<|dO 0 Z<|bT Z<|dO 0 Z<|cU Z<|aB (wM Z Z) Z<|aM<|eI h Z (λh=>?_) λh=>?_
 .refine Q4 Z<|aT<|aJ ?_;cases h;exact xT Z
 refine cQ<|aK<|iA (λf=>lW f=some r) (λf n=>[(2,vB (f))]) (λf n=>[]) ?_ ?_
 .refine aR<|bT Z<|dO 0 Z<|bT Z<|dO 0 Z<|aB (EM Z Z) Z<|aA Z<|GN h Z (λ_ h=>?_) λ_ h=>?_
  .refine bA Z (cV Z Z Z Z Z) Z<|bA Z (eB 0 Z Z Z Z Z) Z<|bA Z (cV Z Z Z Z Z) Z<|bA Z (eB 0 Z Z Z Z Z) Z<|bA Z (En Z Z) Z<|bA Z (EM Z Z) Z<|gE Z<|aA Z<|GN h Z (λ_ h=>?_) λ_ h=>?_
   .exact bA Z (cV Z Z Z Z Z) Z<|bA Z (eB 0 Z Z Z Z Z) Z<|BI Z (b_ (e:=qG) ([a.2.2.2.2]) [(0,b)] Z Z Z Z (gY (b) Z) Z Z Z) Z λi=>fP h λg j h=>BI Z (zBk Ww (CC U i g j) Z (aF.cons (bP (aG.res 0 Z) tK) .nil)) Z λo=>gE Z<|Q5 Z<|cT (g) () h SF .nil (aF.refl _ _)
   exact aQ Z<|aQ Z<|aQ Z<|aQ Z<|jD Z<|Q5 Z<|cT (false) () h SF .nil (aF.refl _ _)
  exact aQ Z<|aQ Z<|aQ Z<|aQ Z<|aQ Z<|aQ Z<|jD Z<|aA Z<|aQ Z<|aQ Z<|aQ Z<|aQ Z<|jD Z<|Q5 Z<|cT (false) () h SF .nil (aF.refl _ _)
 intro f n h;unfold lW at h;refine aT ?_;cases h;exact mA Z
def jB (U:Nat) (a:Int):V1 (Int):=
 ck (0<=(24:Int)) (ck (0<=(rW .u32 a (24:Int))/\(rW .u32 a (24:Int))<(Jd.length:Int)) (ck (0<=(16:Int)) (ck (0<=(fF .u32 (rW .u32 a (16:Int)) (255:Int))/\(fF .u32 (rW .u32 a (16:Int)) (255:Int))<(Jd.length:Int)) (ck (0<=(8:Int)) (ck (0<=(fF .u32 (rW .u32 a (8:Int)) (255:Int))/\(fF .u32 (rW .u32 a (8:Int)) (255:Int))<(Jd.length:Int)) (ck (0<=(fF .u32 a (255:Int))/\(fF .u32 a (255:Int))<(Jd.length:Int)) (some (wI .i64 (wI .u8 ((wI .u8 ((wI .u8 ((at' Jd (rW .u32 a (24:Int)))+(at' Jd (fF .u32 (rW .u32 a (16:Int)) (255:Int)))))+(at' Jd (fF .u32 (rW .u32 a (8:Int)) (255:Int)))))+(at' Jd (fF .u32 a (255:Int)))))))))))))
theorem aen:aU prog 214:=call214
theorem HN (U:Nat) {a:Int} (r:Int) (h:jB U a=some r):
  a_ prog 214 #[vU (a)] [] (λx:Unit=>vI (r)) (λx l=>l) (λ_ l=>l):=by
 refine a_.of func214 Z ntmps214 Z λc=>?_;refine aP<|aC Z<|aM<|aK ?_;refine yP [0,1,3,0,8,24,56,127,0,256,768,1792,4095,0,8192,24576,65535,131071,262143] 16 mixedOrders ?_;refine bD Z<|dV h λb h=>jL Z (N_ Z Z b)<|dV h λd h=>jL Z (Em Z Z Z PN d)<|bD Z<|dV h λe h=>jL Z (N_ Z Z e)<|jL Z (VX Z Z)<|dV h λf h=>jL Z (Em Z Z Z PN f)<|jL Z (Br Z Z)<|bD Z<|dV h λg h=>jL Z (N_ Z Z g)<|jL Z (VX Z Z)<|dV h λi h=>jL Z (Em Z Z Z PN i)<|jL Z (Br Z Z)<|bD Z<|jL Z (VX Z Z)<|dV h λj h=>jL Z (Em Z Z Z PN j)<|bU 16 Z Z<|cU Z<|aB (Uy Z Z Z) Z<|aC Z<|aM<|aT ?_;cases h;exact mA Z
def oB (b:Ho) (c:Int) (a:gO):V1 ((Int×Int×Int×Int×Int)×Int):=
 some ((((wI .i64 (b.1+(1:Int))),(wI .i64 (b.2.1+c)),a.1,(wI .i64 (b.2.2.1+(1:Int))),a.2)),(0:Int))
def oA (U:Nat) (a:Ho) (c d:Int) (e:V4):V1 ((Int×Int×Int×Int×Int)×Int):=
 if e=true then(some ((((0:Int),(0:Int),(0:Int),(0:Int),(0:Int))),(11:Int)))else(if a.1=(4096:Int)then(some ((((0:Int),(0:Int),(0:Int),(0:Int),(0:Int))),(3:Int)))else(Option.bind (jB U c) λb=>(if(fF .u32 (xH .u32 a.2.2.2.2 c) d)=(0:Int)then(oB a b ((wI .i64 (a.2.2.1+(1:Int))),d))else(oB a b (a.2.2.1,(fF .u32 (xH .u32 a.2.2.2.2 c) d))))))
def jX (U:Nat) (a:Ho) (b c:Int):V1 ((Int×Int×Int×Int×Int)×Int):=
 Option.bind (kB U ((a.1,a.2.1,a.2.2.1,a.2.2.2.1,a.2.2.2.2))) λe=>(if(!e)=true then(some ((((0:Int),(0:Int),(0:Int),(0:Int),(0:Int))),(7:Int)))else(if b=(0:Int)then(oA U a b c (true))else(Option.bind (jA U ([b,c])) λd=>(oA U a b c ((!d))))))
theorem aed:aU prog 178:=call178
theorem NF (U:Nat) {a:Ho} {g d:Int} (r:(Int×Int×Int×Int×Int)×Int) (h:jX U a g d=some r):
  a_ prog 178 #[Value.agg #[vI (a.1),vI (a.2.1),vI (a.2.2.1),vI (a.2.2.2.1),vU (a.2.2.2.2)],vU (g),vU (d)] [] (λx:Unit=>Value.tuple #[Value.agg #[vI (r.1.1),vI (r.1.2.1),vI (r.1.2.2.1),vI (r.1.2.2.2.1),vU (r.1.2.2.2.2)],vI (r.2)]) (λx l=>l) (λ_ l=>l):=by
 let k:=(wI .i64 (a.2.2.1+(1:Int)))
 refine a_.of func178 Z ntmps178 Z λc=>aP<|aI (aN.box (cs:=[vI (a.1),vI (a.2.1),vI (a.2.2.1),vI (a.2.2.2.1),vU (a.2.2.2.2)]) Z Z) Z λn=>aI (aN.alloc (cs:=vD1) Z Z) Z λo=>Q5 Z<|aK<|aP<|dL 1 Z<|fP h λv y h=>aI (zBk aem (KN U v y) Z .nil) Z λA=>aB (sI Z) Z<|aM<|Ca h Z (λ_ h=>?_) λ_ h=>?_
 .refine aP<|aB (Dm (r:=Value.agg #[vI (0:Int),vI (0:Int),vI (0:Int),vI (0:Int),vU (0:Int)]) (by intro w;simp[Instr.build,Instr.fill,cY,cI,cD,cZ,c_,cJ,dU])) Z ?_;refine bQ 0 (vs:=vD1) Z Z Z Z Z Z<|Q5 Z<|aT<|aJ ?_;cases h;exact kU () Z Z (RV.cell 0 Z Z Z Z) (RV.tmp Z) .nil aF.nil
 refine cQ<|aK<|aK<|iA (λi=>oA U a g d i=some r) (λi u=>[(1,vU (g)),(2,vU (d)),(3,vP n),(6,vP o),(20,vB (i))]) (λi u=>[bH o vD1 57,bH n [vI (a.1),vI (a.2.1),vI (a.2.2.1),vI (a.2.2.2.1),vU (a.2.2.2.2)] 57]) ?_ ?_
 .refine aR<|aA Z<|bZ Z<|aA Z<|GN h Z (λ_ h=>?_) λ_ h=>?_
  .exact aQ Z<|aQ Z<|aQ Z<|aQ Z<|aQ Z<|gE Z<|aM<|j_ (true) () h SF Z
  exact iP Z<|iP Z<|BI Z (b_ (e:=qG) ([g,d]) [(0,vU (g)),(1,vU (d))] Z Z Z Z (Sv (vU (g)) (vU (d)) Z Z) Z Z Z) Z λp=>fP h λm s h=>BI Z (zBk Ww (CC U p m s) Z (aF.cons (bP (aG.res 0 Z) tK) .nil)) Z λz=>bA Z (sI Z) Z<|jD Z<|aM<|cT ((!m)) () h SF (aX.ix [1,2] Z Z) (aF.refl _ _)
 intro i u h;refine Ca h Z (λ_ h=>?_) λ_ h=>?_
 .refine aP<|aB (Dm (r:=Value.agg #[vI (0:Int),vI (0:Int),vI (0:Int),vI (0:Int),vU (0:Int)]) (by intro w;simp[Instr.build,Instr.fill,cY,cI,cD,cZ,c_,cJ,dU])) Z ?_;refine bQ 0 (vs:=vD1) Z Z Z Z Z Z<|Q5 Z<|aT<|aJ ?_;cases h;exact kU () Z Z (RV.cell 0 Z Z Z Z) (RV.tmp Z) .nil aF.nil
 refine cQ<|aK<|aP<|bT Z<|dO 1 Z<|bZ Z<|aM<|eI h Z (λh=>?_) λh=>?_
 .refine aP<|aB (Dm (r:=Value.agg #[vI (0:Int),vI (0:Int),vI (0:Int),vI (0:Int),vU (0:Int)]) (by intro w;simp[Instr.build,Instr.fill,cY,cI,cD,cZ,c_,cJ,dU])) Z ?_;refine bQ 0 (vs:=vD1) Z Z Z Z Z Z<|Q5 Z<|aT<|aJ ?_;cases h;exact kU () Z Z (RV.cell 0 Z Z Z Z) (RV.tmp Z) .nil aF.nil
 refine cQ<|aP<|bT Z<|dO 1 Z<|cU Z<|bT Z<|fS 1 Z Z Z Z Z Z<|aM<|aK<|yP [0,1,0,4,15,31,63] 4 mixedOrders<|cN Z<|gW 1 Z<|bD Z<|fP h λf q h=>zBl Z Z Z (zBk aen (HN U f q) Z .nil) Z (λt=>(pB [([1],[])] Z)) λt=>bU 4 Z Z<|cU Z<|bT Z<|fS 1 Z Z Z Z Z Z<|aM<|aP<|bT Z<|dO 1 Z<|cU Z<|bT Z<|fS 1 Z Z Z Z Z Z<|aM<|aP<|bT Z<|dO 1 Z<|aA Z<|aB (LQ Z Z) Z<|aA Z<|BG Z<|bT Z<|fS 1 Z Z Z Z Z Z<|aM<|aK<|iA (λb=>oB a f b=some r) (λb j=>[(3,vP n),(6,vP o)]) (λb j=>[bH o vD1 57,bH n [vI (wI .i64 (a.1+(1:Int))),vI (wI .i64 (a.2.1+f)),vI (b.1),vI k,vU (b.2)] 57]) ?_ ?_
 .refine aP<|bT Z<|dO 1 Z<|bZ Z<|aM<|eI h Z (λh=>?_) λh=>?_
  .exact aP<|bT Z<|dO 1 Z<|bT Z<|fS 1 Z Z Z Z Z Z<|aM<|aR<|aA Z<|bT Z<|fS 1 Z Z Z Z Z Z<|aM<|j_ (k,d) () h SF Z
  exact cQ<|j_ (a.2.2.1,(fF .u32 (xH .u32 a.2.2.2.2 g) d)) () h SF Z
 intro b j h;unfold oB at h;refine aP<|dL 1 Z<|bQ 0 (vs:=[vI (wI .i64 (a.1+(1:Int))),vI (wI .i64 (a.2.1+f)),vI (b.1),vI (wI .i64 (a.2.2.1+(1:Int))),vU (b.2)]) Z Z Z Z Z Z<|Q5 Z<|aT ?_;cases h;exact kU () Z Z (RV.cell 0 Z Z Z Z) (RV.tmp Z) .nil aF.nil
end Go.Proofs.YtgciopekomcbfaaGreatDoor
namespace Go.Proofs.YtgciopekomcbfaaGreatDoor
open Go Go.Sx
abbrev CT:=Ho
theorem Hh (l:aW) (h:l.length<=900):∃b,jA 1000 l=some b:=by
 unfold jA;have:=AM (step:=jO l) (Q:=λ_:V4=>True) (λi:Int=>∃k:Nat,i=(k:Int)/\k<=l.length) (λi=>l.length - i.toNat) (λi f c a=>by
  obtain⟨k,rfl,g⟩:=c;unfold jO nF;by_cases e:k<l.length
  .rw[Q3,Q7];split
   .exact⟨_,rfl,trivial⟩
   .rw[Q8];exact a _ ⟨k+1,rfl,V7⟩ V7
  .rw[Q0];exact⟨_,rfl,trivial⟩) 1000 0 ⟨0,rfl,V7⟩ V7
 obtain⟨b,d,_⟩:=this;exact⟨b,d⟩
theorem Px (k:CT):∃b,kB 1000 k=some b:=by
 obtain⟨q,d⟩:=Hh [k.2.2.2.2] V8;have c:∀a,∃b,jI 1000 k a=some b:=by
  intro a;unfold jI lW;split
  .exact⟨_,rfl⟩
  .split
   .exact⟨_,rfl⟩
   .split
    .split
     .rw[bF d];exact⟨_,rfl⟩
     .exact⟨_,rfl⟩
    .exact⟨_,rfl⟩
 unfold kB
 repeat' split
 all_goals exact c _
theorem YH {t:Nat} (i:t<4294967296):∃n,jB 1000 (t:Int)=some n:=by
 have g:(Jd.length:Int)=256:=by decide +kernel
 have b:∀a:Nat,a<4294967296->0<=fF .u32 (a:Int) 255/\fF .u32 (a:Int) 255<256:=λa f=>by
  rw[show(255:Int)=((255:Nat):Int)from rfl,CW f V7];have:a &&& 255<=255:=Nat.and_le_right;omega
 have c:∀k:Nat,k<32->rW .u32 (t:Int) (k:Int)=((t / 2^k:Nat):Int):=λk h=>Lb h;have e:rW .u32 (t:Int) 24=((t / 2^24:Nat):Int):=c 24 V7;have d:rW .u32 (t:Int) 16=((t / 2^16:Nat):Int):=c 16 V7;have j:rW .u32 (t:Int) 8=((t / 2^8:Nat):Int):=c 8 V7;unfold jB;rw[g,e,d,j,cR Q2,Q7,cR Q2,cR (b _ V7),cR Q2,cR (b _ V7),cR (b _ i)];exact⟨_,rfl⟩
theorem ZV (k:CT) {t:Nat} (h:t<4294967296) (e:Int):∃r,jX 1000 k (t:Int) e=some r:=by
 obtain⟨b,d⟩:=Px k;obtain⟨q,g⟩:=Hh [(t:Int),e] V8;obtain⟨n,f⟩:=YH h;have c:∀a,∃r,oA 1000 k (t:Int) e a=some r:=by
  intro a;unfold oA oB;split
  .exact⟨_,rfl⟩
  .split
   .exact⟨_,rfl⟩
   .rw[bF f];split<;>exact⟨_,rfl⟩
 unfold jX;rw[bF (show kB 1000 _=some b from d)];split
 .exact⟨_,rfl⟩
 .split
  .exact c _
  .rw[bF g];exact c _
def aV (p:tC) (g:GR):Bq:=(p,g,eO g g.2.length,fH g)
def DG (S:Bq) (R:V6 RL) (a:Nat) (c:bE):Nat:=KI S R c &&& a
theorem Gt (S:Bq) (R:V6 RL) (c:bE) (v:Nat):(KI S R c).testBit v=(decide (v<S.2.1.2.length)&&decide (0<=jH S R c v)):=OB _ v _
theorem PU (S:Bq) (R:V6 RL) (a:Nat) (c:bE) (v:Nat):(DG S R a c).testBit v=true↔v<S.2.1.2.length/\0<=jH S R c v/\a.testBit v=true:=by
 unfold DG;rw[Nat.testBit_and,Gt,zA4,zA4,zA1,zA1,and_assoc]
theorem ahI {S:Bq} (a:VG S.2.1) (R:V6 RL) (c:bE):KI S R c<4294967296:=Qq _ (by have:=a.n24;omega)
theorem UN (S:Bq) (R:V6 RL) (a:Nat) (c:bE):Rk S.2.1 (DG S R a c):=λi b=>((PU S R a c i).1 b).1
def SG (a:rR):aW:=a.map λt=>((t:Nat):Int)
end Go.Proofs.YtgciopekomcbfaaGreatDoor
namespace Go.Proofs.YtgciopekomcbfaaGreatDoor
open Go.Sx
def xY (a:aW):V1 aW:=
 some (a)
def sU (c:aW×Int) (b:(aW×Int)->V1 aW) (a:aW):V1 aW:=
 b (a,(wI .i64 (c.2+(1:Int))))
def pL (b:aW) (d:Int) (a:aW×Int) (c:(aW×Int)->V1 aW):V1 aW:=
 if a.2<d then(if(b.length:Int)=(0:Int)then(ck ((a.1.length:Int)+(List.length ([(4294967295:Int)]):Int)<=1099511627) (sU a c (a.1++([(4294967295:Int)]))))else(ck ((b.length:Int)≠0) (ck (0<=(Int.tmod a.2 (b.length:Int))/\(Int.tmod a.2 (b.length:Int))<(b.length:Int)) (ck ((b.length:Int)≠0) (ck ((24:Int)≠0) (ck (0<=(wI .u64 (Int.tmod (wI .i64 (Int.tdiv a.2 (b.length:Int))) (24:Int)))) (ck (0<=(wI .u64 ((24:Int) - (wI .u64 (Int.tmod (wI .i64 (Int.tdiv a.2 (b.length:Int))) (24:Int)))))) (ck ((a.1.length:Int)+(List.length ([(fF .u32 (Nz .u32 (Dq .u32 (fF .u32 (at' b (Int.tmod a.2 (b.length:Int))) (16777215:Int)) (wI .u64 (Int.tmod (wI .i64 (Int.tdiv a.2 (b.length:Int))) (24:Int)))) (rW .u32 (fF .u32 (at' b (Int.tmod a.2 (b.length:Int))) (16777215:Int)) (wI .u64 ((24:Int) - (wI .u64 (Int.tmod (wI .i64 (Int.tdiv a.2 (b.length:Int))) (24:Int))))))) (16777215:Int))]):Int)<=1099511627) (sU a c (a.1++([(fF .u32 (Nz .u32 (Dq .u32 (fF .u32 (at' b (Int.tmod a.2 (b.length:Int))) (16777215:Int)) (wI .u64 (Int.tmod (wI .i64 (Int.tdiv a.2 (b.length:Int))) (24:Int)))) (rW .u32 (fF .u32 (at' b (Int.tmod a.2 (b.length:Int))) (16777215:Int)) (wI .u64 ((24:Int) - (wI .u64 (Int.tmod (wI .i64 (Int.tdiv a.2 (b.length:Int))) (24:Int))))))) (16777215:Int))])))))))))))else(xY (a.1))
def q_ (U:Nat) (a:aW) (b:Int):V1 aW:=
 bN (pL a b) U (([]:aW),(0:Int))
theorem ahc:aU prog 14:=call14
theorem Nn (U:Nat) {i:aW} {j:Int} (q:V0) (r:aW) (h:q_ U i j=some r):
  a_ prog 14 #[q,vI (j)] [Sl Eh q i] (λx:V0=>x) (λx l=>Ar qG x r::l) (λ_ l=>l):=by
 refine a_.of func14 Z ntmps14 Z λc=>?_;unfold q_ at h;refine aP<|aC Z<|aM<|aP<|aC Z<|aM<|aK<|Ez (B:=V0) (λk=>xY k=some r) (λk m=>[(5,m)]) (λk m=>[Ar qG m k]) ?_ ?_
 .refine aP<|aC Z<|aM<|aS<|cF (fK qG)<|gC (B:=V0) (pL i j) (λb d=>[(0,q),(1,vI (j)),(5,d),(6,vI (b.2))]) (λb d=>[Ar qG d b.1]) (([]:aW),(0:Int)) (eV) h SF (aX.refl _) ?_;intro C b d h;let p:=(fF .u32 (at' i (Int.tmod b.2 (i.length:Int))) (16777215:Int))
  let o:=(wI .u64 (Int.tmod (wI .i64 (Int.tdiv b.2 (i.length:Int))) (24:Int)))
  let g:=(fF .u32 (Nz .u32 (Dq .u32 p o) (rW .u32 p (wI .u64 ((24:Int) - o)))) (16777215:Int))
  refine aK<|aP<|aA Z<|aA Z<|dD Z<|aM ?_;refine eI h Z (λh=>?_) λh=>?_
  .refine cQ<|aK<|Ez (B:=V0) (λa=>sU b (bN (pL i j) C) a=some r) (λa f=>[(0,q),(1,vI (j)),(5,f),(6,vI (b.2))]) (λa f=>[Ar qG f a]) ?_ ?_
   .refine aS<|aK<|aP<|aA Z<|kG (dH Z) Z<|bZ Z<|aM ?_;refine eI h Z (λh=>?_) λh=>?_
    .refine aP<|aA Z<|aI (b_ (e:=qG) ([(4294967295:Int)]) [(0,vU (4294967295:Int))] Z Z Z Z (gY (vU (4294967295:Int)) Z) Z Z Z) Z λF=>dV h λs h=>aI (fU 1 tK Z Z Z (bP (aG.res 0 Z) tK) Z Z Z Z s Z) Z λD=>aC Z<|aM<|tB<|fT<|Aj<|CU ?_;exact cT (b.1++([(4294967295:Int)])) (D) h SF (aX.ix [1] Z Z) (aF.refl _ _)
    refine cQ<|aK ?_;refine yP [0,0,0,4,14,31,63,0,0,256,896,1920,3968,127,16383] 14 mixedOrders ?_;refine bD Z<|bD Z<|bD Z<|bK Z .nil (nD 0 Z) (iN Z (dH Z) Z) aO.z<|dV h λt h=>jL Z (Sa Z Z t)<|dV h λn h=>bK Z .nil (nD 0 Z) (bR Z Z (dH Z) Z Z n) aO.z<|bK Z .nil (nD 0 Z) (cK Z (dH Z) Z Z Z Jo n) aO.z<|bD Z<|bD Z<|bK Z .nil (nD 0 Z) (iN Z (dH Z) Z) aO.z<|dV h λu h=>jL Z (ZQ Z Z u)<|dV h λv h=>jL Z (Sa Z Z v)<|jL Z (Uy Z Z Z)<|jL Z (Cg Z)<|bU 14 Z Z<|aC Z<|aM<|aP<|aA Z<|BG Z<|aC Z<|aM<|aR<|aA Z<|aA Z<|aA Z<|dV h λw h=>aB (NZ Z Z w) Z<|aA Z<|aA Z<|aB (vZ Z Z) Z<|dV h λy h=>aB (N_ Z Z y) Z<|aB (ZP Z Z) Z<|BG Z<|aI (b_ (e:=qG) ([g]) [(0,vU g)] Z Z Z Z (gY (vU g) Z) Z Z Z) Z λG=>dV h λA h=>aI (fU 1 tK Z Z Z (bP (aG.res 0 Z) tK) Z Z Z Z A Z) Z λE=>aC Z<|eW<|m_ ?_;exact cT (b.1++([g])) (E) h SF (aX.ix [1] Z Z) (aF.refl _ _)
   intro a f h;unfold sU at h;refine aR<|aA Z<|cU Z<|aC Z<|aM ?_;exact BD (a,(wI .i64 (b.2+(1:Int)))) (f) h SF Z
  refine fO ?_;exact j_ (b.1) (d) h SF Z
 intro k m h;unfold xY at h;refine aP<|aA Z<|aC Z<|aM<|aT ?_;cases h;exact fD (m) Z Z (RV.tmp Z) (aX.refl _) aF.nil
end Go.Proofs.YtgciopekomcbfaaGreatDoor
namespace Go.Proofs.YtgciopekomcbfaaGreatDoor
open Go Go.Sx
theorem TZ (x:Int):0<=wI .u64 x:=by
 rw[EX];have:IntKind.u64.wrap x=x%18446744073709551616:=rfl;rw[this];omega
theorem Za (l:aW) {n:Nat} (y:n<=900):∃ws,q_ 1000 l (n:Int)=some ws/\ws.length=n/\∀k:Nat,k<ws.length->∃m:Nat,at' ws (k:Int)=(m:Int)/\m<4294967296:=by
 unfold q_;obtain⟨⟨ws,i⟩,⟨c,b,d⟩,t⟩:=Be (step:=pL l (n:Int)) (K:=λz=>some z.1) n
  (λk z=>z.2=(k:Int)/\z.1.length=k/\∀j:Nat,j<k->∃m:Nat,at' z.1 (j:Int)=(m:Int)/\m<4294967296) (λk z q v h=>by
  obtain⟨ws,i⟩:=z;obtain⟨c,b,d⟩:=h;dsimp only at c b d;subst c;have a:∀m:Nat,m<4294967296->∀j:Nat,j<k+1->∃p:Nat,at' (ws++[(m:Int)]) (j:Int)=(p:Int)/\p<4294967296:=λm o j u=>by
   rw[BY ws _ V7];by_cases e:j<ws.length
   .rw[if_pos e];exact d j V7
   .rw[if_neg e];exact⟨m,rfl,o⟩
  have f:∀m:Nat,(ws.length:Int)+(List.length [(m:Int)]:Int)<=1099511627:=λm=>by simp;omega
  unfold pL sU;dsimp only;rw[Q3,Q8];by_cases x:l.length=0
  .rw[Q3,cR (show(ws.length:Int)+(List.length [(4294967295:Int)]:Int)<=1099511627 from f 4294967295)];exact⟨_,⟨rfl,by simp[b],a 4294967295 V7⟩,rfl⟩
  .have r:Int.tmod (k:Int) (l.length:Int)=((k%l.length:Nat):Int):=rfl;have w:k%l.length<l.length:=Nat.mod_lt _ V7;rw[Q0,Q7,cR (by rw[r];omega),Q7,cR Q2,cR (TZ _),cR (TZ _)];have s:∀X:Int,∃m:Nat,fF .u32 X (16777215:Int)=(m:Int)/\m<4294967296:=λX=>⟨_,PD _ _,Nat.lt_of_le_of_lt Nat.and_le_left (LM _)⟩
   obtain⟨m,o,g⟩:=s (Nz .u32 (Dq .u32 (fF .u32 (at' l (Int.tmod (k:Int) (l.length:Int))) (16777215:Int)) (wI .u64 (Int.tmod (wI .i64 (Int.tdiv (k:Int) (l.length:Int))) (24:Int)))) (rW .u32 (fF .u32 (at' l (Int.tmod (k:Int) (l.length:Int))) (16777215:Int)) (wI .u64 ((24:Int) - (wI .u64 (Int.tmod (wI .i64 (Int.tdiv (k:Int) (l.length:Int))) (24:Int)))))));rw[o,cR (f m)];exact⟨_,⟨rfl,by simp[b],a m g⟩,rfl⟩) (λz q h=>by
  obtain⟨ws,i⟩:=z;obtain⟨c,b,d⟩:=h;dsimp only at c;subst c;unfold pL xY;dsimp only;rw[Q0]) 1000 (([]:aW),(0:Int)) ⟨rfl,rfl,λj u=>V7⟩ V7
 exact⟨ws,t,b,λk v=>d k (by dsimp only at b;omega)⟩
theorem TA {a:Type} [Inhabited a] (l:V6 a) {k:Nat} (h:k<l.length):l.set k (at' l (k:Int))=l:=by
 have:=Cv l (k:Int) (by simpa using h) V7;simpa using this
def YV (f:Nat->Nat):Nat->Nat
 |0=>0
 |n+1=>YV f n+f n
theorem acD {f:Nat->Nat}:∀{n:Nat},(∀v,v<n->f v<=1)->YV f n<=n
 |0,_=>zAg 0
 |n+1,h=>by
  have:=acD (n:=n) λv a=>h v V7;have:=h n V7;simp only[YV];omega
def Bt (c:bE) (v:Nat):Int:=at' (at' c (v:Int)) 0
def wF (g:GR) (c:bE) (v i:Nat):Int:=at' (at' c (iU (row g v) i).1) 0
theorem Xc {g:GR} {c:bE} {v i u:Nat} (h:(iU (row g v) i).1=(u:Int)):wF g c v i=Bt c u:=by unfold wF Bt;rw[h]
theorem ajP {g:GR} {a:V6 xF} (b:lV g a) {x:Nat} (c:x<a.length) (v:Nat):lo g (at' a (x:Int)) v<=hi g (at' a (x:Int)) v:=by
 rcases b.kind x c with k|k|k
 .have h:=(b.range x c k).2.1;unfold lo hi at h ⊢;rw[k]at h ⊢;simpa using h
 .unfold lo hi;rw[k];simp
 .unfold lo hi;rw[k];simp;omega
theorem XY {g:GR} {a:V6 xF} (b:lV g a) {x:Nat} (c:x<a.length) (v:Nat) (y:Int):lo g (at' a (x:Int)) v<=qR (at' a (x:Int)).2.1 (pT g a v x) y/\qR (at' a (x:Int)).2.1 (pT g a v x) y<=hi g (at' a (x:Int)) v:=by
 have h:=ajP b c v;unfold qR pT;dsimp only;split
 .assumption
 .split
  .rename_i k;unfold lo hi;rw[k];simp;omega
  .split<;>omega
end Go.Proofs.YtgciopekomcbfaaGreatDoor