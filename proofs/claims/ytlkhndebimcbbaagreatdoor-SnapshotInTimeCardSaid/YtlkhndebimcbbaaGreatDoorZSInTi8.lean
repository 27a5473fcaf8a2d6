/- Models and proofs. Conditions: none. -/
import Derived.Test.YtlkhndebimcbbaaGreatDoorZSInTi7
import Derived.Test.YtlkhndebimcbbaaGreatDoorZSInTi2
import Derived.Test.YtlkhndebimcbbaaGreatDoorZSInTi4
set_option linter.unusedVariables false
set_option linter.unusedSimpArgs false
set_option maxHeartbeats 4000000
set_option maxRecDepth 20000
namespace Go.Proofs.YtlkhndebimcbbaaGreatDoor
open Go.Sx
def yB  (a:Unit):Option iZ:=
 some ((0:Int),(-1:Int))
def mD (c:Int) (a:(Int)->Option iZ) (b:Unit):Option iZ:=
 a (wI .i64 (c+(1:Int)))
def eM (U:Nat) (a:Ep) (d:cE) (h:Int) (b:Int) (c:(Int)->Option iZ):Option iZ:=
 if b<(List.length ([((1:Int),(122:Nat)),((2:Int),(124:Nat)),((3:Int),(125:Nat))]):Int)then(ck (0<=b∧b<(List.length ([((1:Int),(122:Nat)),((2:Int),(124:Nat)),((3:Int),(125:Nat))]):Int)) (if b=(0:Int)then(if(1:Int)=a.2.1 then(Option.bind (oA U ((a.1,a.2.1,a.2.2.1,a.2.2.2.1,a.2.2.2.2.1,a.2.2.2.2.2)) ((d.1,d.2)) h) λe=>(some (e.1,e.2)))else(mD b c (())))else(if b=(1:Int)then(if(2:Int)=a.2.1 then(Option.bind (rM U ((a.1,a.2.1,a.2.2.1,a.2.2.2.1,a.2.2.2.2.1,a.2.2.2.2.2)) ((d.1,d.2)) h) λf=>(some (f.1,f.2)))else(mD b c (())))else(if(3:Int)=a.2.1 then(Option.bind (oB U ((a.1,a.2.1,a.2.2.1,a.2.2.2.1,a.2.2.2.2.1,a.2.2.2.2.2)) ((d.1,d.2)) h) λg=>(some (g.1,g.2)))else(mD b c (()))))))else(yB  (()))
def kE (U:Nat) (a:Ep) (b:cE) (c:Int):Option iZ:=
 bJ (eM U a b c) U (0:Int)
theorem WY:aX Tryz.prog 91:=Tryz.call91
theorem Di (U:Nat) {a:Ep} {p:cE} {m:Int} (g:Value)  (i:Value)  (y:k_) (r:fP) (h:kE U a p m=some r):
  aY Tryz.prog 91 #[Value.agg #[vS (a.1),vI (a.2.1),vI (a.2.2.1),vI (a.2.2.2.1),vI (a.2.2.2.2.1),vI (a.2.2.2.2.2)],Value.agg #[g,i],vI (m)] [Sl bO g p.1,S2 bB i y p.2] (λx:Unit=>Value.tuple #[vI (r.1),vI (r.2)]) (λx l=>l) (λ_ l=>l):=by
 refine aY.of Tryz.func91 Z Tryz.ntmps91 Z λc=>?_;unfold kE at h;refine aV<|aH (aN.box (cs:=[vS (a.1),vI (a.2.1),vI (a.2.2.1),vI (a.2.2.2.1),vI (a.2.2.2.2.1),vI (a.2.2.2.2.2)]) Z Z) Z λt=>aH (aN.box (cs:=[g,i]) Z Z) Z λu=>aE Z<|aE Z<|aM<|aV ?_;refine aB (Ck (r:=Value.agg #[vI (1:Int),Value.func (.func 122) #[] #[]]) Z Z (by intro w;simp[Instr.build,Instr.fill,fC,eB,dH,fD,fE,eD,gR])) Z ?_;refine aB (Ck (r:=Value.agg #[vI (2:Int),Value.func (.func 124) #[] #[]]) Z Z (by intro w;simp[Instr.build,Instr.fill,fC,eB,dH,fD,fE,eD,gR])) Z ?_;refine aB (Ck (r:=Value.agg #[vI (3:Int),Value.func (.func 125) #[] #[]]) Z Z (by intro w;simp[Instr.build,Instr.fill,fC,eB,dH,fD,fE,eD,gR])) Z ?_;refine aH (bY (e:=IF) ([(((1:Int),((122:Nat)))),(((2:Int),((124:Nat)))),(((3:Int),((125:Nat))))]) [(0,Value.agg #[vI (1:Int),Value.func (.func 122) #[] #[]]),(1,Value.agg #[vI (2:Int),Value.func (.func 124) #[] #[]]),(2,Value.agg #[vI (3:Int),Value.func (.func 125) #[] #[]])] Z Z Z Z (XC (vI (1:Int)) (Value.func (.func 122) #[] #[]) (vI (2:Int)) (Value.func (.func 124) #[] #[]) (vI (3:Int)) (Value.func (.func 125) #[] #[])) Z Z Z) Z λv=>aE Z<|aM<|aK<|dO (λs=>yB  s=some r) (λs G=>[]) (λs G=>[]) ?_ ?_
 ·refine aV<|aA Z<|aB (fX Z (bD (aF.res 0 Z) Bc) Z) Z<|aA Z<|aM<|aS<|dU (eM U a p m) (λk H=>[(2,vI (m)),(3,vP t),(4,vP u),(15,v),(16,vI (List.length ([((1:Int),(122:Nat)),((2:Int),(124:Nat)),((3:Int),(125:Nat))]):Int)),(17,vI (k))]) (λk H=>[Ar IF v ([((1:Int),(122:Nat)),((2:Int),(124:Nat)),((3:Int),(125:Nat))]),bV u [g,i] 28,bV t [vS (a.1),vI (a.2.1),vI (a.2.2.1),vI (a.2.2.2.1),vI (a.2.2.2.2.1),vI (a.2.2.2.2.2)] 62]) (0:Int) () h SF (a_.refl _) ?_;intro z k H h;refine aV<|cM Z<|aM<|aK ?_;refine eV h Z (λh=>?_) λh=>?_
  ·refine cK<|aK<|dO (λj=>mD k (bJ (eM U a p m) z) j=some r) (λj n=>[(2,vI (m)),(3,vP t),(4,vP u),(15,v),(16,vI (List.length ([((1:Int),(122:Nat)),((2:Int),(124:Nat)),((3:Int),(125:Nat))]):Int)),(17,vI (k))]) (λj n=>[Ar IF v ([((1:Int),(122:Nat)),((2:Int),(124:Nat)),((3:Int),(125:Nat))]),bV u [g,i] 28,bV t [vS (a.1),vI (a.2.1),vI (a.2.2.1),vI (a.2.2.2.1),vI (a.2.2.2.2.1),vI (a.2.2.2.2.2)] 62]) ?_ ?_
   ·refine aS<|aV<|cX h λf h=>aB (aZ Z Z (bD (aF.res 0 Z) Bc) Z Z f) Z ?_;by_cases b:k=(0:Int)
    ·have h:=LP b h;refine aB (jA (cs:=[vI (1:Int),Value.func (.func 122) #[] #[]]) Z (bD (aF.res 0 Z) Bc) Bc (by rw[b];rfl) Z Z Z f) Z ?_;refine aH (aN.alloc (cs:=[vI (0:Int),Value.nilFunc]) Z Z) Z λI=>bS 0 (vs:=[vI (1:Int),Value.func (.func 122) #[] #[]]) Z Z Z Z Z Z<|aM<|aV<|bT Z<|dD 0 Z<|bT Z<|dD 3 Z<|cP Z<|aM ?_;refine eV h Z (λh=>?_) λh=>?_
     ·refine aV<|bT Z<|dD 0 Z<|eK 3 Z<|eK 2 Z<|aA Z<|fH h λA D h=>aH (vO (vs:=[Value.agg #[vS (a.1),vI (a.2.1),vI (a.2.2.1),vI (a.2.2.2.1),vI (a.2.2.2.2.1),vI (a.2.2.2.2.2)],Value.agg #[g,i],vI (m)]) (cs:=[]) aao Z (GT U g i y A D) Z (oS [0,1] Z) (λ_ _=>rfl)) Z λL=>iY Z<|iY Z<|aE Z<|aE Z<|aM<|aW<|bM<|aJ<|aJ<|bM<|aJ ?_;cases h;exact nG () Z Z (RV.tmp Z) (RV.tmp Z) .nil aG.nil
     refine dK<|mA ?_;exact cC () (()) h SF (a_.ix [1,2,3] Z Z) (aG.refl _ _)
    have h:=ifN b h;by_cases d:k=(1:Int)
    ·have h:=LP d h;refine aB (jA (cs:=[vI (2:Int),Value.func (.func 124) #[] #[]]) Z (bD (aF.res 0 Z) Bc) Bc (by rw[d];rfl) Z Z Z f) Z ?_;refine aH (aN.alloc (cs:=[vI (0:Int),Value.nilFunc]) Z Z) Z λJ=>bS 0 (vs:=[vI (2:Int),Value.func (.func 124) #[] #[]]) Z Z Z Z Z Z<|aM<|aV<|bT Z<|dD 0 Z<|bT Z<|dD 3 Z<|cP Z<|aM ?_;refine eV h Z (λh=>?_) λh=>?_
     ·refine aV<|bT Z<|dD 0 Z<|eK 3 Z<|eK 2 Z<|aA Z<|fH h λB E h=>aH (vO (vs:=[Value.agg #[vS (a.1),vI (a.2.1),vI (a.2.2.1),vI (a.2.2.2.1),vI (a.2.2.2.2.1),vI (a.2.2.2.2.2)],Value.agg #[g,i],vI (m)]) (cs:=[]) aaq Z (GU U g i y B E) Z (oS [0,1] Z) (λ_ _=>rfl)) Z λM=>iY Z<|iY Z<|aE Z<|aE Z<|aM<|aW<|bM<|aJ<|aJ<|bM<|aJ ?_;cases h;exact nG () Z Z (RV.tmp Z) (RV.tmp Z) .nil aG.nil
     refine dK<|mA ?_;exact cC () (()) h SF (a_.ix [1,2,3] Z Z) (aG.refl _ _)
    have h:=ifN d h;have o:k=(2:Int):=by have q:=f;simp only[List.length_cons,List.length_nil]at q;omega
    refine aB (jA (cs:=[vI (3:Int),Value.func (.func 125) #[] #[]]) Z (bD (aF.res 0 Z) Bc) Bc (by rw[o];rfl) Z Z Z f) Z ?_;refine aH (aN.alloc (cs:=[vI (0:Int),Value.nilFunc]) Z Z) Z λK=>bS 0 (vs:=[vI (3:Int),Value.func (.func 125) #[] #[]]) Z Z Z Z Z Z<|aM<|aV<|bT Z<|dD 0 Z<|bT Z<|dD 3 Z<|cP Z<|aM ?_;refine eV h Z (λh=>?_) λh=>?_
    ·refine aV<|bT Z<|dD 0 Z<|eK 3 Z<|eK 2 Z<|aA Z<|fH h λC F h=>aH (vO (vs:=[Value.agg #[vS (a.1),vI (a.2.1),vI (a.2.2.1),vI (a.2.2.2.1),vI (a.2.2.2.2.1),vI (a.2.2.2.2.2)],Value.agg #[g,i],vI (m)]) (cs:=[]) aar Z (GW U g i y C F) Z (oS [0,1] Z) (λ_ _=>rfl)) Z λN=>iY Z<|iY Z<|aE Z<|aE Z<|aM<|aW<|bM<|aJ<|aJ<|bM<|aJ ?_;cases h;exact nG () Z Z (RV.tmp Z) (RV.tmp Z) .nil aG.nil
    refine dK<|mA ?_;exact cC () (()) h SF (a_.ix [1,2,3] Z Z) (aG.refl _ _)
   intro j n h;unfold mD at h;refine aR<|cH Z<|aA Z<|aM ?_;exact xT (wI .i64 (k+(1:Int))) () h SF Z
  refine e_ ?_;exact cC () (()) h SF .nil (aG.refl _ _)
 intro s G h;unfold yB at h;refine aV<|aE Z<|aE Z<|aM<|aW ?_;cases h;exact nG () Z Z (RV.tmp Z) (RV.tmp Z) (a_.refl _) aG.nil
def uN  (a:fW):Option (fW):=
 some (a)
def uO (b:Int×fW) (a:(Int×fW)->Option (fW)) (c:fW):Option (fW):=
 a ((wI .i64 (b.1+(1:Int))),c)
def nR (U:Nat) (d:BF) (g:cE) (b:Int×fW) (e:(Int×fW)->Option (fW)) (a:Int×fW) (f:(Int×fW)->Option (fW)):Option (fW):=
 if a.1<(List.length d.2.1:Int)then(ck (0<=a.1∧a.1<(List.length d.2.1:Int)) (ck (0<=b.1∧b.1<(List.length a.2:Int)) (ck (0<=b.1∧b.1<(List.length a.2:Int)) (Option.bind (kE U ((((at' d.2.1 a.1).1),((at' d.2.1 a.1).2.1),((at' d.2.1 a.1).2.2.1),((at' d.2.1 a.1).2.2.2.1),((at' d.2.1 a.1).2.2.2.2.1),((at' d.2.1 a.1).2.2.2.2.2))) ((g.1,g.2)) b.1) λc=>(ck (0<=a.1∧a.1<(List.length (at' a.2 b.1):Int)) (ck (0<=a.1∧a.1<(List.length (at' (List.set a.2 (Int.toNat b.1) (List.set (at' a.2 b.1) (Int.toNat a.1) (c.1,((at' (at' a.2 b.1) a.1).2)))) b.1):Int)) (f ((wI .i64 (a.1+(1:Int))),(List.set (List.set a.2 (Int.toNat b.1) (List.set (at' a.2 b.1) (Int.toNat a.1) (c.1,((at' (at' a.2 b.1) a.1).2)))) (Int.toNat b.1) (List.set (at' (List.set a.2 (Int.toNat b.1) (List.set (at' a.2 b.1) (Int.toNat a.1) (c.1,((at' (at' a.2 b.1) a.1).2)))) b.1) (Int.toNat a.1) (((at' (at' (List.set a.2 (Int.toNat b.1) (List.set (at' a.2 b.1) (Int.toNat a.1) (c.1,((at' (at' a.2 b.1) a.1).2)))) b.1) a.1).1),c.2)))))))))))else(uO b e (a.2))
def lT (U:Nat) (c:BF) (d:cE) (a:Int×fW) (b:(Int×fW)->Option (fW)):Option (fW):=
 if a.1<(List.length (List.replicate (Int.toNat (List.length d.1:Int)) ([]:fM)):Int)then(ck (0<=(List.length c.2.1:Int)∧(List.length c.2.1:Int)<=1099511627) (ck (0<=a.1∧a.1<(List.length a.2:Int)) (bJ (nR U c d a b) U ((0:Int),(List.set a.2 (Int.toNat a.1) (List.replicate (Int.toNat (List.length c.2.1:Int)) ((0:Int),(0:Int))))))))else(uN  (a.2))
def mW (U:Nat) (b:BF) (a:cE):Option (fW):=
 ck (0<=(List.length a.1:Int)∧(List.length a.1:Int)<=1099511627) (bJ (lT U b a) U ((0:Int),(List.replicate (Int.toNat (List.length a.1:Int)) ([]:fM))))
theorem WV:aX Tryz.prog 65:=Tryz.call65
theorem Ej (U:Nat) {d:BF} {q:cE} (v:Value)  (y:Value)  (A:Value)  (C:Value)  (z4:k_) (r:fW) (h:mW U d q=some r):
  aY Tryz.prog 65 #[Value.agg #[vS (d.1),v,y],Value.agg #[A,C]] [Sl aU v d.2.1,Sl aL y d.2.2,PF (Value.agg #[vS d.1,v,y]),Sl bO A q.1,S2 bB C z4 q.2] (λx:Ip=>x.1) (λx l=>Ar dA.raw x.1 x.2::lU cF x.2 r::l) (λ_ l=>l):=by
 refine aY.of Tryz.func65 Z Tryz.ntmps65 Z λc=>?_;refine aV<|aH (aN.box (cs:=[vS (d.1),v,y]) Z Z) Z λD=>aH (aN.box (cs:=[A,C]) Z Z) Z λE=>aE Z<|aM<|aV<|bT Z<|dD 0 Z<|kF (aF.fact 3 Z) Z<|cX h λj3 h=>jD (zA cF (Int.toNat (List.length q.1:Int)))<|aH (mH (e:=dA.raw) (lC) Z Z Z Z j3 Z Z Z) Z λu=>aE Z<|aM<|aK<|DZ (B:=fV) (λF=>uN  F=some r) (λF H=>[(5,u)]) (λF H=>[Ar dA.raw u H,lU cF H F]) ?_ ?_
 ·refine aV<|aA Z<|aB (iF Z (cB (i:=0) (j:=1) Z Z bU) Z) Z<|aA Z<|aM<|aS<|dU (B:=fV) (lT U d q) (λb m=>[(2,vP D),(3,vP E),(5,u),(14,vI (List.length (List.replicate (Int.toNat (List.length q.1:Int)) ([]:fM)):Int)),(15,vI (b.1))]) (λb m=>[Ar dA.raw u m,lU cF m b.2,bV E [A,C] 28,bV D [vS (d.1),v,y] 57]) ((0:Int),(List.replicate (Int.toNat (List.length q.1:Int)) ([]:fM))) (List.replicate (Int.toNat (List.length q.1:Int)) (lC)) h SF (a_.refl _) ?_;intro S b m h;refine aV<|cM Z<|aM<|aK ?_;refine eV h Z (λh=>?_) λh=>?_
  ·refine cK<|aK<|DZ (B:=fV) (λp=>uO b (bJ (lT U d q) S) p=some r) (λp s=>[(2,vP D),(3,vP E),(5,u),(14,vI (List.length (List.replicate (Int.toNat (List.length q.1:Int)) ([]:fM)):Int)),(15,vI (b.1))]) (λp s=>[Ar dA.raw u s,lU cF s p,bV E [A,C] 28,bV D [vS (d.1),v,y] 57]) ?_ ?_
   ·refine aS<|aV<|aA Z<|aE Z<|aM<|aV<|aA Z<|aA Z<|bT Z<|dD 3 Z<|kF (aF.fact 0 Z) Z<|cX h λT h=>aH (mH (e:=cF) (((0:Int),(0:Int))) Z Z Z Z T Z Z Z) Z λw=>cX h λt h=>aB (bX Z Z (cB (i:=1) (j:=2) Z Z bU) Z Z t) Z<|cG (Know.one ((bD (aF.res 0 Z) bU))) λO=>jD (xX (k:=b.1) 2 0 Z Z Z t) ?_;refine qE 0 1 ⟨t.1,by first|exact t.2|simpa using t.2⟩ Z Z Z Z Z (by simp) O Z ?_;refine aM<|aV<|bT Z<|dD 3 Z<|kF (aF.fact 0 Z) Z<|aA Z<|aM<|aS<|dU (nR U d q b (bJ (lT U d q) S)) (λa G=>[(2,vP D),(3,vP E),(5,u),(6,vI (b.1)),(14,vI (List.length (List.replicate (Int.toNat (List.length q.1:Int)) ([]:fM)):Int)),(15,vI (b.1)),(26,v),(27,vI (List.length d.2.1:Int)),(28,vI (a.1))]) (λa G=>[Ar dA.raw u (List.set m (Int.toNat b.1) w),lU cF (List.set m (Int.toNat b.1) w) a.2,bV E [A,C] 28,bV D [vS (d.1),v,y] 57]) ((0:Int),(List.set b.2 (Int.toNat b.1) (List.replicate (Int.toNat (List.length d.2.1:Int)) ((0:Int),(0:Int))))) () h SF (a_.refl _) ?_;intro ac a G h;refine aV<|cM Z<|aM<|aK ?_;refine eV h Z (λh=>?_) λh=>?_
    ·refine cK<|aK<|aS<|aV<|aA Z<|cX h λP h=>aB (aZ Z Z (aF.fact 0 Z) Z Z P) Z<|aB (jA (cs:=[vS ((at' d.2.1 a.1).1),vI ((at' d.2.1 a.1).2.1),vI ((at' d.2.1 a.1).2.2.1),vI ((at' d.2.1 a.1).2.2.2.1),vI ((at' d.2.1 a.1).2.2.2.2.1),vI ((at' d.2.1 a.1).2.2.2.2.2)]) Z (aF.fact 0 Z) iL Z Z Z Z P) Z<|aH (aN.alloc (cs:=vD3) Z Z) Z λab=>aE Z<|bS 0 (vs:=[vS ((at' d.2.1 a.1).1),vI ((at' d.2.1 a.1).2.1),vI ((at' d.2.1 a.1).2.2.1),vI ((at' d.2.1 a.1).2.2.2.1),vI ((at' d.2.1 a.1).2.2.2.2.1),vI ((at' d.2.1 a.1).2.2.2.2.2)]) Z Z Z Z Z Z<|aM ?_;refine JR.start [0,0,3,7,0,0,0,96,224,0,0,0,0,7168,15360,31744,31744,31,196095,458239,992,2097151,4194303] 21 mixedOrders (by decide +kernel) ?_;refine JR.open (by exact rfl) ?_;refine bG Z<|bG Z<|cX h λn h=>eO (dL 2 Z) λI=>?_;refine bK Z (a_.cons 1 Z .nil) .nil (jU 0 Z Z Z Z Z n.1 (by have V:=n.2;have W:=I;(try simp only[List.length_set]at V);(try simp only[List.length_set]at W);(try simp only[List.length_set]);omega)) aO.z ?_;refine eO (dL 2 Z) λJ=>bK Z (a_.cons 1 Z .nil) .nil (nQ 0 Z Z J Z Z n) aO.z<|bG Z<|bG Z<|bG Z<|cX h λg h=>eO (dL 2 Z) λK=>?_;refine bK Z (a_.cons 1 Z .nil) .nil (jU 0 Z Z Z Z Z g.1 (by have V:=g.2;have W:=K;(try simp only[List.length_set]at V);(try simp only[List.length_set]at W);(try simp only[List.length_set]);omega)) aO.z ?_;refine eO (dL 2 Z) λL=>bK Z (a_.cons 1 Z .nil) .nil (nQ 0 Z Z L Z Z g) aO.z<|bG Z<|pX 0 Z<|pX 3 Z<|bG Z<|fH h λf X h=>JR.loud Z Z Z (aN.callQ WY (Di U A C z4 f X) Z (oS [3,4] Z)) Z (λY=>(wF [([1],[]),([1],[]),([1],[]),([1],[])] Z)) λY=>jS Z (iG Z)<|jS Z (pI Z Z)<|jS Z (pI Z Z)<|cX h λQ h=>eO (Know.len (aF.row (j:=2) Z bU n.1 n.2)) λM=>jS Z (OD Z Z M Z Z Q) ?_;refine jS Z (Ey (i:=0) Z Z Z Z Z (by decide)) ?_;refine Dx Z Z Z (Dz (us:=[vI (f.1)]) (o:=0) (k:=b.1) 2 ((f.1,((at' (at' a.2 b.1) a.1).2))) ⟨n.1,by first|exact n.2|simpa using n.2⟩ Q Z Z Z Z Z Z Z Z Z Z) (λaa=>(wF [] Z)) λaa=>cX h λR h=>eO (Know.len (aF.row (j:=2) Z bU g.1 (by first|exact g.2|simpa using g.2))) λN=>?_;refine jS Z (OD Z Z N Z Z R)<|bP 21 Z Z ?_;refine aB (Ey (i:=1) Z Z Z Z Z (by decide)) Z ?_;refine SR (Dz (us:=[vI (f.2)]) (o:=1) (k:=b.1) 2 ((((at' (at' (List.set a.2 (Int.toNat b.1) (List.set (at' a.2 b.1) (Int.toNat a.1) (f.1,((at' (at' a.2 b.1) a.1).2)))) b.1) a.1).1),f.2)) ⟨g.1,by first|exact g.2|simpa using g.2⟩ R Z Z Z Z Z Z Z Z Z Z) λad=>eI<|mA<|aR<|cH Z<|aA Z<|aM ?_;exact mG ((wI .i64 (a.1+(1:Int))),(List.set (List.set a.2 (Int.toNat b.1) (List.set (at' a.2 b.1) (Int.toNat a.1) (f.1,((at' (at' a.2 b.1) a.1).2)))) (Int.toNat b.1) (List.set (at' (List.set a.2 (Int.toNat b.1) (List.set (at' a.2 b.1) (Int.toNat a.1) (f.1,((at' (at' a.2 b.1) a.1).2)))) b.1) (Int.toNat a.1) (((at' (at' (List.set a.2 (Int.toNat b.1) (List.set (at' a.2 b.1) (Int.toNat a.1) (f.1,((at' (at' a.2 b.1) a.1).2)))) b.1) a.1).1),f.2)))) () h SF (a_.ix [1,2,3,4] Z Z) (aG.refl _ _)
    refine pH<|dV<|dV<|vM<|mA ?_;exact iB (a.2) (List.set m (Int.toNat b.1) w) h SF Z
   intro p s h;unfold uO at h;refine aR<|cH Z<|aA Z<|aM ?_;exact xT ((wI .i64 (b.1+(1:Int))),p) (s) h SF Z
  refine e_ ?_;exact cC (b.2) (m) h SF (a_.ix [0,1] Z Z) (aG.refl _ _)
 intro F H h;unfold uN at h;refine aV<|aA Z<|aE Z<|aM<|aW ?_;cases h;exact gH (u,H) Z Z (RV.tmp Z) (a_.refl _) aG.nil
def wM  (a:Unit):Option (Int):=
 some (0:Int)
def pR (b:Int) (a:(Int)->Option (Int)) (c:Unit):Option (Int):=
 a (wI .i64 (b+(1:Int)))
def wN (b:Int) (a:(Int)->Option (Int)) (c:Bool):Option (Int):=
 if c=true then(some (9:Int))else(pR b a (()))
def mN (U:Nat) (c:BF) (e:cE) (a:Int) (b:(Int)->Option (Int)):Option (Int):=
 if a<(List.length c.2.1:Int)then(ck (0<=a∧a<(List.length c.2.1:Int)) (if((at' c.2.1 a).2.1)≠(1:Int)then(pR a b (()))else(Option.bind (kE U ((((at' c.2.1 a).1),((at' c.2.1 a).2.1),((at' c.2.1 a).2.2.1),((at' c.2.1 a).2.2.2.1),((at' c.2.1 a).2.2.2.2.1),((at' c.2.1 a).2.2.2.2.2))) ((e.1,e.2)) (0:Int)) λd=>(if d.2<d.1 then(wN a b (true))else(wN a b (decide ((4096:Int)<(wI .i64 ((wI .i64 (d.2 - d.1))+(1:Int))))))))))else(wM  (()))
def tZ (U:Nat) (a:BF) (b:cE):Option (Int):=
 Option.bind (BC U ((a.1,a.2.1,a.2.2))) λc=>(if(!c)=true then(some (8:Int))else(Option.bind (h_ U ((b.1,b.2))) λd=>(if(!d)=true then(some (1:Int))else(bJ (mN U a b) U (0:Int)))))
theorem adE:aX Tryz.prog 88:=Tryz.call88
theorem Lb (U:Nat) {b:BF} {n:cE} (g:Value)  (v:Value)  (i:Value)  (j:Value)  (y:k_) (r:Int) (h:tZ U b n=some r):
  aY Tryz.prog 88 #[Value.agg #[vS (b.1),g,v],Value.agg #[i,j]] [Sl aU g b.2.1,Sl aL v b.2.2,PF (Value.agg #[vS b.1,g,v]),Sl bO i n.1,S2 bB j y n.2] (λx:Unit=>vI (r)) (λx l=>l) (λ_ l=>l):=by
 refine aY.of Tryz.func88 Z Tryz.ntmps88 Z λc=>?_;refine aV<|aH (aN.box (cs:=[vS (b.1),g,v]) Z Z) Z λF=>aH (aN.box (cs:=[i,j]) Z Z) Z λm=>aE Z<|aM<|aK<|aV<|eK 1 Z<|fH h λA C h=>aH (aN.callQ Te (Lh U g v A C) Z (oS [0,1,2] Z)) Z λG=>aB (oQ Z) Z<|aM ?_;refine AZ h Z (λ_ h=>?_) λ_ h=>?_
 ·refine aV<|aE Z<|aM<|aW<|aJ ?_;cases h;exact tU Z
 refine cK<|aK<|aV<|eK 0 Z<|fH h λB D h=>aH (aN.callQ MV (yW U i j y B D) Z (oS [3,4] Z)) Z λH=>aB (oQ Z) Z<|aM ?_;refine AZ h Z (λ_ h=>?_) λ_ h=>?_
 ·refine aV<|aE Z<|aM<|aW<|aJ ?_;cases h;exact tU Z
 refine cK<|aK<|dO (λe=>wM  e=some r) (λe o=>[]) (λe o=>[]) ?_ ?_
 ·refine aV<|bT Z<|dD 1 Z<|kF (aF.fact 0 Z) Z<|aA Z<|aM<|aS<|dU (mN U b n) (λa p=>[(3,vP m),(16,g),(17,vI (List.length b.2.1:Int)),(18,vI (a))]) (λa p=>[bV m [i,j] 28]) (0:Int) () h SF (a_.ix [0] Z Z) ?_;intro u a p h;refine aV<|cM Z<|aM<|aK ?_;refine eV h Z (λh=>?_) λh=>?_
  ·refine cK<|aK<|dO (λf=>pR a (bJ (mN U b n) u) f=some r) (λf q=>[(3,vP m),(16,g),(17,vI (List.length b.2.1:Int)),(18,vI (a))]) (λf q=>[bV m [i,j] 28]) ?_ ?_
   ·refine aS<|aV<|cX h λt h=>aB (aZ Z Z (aF.fact 0 Z) Z Z t) Z<|aB (jA (cs:=[vS ((at' b.2.1 a).1),vI ((at' b.2.1 a).2.1),vI ((at' b.2.1 a).2.2.1),vI ((at' b.2.1 a).2.2.2.1),vI ((at' b.2.1 a).2.2.2.2.1),vI ((at' b.2.1 a).2.2.2.2.2)]) Z (aF.fact 0 Z) iL Z Z Z Z t) Z<|aH (aN.alloc (cs:=vD3) Z Z) Z λz=>bS 0 (vs:=[vS ((at' b.2.1 a).1),vI ((at' b.2.1 a).2.1),vI ((at' b.2.1 a).2.2.1),vI ((at' b.2.1 a).2.2.2.1),vI ((at' b.2.1 a).2.2.2.2.1),vI ((at' b.2.1 a).2.2.2.2.2)]) Z Z Z Z Z Z<|aM<|aK<|aV<|bT Z<|dD 0 Z<|q_ Z<|aM ?_;refine eV h Z (λh=>?_) λh=>?_
    ·refine pH<|dV<|vM<|Ae ?_;exact cC () (()) h SF (a_.ix [1] Z Z) (aG.refl _ _)
    refine cK<|aV<|eK 0 Z<|eK 1 Z<|fH h λk w h=>aH (aN.callQ WY (Di U i j y k w) Z (oS [3,4] Z)) Z λE=>aA Z<|iY Z<|iY Z<|aE Z<|aE Z<|aM<|aK<|dO (λd=>wN a (bJ (mN U b n) u) d=some r) (λd s=>[(3,vP m),(16,g),(17,vI (List.length b.2.1:Int)),(18,vI (a)),(40,vB (d))]) (λd s=>[bV m [i,j] 28]) ?_ ?_
    ·refine aR<|aA Z<|aA Z<|cM Z<|aA Z ?_;refine Dv h Z (λ_ h=>?_) λ_ h=>?_
     ·refine aI Z<|aI Z<|aI Z<|aI Z<|aI Z<|dW Z<|aM ?_;exact cC (true) () h SF (a_.ix [1] Z Z) (aG.refl _ _)
     refine cS Z<|cS Z<|aP Z (oK Z Z) Z<|aP Z (xZ Z Z) Z<|aP Z (zC Z Z) Z<|fO Z<|aM ?_;exact cC (decide ((4096:Int)<(wI .i64 ((wI .i64 (k.2 - k.1))+(1:Int))))) () h SF (a_.ix [1] Z Z) (aG.refl _ _)
    intro d s h;refine AZ h Z (λ_ h=>?_) λ_ h=>?_
    ·refine aV<|aE Z<|aM<|aW<|bM<|aJ<|aJ<|bM<|aJ ?_;cases h;exact tU Z
    refine dK<|mA ?_;exact iB () (()) h SF Z
   intro f q h;unfold pR at h;refine aR<|cH Z<|aA Z<|aM ?_;exact xT (wI .i64 (a+(1:Int))) () h SF Z
  refine e_ ?_;exact cC () (()) h SF .nil (aG.refl _ _)
 intro e o h;unfold wM at h;refine aV<|aE Z<|aM<|aW ?_;cases h;exact lA Z
def uX  (a:Unit):Option (Bool):=
 some (true)
def uY (c:Int) (b:(Int)->Option (Bool)) (a:Bool):Option (Bool):=
 if a=true then(some (false))else(b (wI .i64 (c+(1:Int))))
def nV (c:fM) (d:aQ) (a:Int) (b:(Int)->Option (Bool)):Option (Bool):=
 if a<(List.length d:Int)then(ck (0<=a∧a<(List.length d:Int)) (ck (0<=a∧a<(List.length c:Int)) (if(at' d a)<((at' c a).1)then(uY a b (true))else(ck (0<=a∧a<(List.length c:Int)) (uY a b (decide (((at' c a).2)<(at' d a))))))))else(uX  (()))
def wV (U:Nat) (a:fM) (b:aQ):Option (Bool):=
 if(List.length b:Int)≠(List.length a:Int)then(some (false))else(bJ (nV a b) U (0:Int))
theorem aan:aX Tryz.prog 121:=Tryz.call121
theorem KE (U:Nat) {k:fM} {d:aQ} (n:Value)  (o:Value) (r:Bool) (h:wV U k d=some r):
  aY Tryz.prog 121 #[n,o] [Sl bB n k,Sl bO o d] (λx:Unit=>vB (r)) (λx l=>l) (λ_ l=>l):=by
 refine aY.of Tryz.func121 Z Tryz.ntmps121 Z λc=>?_;refine aV<|aE Z<|aM<|aK<|aV<|aA Z<|kF (aF.fact 1 Z) Z<|aA Z<|kF (aF.fact 0 Z) Z<|q_ Z<|aM ?_;refine eV h Z (λh=>?_) λh=>?_
 ·refine aV<|aE Z<|aM<|aW<|aJ ?_;cases h;exact lA Z
 refine cK<|aK<|dO (λm=>uX  m=some r) (λm p=>[]) (λm p=>[]) ?_ ?_
 ·refine aV<|aA Z<|kF (aF.fact 1 Z) Z<|aA Z<|aM<|aS<|dU (nV k d) (λb q=>[(0,n),(12,o),(13,vI (List.length d:Int)),(14,vI (b))]) (λb q=>[]) (0:Int) () h SF (a_.refl _) ?_;intro s b q h;refine aV<|cM Z<|aM<|aK ?_;refine eV h Z (λh=>?_) λh=>?_
  ·refine cK<|aK<|aS<|aV<|aA Z<|cX h λf h=>aB (aZ Z Z (aF.fact 1 Z) Z Z f) Z<|aB (bQ Z (aF.fact 1 Z) Z Z Z cQ f) Z<|aE Z<|aE Z<|aM<|aK<|dO (λa=>uY b (bJ (nV k d) s) a=some r) (λa e=>[(0,n),(12,o),(13,vI (List.length d:Int)),(14,vI (b)),(34,vB (a))]) (λa e=>[]) ?_ ?_
   ·refine aR<|aA Z<|aA Z<|aA Z<|cX h λg h=>aB (aZ Z Z (aF.fact 0 Z) Z Z g) Z ?_;refine aB (Ey (i:=0) Z Z Z Z Z (by decide)) Z ?_;refine aB (jO Z (aF.fact 0 Z) Z Z Z mJ g) Z<|cM Z<|aA Z ?_;refine Dv h Z (λ_ h=>?_) λ_ h=>?_
    ·refine aI Z<|aI Z<|aI Z<|aI Z<|aI Z<|aI Z<|aI Z<|dW Z<|aM ?_;exact iB (true) () h SF Z
    refine cS Z<|cS Z<|cS Z<|cX h λj h=>aP Z (aZ Z Z (aF.fact 0 Z) Z Z j) Z ?_;refine aP Z (Ey (i:=1) Z Z Z Z Z (by decide)) Z ?_;refine aP Z (jO Z (aF.fact 0 Z) Z Z Z Ft j) Z<|aP Z (zC Z Z) Z<|fO Z<|aM ?_;exact iB (decide (((at' k b).2)<(at' d b))) () h SF Z
   intro a e h;refine AZ h Z (λ_ h=>?_) λ_ h=>?_
   ·refine aV<|aE Z<|aM<|aW<|bM<|aJ<|aJ<|bM<|aJ ?_;cases h;exact lA Z
   refine dK<|mA<|aR<|cH Z<|aA Z<|aM ?_;exact xT (wI .i64 (b+(1:Int))) () h SF Z
  refine e_ ?_;exact iB () (()) h SF Z
 intro m p h;unfold uX at h;refine aV<|aE Z<|aM<|aW ?_;cases h;exact lA Z
def s_  (a:Unit):Option (Bool):=
 some (true)
def qA (U:Nat) (c:fW) (e:bF) (a:Int) (b:(Int)->Option (Bool)):Option (Bool):=
 if a<(List.length c:Int)then(ck (0<=a∧a<(List.length c:Int)) (ck (0<=a∧a<(List.length e:Int)) (Option.bind (wV U (at' c a) (at' e a)) λd=>(if(!d)=true then(some (false))else(b (wI .i64 (a+(1:Int))))))))else(s_  (()))
def uV (U:Nat) (a:fW) (b:bF):Option (Bool):=
 if(List.length b:Int)≠(List.length a:Int)then(some (false))else(bJ (qA U a b) U (0:Int))
theorem adF:aX Tryz.prog 89:=Tryz.call89
theorem Iz (U:Nat) {f:fW} {g:bF} (j:Value)  (p:k_)  (k:Value)  (q:rB) (r:Bool) (h:uV U f g=some r):
  aY Tryz.prog 89 #[j,k] [S2 bB j p f,S2 bO k q g] (λx:Unit=>vB (r)) (λx l=>l) (λ_ l=>l):=by
 refine aY.of Tryz.func89 Z Tryz.ntmps89 Z λc=>?_;refine aV<|aE Z<|aM<|aK<|aV<|aA Z<|aB (iF Z (aF.fact 1 Z) Z) Z<|aA Z<|aB (iF Z (aF.fact 0 Z) Z) Z<|q_ Z<|aM ?_;refine eV h Z (λh=>?_) λh=>?_
 ·refine aV<|aE Z<|aM<|aW<|aJ ?_;cases h;exact lA Z
 refine cK<|aK<|dO (λe=>s_  e=some r) (λe n=>[]) (λe n=>[]) ?_ ?_
 ·refine aV<|aA Z<|aB (iF Z (aF.fact 0 Z) Z) Z<|aA Z<|aM<|aS<|dU (qA U f g) (λd o=>[(1,k),(12,j),(13,vI (List.length f:Int)),(14,vI (d))]) (λd o=>[]) (0:Int) () h SF (a_.refl _) ?_;intro t d o h;refine aV<|cM Z<|aM<|aK ?_;refine eV h Z (λh=>?_) λh=>?_
  ·refine cK<|aK<|aS<|aV<|aA Z<|cX h λa h=>aB (bX Z Z (aF.fact 0 Z) Z Z a) Z<|aB (bW Z (aF.fact 0 Z) Z Z a) Z<|aE Z<|aE Z<|aM<|aV<|aA Z<|aA Z<|aA Z<|cX h λb h=>aB (bX Z Z (aF.fact 1 Z) Z Z b) Z<|aB (bW Z (aF.fact 1 Z) Z Z b) Z<|fH h λi m h=>aH (aN.callQ aan (KE U ((at' p d).1) ((at' q d).1) i m) Z (aG.cons (aF.el (aF.fact 0 Z) a.1 a.2) (aG.cons (aF.el (aF.fact 1 Z) b.1 b.2) .nil))) Z λs=>aB (oQ Z) Z<|aM ?_;refine AZ h Z (λ_ h=>?_) λ_ h=>?_
   ·refine aV<|aE Z<|aM<|aW<|bM<|aJ<|aJ<|bM<|aJ ?_;cases h;exact lA Z
   refine dK<|mA<|aR<|cH Z<|aA Z<|aM ?_;exact xT (wI .i64 (d+(1:Int))) () h SF Z
  refine e_ ?_;exact iB () (()) h SF Z
 intro e n h;unfold s_ at h;refine aV<|aE Z<|aM<|aW ?_;cases h;exact lA Z
def sG (U:Nat) (a:BF) (b:cE) (e:bF):Option (Int):=
 Option.bind (tZ U ((a.1,a.2.1,a.2.2)) ((b.1,b.2))) λd=>(if d≠(0:Int)then(some (d))else(Option.bind (mW U ((a.1,a.2.1,a.2.2)) ((b.1,b.2))) λf=>(Option.bind (uV U f e) λc=>(if(!c)=true then(some (10:Int))else(some (0:Int))))))
theorem adp:aX Tryz.prog 63:=Tryz.call63
theorem KD (U:Nat) {a:BF} {g:cE} {p:bF} (b:Value)  (d:Value)  (e:Value)  (f:Value)  (o:k_)  (m:Value)  (t:rB) (r:Int) (h:sG U a g p=some r):
  aY Tryz.prog 63 #[Value.agg #[vS (a.1),b,d],Value.agg #[e,f],m] [Sl aU b a.2.1,Sl aL d a.2.2,PF (Value.agg #[vS a.1,b,d]),Sl bO e g.1,S2 bB f o g.2,S2 bO m t p] (λx:Unit=>vI (r)) (λx l=>l) (λ_ l=>l):=by
 refine aY.of Tryz.func63 Z Tryz.ntmps63 Z λc=>?_;refine aV<|aH (aN.box (cs:=[vS (a.1),b,d]) Z Z) Z λz=>aH (aN.box (cs:=[e,f]) Z Z) Z λA=>aE Z<|aM<|aK<|aV<|eK 1 Z<|eK 0 Z<|fH h λu v h=>aH (aN.callQ adE (Lb U b d e f o u v) Z (oS [0,1,2,3,4] Z)) Z λB=>aE Z<|aM<|aV<|aA Z<|q_ Z<|aM ?_;refine eV h Z (λh=>?_) λh=>?_
 ·refine aV<|aA Z<|aE Z<|aM<|aW<|aJ ?_;cases h;exact tU Z
 refine cK<|aK<|aV<|eK 1 Z<|eK 0 Z<|fH h λq w h=>aH (aN.callQ WV (Ej U b d e f o q w) Z (oS [0,1,2,3,4] Z)) Z λs=>aA Z<|fH h λk n h=>aH (aN.callQ adF (Iz U s.1 (List.zip s.2 q) m t k n) Z (aG.cons (cB (i:=0) (j:=1) Z Z bU) (oS [5] Z))) Z λy=>aB (oQ Z) Z<|aM ?_;refine AZ h Z (λ_ h=>?_) λ_ h=>?_
 ·refine aV<|aE Z<|aM<|aW<|aJ ?_;cases h;exact tU Z
 refine cK<|aV<|aE Z<|aM<|aW ?_;cases h;exact tU Z
def wZ  (a:bF):Option bF:=
 some (a)
def sM (c:bF) (a:Int×bF) (b:(Int×bF)->Option bF):Option bF:=
 if a.1<(List.length c:Int)then(ck (0<=a.1∧a.1<(List.length c:Int)) (ck ((List.length ([]:aQ):Int)+(List.length (at' c a.1):Int)<=1099511627) (ck (0<=a.1∧a.1<(List.length a.2:Int)) (b ((wI .i64 (a.1+(1:Int))),(List.set a.2 (Int.toNat a.1) (([]:aQ)++(at' c a.1))))))))else(wZ  (a.2))
def mB (U:Nat) (a:bF):Option bF:=
 ck (0<=(List.length a:Int)∧(List.length a:Int)<=1099511627) (bJ (sM a) U ((0:Int),(List.replicate (Int.toNat (List.length a:Int)) ([]:aQ))))
theorem MU:aX Tryz.prog 49:=Tryz.call49
theorem yX (U:Nat) {g:bF} (t:Value)  (w:rB) (r:bF) (h:mB U g=some r):
  aY Tryz.prog 49 #[t] [S2 bO t w g] (λx:Ip=>x.1) (λx l=>Ar dA.raw x.1 x.2::lU bZ x.2 r::l) (λ_ l=>l):=by
 refine aY.of Tryz.func49 Z Tryz.ntmps49 Z λc=>?_;refine aV<|aE Z<|aM<|aV<|aA Z<|aB (iF Z (aF.fact 0 Z) Z) Z<|cX h λu h=>jD (zA bZ (Int.toNat (List.length g:Int)))<|aH (mH (e:=dA.raw) (lC) Z Z Z Z u Z Z Z) Z λp=>aE Z<|aM<|aK<|DZ (B:=fV) (λm=>wZ  m=some r) (λm n=>[(3,p)]) (λm n=>[Ar dA.raw p n,lU bZ n m]) ?_ ?_
 ·refine aV<|aA Z<|aB (iF Z (aF.fact 0 Z) Z) Z<|aA Z<|aM<|aS<|dU (B:=fV) (sM g) (λa b=>[(3,p),(9,t),(10,vI (List.length g:Int)),(11,vI (a.1))]) (λa b=>[Ar dA.raw p b,lU bZ b a.2]) ((0:Int),(List.replicate (Int.toNat (List.length g:Int)) ([]:aQ))) (List.replicate (Int.toNat (List.length g:Int)) (lC)) h SF (a_.refl _) ?_;intro v a b h;refine aV<|cM Z<|aM<|aK ?_;refine eV h Z (λh=>?_) λh=>?_
  ·refine cK<|aK<|aS<|aV<|aA Z<|cX h λf h=>aB (bX Z Z (aF.fact 0 Z) Z Z f) Z<|aB (bW Z (aF.fact 0 Z) Z Z f) Z<|aE Z<|aE Z<|aM<|aR<|aA Z<|aA Z<|aA Z<|jD (gQ bZ)<|cX h λq h=>aH (eQ 0 dJ Z Z Z (aF.el (aF.fact 0 Z) f.1 f.2) Z Z Z Z q Z) Z λs=>cX h λd h=>aB (bX Z Z (cB (i:=1) (j:=2) Z Z dJ) Z Z d) Z<|cG (Know.one ((bD (aF.res 0 Z) dJ))) λo=>jD (xX (k:=a.1) 2 0 Z Z Z d) ?_;refine qE 0 1 ⟨d.1,by first|exact d.2|simpa using d.2⟩ Z Z Z Z Z (by simp) o Z ?_;refine eI<|mA<|aR<|cH Z<|aA Z<|aM ?_;exact xT ((wI .i64 (a.1+(1:Int))),(List.set a.2 (Int.toNat a.1) (([]:aQ)++(at' g a.1)))) (List.set b (Int.toNat a.1) s) h SF Z
  refine e_ ?_;exact iB (a.2) (b) h SF Z
 intro m n h;unfold wZ at h;refine aV<|aA Z<|aE Z<|aM<|aW ?_;cases h;exact gH (p,n) Z Z (RV.tmp Z) (a_.refl _) aG.nil
end Go.Proofs.YtlkhndebimcbbaaGreatDoor
namespace Go.Proofs.YtlkhndebimcbbaaGreatDoor
open Go Go.Sx
abbrev sQ:=ByteArray×(List Dd)×(List xR)
structure tK (g:GR) (vars:List Dd):Prop where
 len:vars.length<=20
 small:∀x,x<vars.length->DG (at' vars (x:Int))
 kind:∀x,x<vars.length->(at' vars (x:Int)).2.1=1∨(at' vars (x:Int)).2.1=2∨(at' vars (x:Int)).2.1=3
 range:∀x,x<vars.length->(at' vars (x:Int)).2.1=1 -> -100000<=lo g (at' vars (x:Int)) 0∧lo g (at' vars (x:Int)) 0<=hi g (at' vars (x:Int)) 0∧hi g (at' vars (x:Int)) 0 - lo g (at' vars (x:Int)) 0+1<=4096
theorem aet {g:GR} (a:VG g):Aq 1000 g.1=some (jX g g.1.length):=by
 have d:=a.n24;have b:=a.len;have h:=a.n1;have f:0<=at' g.1 ((0:Nat):Int):=(a.node 0 (by omega)).id.1;unfold Aq;rw[if_neg (by omega),cA (by omega)];have:=eY (step:=uC g.1) (K:=some (jX g g.1.length)) (g.1.length - 1) (λk=>(jX g (k+1),((k+1:Nat):Int))) (λk c i=>by
  unfold uC;dsimp only;rw[if_pos (by omega),cA (by omega),fT (by omega)];rfl) (λc=>by
  unfold uC yU;dsimp only;rw[if_neg (by omega),show g.1.length - 1+1=g.1.length by omega]) 1000 (by omega)
 have e:jX g (0+1)=at' g.1 (0:Int):=by
  show max (jX g 0) (at' g.1 ((0:Nat):Int))=_;simp only[jX];have:at' g.1 ((0:Nat):Int)=at' g.1 (0:Int):=rfl;omega
 rw[e]at this;exact this
theorem Lw {g:GR} (c:VG g) {x:Dd} (o:DG x) (n:x.2.1=1∨x.2.1=2∨x.2.1=3) {v:Nat} (p:v<g.2.length):kE 1000 x g (v:Int)=some (lo g x v,hi g x v):=by
 obtain⟨⟨B,C⟩,⟨r,s⟩,t,u⟩:=o;have l:=c.n24;have d:=c.len;have e:=Ke c g.1.length (by omega);have w:0<=x.2.2.2.2.1*(g.1.length:Int):=Int.mul_nonneg r (by omega);have y:x.2.2.2.2.1*(g.1.length:Int)<=100000*24:=Int.mul_le_mul s (by omega) (by omega) (by omega);have z:0<=x.2.2.2.2.2*jX g g.1.length:=Int.mul_nonneg t e.1;have A:x.2.2.2.2.2*jX g g.1.length<=100000*255:=Int.mul_le_mul u e.2 e.1 (by omega);have i:oA 1000 x g (v:Int)=some (x.2.2.1,x.2.2.2.1+x.2.2.2.2.1*(g.2.length:Int)+x.2.2.2.2.2*jX g g.1.length):=by
  unfold oA;rw[bH (aet c),wr (x:=x.2.2.2.2.1*_) (by omega) (by omega),wr (x:=x.2.2.2.2.2*_) (by omega) (by omega),wr (x:=x.2.2.2.1+_) (by omega) (by omega),wr (by omega) (by omega),d]
 have j:oB 1000 x g (v:Int)=some (-1,((row g v).length:Int) - 1):=by
  have k:=(c.node v p).deg;unfold oB;rw[cA (by omega)];show some ((-1:Int),wI .i64 (((row g v).length:Int) - 1))=_;rw[wr (by omega) (by omega)]
 have q:∀(f:Nat) (a:Int),bJ (eM 1000 x g (v:Int)) (f+1) a=eM 1000 x g (v:Int) a (bJ (eM 1000 x g (v:Int)) f):=λf a=>rfl;have b:∀(f:Nat) (a:Int),a=0∨a=1∨a=2->bJ (eM 1000 x g (v:Int)) (f+1) a=if a=0 then(if 1=x.2.1 then oA 1000 x g (v:Int)else bJ (eM 1000 x g (v:Int)) f 1)else if a=1 then(if 2=x.2.1 then rM 1000 x g (v:Int)else bJ (eM 1000 x g (v:Int)) f 2)else(if 3=x.2.1 then oB 1000 x g (v:Int)else bJ (eM 1000 x g (v:Int)) f 3):=by
  intro f a m;rw[q];generalize bJ (eM 1000 x g (v:Int)) f=G;unfold eM mD;rcases m with rfl|rfl|rfl
  ·rw[if_pos (by decide),cA (by decide),if_pos Z,if_pos Z];split
   ·rw[i];rfl
   ·rfl
  ·rw[if_pos (by decide),cA (by decide),if_neg (show¬(1:Int)=0 by decide),if_pos Z,if_neg (show¬(1:Int)=0 by decide),if_pos Z];split
   ·rfl
   ·rfl
  ·rw[if_pos (by decide),cA (by decide),if_neg (show¬(2:Int)=0 by decide),if_neg (show¬(2:Int)=1 by decide),if_neg (show¬(2:Int)=0 by decide),if_neg (show¬(2:Int)=1 by decide)];split
   ·rw[j];rfl
   ·rfl
 unfold kE lo hi;rcases n with h|h|h
 ·rw[b 999 0 (.inl Z),if_pos Z,if_pos h.symm,i,h,if_neg (by decide),if_neg (by decide),if_neg (by decide),if_neg (by decide)]
 ·rw[b 999 0 (.inl Z),if_pos Z,if_neg (by omega),b 998 1 (.inr (.inl Z)),if_neg (by decide),if_pos Z,if_pos h.symm,h,if_pos Z,if_pos Z];rfl
 ·rw[b 999 0 (.inl Z),if_pos Z,if_neg (by omega),b 998 1 (.inr (.inl Z)),if_neg (by decide),if_pos Z,if_neg (by omega),b 997 2 (.inr (.inr Z)),if_neg (by decide),if_neg (by decide),if_pos h.symm,j,h,if_neg (by decide),if_pos Z,if_neg (by decide),if_pos Z]
def pP (g:GR) (a:List Dd) (v x:Nat):fP:=(lo g (at' a (x:Int)) v,hi g (at' a (x:Int)) v)
def ER (g:GR) (a:List Dd) (v:Nat):fM:=(List.range a.length).map (pP g a v)
def CZ (g:GR) (a:List Dd):fW:=(List.range g.2.length).map (ER g a)
theorem lM {a:Type} [Inhabited a] (f:Nat->a) {n k:Nat} (h:k<n):at' ((List.range n).map f) (k:Int)=f k:=by
 rw[lS (by simpa using h)];simp
theorem yR {a:Type} (f:Nat->a) (z:a) (n k:Nat) (h:k<n):((List.range k).map f++List.replicate (n - k) z).set k (f k)=(List.range (k+1)).map f++List.replicate (n - (k+1)) z:=by
 rw[show n - k=(n - (k+1))+1 by omega,List.replicate_succ,List.set_append_right _ _ (by simp),List.range_succ];simp
theorem Qh {g:GR} (m:VG g) {p:sQ} (n:tK g p.2.1):mW 1000 p g=some (CZ g p.2.1):=by
 have s:=m.n24;have d:=m.len;have w:=n.len;let a:=p.2.1;let Q:Nat->fW:=λk=>(List.range k).map (ER g a)++List.replicate (g.2.length - k) [];have c:∀k,k<=g.2.length->(Q k).length=g.2.length:=λk f=>by simp[Q];omega
 let R:Nat->Nat->fM:=λk j=>(List.range j).map (pP g a k)++List.replicate (a.length - j) (0,0);have l:∀k j,j<=a.length->(R k j).length=a.length:=λk j b=>by simp[R];omega
 unfold mW;rw[cA (by omega)];rw[show List.replicate (Int.toNat (g.1.length:Int)) ([]:fM)=Q 0 by simp[Q,d]];refine eY (step:=lT 1000 p g) (K:=some (CZ g a)) g.2.length (λk=>((k:Int),Q k)) (λk e f=> ?_) (λe=> ?_) 1000 (by omega)
 ·unfold lT;dsimp only;rw[if_pos (by simp;omega),cA (by omega),cA (by rw[c k (by omega)];omega)];refine Eq.trans (?_:_=bJ (nR 1000 p g ((k:Int),Q k) e) 1000 ((0:Int),(Q k).set k (R k 0))) ?_
  ·rw[Int.toNat_natCast,Int.toNat_natCast];simp[R,a]
  refine eY (step:=nR 1000 p g ((k:Int),Q k) e) (K:=e (((k+1:Nat):Int),Q (k+1))) a.length (λj=>((j:Int),(Q k).set k (R k j))) (λj h b=> ?_) (λh=> ?_) 1000 (by show p.2.1.length<1000;omega)
  ·have u:j<p.2.1.length:=b;have t:=Lw m (n.small j b) (n.kind j b) f;have v:k<(Q k).length:=by rw[c k (by omega)];exact f
   have o:∀X:fM,at' ((Q k).set k X) (k:Int)=X:=λX=>by rw[tP _ _ _ _ v,if_pos Z]
   have i:j<(R k j).length:=by rw[l k j (by omega)];exact b
   unfold nR;dsimp only;rw[if_pos (by omega),cA (by omega),cA (by simp only[List.length_set];omega),cA (by simp only[List.length_set];omega),bH (show kE 1000 _ g (k:Int)=_ from t),Int.toNat_natCast,Int.toNat_natCast];simp only[o,List.set_set];rw[cA (by omega),cA (by simp only[List.length_set];omega),fT (by omega)];have:(R k j).set j (lo g (at' p.2.1 (j:Int)) k,hi g (at' p.2.1 (j:Int)) k)=R k (j+1):=yR (pP g a k) (0,0) a.length j b;rw[tP _ _ _ _ i,if_pos Z];dsimp only;rw[this]
  ·unfold nR uO;dsimp only;rw[if_neg (show¬((a.length:Nat):Int)<(p.2.1.length:Int)from Int.lt_irrefl _),fT (by omega)];have q:R k a.length=ER g a k:=by simp[R,ER]
   have r:(Q k).set k (ER g a k)=Q (k+1):=yR (ER g a) [] g.2.length k f;rw[q,r]
 ·unfold lT uN;dsimp only;rw[if_neg (by simp;omega)];simp[Q,CZ]
theorem aaZ {g:GR} (c:VG g) {p:sQ} (b:tK g p.2.1):tZ 1000 p g=some 0:=by
 have i:=c.n1;have h:=b.len;unfold tZ;rw[bH (show BC 1000 _=some true from rfl),if_neg (by decide),bH (show h_ 1000 g=some true from(VJ g).1 c),if_neg (by decide)];refine eY (step:=mN 1000 p g) (K:=some 0) p.2.1.length (λk=>(k:Int)) (λk e d=> ?_) (λe=> ?_) 1000 (by omega)
 ·unfold mN pR wN pR;rw[if_pos (by omega),cA (by omega),fT (by omega)];by_cases a:(at' p.2.1 (k:Int)).2.1=1
  ·obtain⟨j,l,m⟩:=b.range k d a;have f:=Lw c (b.small k d) (b.kind k d) (v:=0) (by omega);rw[if_neg (by simpa using a),bH (show kE 1000 _ g (0:Int)=_ from f)];dsimp only;rw[if_neg (by omega),wr (x:=hi g (at' p.2.1 (k:Int)) 0 - lo g (at' p.2.1 (k:Int)) 0) (by omega) (by omega),wr (by omega) (by omega),if_neg (by rw[decide_eq_true_eq];omega)]
  ·rw[if_pos a]
 ·unfold mN wM;rw[if_neg (by omega)]
theorem YU {g:GR} {a:List Dd} (i:a.length<=20) {v:Nat} {l:aQ} (c:l.length=a.length) (d:∀x,x<a.length->lo g (at' a (x:Int)) v<=at' l (x:Int)∧at' l (x:Int)<=hi g (at' a (x:Int)) v):wV 1000 (ER g a v) l=some true:=by
 have f:(ER g a v).length=a.length:=by simp[ER]
 unfold wV;rw[if_neg (by rw[f,c];simp)];refine eY (step:=nV (ER g a v) l) (K:=some true) l.length (λk=>(k:Int)) (λk b h=> ?_) (λb=> ?_) 1000 (by omega)
 ·have e:at' (ER g a v) (k:Int)=pP g a v k:=lM _ (by omega);have:=d k (by omega);unfold nV uY;rw[if_pos (by omega),cA (by omega),cA (by omega),e];rw[if_neg (show¬at' l (k:Int)<(pP g a v k).1 from Int.not_lt.2 this.1),cA (by omega),if_neg (by rw[decide_eq_true_eq];exact Int.not_lt.2 this.2),fT (by omega)]
 ·unfold nV uX;rw[if_neg (by omega)]
theorem Xb {g:GR} (a:VG g) {p:sQ} (f:tK g p.2.1) {c:bF} (b:Du g c p.2.1):sG 1000 p g c=some 0:=by
 have i:=a.n24;have l:(CZ g p.2.1).length=g.2.length:=by simp[CZ]
 have d:=b.len;unfold sG;rw[bH (show tZ 1000 _ _=some 0 from aaZ a f),if_neg (by decide),bH (show mW 1000 _ _=_ from Qh a f)];have:uV 1000 (CZ g p.2.1) c=some true:=by
  unfold uV;rw[if_neg (by rw[l,d];simp)];refine eY (step:=qA 1000 (CZ g p.2.1) c) (K:=some true) g.2.length (λk=>(k:Int)) (λk h e=> ?_) (λh=> ?_) 1000 (by omega)
  ·have j:at' (CZ g p.2.1) (k:Int)=ER g p.2.1 k:=lM _ e;unfold qA;rw[if_pos (by omega),cA (by omega),cA (by omega),j,bH (YU f.len (b.row k e) (b.ok k e)),if_neg (by decide),fT (by omega)]
  ·unfold qA s_;rw[if_neg (by omega)]
 rw[bH this,if_neg (by decide)]
theorem Ts (c:bF) (h:c.length<=900) (e:∀v,v<c.length->(at' c (v:Int)).length<=1000):mB 1000 c=some c:=by
 unfold mB;rw[cA (by omega)];let Q:Nat->bF:=λk=>(List.range k).map (λv:Nat=>at' c (v:Int))++List.replicate (c.length - k) [];rw[show List.replicate (Int.toNat (c.length:Int)) ([]:aQ)=Q 0 by simp[Q]];refine eY (step:=sM c) (K:=some c) c.length (λk=>((k:Int),Q k)) (λk b a=> ?_) (λb=> ?_) 1000 (by omega)
 ·have g:(Q k).length=c.length:=by simp[Q];omega
  have:=e k a;unfold sM;dsimp only;rw[if_pos (by omega),cA (by omega),cA (by simp;omega),cA (by omega),fT (by omega),Int.toNat_natCast,List.nil_append];have:(Q k).set k (at' c (k:Int))=Q (k+1):=yR (λv:Nat=>at' c (v:Int)) [] c.length k a;rw[this]
 ·unfold sM wZ;dsimp only;rw[if_neg (by omega)];congr 1;refine List.ext_getElem (by simp[Q]) λi f d=> ?_;simp[Q,lS d]
def Ue (x:Int):Int:=max (-1073741824) (min x 1073741824)
def unD (o x:Int):Int:=if o=18 then wI .i64 (0 - x)else AE (decide (x=0))
def abF (a b:Int):Int:=if b=0 then 0 else if Int.tmod a b≠0∧((decide (a<0)) != (decide (b<0)))=true then wI .i64 (wI .i64 (Int.tdiv a b) - 1)else wI .i64 (Int.tdiv a b)
def adM (o x y:Int):Bool:=if o=35 then decide (x=y)else if o=36 then decide (x≠y)else if o=37 then decide (x<y)else if o=38 then decide (x<=y)else if o=39 then decide (y<x)else decide (y<=x)
def biD (o x y:Int):Int:=
 if o=30 then Ue (wI .i64 (x*y))else if o=31 then Ue (abF x y)else if o=32 then(if y=0 then 0 else Ue (wI .i64 (x - wI .i64 (y*abF x y))))else if o=33 then Ue (wI .i64 (x+y))else if o=34 then Ue (wI .i64 (x - y))
 else if o=41 then AE (decide (x≠0)&&decide (y≠0))else if o=42 then AE (decide (x≠0)||decide (y≠0))else AE (adM o x y)
theorem Zf (f:Nat) (o x:Int):Ap f o x=some (unD o x):=by
 unfold Ap unD;split
 ·rfl
 ·rw[bH (uE f _)]
theorem YG (f:Nat) (a b:Int):qY f a b=some (abF a b):=by
 unfold qY abF;by_cases c:b=0
 ·rw[if_pos c,if_pos c]
 ·rw[if_neg c,if_neg c,cA c,cA c];by_cases d:Int.tmod a b=0
  ·rw[if_neg (by simpa using d),if_neg (by simp[d])];rfl
  ·rw[if_pos d];unfold sY pU;by_cases e:((decide (a<0)) != (decide (b<0)))=true
   ·rw[if_pos e,if_pos ⟨d,e⟩]
   ·rw[if_neg e,if_neg (λq=>e q.2)]
theorem adN (f:Nat) (o x y:Int):uU f o x y=some (adM o x y):=by
 unfold uU adM
 repeat' split
 all_goals rfl
theorem UO (f:Nat) (o x y:Int):yP f o x y=some (biD o x y):=by
 unfold yP biD;by_cases h:o=30
 ·rw[if_pos h,if_pos h];rfl
 rw[if_neg h,if_neg h];by_cases h:o=31
 ·rw[if_pos h,if_pos h,bH (YG f x y)];rfl
 rw[if_neg h,if_neg h];by_cases h:o=32
 ·rw[if_pos h,if_pos h];by_cases b:y=0
  ·rw[if_pos b,if_pos b]
  ·rw[if_neg b,if_neg b,bH (YG f x y)];rfl
 rw[if_neg h,if_neg h];by_cases h:o=33
 ·rw[if_pos h,if_pos h];rfl
 rw[if_neg h,if_neg h];by_cases h:o=34
 ·rw[if_pos h,if_pos h];rfl
 rw[if_neg h,if_neg h];by_cases h:o=41
 ·rw[if_pos h,if_pos h];by_cases a:x=0
  ·rw[if_neg (by simpa using a),bH (uE f _)];simp[a,pS]
  ·rw[if_pos a,bH (uE f _)];simp[a,pS]
 rw[if_neg h,if_neg h];by_cases h:o=42
 ·rw[if_pos h,if_pos h];by_cases a:x=0
  ·rw[if_neg (by simpa using a),bH (uE f _)];simp[a,pT]
  ·rw[if_pos a,bH (uE f _)];simp[a,pT]
 rw[if_neg h,if_neg h,bH (adN f o x y),bH (uE f _)]
def E.den (L:Int->Int->Int->Int) (b:Nat):E->Int->Int
 |lf o a,p=>L o a p
 |un o x,p=>unD o (x.den L b p)
 |ag o x,_=>Tz o ((List.range b).map λq=>x.den L b ((q:Nat):Int))
 |bi o x y,p=>biD o (x.den L b p) (y.den L b p)
 |ite x y z,p=>if x.den L b p≠0 then y.den L b p else z.den L b p
def E.wf (c:Nat):Bool->E->Bool
 |b,lf o a=>decide (1<=o)&&decide (o<=17)&&(b||decide (o<=10))&&((decide (o≠5)&&decide (o≠12))||(decide (0<=a)&&decide (a<(c:Int))))
 |b,un o x=>decide (18<=o)&&decide (o<=19)&&x.wf c b
 |_,ag o x=>(decide (o=20)||decide (o=21)||decide (o=22)||decide (o=23)||decide (o=24)||decide (o=26)||decide (o=27))&&x.wf c true
 |b,bi o x y=>decide (30<=o)&&decide (o<=42)&&x.wf c b&&y.wf c b
 |b,ite x y z=>x.wf c b&&y.wf c b&&z.wf c b
theorem ZD {i:Nat}:∀{e:E} {b:Bool},e.wf i b=true->e.arOk=true:=by
 intro e
 induction e with
 |lf o a=>intro b h;simp[E.wf,E.arOk]at h ⊢;omega
 |un o x f=>intro b h;simp[E.wf,E.arOk]at h ⊢;exact⟨h.1,f h.2⟩
 |ag o x f=>intro b h;simp[E.wf,E.arOk]at h ⊢;exact⟨by omega,f h.2⟩
 |bi o x y c d=>intro b h;simp[E.wf,E.arOk]at h ⊢;exact⟨⟨h.1.1,c h.1.2⟩,d h.2⟩
 |ite x y z c d g=>intro b h;simp[E.wf,E.arOk]at h ⊢;exact⟨⟨c h.1.1,d h.1.2⟩,g h.2⟩
def Yo (W:WLK) (p:Int):Int:=(at' (at' W.1.2.1.2 W.2.2.1) p).1
def TK (W:WLK) (o a p:Int):Int:=
 if o=1 then a else if o=2 then 1 else if o=3 then 0 else if o=4 then -1 else if o=5 then at' (at' W.2.1 W.2.2.1) a else if o=12 then at' (at' W.2.1 (Yo W p)) a
 else if o=6 then(W.1.2.1.1.length:Int)else if o=7 then W.1.2.2.1 else if o=8 then at' W.1.2.1.1 W.2.2.1 else if o=9 then((at' W.1.2.1.2 W.2.2.1).length:Int)else if o=10 then AE (decide (W.2.2.1=0))else if o=11 then p
 else if o=13 then at' W.1.2.1.1 (Yo W p)else if o=14 then((at' W.1.2.1.2 (Yo W p)).length:Int)else if o=15 then AE (decide (Yo W p=0))else if o=16 then(at' (at' W.1.2.1.2 W.2.2.1) p).2 else at' (at' W.1.2.2.2 W.2.2.1) p
structure WOk (W:WLK) (nv n v:Nat):Prop where
 node:W.2.2.1=(v:Int)
 lt:v<n
 ports:W.1.2.1.2.length=n
 ids:W.1.2.1.1.length=n
 c:W.2.1.length=n
 row:∀u:Nat,u<n->(at' W.2.1 (u:Int)).length=nv
 to:∀u:Nat,u<n->∀i:Nat,i<(at' W.1.2.1.2 (u:Int)).length->0<=(at' (at' W.1.2.1.2 (u:Int)) (i:Int)).1∧(at' (at' W.1.2.1.2 (u:Int)) (i:Int)).1<(n:Int)
 bl:W.1.2.2.2.length=n
 br:∀u:Nat,u<n->(at' W.1.2.2.2 (u:Int)).length=(at' W.1.2.1.2 (u:Int)).length
def Wp (b:Bool) (a:Nat) (p:Int):Prop:=b=true->∃q:Nat,p=(q:Int)∧q<a
theorem abn {W:WLK} {k n v:Nat} (h:WOk W k n v) (f:Nat) {b:Bool} {o a p:Int} (s:(E.lf o a).wf k b=true) (r:Wp b (at' W.1.2.1.2 (v:Int)).length p):lX f W (o,a) p=some (TK W o a p):=by
 obtain⟨y,c,A,B,C,l,m,F,w⟩:=h;simp only[E.wf,Bool.and_eq_true,Bool.or_eq_true,decide_eq_true_eq]at s;obtain⟨⟨⟨G,H⟩,d⟩,I⟩:=s;have z:(at' W.2.1 (v:Int)).length=k:=l v c;unfold lX TK Yo;dsimp only;rw[y];by_cases e:o=1
 ·simp only[if_pos e]
 simp only[if_neg e];by_cases e:o=2
 ·simp only[if_pos e]
 simp only[if_neg e];by_cases e:o=3
 ·simp only[if_pos e]
 simp only[if_neg e];by_cases e:o=4
 ·simp only[if_pos e]
 simp only[if_neg e];by_cases e:o=5
 ·simp only[if_pos e];rw[cA (by omega),cA (by omega)]
 simp only[if_neg e];by_cases e:o=12
 ·have i:b=true:=by
   rcases d with d|d
   ·exact d
   ·omega
  obtain⟨q,rfl,j⟩:=r i;have g:=m v c q j;obtain⟨u,x⟩:∃u:Nat,(at' (at' W.1.2.1.2 (v:Int)) (q:Int)).1=(u:Int):=⟨_,(Int.toNat_of_nonneg g.1).symm⟩
  simp only[if_pos e];rw[x]at g ⊢;have D:=l u (by omega);rw[cA (by omega),cA (by omega),cA (by omega),cA (by omega)]
 simp only[if_neg e];unfold sE;dsimp only;by_cases e:o=6
 ·simp only[if_pos e];rfl
 simp only[if_neg e];by_cases e:o=7
 ·simp only[if_pos e];rfl
 simp only[if_neg e];by_cases e:o=8
 ·simp only[if_pos e];rw[cA (by omega)];rfl
 simp only[if_neg e];by_cases e:o=9
 ·simp only[if_pos e];rw[cA (by omega)];rfl
 simp only[if_neg e];by_cases e:o=10
 ·simp only[if_pos e];rw[bH (uE f _)];rfl
 simp only[if_neg e];by_cases e:o=11
 ·simp only[if_pos e];rfl
 simp only[if_neg e];have i:b=true:=by
  rcases d with d|d
  ·exact d
  ·omega
 obtain⟨q,rfl,j⟩:=r i;have g:=m v c q j;rw[cA (by omega),cA (by omega)];by_cases e:o=13
 ·simp only[if_pos e];rw[cA (by omega)];rfl
 simp only[if_neg e];by_cases e:o=14
 ·simp only[if_pos e];rw[cA (by omega)];rfl
 simp only[if_neg e];by_cases e:o=15
 ·simp only[if_pos e];rw[bH (uE f _)];rfl
 simp only[if_neg e];by_cases e:o=16
 ·simp only[if_pos e];rfl
 simp only[if_neg e];have t:=w v c;rw[cA (by omega),cA (by omega)];rfl
theorem Zu {W:WLK} {nv n v:Nat} (h:WOk W nv n v) {deg:Nat} (m:(at' W.1.2.1.2 (v:Int)).length=deg) (L:deg<=24) (S:W.2.2.2.length<=800):
  ∀(e:E) (b:Bool) (c k:Nat) (p:Int) (g d:fM),W.2.2.2=g++(e.ts++d)->g.length=k->e.wf nv b=true->Wp b deg p->e.depth+850<=c->
   bR c W (k:Int) p=some (e.den (TK W) deg p,(((k+e.ts.length:Nat)):Int)):=by
 obtain⟨Q,ab,h1,h2,h3,h4,h5,_,_⟩:=id h;have i:∀{t:fP} {l g d:fM} {k:Nat},W.2.2.2=g++((t::l)++d)->g.length=k->at' W.2.2.2 (k:Int)=t∧(k:Int)<(W.2.2.2.length:Int):=by
  intro t l g d k j r;refine⟨Tc (rest:=l++d) (by simpa using j) r,?_⟩
  rw[j];simp;omega
 intro e
 induction e with
 |lf o a=>
  intro b c k p g d j r u w B;obtain⟨c,rfl⟩:∃f,c=f+1:=⟨c - 1,by omega⟩
  obtain⟨A,s⟩:=i (l:=[]) j r;show cY (bR c) c W (k:Int) p=_;unfold cY;rw[cA ⟨by omega,s⟩,A];dsimp only;have X:=u;simp only[E.wf,Bool.and_eq_true,Bool.or_eq_true,decide_eq_true_eq]at X;have hl:=abn h c u (m▸w);rw[if_pos (by omega),bH (show lX c _ (o,a) p=some (TK W o a p)from hl),fT (by omega)];rfl
 |un o x ih=>
  intro b c k p g d j r u w B;obtain⟨c,rfl⟩:∃f,c=f+1:=⟨c - 1,by omega⟩
  obtain⟨A,s⟩:=i (l:=x.ts) j r;show cY (bR c) c W (k:Int) p=_;unfold cY;rw[cA ⟨by omega,s⟩,A];dsimp only;simp only[E.wf,Bool.and_eq_true,decide_eq_true_eq]at u;simp only[E.depth]at B;have F:=ih b c (k+1) p (g++[(o,0)]) d (by rw[j];simp[E.ts]) (by simp[r]) u.2 w (by omega);rw[if_neg (by omega),if_pos (by omega),fT (by omega),bH (show bR c _ _ p=_ from F),bH (Zf c _ _)];simp only[E.den,E.ts,List.length_cons];rw[show k+1+x.ts.length=k+(x.ts.length+1) by omega]
 |bi o x y G H=>
  intro b c k p g d j r u w B;obtain⟨c,rfl⟩:∃f,c=f+1:=⟨c - 1,by omega⟩
  obtain⟨A,s⟩:=i (l:=x.ts++y.ts) j r;show cY (bR c) c W (k:Int) p=_;unfold cY;rw[cA ⟨by omega,s⟩,A];dsimp only;simp only[E.wf,Bool.and_eq_true,decide_eq_true_eq]at u;simp only[E.depth]at B;have F:=G b c (k+1) p (g++[(o,0)]) (y.ts++d) (by rw[j];simp[E.ts]) (by simp[r]) u.1.2 w (by omega);have Y:=H b c (k+1+x.ts.length) p (g++(o,0)::x.ts) d (by rw[j];simp[E.ts]) (by simp[r];omega) u.2 w (by omega);rw[if_neg (by omega),if_neg (by omega),if_neg (by omega),if_pos (by omega),fT (by omega),bH (show bR c _ _ p=_ from F),bH (show bR c _ _ p=_ from Y),bH (UO c _ _ _)];simp only[E.den,E.ts,List.length_cons,List.length_append];rw[show k+1+x.ts.length+y.ts.length=k+(x.ts.length+y.ts.length+1) by omega]
 |ite x y z G H aa=>
  intro b c k p g d j r u w B;obtain⟨c,rfl⟩:∃f,c=f+1:=⟨c - 1,by omega⟩
  obtain⟨A,s⟩:=i (l:=x.ts++(y.ts++z.ts)) j r;show cY (bR c) c W (k:Int) p=_;unfold cY;rw[cA ⟨by omega,s⟩,A];dsimp only;simp only[E.wf,Bool.and_eq_true]at u;simp only[E.depth]at B;have F:=G b c (k+1) p (g++[(43,0)]) (y.ts++z.ts++d) (by rw[j];simp[E.ts]) (by simp[r]) u.1.1 w (by omega);have Y:=H b c (k+1+x.ts.length) p (g++(43,0)::x.ts) (z.ts++d) (by rw[j];simp[E.ts]) (by simp[r];omega) u.1.2 w (by omega);have hz:=aa b c (k+1+x.ts.length+y.ts.length) p (g++(43,0)::(x.ts++y.ts)) d (by rw[j];simp[E.ts]) (by simp[r];omega) u.2 w (by omega);rw[if_neg (by decide),if_neg (by decide),if_neg (by decide),if_neg (by decide),fT (by omega),bH (show bR c _ _ p=_ from F),bH (show bR c _ _ p=_ from Y),bH (show bR c _ _ p=_ from hz)];simp only[E.den,E.ts,List.length_cons,List.length_append];rw[show k+1+x.ts.length+y.ts.length+z.ts.length=k+(x.ts.length+(y.ts.length+z.ts.length)+1) by omega];split<;>rfl
 | ag o x ih =>
  intro b c k p g d j r u w B;obtain⟨c,rfl⟩:∃f,c=f+1:=⟨c - 1,by omega⟩
  obtain⟨A,s⟩:=i (l:=x.ts) j r;have T:=ZD u;have R:=u;simp only[E.wf,Bool.and_eq_true,Bool.or_eq_true,decide_eq_true_eq]at R;simp only[E.depth]at B;have P:(E.ag o x).ts.length=x.ts.length+1:=rfl;have M:=congrArg List.length j;simp only[List.length_append]at M;show cY (bR c) c W (k:Int) p=_;unfold cY;rw[cA ⟨by omega,s⟩,A];dsimp only;rw[if_neg (by omega),if_neg (by omega),if_pos (by omega),cA (by omega)];let D:Nat->Int:=λq=>x.den (TK W) deg ((q:Nat):Int);let V:Nat->aQ:=λq=>(List.range q).map D++List.replicate (24 - q) 0;have J:∀q,q<=24->(V q).length=24:=λq U=>by simp[V];omega
  have O:∀q,q<24->(V q).set q (D q)=V (q+1):=λq U=>by
   show((List.range q).map D++List.replicate (24 - q) 0).set q (D q)=(List.range (q+1)).map D++List.replicate (24 - (q+1)) 0;rw[show 24 - q=(24 - (q+1))+1 by omega,List.replicate_succ,List.set_append_right _ _ (by simp),List.range_succ];simp
  let N:Nat->Int:=λq=>if q=0 then 0 else(((k+1+x.ts.length:Nat)):Int)
  refine Eq.trans (eY (step:=kM c W (k:Int) (bR c)) (K:=some ((E.ag o x).den (TK W) deg p,(((k+(E.ag o x).ts.length:Nat)):Int))) deg (λq=>(N q,(q:Int),V q)) (λq ag U=> ?_) (λag=> ?_) c (by omega)) Z
  ·unfold kM;dsimp only;have F:=ih true c (k+1) ((q:Nat):Int) (g++[(o,0)]) d (by rw[j];simp[E.ts]) (by simp[r]) R.2 (λ_=>⟨q,rfl,U⟩) (by omega);rw[if_pos (by rw[Q,m];omega),fT (by omega),bH (show bR c _ _ _=_ from F),cA ⟨by omega,J q (by omega)⟩,fT (by omega),Int.toNat_natCast];show ag (_,_,(V q).set q (D q))=_;rw[O q (by omega)];simp only[N];rw[if_neg (by omega)]
  ·unfold kM;dsimp only;rw[if_neg (by rw[Q,m];omega)];have C:List.take deg (V deg)=(List.range deg).map D:=by
    show List.take deg ((List.range deg).map D++_)=_;exact List.take_left' (by simp)
   have I:∀y:Int,y=(((k+1+x.ts.length:Nat)):Int)->kL c W (k:Int) (N deg,V deg) y=some ((E.ag o x).den (TK W) deg p,(((k+(E.ag o x).ts.length:Nat)):Int)):=by
    rintro y rfl;unfold kL;dsimp only;rw[Q,m,cA ⟨by omega,by omega,by rw[J deg L];omega⟩,A,Int.toNat_natCast,C,bH (aa_ c o _ (by omega) (by simp;omega) (by omega))];unfold nH;rw[P,show k+1+x.ts.length=k+(x.ts.length+1) by omega];rfl
   unfold rK;dsimp only;by_cases h0:deg=0
   ·rw[if_pos (by rw[Q,m];omega),bH (adV c (E.ag o x) T j r S (by omega))];exact I _ (by rw[P];omega)
   ·rw[if_neg (by rw[Q,m];omega)];exact I _ (by simp only[N];rw[if_neg h0])
end Go.Proofs.YtlkhndebimcbbaaGreatDoor
namespace Go.Proofs.YtlkhndebimcbbaaGreatDoor
open Go.Sx
def gF (U:Nat) (a:VF) (b:bF) (c:Int) (d:fM):Option (Int):=
 Option.bind (bR U ((((((a.1.1,a.1.2.1,a.1.2.2)),((a.2.1.1,a.2.1.2)),a.2.2.1,a.2.2.2)),b,c,d)) (0:Int) (-1:Int)) λe=>(some (e.1))
theorem Tf:aX Tryz.prog 126:=Tryz.call126
theorem xU (U:Nat) {d:VF} {s:bF} {f:Int} {t:fM} (a:Nat)  (m:Value)  (n:Value)  (o:Value)  (p:Value)  (u:k_)  (q:Value)  (v:rB)  (e:Value)  (y:rB)  (b:Value) (r:Int) (h:gF U d s f t=some r):
  aY Tryz.prog 126 #[vP a,e,vI (f),b] [bV a [vS (d.1.1),m,n,o,p,vI (d.2.2.1),q] 134,Sl aU m d.1.2.1,Sl aL n d.1.2.2,Sl bO o d.2.1.1,S2 bB p u d.2.1.2,S2 bO q v d.2.2.2,S2 bO e y s,Sl bB b t] (λx:Unit=>vI (r)) (λx l=>l) (λ_ l=>l):=by
 refine aY.of Tryz.func126 Z Tryz.ntmps126 Z λc=>?_;refine aV<|aE Z<|aM<|aV<|aA Z<|aA Z<|aA Z<|aA Z<|cG (Know.one (aF.sl (aF.fact 6 Z))) λg=>cG (Know.one ((aF.fact 7 Z))) λi=>?_;refine aB (acP (r:=Value.agg #[Value.pointer (some ⟨a,0,none⟩),e,vI (f),b]) Z Z Z Z (by intro w;simp[Instr.build,Instr.fill,fC,eB,dH,fD,fE,eD,gR,eN g,eN i])) Z ?_;refine aH (aN.alloc (cs:=[Value.pointer none,lC,vI (0:Int),lC]) Z Z) Z λz=>cG (Know.one (aF.sl (aF.fact 6 Z))) λj=>cG (Know.one ((aF.fact 7 Z))) λk=>bS 0 (vs:=[vP a,e,vI (f),b]) Z Z (lE Z (lE j (lE Z (lE k Z)))) Z Z Z<|aM<|aV<|fH h λA B h=>aH (aN.callQ Bg (Eg U z a m n o p u q v e y b A B) Z (aG.cons (aF.res 0 Z) (oS [0,1,2,3,4,5,6,7] Z))) Z λC=>aA Z<|iY Z<|iY Z<|aE Z<|aE Z<|aM<|aV<|aA Z<|aE Z<|aM<|aW ?_;cases h;exact tU Z
def kQ (U:Nat) (a:VF) (c:bF) (d:Int) (b:Int):Option (Bool):=
 ck (0<=b∧b<(List.length a.1.2.2:Int)) (Option.bind (gF U ((((a.1.1,a.1.2.1,a.1.2.2)),((a.2.1.1,a.2.1.2)),a.2.2.1,a.2.2.2)) c d ((at' a.1.2.2 b).2.1.2)) λe=>(some (decide (e≠(0:Int)))))
theorem adH:aX Tryz.prog 92:=Tryz.call92
theorem Dr (U:Nat) {a:VF} {n:bF} {o:Int} {e:Int} (b:Nat)  (f:Value)  (g:Value)  (i:Value)  (j:Value)  (p:k_)  (k:Value)  (q:rB)  (m:Value)  (s:rB) (r:Bool) (h:kQ U a n o e=some r):
  aY Tryz.prog 92 #[vP b,m,vI (o),vI (e)] [bV b [vS (a.1.1),f,g,i,j,vI (a.2.2.1),k] 134,Sl aU f a.1.2.1,Sl aL g a.1.2.2,Sl bO i a.2.1.1,S2 bB j p a.2.1.2,S2 bO k q a.2.2.2,S2 bO m s n] (λx:Unit=>vB (r)) (λx l=>l) (λ_ l=>l):=by
 refine aY.of Tryz.func92 Z Tryz.ntmps92 Z λc=>?_;refine aV<|aE Z<|aM<|aV<|aA Z<|aA Z<|aA Z<|aA Z<|aB (b_ Z) Z<|bT Z<|bT Z<|aB (dG Z (aF.fact 0 Z) Z Z Z) Z<|aA Z<|cX h λd h=>aB (aZ Z Z (aF.fact 2 Z) Z Z d) Z<|aB (fY Z Z Z Z Z) Z<|aB (jO Z (aF.fact 2 Z) Z Z Z Af d) Z<|fH h λt u h=>aH (aN.callQ Tf (xU U b f g i j p k q m s ((at' a.1.2.2 e).2.1.1) t u) Z (aG.cons (aF.fact 0 Z) (aG.cons (aF.fact 1 Z) (aG.cons (aF.fact 2 Z) (aG.cons (aF.fact 3 Z) (aG.cons (aF.fact 4 Z) (aG.cons (aF.fact 5 Z) (aG.cons (aF.fact 6 Z) (aG.cons (vN (aF.fact 2 Z) Ah d.1 d.2) .nil))))))))) Z λv=>q_ Z<|aE Z<|aM<|aW ?_;cases h;exact lA Z
def nK  (a:Unit):Option (Int):=
 some (-1:Int)
def kO (U:Nat) (a:HQ) (d:bF) (e:Int) (b:Int) (c:(Int)->Option (Int)):Option (Int):=
 if b<(List.length a.1.2.2:Int)then(Option.bind (kQ U ((((a.2.1.1.1,a.2.1.1.2.1,a.2.1.1.2.2)),((a.2.1.2.1.1,a.2.1.2.1.2)),a.2.1.2.2.1,a.2.1.2.2.2)) d e b) λf=>(if f=true then(some (b))else(c (wI .i64 (b+(1:Int))))))else(nK  (()))
def eR (U:Nat) (a:HQ) (b:bF) (c:Int):Option (Int):=
 bJ (kO U a b c) U (0:Int)
theorem WW:aX Tryz.prog 68:=Tryz.call68
theorem zK (U:Nat) {a:HQ} {n:bF} {m:Int} (d:Nat)  (z:Value)  (A:Value)  (e:Nat)  (o:Value)  (p:Value)  (q:Value)  (s:Value)  (B:k_)  (t:Value)  (g:rB)  (f:Value)  (v:k_)  (b:Value)  (i:rB) (r:Int) (h:eR U a n m=some r):
  aY Tryz.prog 68 #[vP d,b,vI (m)] [bV d [vS (a.1.1),z,A,vP e,f] 106,Sl aU z a.1.2.1,Sl aL A a.1.2.2,bV e [vS (a.2.1.1.1),o,p,q,s,vI (a.2.1.2.2.1),t] 134,Sl aU o a.2.1.1.2.1,Sl aL p a.2.1.1.2.2,Sl bO q a.2.1.2.1.1,S2 bB s B a.2.1.2.1.2,S2 bO t g a.2.1.2.2.2,S2 bB f v a.2.2,S2 bO b i n] (λx:Unit=>vI (r)) (λx l=>l) (λ_ l=>l):=by
 refine aY.of Tryz.func68 Z Tryz.ntmps68 Z λc=>?_;unfold eR at h;refine aV<|aE Z<|aM<|aK<|dO (λj=>nK  j=some r) (λj w=>[]) (λj w=>[]) ?_ ?_
 ·refine aV<|aA Z<|aB (b_ Z) Z<|bT Z<|bT Z<|aB (dG Z (aF.fact 0 Z) Z Z Z) Z<|kF (aF.fact 2 Z) Z<|aA Z<|aM<|aS<|dU (kO U a n m) (λk y=>[(0,vP d),(1,b),(2,vI (m)),(13,vI (List.length a.1.2.2:Int)),(14,vI (k))]) (λk y=>[]) (0:Int) () h SF (a_.refl _) ?_;intro E k y h;refine aV<|cM Z<|aM<|aK ?_;refine eV h Z (λh=>?_) λh=>?_
  ·refine cK<|aK<|aS<|aV<|aA Z<|aE Z<|aM<|aV<|aA Z<|aB (b_ Z) Z<|bT Z<|aB (dG Z (aF.fact 0 Z) Z Z Z) Z<|aA Z<|aA Z<|aA Z<|fH h λC u h=>aH (aN.callQ adH (Dr U e o p q s B t g b i C u) Z (oS [3,4,5,6,7,8,10] Z)) Z λD=>aM ?_;refine AZ h Z (λ_ h=>?_) λ_ h=>?_
   ·refine aV<|aA Z<|aE Z<|aM<|aW<|bM<|aJ<|aJ<|bM<|aJ ?_;cases h;exact lA Z
   refine dK<|mA<|aR<|cH Z<|aA Z<|aM ?_;exact xT (wI .i64 (k+(1:Int))) () h SF Z
  refine e_ ?_;exact iB () (()) h SF Z
 intro j w h;unfold nK at h;refine aV<|aE Z<|aM<|aW ?_;cases h;exact lA Z
def uM (d:Int) (a:fP) (b:Int) (c:Bool):Option (Int):=
 if c=true then(some (b))else(if d=(3:Int)then(some (-1:Int))else(if b<a.1 then(some (a.1))else(some (a.2))))
def wU (U:Nat) (c:Int) (a:fP) (b:Int):Option (Int):=
 if a.1<=b then(uM c a b (decide (b<=a.2)))else(uM c a b (false))
theorem aax:aX Tryz.prog 166:=Tryz.call166
theorem KB (U:Nat) {e:Int} {a:fP} {d:Int} (r:Int) (h:wU U e a d=some r):
  aY Tryz.prog 166 #[vI (e),Value.agg #[vI (a.1),vI (a.2)],vI (d)] [] (λx:Unit=>vI (r)) (λx l=>l) (λ_ l=>l):=by
 refine aY.of Tryz.func166 Z Tryz.ntmps166 Z λc=>?_;refine aV<|aH (aN.box (cs:=[vI (a.1),vI (a.2)]) Z Z) Z λf=>aE Z<|aM<|aK<|aS<|aK<|dO (λb=>uM e a d b=some r) (λb g=>[(0,vI (e)),(2,vI (d)),(4,vP f),(7,vB (b))]) (λb g=>[bV f [vI (a.1),vI (a.2)] 138]) ?_ ?_
 ·refine aR<|aA Z ?_;refine aB (oJ (i:=0) Z Z Z Z Z (by decide)) Z ?_;refine dD 0 Z<|aB (De Z Z) Z<|aA Z ?_;refine Dv h Z (λ_ h=>?_) λ_ h=>?_
  ·refine cS Z ?_;refine aP Z (oJ (i:=1) Z Z Z Z Z (by decide)) Z ?_;refine aP Z (eH 0 Z Z Z Z Z) Z<|aP Z (BN Z Z) Z<|dW Z<|aE Z<|aM ?_;exact iB (decide (d<=a.2)) () h SF Z
  refine aI Z<|aI Z<|aI Z<|aI Z<|fO Z<|aE Z<|aM ?_;exact iB (false) () h SF Z
 intro b g h;refine AZ h Z (λ_ h=>?_) λ_ h=>?_
 ·refine aV<|aA Z<|aE Z<|aM<|aW<|bM<|aJ ?_;cases h;exact tU Z
 refine aV<|aA Z<|cP Z<|aE Z<|aM ?_;refine eV h Z (λh=>?_) λh=>?_
 ·refine aV<|aE Z<|aM<|aW<|bM<|aJ ?_;cases h;exact tU Z
 refine aV<|aA Z ?_;refine aB (oJ (i:=0) Z Z Z Z Z (by decide)) Z ?_;refine dD 0 Z<|cM Z<|aE Z<|aM ?_;refine eV h Z (λh=>?_) λh=>?_
 ·refine aV ?_;refine aB (oJ (i:=0) Z Z Z Z Z (by decide)) Z ?_;refine dD 0 Z<|aE Z<|aM<|aW<|bM<|aJ ?_;cases h;exact tU Z
 refine dK<|mA<|aV ?_;refine aB (oJ (i:=1) Z Z Z Z Z (by decide)) Z ?_;refine dD 0 Z<|aE Z<|aM<|aW ?_;cases h;exact tU Z
def nJ  (a:aQ):Option aQ:=
 some (a)
def kN (U:Nat) (b:HQ) (h:bF) (d:Int) (c:Int) (a:lB) (e:rA->Option aQ):Option aQ:=
 if a.1<(List.length ((at' b.1.2.2 c).2.2.2):Int)then(ck (0<=a.1∧a.1<(List.length ((at' b.1.2.2 c).2.2.2):Int)) (Option.bind (gF U ((((b.2.1.1.1,b.2.1.1.2.1,b.2.1.1.2.2)),((b.2.1.2.1.1,b.2.1.2.1.2)),b.2.1.2.2.1,b.2.1.2.2.2)) h d ((at' ((at' b.1.2.2 c).2.2.2) a.1).2.2)) λf=>(ck (0<=((at' ((at' b.1.2.2 c).2.2.2) a.1).1)∧((at' ((at' b.1.2.2 c).2.2.2) a.1).1)<(List.length b.1.2.1:Int)) (ck (0<=d∧d<(List.length b.2.2:Int)) (ck (0<=((at' ((at' b.1.2.2 c).2.2.2) a.1).1)∧((at' ((at' b.1.2.2 c).2.2.2) a.1).1)<(List.length (at' b.2.2 d):Int)) (Option.bind (wU U ((at' b.1.2.1 ((at' ((at' b.1.2.2 c).2.2.2) a.1).1)).2.1) ((((at' (at' b.2.2 d) ((at' ((at' b.1.2.2 c).2.2.2) a.1).1)).1),((at' (at' b.2.2 d) ((at' ((at' b.1.2.2 c).2.2.2) a.1).1)).2))) f) λg=>(ck (0<=((at' ((at' b.1.2.2 c).2.2.2) a.1).1)∧((at' ((at' b.1.2.2 c).2.2.2) a.1).1)<(List.length a.2:Int)) (e ((wI .i64 (a.1+(1:Int))),(List.set a.2 (Int.toNat ((at' ((at' b.1.2.2 c).2.2.2) a.1).1)) g))))))))))else(nJ  (a.2))
def lL (U:Nat) (d:HQ) (b:bF) (a:Int) (c:Int):Option aQ:=
 ck (0<=a∧a<(List.length b:Int)) (ck ((List.length ([]:aQ):Int)+(List.length (at' b a):Int)<=1099511627) (ck (0<=c∧c<(List.length d.1.2.2:Int)) (bJ (kN U d b a c) U ((0:Int),(([]:aQ)++(at' b a))))))
theorem aat:aX Tryz.prog 147:=Tryz.call147
theorem Eh (U:Nat) {b:HQ} {C:bF} {m:Int} {f:Int} (j:Nat)  (O:Value)  (P:Value)  (k:Nat)  (E:Value)  (F:Value)  (G:Value)  (H:Value)  (Q:k_)  (I:Value)  (y:rB)  (w:Value)  (M:k_)  (i:Value)  (A:rB) (r:aQ) (h:lL U b C m f=some r):
  aY Tryz.prog 147 #[vP j,i,vI (m),vI (f)] [bV j [vS (b.1.1),O,P,vP k,w] 106,Sl aU O b.1.2.1,Sl aL P b.1.2.2,bV k [vS (b.2.1.1.1),E,F,G,H,vI (b.2.1.2.2.1),I] 134,Sl aU E b.2.1.1.2.1,Sl aL F b.2.1.1.2.2,Sl bO G b.2.1.2.1.1,S2 bB H Q b.2.1.2.1.2,S2 bO I y b.2.1.2.2.2,S2 bB w M b.2.2,S2 bO i A C] (λx:Value=>x) (λx l=>Ar bZ x r::l) (λ_ l=>l):=by
 refine aY.of Tryz.func147 Z Tryz.ntmps147 Z λc=>?_;refine aV<|aE Z<|aM<|aV<|aA Z<|aA Z<|cX h λB h=>aB (bX Z Z (aF.fact 10 Z) Z Z B) Z<|aB (bW Z (aF.fact 10 Z) Z Z B) Z<|jD (gQ bZ)<|cX h λS h=>aH (eQ 0 dJ Z Z Z (aF.el (aF.fact 10 Z) B.1 B.2) Z Z Z Z S Z) Z λv=>aE Z<|aM<|aK<|dO (λo=>nJ  o=some r) (λo N=>[(9,v)]) (λo N=>[Ar bZ v o]) ?_ ?_
 ·refine aV<|aA Z<|aB (b_ Z) Z<|bT Z<|bT Z<|aB (dG Z (aF.fact 0 Z) Z Z Z) Z<|aA Z<|cX h λg h=>aB (aZ Z Z (aF.fact 2 Z) Z Z g) Z<|aB (fY Z Z Z Z Z) Z<|aB (jO Z (aF.fact 2 Z) Z Z Z Ag g) Z<|aB (fX Z (vN (aF.fact 2 Z) gJ g.1 g.2) Z) Z<|aA Z<|aM<|aS<|dU (kN U b C m f) (λa p=>[(0,vP j),(1,i),(2,vI (m)),(9,v),(26,(at' b.1.2.2 f).2.2.1),(27,vI (List.length ((at' b.1.2.2 f).2.2.2):Int)),(28,vI (a.1))]) (λa p=>[Ar bZ v a.2]) ((0:Int),(([]:aQ)++(at' C m))) () h SF (a_.refl _) ?_;intro T a p h;refine aV<|cM Z<|aM<|aK ?_;refine eV h Z (λh=>?_) λh=>?_
  ·refine cK<|aK<|aS<|aV<|cX h λd h=>aB (aZ Z Z (vN (aF.fact 2 Z) gJ g.1 g.2) Z Z d) Z<|aB (QZ (cs:=[vI ((at' ((at' b.1.2.2 f).2.2.2) a.1).1),(at' ((at' b.1.2.2 f).2.2.2) a.1).2.1]) Z (vN (aF.fact 2 Z) gJ g.1 g.2) KV Z Z Z Z d) Z<|aH (aN.alloc (cs:=[vI (0:Int),lC]) Z Z) Z λR=>cG (Know.one ((vN (vN (aF.fact 2 Z) gJ g.1 g.2) Db d.1 d.2))) λq=>bS 0 (vs:=[vI ((at' ((at' b.1.2.2 f).2.2.2) a.1).1),(at' ((at' b.1.2.2 f).2.2.2) a.1).2.1]) Z Z (lE Z (lE q Z)) Z Z Z<|aM<|aK ?_;refine JR.start [0,1,3,7,0,0,0,64,255,511] 8 mixedOrders (by decide +kernel) ?_;refine JR.open (by exact rfl) ?_;refine bG Z<|jS Z (b_ Z)<|dB Z<|bK Z .nil (kA 0 Z) (dG Z (aF.fact 0 Z) Z Z Z) aO.z<|bG Z<|bG Z<|dB Z<|jR 0 Z<|bP 8 Z Z<|fH h λD J h=>aH (aN.callQ Tf (xU U k E F G H Q I y i A ((at' ((at' b.1.2.2 f).2.2.2) a.1).2.1) D J) Z (aG.cons (aF.fact 3 Z) (aG.cons (aF.fact 4 Z) (aG.cons (aF.fact 5 Z) (aG.cons (aF.fact 6 Z) (aG.cons (aF.fact 7 Z) (aG.cons (aF.fact 8 Z) (aG.cons (aF.fact 10 Z) (aG.cons (vN (vN (aF.fact 2 Z) gJ g.1 g.2) Db d.1 d.2) .nil))))))))) Z λV=>aE Z<|aM ?_;refine JR.start [0,0,2,0,8,24,56,120,0,256,1016,2040,4088,0,8192,24576,57344,0,253952,516096,0,1048576,4186112,8380416,0,33554424,67108863,134217727] 26 mixedOrders (by decide +kernel) ?_;refine JR.open (by exact rfl) ?_;refine bG Z<|dB Z<|jR 0 Z<|bG Z<|jS Z (b_ Z)<|dB Z<|dB Z<|bK Z .nil (kA 0 Z) (dG Z (aF.fact 0 Z) Z Z Z) aO.z<|dB Z<|jR 0 Z<|cX h λs h=>bK Z .nil (kA 1 Z) (aZ Z Z (aF.fact 0 Z) Z Z s) aO.z<|jS Z (fY Z Z Z Z Z)<|bK Z .nil (kA 1 Z) (jO Z (aF.fact 0 Z) Z Z Z xS s) aO.z<|bG Z<|jS Z (b_ Z)<|dB Z<|bK Z .nil (kA 0 Z) (dG Z (aF.fact 0 Z) Z Z Z) aO.z<|bG Z<|cX h λe h=>bK Z .nil (kA 9 Z) (bX Z Z (aF.fact 0 Z) Z Z e) aO.z<|bK Z .nil (kA 9 Z) (bW Z (aF.fact 0 Z) Z Z e) aO.z<|dB Z<|jR 0 Z<|cX h λt h=>bK Z .nil (kA 9 Z) (aZ Z Z (aF.el (aF.fact 0 Z) e.1 e.2) Z Z t) aO.z<|bK Z .nil (kA 9 Z) (jA (cs:=[vI ((at' (at' b.2.2 m) ((at' ((at' b.1.2.2 f).2.2.2) a.1).1)).1),vI ((at' (at' b.2.2 m) ((at' ((at' b.1.2.2 f).2.2.2) a.1).1)).2)]) Z (aF.el (aF.fact 0 Z) e.1 e.2) bU Z Z Z Z t) aO.z<|bG Z<|fH h λn K h=>JR.loud Z Z Z (aN.callQ aax (KB U  n K) Z .nil) Z (λL=>(wF [([0],[])] Z)) λL=>bP 26 Z Z<|cX h λu h=>aB (aZ Z Z (bD (aF.res 1 Z) dJ) Z Z u) Z<|tW 1 n u Z Z Z Z Z Z Z<|eI<|mA<|aR<|cH Z<|aA Z<|aM ?_;exact mG ((wI .i64 (a.1+(1:Int))),(List.set a.2 (Int.toNat ((at' ((at' b.1.2.2 f).2.2.2) a.1).1)) n)) () h SF (a_.ix [1] Z Z) (aG.refl _ _)
  refine e_ ?_;exact iB (a.2) () h SF Z
 intro o N h;unfold nJ at h;refine aV<|aA Z<|aE Z<|aM<|aW ?_;cases h;exact gH (v) Z Z (RV.tmp Z) (a_.refl _) aG.nil
def nL  (a:bF):Option bF:=
 some (a)
def kP (b:Int×bF) (a:(Int×bF)->Option bF) (c:bF):Option bF:=
 a ((wI .i64 (b.1+(1:Int))),c)
def iS (U:Nat) (b:HQ) (d:bF) (g:Int) (a:Int×bF) (c:(Int×bF)->Option bF):Option bF:=
 if a.1<(List.length d:Int)then(ck (0<=a.1) (if(dR .u32 (r_ .u32 g a.1) (1:Int))=(1:Int)then(Option.bind (eR U ((((b.1.1,b.1.2.1,b.1.2.2)),((((b.2.1.1.1,b.2.1.1.2.1,b.2.1.1.2.2)),((b.2.1.2.1.1,b.2.1.2.1.2)),b.2.1.2.2.1,b.2.1.2.2.2)),b.2.2)) d a.1) λe=>(Option.bind (lL U ((((b.1.1,b.1.2.1,b.1.2.2)),((((b.2.1.1.1,b.2.1.1.2.1,b.2.1.1.2.2)),((b.2.1.2.1.1,b.2.1.2.1.2)),b.2.1.2.2.1,b.2.1.2.2.2)),b.2.2)) d a.1 e) λf=>(ck (0<=a.1∧a.1<(List.length a.2:Int)) (kP a c (List.set a.2 (Int.toNat a.1) f)))))else(kP a c (a.2))))else(nL  (a.2))
def jL (U:Nat) (b:HQ) (a:bF) (c:Int):Option bF:=
 Option.bind (mB U a) λd=>(bJ (iS U b a c) U ((0:Int),d))
theorem aag:aX Tryz.prog 111:=Tryz.call111
theorem Ei (U:Nat) {e:HQ} {v:bF} {w:Int} (g:Nat)  (D:Value)  (E:Value)  (o:Nat)  (F:Value)  (G:Value)  (H:Value)  (I:Value)  (Q:k_)  (J:Value)  (t:rB)  (p:Value)  (u:k_)  (d:Value)  (q:rB) (r:bF) (h:jL U e v w=some r):
  aY Tryz.prog 111 #[vP g,d,vU (w)] [bV g [vS (e.1.1),D,E,vP o,p] 106,Sl aU D e.1.2.1,Sl aL E e.1.2.2,bV o [vS (e.2.1.1.1),F,G,H,I,vI (e.2.1.2.2.1),J] 134,Sl aU F e.2.1.1.2.1,Sl aL G e.2.1.1.2.2,Sl bO H e.2.1.2.1.1,S2 bB I Q e.2.1.2.1.2,S2 bO J t e.2.1.2.2.2,S2 bB p u e.2.2,S2 bO d q v] (λx:Ip=>x.1) (λx l=>Ar dA.raw x.1 x.2::lU bZ x.2 r::l) (λ_ l=>l):=by
 refine aY.of Tryz.func111 Z Tryz.ntmps111 Z λc=>?_;refine aV<|aE Z<|aM<|aV<|aA Z<|fH h λR S h=>aH (aN.callQ MU (yX U d q R S) Z (oS [10] Z)) Z λs=>aE Z<|aM<|aK<|DZ (B:=fV) (λy=>nL  y=some r) (λy z=>[(7,s.1)]) (λy z=>[Ar dA.raw s.1 z,lU bZ z y]) ?_ ?_
 ·refine aV<|aA Z<|aB (iF Z (aF.fact 10 Z) Z) Z<|aA Z<|aM<|aS<|dU (B:=fV) (iS U e v w) (λa b=>[(0,vP g),(1,d),(2,vU (w)),(7,s.1),(12,vI (List.length v:Int)),(13,vI (a.1))]) (λa b=>[Ar dA.raw s.1 b,lU bZ b a.2]) ((0:Int),R) (s.2) h SF (a_.refl _) ?_;intro L a b h;refine aV<|cM Z<|aM<|aK ?_;refine eV h Z (λh=>?_) λh=>?_
  ·refine cK<|aK<|DZ (B:=fV) (λf=>kP a (bJ (iS U e v w) L) f=some r) (λf m=>[(0,vP g),(1,d),(2,vU (w)),(7,s.1),(12,vI (List.length v:Int)),(13,vI (a.1))]) (λf m=>[Ar dA.raw s.1 m,lU bZ m f]) ?_ ?_
   ·refine aS<|aV<|aA Z<|aE Z<|aM<|aV<|aA Z<|aA Z<|cX h λK h=>aB (Lt Z Z K) Z<|Ab Z<|cP Z<|aM ?_;refine eV h Z (λh=>?_) λh=>?_
    ·refine aR<|aA Z<|aA Z<|aA Z<|aA Z<|aA Z<|aA Z<|aA Z<|aA Z<|fH h λM N h=>aH (aN.callQ WW (zK U g D E o F G H I Q J t p u d q M N) Z (oS [0,1,2,3,4,5,6,7,8,9,10] Z)) Z λT=>fH h λC O h=>aH (aN.callQ aat (Eh U g D E o F G H I Q J t p u d q C O) Z (oS [0,1,2,3,4,5,6,7,8,9,10] Z)) Z λP=>cX h λn h=>aB (bX Z Z (cB (i:=1) (j:=2) Z Z dJ) Z Z n) Z<|cG (Know.one ((bD (aF.res 0 Z) dJ))) λA=>jD (xX (k:=a.1) 2 0 Z Z Z n) ?_;refine qE 0 1 ⟨n.1,by first|exact n.2|simpa using n.2⟩ Z Z Z Z Z (by simp) A Z ?_;refine eI<|mA ?_;exact iB (List.set a.2 (Int.toNat a.1) C) (List.set b (Int.toNat a.1) P) h SF Z
    refine dK<|mA ?_;exact iB (a.2) (b) h SF Z
   intro f m h;unfold kP at h;refine aR<|cH Z<|aA Z<|aM ?_;exact xT ((wI .i64 (a.1+(1:Int))),f) (m) h SF Z
  refine e_ ?_;exact iB (a.2) (b) h SF Z
 intro y z h;unfold nL at h;refine aV<|aA Z<|aE Z<|aM<|aW ?_;cases h;exact gH (s.1,z) Z Z (RV.tmp Z) (a_.refl _) aG.nil
def yV  (a:Int):Option (Int):=
 some (a)
def uD (c:fP) (b:iZ->Option (Int)) (a:Int):Option (Int):=
 b (a,(wI .i64 (c.2+(1:Int))))
def rI (e:Int) (d:Int->Option Bool) (a:fP) (b:iZ->Option (Int)):Option (Int):=
 if a.2<e then(Option.bind (d a.2) λc=>(if c=true then(ck (0<=a.2) (uD a b (MQ .u32 a.1 (Cn .u32 (1:Int) a.2))))else(uD a b (a.1))))else(yV  (a.1))
def As (U:Nat) (b:Int) (a:Int->Option Bool):Option (Int):=
 bJ (rI b a) U ((0:Int),(0:Int))
theorem adq:aX Tryz.prog 66:=Tryz.call66
theorem NM (U:Nat) {j:Int} {n:Int->Option Bool} (m:FuncId) (d:fV) (k:List bA) (f:aX Tryz.prog m) (g:∀(u:Int) (r:Bool),n u=some r->aY Tryz.prog m ([vI (u)]++d).toArray k (λ_:Unit=>vB (r)) (λ_ l=>l) (λ_ l=>l)) (r:Int) (h:As U j n=some r):
  aY Tryz.prog 66 #[vI (j),Value.func (.func m) #[] (d).toArray] ([]++k) (λx:Unit=>vU (r)) (λx l=>l) (λ_ l=>l):=by
 refine aY.of Tryz.func66 Z Tryz.ntmps66 Z λc=>?_;unfold As at h;refine aV<|aE Z<|aM<|aV<|aE Z<|aM<|aK<|Bu (B:=Unit) (λi=>yV  i=some r) (λi o=>[(5,vU (i))]) (λi o=>[]) (λi o=>([]++k)) ?_ ?_
 ·refine aV<|aA Z<|aA Z<|aM<|aS<|Ev (B:=Unit) (rI j n) (λb p=>[(1,Value.func (.func m) #[] (d).toArray),(5,vU (b.1)),(7,vI (j)),(8,vI (b.2))]) (λb p=>[]) (λb p=>([]++k)) ((0:Int),(0:Int)) () h SF (a_.refl _) (aG.refl _ _) ?_;intro v b p h;refine aV<|cM Z<|aM<|aK ?_;refine eV h Z (λh=>?_) λh=>?_
  ·refine cK<|aK<|Bu (B:=Unit) (λa=>uD b (bJ (rI j n) v) a=some r) (λa e=>[(1,Value.func (.func m) #[] (d).toArray),(5,vU (a)),(7,vI (j)),(8,vI (b.2))]) (λa e=>[]) (λa e=>([]++k)) ?_ ?_
   ·refine aS<|aV<|aA Z<|aE Z<|aM<|aV<|aA Z<|aA Z<|fH h λs t h=>aH (vO (vs:=[vI (b.2)]) (cs:=d) f Z (g b.2 s t) Z (aG.tail _) (λ_ _=>rfl)) Z λw=>aM ?_;refine AZ h Z (λ_ h=>?_) λ_ h=>?_
    ·refine aR<|aA Z<|aA Z<|cX h λq h=>aB (OG Z Z q) Z<|aB (ZQ Z Z) Z<|aE Z<|eI<|mA ?_;exact iB (MQ .u32 b.1 (Cn .u32 (1:Int) b.2)) () h SF Z
    refine dK<|mA ?_;exact iB (b.1) () h SF Z
   intro a e h;unfold uD at h;refine aR<|cH Z<|aA Z<|aM ?_;exact xT (a,(wI .i64 (b.2+(1:Int)))) () h SF Z
  refine e_ ?_;exact iB (b.1) () h SF Z
 intro i o h;unfold yV at h;refine aV<|aA Z<|aE Z<|aM<|aW ?_;cases h;exact lA Z
def kK (U:Nat) (b:Int) (a:HQ) (c:bF):Option (Bool):=
 Option.bind (eR U ((((a.1.1,a.1.2.1,a.1.2.2)),((((a.2.1.1.1,a.2.1.1.2.1,a.2.1.1.2.2)),((a.2.1.2.1.1,a.2.1.2.1.2)),a.2.1.2.2.1,a.2.1.2.2.2)),a.2.2)) c b) λd=>(some (decide ((0:Int)<=d)))
theorem adr:aX Tryz.prog 67:=Tryz.call67
theorem Ba (U:Nat) {v:Int} {a:HQ} {w:bF} (j:Nat)  (d:Nat)  (o:Value)  (p:Value)  (e:Nat)  (q:Value)  (s:Value)  (t:Value)  (u:Value)  (y:k_)  (f:Value)  (k:rB)  (g:Value)  (m:k_)  (b:Nat)  (i:Value)  (n:rB) (r:Bool) (h:kK U v a w=some r):
  aY Tryz.prog 67 #[vI (v),vP j,vP b] [bV j [vP d] 81,bV d [vS (a.1.1),o,p,vP e,g] 106,Sl aU o a.1.2.1,Sl aL p a.1.2.2,bV e [vS (a.2.1.1.1),q,s,t,u,vI (a.2.1.2.2.1),f] 134,Sl aU q a.2.1.1.2.1,Sl aL s a.2.1.1.2.2,Sl bO t a.2.1.2.1.1,S2 bB u y a.2.1.2.1.2,S2 bO f k a.2.1.2.2.2,S2 bB g m a.2.2,bV b [i] 30,S2 bO i n w] (λx:Unit=>vB (r)) (λx l=>l) (λ_ l=>l):=by
 refine aY.of Tryz.func67 Z Tryz.ntmps67 Z λc=>?_;refine aV<|aE Z<|aM<|aV<|aB (dG Z (aF.fact 0 Z) Z Z Z) Z<|aB (dG Z (aF.fact 11 Z) Z Z Z) Z<|aA Z<|fH h λz A h=>aH (aN.callQ WW (zK U d o p e q s t u y f k g m i n z A) Z (oS [1,2,3,4,5,6,7,8,9,10,12] Z)) Z λB=>aB (De Z Z) Z<|aE Z<|aM<|aW ?_;cases h;exact lA Z
def eG (U:Nat) (a:HQ) (b:bF):Option (Int):=
 Option.bind (As U (List.length a.2.2:Int) (λd=>kK U d ((((a.1.1,a.1.2.1,a.1.2.2)),((((a.2.1.1.1,a.2.1.1.2.1,a.2.1.1.2.2)),((a.2.1.2.1.1,a.2.1.2.1.2)),a.2.1.2.2.1,a.2.1.2.2.2)),a.2.2)) b)) λc=>(some (c))
theorem WO:aX Tryz.prog 40:=Tryz.call40
theorem v_ (U:Nat) {a:HQ} {w:bF} (b:Nat)  (k:Value)  (m:Value)  (e:Nat)  (n:Value)  (o:Value)  (p:Value)  (q:Value)  (y:k_)  (s:Value)  (g:rB)  (f:Value)  (i:k_)  (d:Value)  (j:rB) (r:Int) (h:eG U a w=some r):
  aY Tryz.prog 40 #[vP b,d] [bV b [vS (a.1.1),k,m,vP e,f] 106,Sl aU k a.1.2.1,Sl aL m a.1.2.2,bV e [vS (a.2.1.1.1),n,o,p,q,vI (a.2.1.2.2.1),s] 134,Sl aU n a.2.1.1.2.1,Sl aL o a.2.1.1.2.2,Sl bO p a.2.1.2.1.1,S2 bB q y a.2.1.2.1.2,S2 bO s g a.2.1.2.2.2,S2 bB f i a.2.2,S2 bO d j w] (λx:Unit=>vU (r)) (λx l=>l) (λ_ l=>l):=by
 refine aY.of Tryz.func40 Z Tryz.ntmps40 Z λc=>?_;refine aV<|aH (aN.box (cs:=[vP b]) Z Z) Z λt=>cG (Know.one (aF.sl (aF.fact 10 Z))) λv=>?_;refine aH (aN.box (cs:=[d]) Z (by rw[eN v])) Z λu=>?_;refine aE Z<|aM<|aV<|dD 1 Z<|aB (b_ Z) Z<|bT Z<|aB (dG Z (aF.fact 0 Z) Z Z Z) Z<|aB (iF Z (aF.fact 9 Z) Z) Z<|aB (x_ (cs:=[.tmp 2,.tmp 3]) (vs:=[vP t,vP u]) Z) Z<|fH h λz A h=>aH (aN.callQ adq (NM U 67 [vP t,vP u] [bV t [vP b] 81,bV b [vS (a.1.1),k,m,vP e,f] 106,Sl aU k a.1.2.1,Sl aL m a.1.2.2,bV e [vS (a.2.1.1.1),n,o,p,q,vI (a.2.1.2.2.1),s] 134,Sl aU n a.2.1.1.2.1,Sl aL o a.2.1.1.2.2,Sl bO p a.2.1.2.1.1,S2 bB q y a.2.1.2.1.2,S2 bO s g a.2.1.2.2.2,S2 bB f i a.2.2,bV u [d] 30,S2 bO d j w] adr (λC r h=>Ba U t b k m e n o p q y s g f i u d j r h) z A) Z (aG.cons (aF.res 1 Z) (aG.cons (aF.fact 0 Z) (aG.cons (aF.fact 1 Z) (aG.cons (aF.fact 2 Z) (aG.cons (aF.fact 3 Z) (aG.cons (aF.fact 4 Z) (aG.cons (aF.fact 5 Z) (aG.cons (aF.fact 6 Z) (aG.cons (aF.fact 7 Z) (aG.cons (aF.fact 8 Z) (aG.cons (aF.fact 9 Z) (aG.cons (aF.res 0 Z) (oS [10] Z)))))))))))))) Z λB=>aE Z<|aM<|aW ?_;cases h;exact tU Z
end Go.Proofs.YtlkhndebimcbbaaGreatDoor
namespace Go.Proofs.YtlkhndebimcbbaaGreatDoor
open Go Go.Sx
abbrev RL:=E×List (Nat×E)
abbrev A_:=sQ×GR×Int×bF
def Fz (R:List RL):KO:=R.map λr=>(r.1.ts,r.2.map λs=>((s.1:Int),s.2.ts))
def LG (a:Nat) (e:E):Bool:=e.wf a false&&decide (e.depth<=100)&&decide (e.ts.length<=800)
def yH (a:Nat) (R:List RL):Bool:=decide (R.length<=20)&&R.all λr=>LG a r.1&&decide (r.2.length<=20)&&r.2.all λs=>decide (s.1<a)&&LG a s.2
instance:Inhabited E:=⟨.lf 1 0⟩
def Dg (g:GR) (v i:Nat):Int:=AN (row g (fL (row g v) i).1.toNat) (v:Int)
def fK (g:GR):bF:=(List.range g.2.length).map λv=>(List.range (row g v).length).map (Dg g v)
def fU (S:A_) (c:bF) (v:Nat) (e:E):Int:=e.den (TK (S,c,(v:Int),[])) (row S.2.1 v).length (-1)
def dQ (S:A_) (R:List RL) (c:bF) (v:Nat):Int:=qH (R.map λr=>fU S c v r.1)
def mM (a:Int) (b:fP) (x:Int):Int:=if b.1<=x∧x<=b.2 then x else if a=3 then -1 else if x<b.1 then b.1 else b.2
def Ee (S:A_) (a:List Dd) (c:bF) (v:Nat) (b:aQ) (s:Nat×E):aQ:=b.set s.1 (mM (at' a (s.1:Int)).2.1 (pP S.2.1 a v s.1) (fU S c v s.2))
def lY (S:A_) (a:List Dd) (R:List RL) (c:bF) (v:Nat) (i:Int):aQ:=(at' R i).2.foldl (Ee S a c v) (at' c (v:Int))
def enD (S:A_) (R:List RL) (c:bF):Nat:=Bn (λv=>decide (0<=dQ S R c v)) S.2.1.2.length
def iD (S:A_) (vars:List Dd) (R:List RL) (c:bF) (t:Nat):bF:=(List.range c.length).map λv=>if t.testBit v=true then lY S vars R c v (dQ S R c v)else at' c (v:Int)
structure Aa (g:GR) (nv:Nat) (c:bF):Prop where
 len:c.length=g.2.length
 row:∀v:Nat,v<g.2.length->(at' c (v:Int)).length=nv
theorem Du.shape {g:GR} {c:bF} {a:List Dd} (h:Du g c a):Aa g a.length c:=⟨h.len,h.row⟩
section
variable {S:A_} {nv:Nat} {c:List (List Int)} {v:Nat}
theorem wok (b:S.2.2.2=fK S.2.1) (d:VG S.2.1) (e:Aa S.2.1 nv c) (h:v<S.2.1.2.length) (j:List (Int×Int)):WOk (S,c,(v:Int),j) nv S.2.1.2.length v:=by
 refine⟨rfl,h,rfl,d.len,e.len,e.row,λu a i g=> ?_,by show S.2.2.2.length=_;rw[b];simp[fK],λu a=>by
  show(at' S.2.2.2 (u:Int)).length=_;rw[b,fK,lM _ a,List.length_map,List.length_range]⟩
 obtain⟨w,k,f⟩:=d.to a g;show 0<=(fL (row S.2.1 u) i).1∧(fL (row S.2.1 u) i).1<_;rw[f];omega
theorem Qw (i:S.2.2.2=fK S.2.1) (a:VG S.2.1) (j:Aa S.2.1 nv c) (f:v<S.2.1.2.length) {e:E} (b:LG nv e=true):gF 1000 S c (v:Int) e.ts=some (fU S c v e):=by
 simp only[LG,Bool.and_eq_true,decide_eq_true_eq]at b;have g:=a.n24;have d:=(a.node v f).deg;unfold gF;have:=Zu (wok i a j f e.ts) (deg:=(row S.2.1 v).length) Z (by omega) b.2 e false 1000 0 (-1) [] [] (by simp) Z b.1.1 (λh=>by cases h) (by omega);rw[bH (show bR 1000 _ (0:Int) (-1)=_ from this)];rfl
end
section
variable {p:sQ} {g:GR} {gr:Int} {R:List RL} {nv:Nat} {c:List (List Int)} {v:Nat}
theorem GB (a:p.2.2.map Am=Fz R):p.2.2.length=R.length:=by simpa [Fz]using congrArg List.length a
theorem TX (b:p.2.2.map Am=Fz R) {i:Nat} (a:i<R.length):Am (at' p.2.2 (i:Int))=((at' R (i:Int)).1.ts,(at' R (i:Int)).2.map λs=>((s.1:Int),s.2.ts)):=by
 have d:=GB b;have:=congrArg (λq=>q[i]?) b;simp only[Fz,List.getElem?_map,List.getElem?_eq_getElem a,List.getElem?_eq_getElem (show i<p.2.2.length by omega),Option.map_some,Option.some.injEq]at this;rw[lS a,lS (show i<p.2.2.length by omega)];exact this
theorem Uc (a:yH nv R=true) {i:Nat} (b:i<R.length):LG nv (at' R (i:Int)).1=true∧(at' R (i:Int)).2.length<=20∧∀s∈(at' R (i:Int)).2,s.1<nv∧LG nv s.2=true:=by
 simp only[yH,Bool.and_eq_true,List.all_eq_true,decide_eq_true_eq]at a;have:=a.2 (at' R (i:Int)) (by rw[lS b];exact List.getElem_mem b);exact⟨this.1.1,this.1.2,λs d=>this.2 s d⟩
theorem abJ (a:yH nv R=true):R.length<=20:=by
 simp only[yH,Bool.and_eq_true,decide_eq_true_eq]at a;exact a.1
theorem XR (f:VG g) (h:Aa g nv c) (j:v<g.2.length) (b:p.2.2.map Am=Fz R) (d:yH nv R=true) {i:Nat} (a:i<R.length):kQ 1000 (p,g,gr,fK g) c (v:Int) (i:Int)=some (nz (fU (p,g,gr,fK g) c v (at' R (i:Int)).1)):=by
 have k:=GB b;have e:(at' p.2.2 (i:Int)).2.1.2=(at' R (i:Int)).1.ts:=congrArg Prod.fst (TX b a);unfold kQ;dsimp only;rw[cA (by omega),e];rw[bH (show gF 1000 _ c (v:Int) _=_ from Qw (S:=(p,g,gr,fK g)) Z f h j (Uc d a).1)];rfl
theorem Ud (z:VG g) (A:Aa g nv c) (C:v<g.2.length) (w:p.2.2.map Am=Fz R) (s:yH nv R=true) (h:List (List (Int×Int))):eR 1000 (p,(p,g,gr,fK g),h) c (v:Int)=some (dQ (p,g,gr,fK g) R c v):=by
 have E:=GB w;have y:=abJ s;let l:=R.map λr=>fU (p,g,gr,fK g) c v r.1;have B:l.length=R.length:=by simp[l]
 have o:∀i,i<R.length->at' l (i:Int)=fU (p,g,gr,fK g) c v (at' R (i:Int)).1:=λi t=>by
  rw[lS (by omega),lS t];simp[l]
 have b:∀(k:Nat) a,k<R.length->kO 1000 (p,(p,g,gr,fK g),h) c (v:Int) (k:Int) a=if nz (at' l (k:Int))=true then some (k:Int)else a (((k+1:Nat):Int)):=by
  intro k a d;unfold kO;dsimp only;rw[if_pos (by omega),bH (show kQ 1000 _ c (v:Int) (k:Int)=_ from XR z A C w s d),o k d,fT (by omega)]
 unfold eR dQ;by_cases f:∃i,i<R.length∧at' l (i:Int)≠0
 ·obtain⟨i,t,x⟩:=f;obtain⟨m,D,q,n⟩:=Gu (p:=λi=>at' l (i:Int)≠0) i x;have n:∀j,j<m->at' l (j:Int)=0:=λj u=>Decidable.not_not.1 (n j u);rw[show qH _=(m:Int)from sD (l:=l) (by omega) q n];exact eY (K:=some (m:Int)) m (λk=>(k:Int)) (λk a d=>by rw[b k a (by omega),if_neg (by simp[nz,n k d])]) (λa=>by rw[b m a (by omega),if_pos (by simpa [nz]using q)]) 1000 (by omega)
 ·have f:∀j,j<l.length->at' l (j:Int)=0:=λj u=>Decidable.not_not.1 λe=>f ⟨j,by omega,e⟩;rw[show qH _=(-1:Int)from Bi (l:=l) f];exact eY (K:=some (-1)) R.length (λk=>(k:Int)) (λk a d=>by rw[b k a d,if_neg (by simp[nz,f k (by omega)])]) (λa=>by
   unfold kO nK;dsimp only;rw[if_neg (by omega)]) 1000 (by omega)
theorem Ec (S:A_) (R:List RL) (c:List (List Int)) (v:Nat):dQ S R c v = -1∨∃i:Nat,dQ S R c v=(i:Int)∧i<R.length∧fU S c v (at' R (i:Int)).1≠0:=by
 let l:=R.map λr=>fU S c v r.1;by_cases h:∃i,i<l.length∧at' l (i:Int)≠0
 ·obtain⟨i,n,k⟩:=h;obtain⟨m,o,f,a⟩:=Gu (p:=λi=>at' l (i:Int)≠0) i k;have a:∀j,j<m->at' l (j:Int)=0:=λj b=>Decidable.not_not.1 (a j b);have d:m<R.length:=by simp[l]at n;omega
  refine .inr ⟨m,sD (l:=l) (by omega) f a,d,?_⟩;have:at' l (m:Int)=fU S c v (at' R (m:Int)).1:=by rw[lS (by simpa [l]using d),lS d];simp[l]
  rw[<-this];exact f
 ·exact .inl (Bi (l:=l) λj b=>Decidable.not_not.1 λe=>h ⟨j,b,e⟩)
theorem Ku {S:A_} {R:List RL} {c:List (List Int)} {v:Nat}:dQ S R c v = -1↔∀i:Nat,i<R.length->fU S c v (at' R (i:Int)).1=0:=by
 let l:=R.map λr=>fU S c v r.1;have a:∀i,i<R.length->at' l (i:Int)=fU S c v (at' R (i:Int)).1:=λi b=>by rw[lS (by simpa [l]using b),lS b];simp[l]
 constructor
 ·intro h i b;refine Decidable.not_not.1 λe=> ?_;obtain⟨m,n,k,f⟩:=Gu (p:=λi=>at' l (i:Int)≠0) i (by rw[a i b];exact e);have f:∀j,j<m->at' l (j:Int)=0:=λj d=>Decidable.not_not.1 (f j d);have:dQ S R c v=(m:Int):=sD (l:=l) (by simp[l];omega) k f;omega
 ·intro h;exact Bi (l:=l) λj d=>by rw[a j (by simpa [l]using d)];exact h j (by simpa [l]using d)
theorem Rv (hV:VG g) (hc:Aa g nv c) (hz:p.2.2.map Am=Fz R) (hR:yH nv R=true) {tab:List (List (Int×Int))} (ht:tab.length=g.2.length):eG 1000 (p,(p,g,gr,fK g),tab) c=some ((enD (p,g,gr,fK g) R c:Nat):Int):=by
 have h24:=hV.n24;unfold eG As;let q:Nat->Bool:=λv=>decide (0<=dQ (p,g,gr,fK g) R c v);have:=eY (step:=rI (tab.length:Int) (λy0=>kK 1000 y0 (p,(p,g,gr,fK g),tab) c)) (K:=some ((Bn q g.2.length:Nat):Int)) g.2.length (λk=>(((Bn q k:Nat):Int),(k:Int))) (λk ag hk=>by
  have hm:=TM q (k:=k) (by omega);unfold rI uD kK;dsimp only;rw[if_pos (by omega),bH (show Option.bind (eR 1000 _ c (k:Int)) _=some (q k) by rw[bH (show eR 1000 _ c (k:Int)=_ from Ud hV hc hk hz hR tab)]),fT (by omega)];cases hq:q k with
  |true=>
   rw[if_pos Z,cA (by omega),Re hm (by omega)];simp only[Bn,hq,if_true]
  |false=>
   rw[if_neg (by decide)];simp only[Bn,hq];rfl) (λag=>by
  unfold rI yV;dsimp only;rw[if_neg (by omega)]) 1000 (by omega)
 rw[bH (show bJ _ 1000 ((0:Int),(0:Int))=_ from this)];rfl
end
theorem W_ (f:Nat) (k:Int) (b:fP) (x:Int):wU f k b x=some (mM k b x):=by
 unfold wU uM mM;by_cases a:b.1<=x
 ·by_cases c:x<=b.2
  ·simp only[a,c,and_self,if_true,decide_true]
  ·simp only[a,c,and_false,if_true,if_false,decide_false,Bool.false_eq_true];split
   ·rfl
   ·split<;>rfl
 ·simp only[a,false_and,if_false,Bool.false_eq_true];split
  ·rfl
  ·split<;>rfl
theorem PY {S:A_} {a:List Dd} {c:bF} {v:Nat} (l:List (Nat×E)) (b:aQ):(l.foldl (Ee S a c v) b).length=b.length:=by
 induction l generalizing b with
 |nil=>rfl
 |cons s l d=>rw[List.foldl_cons,d];simp[Ee]
theorem Vr {S:A_} {a:List Dd} {R:List RL} {c:bF} {v:Nat} {i:Int}:(lY S a R c v i).length=(at' c (v:Int)).length:=PY _ _
section
variable {p:sQ} {g:GR} {gr:Int} {R:List RL} {c:List (List Int)} {v:Nat}
theorem abt (A:VG g) (J:tK g p.2.1) (o:Aa g p.2.1.length c) (x:v<g.2.length) (E:p.2.2.map Am=Fz R) (H:yH p.2.1.length R=true) {i:Nat} (B:i<R.length):
  lL 1000 (p,(p,g,gr,fK g),CZ g p.2.1) c (v:Int) (i:Int)=some (lY (p,g,gr,fK g) p.2.1 R c v (i:Int)):=by
 have G:=A.n24;have I:=o.len;have l:=o.row v x;have N:=J.len;have O:=GB E;have r:=TX E B;obtain⟨-,m,d⟩:=Uc H B;have D:(CZ g p.2.1).length=g.2.length:=by simp[CZ]
 have w:at' (CZ g p.2.1) (v:Int)=ER g p.2.1 v:=lM _ x;have L:(ER g p.2.1 v).length=p.2.1.length:=by simp[ER]
 have y:(at' p.2.2 (i:Int)).2.2.2.map (λs=>(s.1,s.2.2))=(at' R (i:Int)).2.map λs=>((s.1:Int),s.2.ts):=congrArg Prod.snd r;have n:(at' p.2.2 (i:Int)).2.2.2.length=(at' R (i:Int)).2.length:=by simpa using congrArg List.length y
 unfold lL;dsimp only;rw[cA (by omega),cA (by simp;omega),cA (by omega),List.nil_append];unfold lY;let a:=(at' R (i:Int)).2;have:=eY (step:=kN 1000 (p,(p,g,gr,fK g),CZ g p.2.1) c (v:Int) (i:Int)) (K:=some (a.foldl (Ee (p,g,gr,fK g) p.2.1 c v) (at' c (v:Int)))) a.length (λk=>((k:Int),(a.take k).foldl (Ee (p,g,gr,fK g) p.2.1 c v) (at' c (v:Int)))) (λk F e=>by
  have j:k<(at' p.2.2 (i:Int)).2.2.2.length:=by rw[n];exact e
  have z:((at' (at' p.2.2 (i:Int)).2.2.2 (k:Int)).1,(at' (at' p.2.2 (i:Int)).2.2.2 (k:Int)).2.2)=(((at' a (k:Int)).1:Int),(at' a (k:Int)).2.ts):=by
   have:=congrArg (λq=>q[k]?) y;simp only[List.getElem?_map,List.getElem?_eq_getElem j,List.getElem?_eq_getElem (show k<(at' R (i:Int)).2.length from e),Option.map_some,Option.some.injEq]at this;rw[lS j,lS e];exact this
  have f:=congrArg Prod.fst z;have h:=congrArg Prod.snd z;dsimp only at f h;obtain⟨t,u⟩:=d (at' a (k:Int)) (by rw[lS e];exact List.getElem_mem e);have C:((a.take k).foldl (Ee (p,g,gr,fK g) p.2.1 c v) (at' c (v:Int))).length=p.2.1.length:=by rw[PY,l]
  have b:at' (ER g p.2.1 v) ((at' a (k:Int)).1:Int)=pP g p.2.1 v (at' a (k:Int)).1:=lM _ t;have M:a.length<=20:=m;unfold kN;dsimp only;rw[if_pos (by omega),cA (by omega),f,h,bH (show gF 1000 _ c (v:Int) _=_ from Qw (S:=(p,g,gr,fK g)) Z A o x u),cA (by omega),cA (by omega),w,cA (by omega),b,bH (W_ 1000 _ _ _),cA (by omega),fT (by omega),Int.toNat_natCast,EM e,List.foldl_append];rfl) (λF=>by
  unfold kN nJ;dsimp only;rw[if_neg (by show¬(a.length:Int)<_;rw[n];exact Int.lt_irrefl _),List.take_length]) 1000 (by show(at' R (i:Int)).2.length<1000;omega)
 exact this
theorem abP (m:VG g) (s:tK g p.2.1) (l:Aa g p.2.1.length c) (u:p.2.2.map Am=Fz R) (o:yH p.2.1.length R=true) {t:Nat} (b:t<4294967296) (B:∀v,t.testBit v=true->0<=dQ (p,g,gr,fK g) R c v):
  jL 1000 (p,(p,g,gr,fK g),CZ g p.2.1) c (t:Int)=some (iD (p,g,gr,fK g) p.2.1 R c t):=by
 have x:=m.n24;have z:=l.len;have C:=s.len;unfold jL;rw[bH (Ts c (by omega) (λv D=>by rw[l.row v (by omega)];omega))];let f:Nat->List Int:=λv=>if t.testBit v=true then lY (p,g,gr,fK g) p.2.1 R c v (dQ (p,g,gr,fK g) R c v)else at' c (v:Int);let Q:Nat->List (List Int):=λk=>(List.range k).map f++c.drop k;have y:∀k,k<=c.length->(Q k).length=c.length:=λk a=>by simp[Q];omega
 have j:∀k,k<c.length->(Q k).set k (f k)=Q (k+1):=λk a=>by
  show((List.range k).map f++c.drop k).set k (f k)=(List.range (k+1)).map f++c.drop (k+1);rw[List.set_append_right _ _ (by simp),List.length_map,List.length_range,Nat.sub_self,List.drop_eq_getElem_cons a,List.set_cons_zero,List.range_succ,List.map_append,List.map_singleton,List.append_assoc];rfl
 have d:∀k,k<c.length->f k=at' c (k:Int)->Q k=Q (k+1):=λk a A=>by
  show(List.range k).map f++c.drop k=(List.range (k+1)).map f++c.drop (k+1);rw[List.range_succ,List.drop_eq_getElem_cons a,List.map_append,List.map_singleton,A,lS a];simp
 rw[show c=Q 0 by simp[Q]];refine eY (step:=iS 1000 (p,(p,g,gr,fK g),CZ g p.2.1) (Q 0) (t:Int)) (K:=some (iD (p,g,gr,fK g) p.2.1 R (Q 0) t)) c.length (λk=>((k:Int),Q k)) (λk w a=> ?_) (λw=> ?_) 1000 (by omega)
 ·rw[show Q 0=c by simp[Q]];unfold iS kP;dsimp only;rw[if_pos (by omega),cA (by omega),fT (by omega)];by_cases h:t.testBit k=true
  ·obtain⟨i,r,n,_⟩:=(Ec (p,g,gr,fK g) R c k).resolve_left (λe=>by have:=B k h;omega);rw[if_pos ((XS (by omega) b).2 h),bH (show eR 1000 _ c (k:Int)=_ from Ud m l (by omega) u o _),r,bH (show lL 1000 _ c (k:Int) (i:Int)=_ from abt m s l (by omega) u o n),cA (by rw[y k (by omega)];omega),Int.toNat_natCast];have:lY (p,g,gr,fK g) p.2.1 R c k (i:Int)=f k:=by simp only[f];rw[if_pos h,r]
   rw[this,j k a]
  ·rw[if_neg (λq=>h ((XS (by omega) b).1 q)),d k a (by simp only[f];rw[if_neg h])]
 ·rw[show Q 0=c by simp[Q]];unfold iS nL;dsimp only;rw[if_neg (by omega)];simp[Q,iD,f]
theorem Mf {S:A_} {a:List Dd} {t:Nat}:(iD S a R c t).length=c.length:=by simp[iD]
theorem zJ {S:A_} {vars:List Dd} {t:Nat} (a:v<c.length):at' (iD S vars R c t) (v:Int)=if t.testBit v=true then lY S vars R c v (dQ S R c v)else at' c (v:Int):=lM _ a
theorem Aa.step {S:A_} {a:List Dd} {t:Nat} {e:Nat} {g:GR} (b:Aa g e c):Aa g e (iD S a R c t):=⟨by rw[Mf,b.len],λv d=>by
 rw[zJ (by rw[b.len];exact d)];split
 ·rw[Vr,b.row v d]
 ·exact b.row v d⟩
end
end Go.Proofs.YtlkhndebimcbbaaGreatDoor
namespace Go.Proofs.YtlkhndebimcbbaaGreatDoor
open Go.Sx
def lW  (a:Unit):Option (Bool):=
 some (true)
def iO (c:aQ) (a:Int) (b:(Int)->Option (Bool)):Option (Bool):=
 if a<(List.length c:Int)then(ck (0<=a∧a<(List.length c:Int)) (if(uK .u32 (at' c a) (16777215:Int))≠(0:Int)then(some (false))else(b (wI .i64 (a+(1:Int))))))else(lW  (()))
def gY (U:Nat) (a:aQ):Option (Bool):=
 bJ (iO a) U (0:Int)
theorem Tg:aX Tryz.prog 149:=Tryz.call149
theorem AS (U:Nat) {d:aQ} (e:Value) (r:Bool) (h:gY U d=some r):
  aY Tryz.prog 149 #[e] [Sl Ai e d] (λx:Unit=>vB (r)) (λx l=>l) (λ_ l=>l):=by
 refine aY.of Tryz.func149 Z Tryz.ntmps149 Z λc=>?_;unfold gY at h;refine aV<|aE Z<|aM<|aK<|dO (λa=>lW  a=some r) (λa f=>[]) (λa f=>[]) ?_ ?_
 ·refine aV<|aA Z<|kF (aF.fact 0 Z) Z<|aA Z<|aM<|aS<|dU (iO d) (λb g=>[(5,e),(6,vI (List.length d:Int)),(7,vI (b))]) (λb g=>[]) (0:Int) () h SF (a_.refl _) ?_;intro j b g h;refine aV<|cM Z<|aM<|aK ?_;refine eV h Z (λh=>?_) λh=>?_
  ·refine cK<|aK<|aS<|aV<|cX h λi h=>aB (aZ Z Z (aF.fact 0 Z) Z Z i) Z<|aB (bQ Z (aF.fact 0 Z) Z Z Z Hm i) Z<|aE Z<|aM<|aV<|aA Z<|aB (Ju Z Z) Z<|q_ Z<|aM ?_;refine eV h Z (λh=>?_) λh=>?_
   ·refine aV<|aE Z<|aM<|aW<|bM<|aJ<|aJ<|bM<|aJ ?_;cases h;exact lA Z
   refine dK<|mA<|aR<|cH Z<|aA Z<|aM ?_;exact xT (wI .i64 (b+(1:Int))) () h SF Z
  refine e_ ?_;exact iB () (()) h SF Z
 intro a f h;unfold lW at h;refine aV<|aE Z<|aM<|aW ?_;cases h;exact lA Z
def kS  (a:Bool):Option (Bool):=
 some (a)
def iH (U:Nat) (a:Io) (c:Bool):Option (Bool):=
 if c=true then(some (false))else(if(wI .i64 (a.2.2.1+(1:Int)))<a.2.2.2.1 then(some (false))else(if a.1<=a.2.1 then(if a.2.1<=(wI .i64 ((24:Int)*a.1))then(Option.bind (gY U ([a.2.2.2.2])) λb=>(kS  (b)))else(kS  (false)))else(kS  (false))))
def kD (U:Nat) (a:Io):Option (Bool):=
 if a.1<(0:Int)then(iH U a (true))else(if(4096:Int)<a.1 then(iH U a (true))else(if a.2.2.1<(0:Int)then(iH U a (true))else(if a.2.2.2.1<a.2.2.1 then(iH U a (true))else(iH U a (decide (a.1<a.2.2.2.1))))))
theorem aau:aX Tryz.prog 148:=Tryz.call148
theorem Iw (U:Nat) {a:Io} (r:Bool) (h:kD U a=some r):
  aY Tryz.prog 148 #[Value.agg #[vI (a.1),vI (a.2.1),vI (a.2.2.1),vI (a.2.2.2.1),vU (a.2.2.2.2)]] [] (λx:Unit=>vB (r)) (λx l=>l) (λ_ l=>l):=by
 refine aY.of Tryz.func148 Z Tryz.ntmps148 Z λc=>?_;refine aV<|aH (aN.box (cs:=[vI (a.1),vI (a.2.1),vI (a.2.2.1),vI (a.2.2.2.1),vU (a.2.2.2.2)]) Z Z) Z λj=>aE Z<|aM<|aK<|aK<|dO (λb=>iH U a b=some r) (λb k=>[(1,vP j),(29,vB (b))]) (λb k=>[bV j [vI (a.1),vI (a.2.1),vI (a.2.2.1),vI (a.2.2.2.1),vU (a.2.2.2.2)] 47]) ?_ ?_
 ·refine aR<|bT Z<|dD 0 Z<|cM Z<|aA Z ?_;refine Dv h Z (λ_ h=>?_) λ_ h=>?_
  ·refine aI Z<|aI Z<|aI Z<|dW Z<|aA Z<|aI Z<|aI Z<|aI Z<|dW Z<|aA Z<|aI Z<|aI Z<|aI Z<|aI Z<|aI Z<|dW Z<|aA Z<|aI Z<|aI Z<|aI Z<|aI Z<|aI Z<|dW Z<|aM ?_;exact iB (true) () h SF Z
  refine aP Z (dC Z Z Z Z Z) Z<|aP Z (eH 0 Z Z Z Z Z) Z<|aP Z (zC Z Z) Z<|fO Z<|aA Z ?_;refine Dv h Z (λ_ h=>?_) λ_ h=>?_
  ·refine aI Z<|aI Z<|aI Z<|dW Z<|aA Z<|aI Z<|aI Z<|aI Z<|aI Z<|aI Z<|dW Z<|aA Z<|aI Z<|aI Z<|aI Z<|aI Z<|aI Z<|dW Z<|aM ?_;exact iB (true) () h SF Z
  refine aP Z (dC Z Z Z Z Z) Z<|aP Z (eH 0 Z Z Z Z Z) Z<|aP Z (HW Z Z) Z<|fO Z<|aA Z ?_;refine Dv h Z (λ_ h=>?_) λ_ h=>?_
  ·refine aI Z<|aI Z<|aI Z<|aI Z<|aI Z<|dW Z<|aA Z<|aI Z<|aI Z<|aI Z<|aI Z<|aI Z<|dW Z<|aM ?_;exact iB (true) () h SF Z
  refine aP Z (dC Z Z Z Z Z) Z<|aP Z (eH 0 Z Z Z Z Z) Z<|aP Z (dC Z Z Z Z Z) Z<|aP Z (eH 0 Z Z Z Z Z) Z<|aP Z (zC Z Z) Z<|fO Z<|aA Z ?_;refine Dv h Z (λ_ h=>?_) λ_ h=>?_
  ·refine aI Z<|aI Z<|aI Z<|aI Z<|aI Z<|dW Z<|aM ?_;exact iB (true) () h SF Z
  refine aP Z (dC Z Z Z Z Z) Z<|aP Z (eH 0 Z Z Z Z Z) Z<|aP Z (dC Z Z Z Z Z) Z<|aP Z (eH 0 Z Z Z Z Z) Z<|aP Z (zC Z Z) Z<|fO Z<|aM ?_;exact iB (decide (a.1<a.2.2.2.1)) () h SF Z
 intro b k h;refine AZ h Z (λ_ h=>?_) λ_ h=>?_
 ·refine aV<|aE Z<|aM<|aW<|aJ ?_;cases h;exact tU Z
 refine cK<|aK<|aV<|bT Z<|dD 0 Z<|bT Z<|dD 0 Z<|cH Z<|aB (zC Z Z) Z<|aM ?_;refine eV h Z (λh=>?_) λh=>?_
 ·refine aV<|aE Z<|aM<|aW<|aJ ?_;cases h;exact tU Z
 refine cK<|aK<|dO (λd=>kS  d=some r) (λd m=>[(2,vB (d))]) (λd m=>[]) ?_ ?_
 ·refine aR<|bT Z<|dD 0 Z<|bT Z<|dD 0 Z<|aB (BN Z Z) Z<|aA Z ?_;refine Dv h Z (λ_ h=>?_) λ_ h=>?_
  ·refine aP Z (dC Z Z Z Z Z) Z<|aP Z (eH 0 Z Z Z Z Z) Z<|aP Z (dC Z Z Z Z Z) Z<|aP Z (eH 0 Z Z Z Z Z) Z<|aP Z (AD Z Z) Z<|aP Z (BN Z Z) Z<|dW Z<|aA Z ?_;refine Dv h Z (λ_ h=>?_) λ_ h=>?_
   ·refine aP Z (dC Z Z Z Z Z) Z<|aP Z (eH 0 Z Z Z Z Z) Z<|nF Z (bY (e:=pF) ([a.2.2.2.2]) [(0,vU (a.2.2.2.2))] Z Z Z Z (mO (vU (a.2.2.2.2)) Z) Z Z Z) Z λg=>fH h λf i h=>nF Z (aN.callQ Tg (AS U g f i) Z (aG.cons (bD (aF.res 0 Z) vG) .nil)) Z λn=>dW Z<|aE Z<|aM ?_;exact cC (f) () h SF .nil (aG.refl _ _)
   refine aI Z<|aI Z<|aI Z<|aI Z<|fO Z<|aE Z<|aM ?_;exact cC (false) () h SF .nil (aG.refl _ _)
  refine aI Z<|aI Z<|aI Z<|aI Z<|aI Z<|aI Z<|fO Z<|aA Z<|aI Z<|aI Z<|aI Z<|aI Z<|fO Z<|aE Z<|aM ?_;exact cC (false) () h SF .nil (aG.refl _ _)
 intro d m h;unfold kS at h;refine aW ?_;cases h;exact lA Z
def kW (U:Nat) (a:Int):Option (Int):=
 ck (0<=(24:Int)) (ck (0<=(r_ .u32 a (24:Int))∧(r_ .u32 a (24:Int))<(List.length IM:Int)) (ck (0<=(16:Int)) (ck (0<=(dR .u32 (r_ .u32 a (16:Int)) (255:Int))∧(dR .u32 (r_ .u32 a (16:Int)) (255:Int))<(List.length IM:Int)) (ck (0<=(8:Int)) (ck (0<=(dR .u32 (r_ .u32 a (8:Int)) (255:Int))∧(dR .u32 (r_ .u32 a (8:Int)) (255:Int))<(List.length IM:Int)) (ck (0<=(dR .u32 a (255:Int))∧(dR .u32 a (255:Int))<(List.length IM:Int)) (some (wI .i64 (wI .u8 ((wI .u8 ((wI .u8 ((at' IM (r_ .u32 a (24:Int)))+(at' IM (dR .u32 (r_ .u32 a (16:Int)) (255:Int)))))+(at' IM (dR .u32 (r_ .u32 a (8:Int)) (255:Int)))))+(at' IM (dR .u32 a (255:Int)))))))))))))
theorem aav:aX Tryz.prog 150:=Tryz.call150
theorem FM (U:Nat) {a:Int} (r:Int) (h:kW U a=some r):
  aY Tryz.prog 150 #[vU (a)] [] (λx:Unit=>vI (r)) (λx l=>l) (λ_ l=>l):=by
 refine aY.of Tryz.func150 Z Tryz.ntmps150 Z λc=>?_;refine aV<|aE Z<|aM<|aK ?_;refine JR.start [0,1,3,0,8,24,56,127,0,256,768,1792,4095,0,8192,24576,65535,131071,262143] 16 mixedOrders (by decide +kernel) ?_;refine JR.open (by exact rfl) ?_;refine bG Z<|cX h λb h=>jS Z (Lt Z Z b)<|cX h λd h=>jS Z (Cm Z Z Z MX d)<|bG Z<|cX h λe h=>jS Z (Lt Z Z e)<|jS Z (SY Z Z)<|cX h λf h=>jS Z (Cm Z Z Z MX f)<|jS Z (xZ Z Z)<|bG Z<|cX h λg h=>jS Z (Lt Z Z g)<|jS Z (SY Z Z)<|cX h λi h=>jS Z (Cm Z Z Z MX i)<|jS Z (xZ Z Z)<|bG Z<|jS Z (SY Z Z)<|cX h λj h=>jS Z (Cm Z Z Z MX j)<|bP 16 Z Z<|cH Z<|aB (QY Z Z Z) Z<|aE Z<|aM<|aW ?_;cases h;exact lA Z
def pL (b:Io) (c:Int) (a:fP):Option ((Int×Int×Int×Int×Int)×Int):=
 some ((((wI .i64 (b.1+(1:Int))),(wI .i64 (b.2.1+c)),a.1,(wI .i64 (b.2.2.1+(1:Int))),a.2)),(0:Int))
def pK (U:Nat) (a:Io) (c:Int) (d:Int) (e:Bool):Option ((Int×Int×Int×Int×Int)×Int):=
 if e=true then(some ((((0:Int),(0:Int),(0:Int),(0:Int),(0:Int))),(11:Int)))else(if a.1=(4096:Int)then(some ((((0:Int),(0:Int),(0:Int),(0:Int),(0:Int))),(3:Int)))else(Option.bind (kW U c) λb=>(if(dR .u32 (uK .u32 a.2.2.2.2 c) d)=(0:Int)then(pL a b ((wI .i64 (a.2.2.1+(1:Int))),d))else(pL a b (a.2.2.1,(dR .u32 (uK .u32 a.2.2.2.2 c) d))))))
def fZ (U:Nat) (a:Io) (b:Int) (c:Int):Option ((Int×Int×Int×Int×Int)×Int):=
 Option.bind (kD U ((a.1,a.2.1,a.2.2.1,a.2.2.2.1,a.2.2.2.2))) λe=>(if(!e)=true then(some ((((0:Int),(0:Int),(0:Int),(0:Int),(0:Int))),(7:Int)))else(if b=(0:Int)then(pK U a b c (true))else(Option.bind (gY U ([b,c])) λd=>(pK U a b c ((!d))))))
theorem aah:aX Tryz.prog 112:=Tryz.call112
theorem K_ (U:Nat) {a:Io} {g:Int} {d:Int} (r:(Int×Int×Int×Int×Int)×Int) (h:fZ U a g d=some r):
  aY Tryz.prog 112 #[Value.agg #[vI (a.1),vI (a.2.1),vI (a.2.2.1),vI (a.2.2.2.1),vU (a.2.2.2.2)],vU (g),vU (d)] [] (λx:Unit=>Value.tuple #[Value.agg #[vI (r.1.1),vI (r.1.2.1),vI (r.1.2.2.1),vI (r.1.2.2.2.1),vU (r.1.2.2.2.2)],vI (r.2)]) (λx l=>l) (λ_ l=>l):=by
 refine aY.of Tryz.func112 Z Tryz.ntmps112 Z λc=>?_;refine aV<|aH (aN.box (cs:=[vI (a.1),vI (a.2.1),vI (a.2.2.1),vI (a.2.2.2.1),vU (a.2.2.2.2)]) Z Z) Z λm=>aH (aN.alloc (cs:=vD2) Z Z) Z λn=>aE Z<|aM<|aK<|aV<|eK 1 Z<|fH h λu v h=>aH (aN.callQ aau (Iw U  u v) Z .nil) Z λz=>aB (oQ Z) Z<|aM ?_;refine AZ h Z (λ_ h=>?_) λ_ h=>?_
 ·refine aV ?_;refine aB (MJ (r:=Value.agg #[vI (0:Int),vI (0:Int),vI (0:Int),vI (0:Int),vU (0:Int)]) (by intro w;simp[Instr.build,Instr.fill,fC,eB,dH,fD,fE,eD,gR])) Z ?_;refine bS 0 (vs:=vD2) Z Z Z Z Z Z<|aE Z<|aM<|aW<|aJ ?_;cases h;exact nG () Z Z (RV.cell 0 Z Z Z Z) (RV.tmp Z) .nil aG.nil
 refine cK<|aK<|aK<|dO (λi=>pK U a g d i=some r) (λi t=>[(1,vU (g)),(2,vU (d)),(3,vP m),(6,vP n),(20,vB (i))]) (λi t=>[bV n vD2 47,bV m [vI (a.1),vI (a.2.1),vI (a.2.2.1),vI (a.2.2.2.1),vU (a.2.2.2.2)] 47]) ?_ ?_
 ·refine aR<|aA Z<|cP Z<|aA Z ?_;refine Dv h Z (λ_ h=>?_) λ_ h=>?_
  ·refine aI Z<|aI Z<|aI Z<|aI Z<|aI Z<|dW Z<|aM ?_;exact iB (true) () h SF Z
  refine cS Z<|cS Z<|nF Z (bY (e:=pF) ([g,d]) [(0,vU (g)),(1,vU (d))] Z Z Z Z (JP (vU (g)) (vU (d)) Z Z) Z Z Z) Z λo=>fH h λk q h=>nF Z (aN.callQ Tg (AS U o k q) Z (aG.cons (bD (aF.res 0 Z) vG) .nil)) Z λy=>aP Z (oQ Z) Z<|fO Z<|aM ?_;exact cC ((!k)) () h SF (a_.ix [1,2] Z Z) (aG.refl _ _)
 intro i t h;refine AZ h Z (λ_ h=>?_) λ_ h=>?_
 ·refine aV ?_;refine aB (MJ (r:=Value.agg #[vI (0:Int),vI (0:Int),vI (0:Int),vI (0:Int),vU (0:Int)]) (by intro w;simp[Instr.build,Instr.fill,fC,eB,dH,fD,fE,eD,gR])) Z ?_;refine bS 0 (vs:=vD2) Z Z Z Z Z Z<|aE Z<|aM<|aW<|aJ ?_;cases h;exact nG () Z Z (RV.cell 0 Z Z Z Z) (RV.tmp Z) .nil aG.nil
 refine cK<|aK<|aV<|bT Z<|dD 1 Z<|cP Z<|aM ?_;refine eV h Z (λh=>?_) λh=>?_
 ·refine aV ?_;refine aB (MJ (r:=Value.agg #[vI (0:Int),vI (0:Int),vI (0:Int),vI (0:Int),vU (0:Int)]) (by intro w;simp[Instr.build,Instr.fill,fC,eB,dH,fD,fE,eD,gR])) Z ?_;refine bS 0 (vs:=vD2) Z Z Z Z Z Z<|aE Z<|aM<|aW<|aJ ?_;cases h;exact nG () Z Z (RV.cell 0 Z Z Z Z) (RV.tmp Z) .nil aG.nil
 refine cK<|aV<|bT Z<|dD 1 Z<|cH Z<|bT Z<|iI 1 Z Z Z Z Z Z<|aM<|aK ?_;refine JR.start [0,1,0,4,15,31,63] 4 mixedOrders (by decide +kernel) ?_;refine JR.open (by exact rfl) ?_;refine dB Z<|jR 1 Z<|bG Z<|fH h λf p h=>JR.loud Z Z Z (aN.callQ aav (FM U  f p) Z .nil) Z (λs=>(wF [([1],[])] Z)) λs=>bP 4 Z Z<|cH Z<|bT Z<|iI 1 Z Z Z Z Z Z<|aM<|aV<|bT Z<|dD 1 Z<|cH Z<|bT Z<|iI 1 Z Z Z Z Z Z<|aM<|aV<|bT Z<|dD 1 Z<|aA Z<|aB (Ju Z Z) Z<|aA Z<|Ab Z<|bT Z<|iI 1 Z Z Z Z Z Z<|aM<|aK<|dO (λb=>pL a f b=some r) (λb j=>[(3,vP m),(6,vP n)]) (λb j=>[bV n vD2 47,bV m [vI (wI .i64 (a.1+(1:Int))),vI (wI .i64 (a.2.1+f)),vI (b.1),vI (wI .i64 (a.2.2.1+(1:Int))),vU (b.2)] 47]) ?_ ?_
 ·refine aV<|bT Z<|dD 1 Z<|cP Z<|aM ?_;refine eV h Z (λh=>?_) λh=>?_
  ·refine aV<|bT Z<|dD 1 Z<|bT Z<|iI 1 Z Z Z Z Z Z<|aM<|aR<|aA Z<|bT Z<|iI 1 Z Z Z Z Z Z<|aM ?_;exact iB ((wI .i64 (a.2.2.1+(1:Int))),d) () h SF Z
  refine cK ?_;exact iB (a.2.2.1,(dR .u32 (uK .u32 a.2.2.2.2 g) d)) () h SF Z
 intro b j h;unfold pL at h;refine aV<|eK 1 Z<|bS 0 (vs:=[vI (wI .i64 (a.1+(1:Int))),vI (wI .i64 (a.2.1+f)),vI (b.1),vI (wI .i64 (a.2.2.1+(1:Int))),vU (b.2)]) Z Z Z Z Z Z<|aE Z<|aM<|aW ?_;cases h;exact nG () Z Z (RV.cell 0 Z Z Z Z) (RV.tmp Z) .nil aG.nil
end Go.Proofs.YtlkhndebimcbbaaGreatDoor
namespace Go.Proofs.YtlkhndebimcbbaaGreatDoor
open Go Go.Sx
abbrev CT:=Io
theorem Fb (l:aQ) (h:l.length<=900):∃b,gY 1000 l=some b:=by
 unfold gY;have:=wP (step:=iO l) (Q:=λ_:Bool=>True) (λi:Int=>∃k:Nat,i=(k:Int)∧k<=l.length) (λi=>l.length - i.toNat) (λi f c a=>by
  obtain⟨k,rfl,g⟩:=c;unfold iO lW;by_cases e:k<l.length
  ·rw[if_pos (by omega),cA (by omega)];split
   ·exact⟨_,rfl,trivial⟩
   ·rw[fT (by omega)];exact a _ ⟨k+1,rfl,by omega⟩ (by omega)
  ·rw[if_neg (by omega)];exact⟨_,rfl,trivial⟩) 1000 0 ⟨0,rfl,by omega⟩ (by omega)
 obtain⟨b,d,_⟩:=this;exact⟨b,d⟩
theorem MM (k:CT):∃b,kD 1000 k=some b:=by
 obtain⟨q,d⟩:=Fb [k.2.2.2.2] (by simp);have c:∀a,∃b,iH 1000 k a=some b:=by
  intro a;unfold iH kS;split
  ·exact⟨_,rfl⟩
  ·split
   ·exact⟨_,rfl⟩
   ·split
    ·split
     ·rw[bH d];exact⟨_,rfl⟩
     ·exact⟨_,rfl⟩
    ·exact⟨_,rfl⟩
 unfold kD
 repeat' split
 all_goals exact c _
theorem Vv {t:Nat} (i:t<4294967296):∃n,kW 1000 (t:Int)=some n:=by
 have g:(List.length IM:Int)=256:=by decide +kernel
 have b:∀a:Nat,a<4294967296->0<=dR .u32 (a:Int) 255∧dR .u32 (a:Int) 255<256:=λa f=>by
  rw[show(255:Int)=((255:Nat):Int)from rfl,DK f (by omega)];have:a &&& 255<=255:=Nat.and_le_right;omega
 have c:∀k:Nat,k<32->r_ .u32 (t:Int) (k:Int)=((t / 2^k:Nat):Int):=λk h=>MR h;have e:r_ .u32 (t:Int) 24=((t / 2^24:Nat):Int):=c 24 (by omega);have d:r_ .u32 (t:Int) 16=((t / 2^16:Nat):Int):=c 16 (by omega);have j:r_ .u32 (t:Int) 8=((t / 2^8:Nat):Int):=c 8 (by omega);unfold kW;rw[g,e,d,j,cA (by decide),cA (by omega),cA (by decide),cA (b _ (by omega)),cA (by decide),cA (b _ (by omega)),cA (b _ i)];exact⟨_,rfl⟩
theorem WC (k:CT) {t:Nat} (h:t<4294967296) (e:Int):∃r,fZ 1000 k (t:Int) e=some r:=by
 obtain⟨b,d⟩:=MM k;obtain⟨q,g⟩:=Fb [(t:Int),e] (by simp);obtain⟨n,f⟩:=Vv h;have c:∀a,∃r,pK 1000 k (t:Int) e a=some r:=by
  intro a;unfold pK pL;split
  ·exact⟨_,rfl⟩
  ·split
   ·exact⟨_,rfl⟩
   ·rw[bH f];split<;>exact⟨_,rfl⟩
 unfold fZ;rw[bH (show kD 1000 _=some b from d)];split
 ·exact⟨_,rfl⟩
 ·split
  ·exact c _
  ·rw[bH g];exact c _
def aT (p:sQ) (g:GR):A_:=(p,g,jX g g.2.length,fK g)
def qG (S:A_) (R:List RL) (a:Nat) (c:bF):Nat:=enD S R c &&& a
theorem aaR (S:A_) (R:List RL) (c:bF) (v:Nat):(enD S R c).testBit v=(decide (v<S.2.1.2.length)&&decide (0<=dQ S R c v)):=LV _ v _
theorem Nb (S:A_) (R:List RL) (a:Nat) (c:bF) (v:Nat):(qG S R a c).testBit v=true↔v<S.2.1.2.length∧0<=dQ S R c v∧a.testBit v=true:=by
 unfold qG;rw[Nat.testBit_and,aaR,Bool.and_eq_true,Bool.and_eq_true,decide_eq_true_eq,decide_eq_true_eq,and_assoc]
theorem adT {S:A_} (a:VG S.2.1) (R:List RL) (c:bF):enD S R c<4294967296:=TM _ (by have:=a.n24;omega)
theorem JK (S:A_) (R:List RL) (a:Nat) (c:bF):QE S.2.1 (qG S R a c):=λi b=>((Nb S R a c i).1 b).1
def abi (a:oH):aQ:=a.map λt=>((t:Nat):Int)
end Go.Proofs.YtlkhndebimcbbaaGreatDoor
namespace Go.Proofs.YtlkhndebimcbbaaGreatDoor
open Go.Sx
def vD  (a:aQ):Option aQ:=
 some (a)
def rD (c:aQ×Int) (b:(aQ×Int)->Option aQ) (a:aQ):Option aQ:=
 b (a,(wI .i64 (c.2+(1:Int))))
def nY (b:aQ) (d:Int) (a:aQ×Int) (c:(aQ×Int)->Option aQ):Option aQ:=
 if a.2<d then(if(List.length b:Int)=(0:Int)then(ck ((List.length a.1:Int)+(List.length ([(4294967295:Int)]):Int)<=1099511627) (rD a c (a.1++([(4294967295:Int)]))))else(ck ((List.length b:Int)≠0) (ck (0<=(Int.tmod a.2 (List.length b:Int))∧(Int.tmod a.2 (List.length b:Int))<(List.length b:Int)) (ck ((List.length b:Int)≠0) (ck ((24:Int)≠0) (ck (0<=(wI .u64 (Int.tmod (wI .i64 (Int.tdiv a.2 (List.length b:Int))) (24:Int)))) (ck (0<=(wI .u64 ((24:Int) - (wI .u64 (Int.tmod (wI .i64 (Int.tdiv a.2 (List.length b:Int))) (24:Int)))))) (ck ((List.length a.1:Int)+(List.length ([(dR .u32 (MQ .u32 (Cn .u32 (dR .u32 (at' b (Int.tmod a.2 (List.length b:Int))) (16777215:Int)) (wI .u64 (Int.tmod (wI .i64 (Int.tdiv a.2 (List.length b:Int))) (24:Int)))) (r_ .u32 (dR .u32 (at' b (Int.tmod a.2 (List.length b:Int))) (16777215:Int)) (wI .u64 ((24:Int) - (wI .u64 (Int.tmod (wI .i64 (Int.tdiv a.2 (List.length b:Int))) (24:Int))))))) (16777215:Int))]):Int)<=1099511627) (rD a c (a.1++([(dR .u32 (MQ .u32 (Cn .u32 (dR .u32 (at' b (Int.tmod a.2 (List.length b:Int))) (16777215:Int)) (wI .u64 (Int.tmod (wI .i64 (Int.tdiv a.2 (List.length b:Int))) (24:Int)))) (r_ .u32 (dR .u32 (at' b (Int.tmod a.2 (List.length b:Int))) (16777215:Int)) (wI .u64 ((24:Int) - (wI .u64 (Int.tmod (wI .i64 (Int.tdiv a.2 (List.length b:Int))) (24:Int))))))) (16777215:Int))])))))))))))else(vD  (a.1))
def p_ (U:Nat) (a:aQ) (b:Int):Option aQ:=
 bJ (nY a b) U (([]:aQ),(0:Int))
theorem acY:aX Tryz.prog 11:=Tryz.call11
theorem KJ (U:Nat) {a:aQ} {i:Int} (n:Value) (r:aQ) (h:p_ U a i=some r):
  aY Tryz.prog 11 #[n,vI (i)] [Sl Ai n a] (λx:Value=>x) (λx l=>Ar pF x r::l) (λ_ l=>l):=by
 refine aY.of Tryz.func11 Z Tryz.ntmps11 Z λc=>?_;unfold p_ at h;refine aV<|aE Z<|aM<|aV<|aE Z<|aM<|aK<|DZ (B:=Value) (λj=>vD  j=some r) (λj k=>[(5,k)]) (λj k=>[Ar pF k j]) ?_ ?_
 ·refine aV<|aE Z<|aM<|aS<|jD (gQ pF)<|dU (B:=Value) (nY a i) (λb f=>[(0,n),(1,vI (i)),(5,f),(6,vI (b.2))]) (λb f=>[Ar pF f b.1]) (([]:aQ),(0:Int)) (lC) h SF (a_.refl _) ?_;intro w b f h;refine aK<|aV<|aA Z<|aA Z<|cM Z<|aM ?_;refine eV h Z (λh=>?_) λh=>?_
  ·refine cK<|aK<|DZ (B:=Value) (λd=>rD b (bJ (nY a i) w) d=some r) (λd g=>[(0,n),(1,vI (i)),(5,g),(6,vI (b.2))]) (λd g=>[Ar pF g d]) ?_ ?_
   ·refine aS<|aK<|aV<|aA Z<|kF (aF.fact 0 Z) Z<|cP Z<|aM ?_;refine eV h Z (λh=>?_) λh=>?_
    ·refine aV<|aA Z<|aH (bY (e:=pF) ([(4294967295:Int)]) [(0,vU (4294967295:Int))] Z Z Z Z (mO (vU (4294967295:Int)) Z) Z Z Z) Z λC=>cX h λo h=>aH (eQ 1 vG Z Z Z (bD (aF.res 0 Z) vG) Z Z Z Z o Z) Z λy=>aE Z<|aM<|pH<|dV<|vM<|Ae ?_;exact cC (b.1++([(4294967295:Int)])) (y) h SF (a_.ix [1] Z Z) (aG.refl _ _)
    refine cK<|aK ?_;refine JR.start [0,0,0,4,14,31,63,0,0,256,896,1920,3968,127,16383] 14 mixedOrders (by decide +kernel) ?_;refine JR.open (by exact rfl) ?_;refine bG Z<|bG Z<|bG Z<|bK Z .nil (kA 0 Z) (fX Z (aF.fact 0 Z) Z) aO.z<|cX h λp h=>jS Z (OF Z Z p)<|cX h λm h=>bK Z .nil (kA 0 Z) (aZ Z Z (aF.fact 0 Z) Z Z m) aO.z<|bK Z .nil (kA 0 Z) (bQ Z (aF.fact 0 Z) Z Z Z Hm m) aO.z<|bG Z<|bG Z<|bK Z .nil (kA 0 Z) (fX Z (aF.fact 0 Z) Z) aO.z<|cX h λq h=>jS Z (WA Z Z q)<|cX h λs h=>jS Z (OF Z Z s)<|jS Z (QY Z Z Z)<|jS Z (nZ Z)<|bP 14 Z Z<|aE Z<|aM<|aV<|aA Z<|Ab Z<|aE Z<|aM<|aR<|aA Z<|aA Z<|aA Z<|cX h λt h=>aB (OG Z Z t) Z<|aA Z<|aA Z<|aB (oK Z Z) Z<|cX h λu h=>aB (Lt Z Z u) Z<|aB (ZQ Z Z) Z<|Ab Z<|aH (bY (e:=pF) ([(dR .u32 (MQ .u32 (Cn .u32 (dR .u32 (at' a (Int.tmod b.2 (List.length a:Int))) (16777215:Int)) (wI .u64 (Int.tmod (wI .i64 (Int.tdiv b.2 (List.length a:Int))) (24:Int)))) (r_ .u32 (dR .u32 (at' a (Int.tmod b.2 (List.length a:Int))) (16777215:Int)) (wI .u64 ((24:Int) - (wI .u64 (Int.tmod (wI .i64 (Int.tdiv b.2 (List.length a:Int))) (24:Int))))))) (16777215:Int))]) [(0,vU (dR .u32 (MQ .u32 (Cn .u32 (dR .u32 (at' a (Int.tmod b.2 (List.length a:Int))) (16777215:Int)) (wI .u64 (Int.tmod (wI .i64 (Int.tdiv b.2 (List.length a:Int))) (24:Int)))) (r_ .u32 (dR .u32 (at' a (Int.tmod b.2 (List.length a:Int))) (16777215:Int)) (wI .u64 ((24:Int) - (wI .u64 (Int.tmod (wI .i64 (Int.tdiv b.2 (List.length a:Int))) (24:Int))))))) (16777215:Int)))] Z Z Z Z (mO (vU (dR .u32 (MQ .u32 (Cn .u32 (dR .u32 (at' a (Int.tmod b.2 (List.length a:Int))) (16777215:Int)) (wI .u64 (Int.tmod (wI .i64 (Int.tdiv b.2 (List.length a:Int))) (24:Int)))) (r_ .u32 (dR .u32 (at' a (Int.tmod b.2 (List.length a:Int))) (16777215:Int)) (wI .u64 ((24:Int) - (wI .u64 (Int.tmod (wI .i64 (Int.tdiv b.2 (List.length a:Int))) (24:Int))))))) (16777215:Int))) Z) Z Z Z) Z λD=>cX h λv h=>aH (eQ 1 vG Z Z Z (bD (aF.res 0 Z) vG) Z Z Z Z v Z) Z λA=>aE Z<|eI<|mA ?_;exact cC (b.1++([(dR .u32 (MQ .u32 (Cn .u32 (dR .u32 (at' a (Int.tmod b.2 (List.length a:Int))) (16777215:Int)) (wI .u64 (Int.tmod (wI .i64 (Int.tdiv b.2 (List.length a:Int))) (24:Int)))) (r_ .u32 (dR .u32 (at' a (Int.tmod b.2 (List.length a:Int))) (16777215:Int)) (wI .u64 ((24:Int) - (wI .u64 (Int.tmod (wI .i64 (Int.tdiv b.2 (List.length a:Int))) (24:Int))))))) (16777215:Int))])) (A) h SF (a_.ix [1] Z Z) (aG.refl _ _)
   intro d g h;unfold rD at h;refine aR<|aA Z<|cH Z<|aE Z<|aM ?_;exact xT (d,(wI .i64 (b.2+(1:Int)))) (g) h SF Z
  refine e_ ?_;exact iB (b.1) (f) h SF Z
 intro j k h;unfold vD at h;refine aV<|aA Z<|aE Z<|aM<|aW ?_;cases h;exact gH (k) Z Z (RV.tmp Z) (a_.refl _) aG.nil
end Go.Proofs.YtlkhndebimcbbaaGreatDoor
namespace Go.Proofs.YtlkhndebimcbbaaGreatDoor
open Go Go.Sx
theorem Qy (x:Int):0<=wI .u64 x:=by
 rw[Er];have:IntKind.u64.wrap x=x%18446744073709551616:=rfl;rw[this];omega
theorem VL (l:aQ) {n:Nat} (y:n<=900):∃ws,p_ 1000 l (n:Int)=some ws∧ws.length=n∧∀k:Nat,k<ws.length->∃m:Nat,at' ws (k:Int)=(m:Int)∧m<4294967296:=by
 unfold p_;obtain⟨⟨ws,i⟩,⟨c,b,d⟩,t⟩:=BU (step:=nY l (n:Int)) (K:=λz=>some z.1) n
  (λk z=>z.2=(k:Int)∧z.1.length=k∧∀j:Nat,j<k->∃m:Nat,at' z.1 (j:Int)=(m:Int)∧m<4294967296) (λk z q v h=>by
  obtain⟨ws,i⟩:=z;obtain⟨c,b,d⟩:=h;dsimp only at c b d;subst c;have a:∀m:Nat,m<4294967296->∀j:Nat,j<k+1->∃p:Nat,at' (ws++[(m:Int)]) (j:Int)=(p:Int)∧p<4294967296:=λm o j u=>by
   rw[NE ws _ (by omega)];by_cases e:j<ws.length
   ·rw[if_pos e];exact d j (by omega)
   ·rw[if_neg e];exact⟨m,rfl,o⟩
  have f:∀m:Nat,(List.length ws:Int)+(List.length [(m:Int)]:Int)<=1099511627:=λm=>by simp;omega
  unfold nY rD;dsimp only;rw[if_pos (by omega),fT (by omega)];by_cases x:l.length=0
  ·rw[if_pos (by omega),cA (show(List.length ws:Int)+(List.length [(4294967295:Int)]:Int)<=1099511627 from f 4294967295)];exact⟨_,⟨rfl,by simp[b],a 4294967295 (by omega)⟩,rfl⟩
  ·have r:Int.tmod (k:Int) (l.length:Int)=((k%l.length:Nat):Int):=rfl;have w:k%l.length<l.length:=Nat.mod_lt _ (by omega);rw[if_neg (by omega),cA (by omega),cA (by rw[r];omega),cA (by omega),cA (by decide),cA (Qy _),cA (Qy _)];have s:∀X:Int,∃m:Nat,dR .u32 X (16777215:Int)=(m:Int)∧m<4294967296:=λX=>⟨_,MP _ _,Nat.lt_of_le_of_lt Nat.and_le_left (Jp _)⟩
   obtain⟨m,o,g⟩:=s (MQ .u32 (Cn .u32 (dR .u32 (at' l (Int.tmod (k:Int) (l.length:Int))) (16777215:Int)) (wI .u64 (Int.tmod (wI .i64 (Int.tdiv (k:Int) (l.length:Int))) (24:Int)))) (r_ .u32 (dR .u32 (at' l (Int.tmod (k:Int) (l.length:Int))) (16777215:Int)) (wI .u64 ((24:Int) - (wI .u64 (Int.tmod (wI .i64 (Int.tdiv (k:Int) (l.length:Int))) (24:Int)))))));rw[o,cA (f m)];exact⟨_,⟨rfl,by simp[b],a m g⟩,rfl⟩) (λz q h=>by
  obtain⟨ws,i⟩:=z;obtain⟨c,b,d⟩:=h;dsimp only at c;subst c;unfold nY vD;dsimp only;rw[if_neg (by omega)]) 1000 (([]:aQ),(0:Int)) ⟨rfl,rfl,λj u=>by omega⟩ (by omega)
 exact⟨ws,t,b,λk v=>d k (by dsimp only at b;omega)⟩
def EB (c:bF) (v:Nat):Int:=at' (at' c (v:Int)) 0
def zV (g:GR) (c:bF) (v i:Nat):Int:=at' (at' c (fL (row g v) i).1) 0
theorem EG {g:GR} {c:bF} {v i u:Nat} (h:(fL (row g v) i).1=(u:Int)):zV g c v i=EB c u:=by unfold zV EB;rw[h]
theorem Rk:∀i,i<256->0<=at' IM ((i:Nat):Int)∧at' IM ((i:Nat):Int)<=8∧(i≠0->1<=at' IM ((i:Nat):Int)):=by
 have h:((List.range 256).all λi=>decide (0<=at' IM ((i:Nat):Int)∧at' IM ((i:Nat):Int)<=8∧(i≠0->1<=at' IM ((i:Nat):Int))))=true:=by decide +kernel
 intro i a;exact of_decide_eq_true (List.all_eq_true.1 h i (List.mem_range.2 a))
theorem abw {t:Nat} (I:t<16777216) (F:t≠0):∃n:Nat,kW 1000 (t:Int)=some (n:Int)∧1<=n∧n<=24:=by
 have q:(List.length IM:Int)=256:=by decide +kernel
 have b:∀a:Nat,a<4294967296->dR .u32 (a:Int) 255=((a%256:Nat):Int):=λa p=>by
  rw[show(255:Int)=((255:Nat):Int)from rfl,DK p (by omega),show(255:Nat)=2^8 - 1 from rfl,Nat.and_two_pow_sub_one_eq_mod]
 have c:∀k:Nat,k<32->r_ .u32 (t:Int) (k:Int)=((t / 2^k:Nat):Int):=λk r=>MR r;have e:r_ .u32 (t:Int) 24=((t / 2^24:Nat):Int):=c 24 (by omega);have d:r_ .u32 (t:Int) 16=((t / 2^16:Nat):Int):=c 16 (by omega);have s:r_ .u32 (t:Int) 8=((t / 2^8:Nat):Int):=c 8 (by omega);have g:t / 2^24=0:=Nat.div_eq_of_lt (by omega);unfold kW;rw[q,e,d,s,b _ (by omega),b _ (by omega),b _ (by omega),g,cA (by decide),cA (by omega),cA (by decide),cA (by omega),cA (by decide),cA (by omega),cA (by omega)];obtain⟨v,w,i⟩:=Rk (t / 2^16%256) (by omega);obtain⟨y,z,j⟩:=Rk (t / 2^8%256) (by omega);obtain⟨D,E,l⟩:=Rk (t%256) (by omega);have u:at' IM ((0:Nat):Int)=0:=rfl;have h:1<=at' IM ((t / 2^16%256:Nat):Int)+at' IM ((t / 2^8%256:Nat):Int)+at' IM ((t%256:Nat):Int):=by
  by_cases m:t / 2^16%256=0
  ·by_cases o:t / 2^8%256=0
   ·have:=l (by omega);omega
   ·have:=j o;omega
  ·have:=i m;omega
 have f:∀x:Int,0<=x->x<=100->wI .u8 x=x:=λx G H=>by
  rw[Er];have:IntKind.u8.wrap x=x%256:=rfl;rw[this];omega
 generalize at' IM ((t / 2^16%256:Nat):Int)=A at *
 generalize at' IM ((t / 2^8%256:Nat):Int)=B at *
 generalize at' IM ((t%256:Nat):Int)=C at *
 rw[u,f (0+A) (by omega) (by omega),f (0+A+B) (by omega) (by omega),f (0+A+B+C) (by omega) (by omega),wr (by omega) (by omega)];exact⟨(0+A+B+C).toNat,by congr 1;omega,by omega,by omega⟩
theorem Ii (l:aQ) (j:l.length<=900) (h:∀x∈l,∃a:Nat,x=(a:Int)∧a<16777216):gY 1000 l=some true:=by
 unfold gY;refine eY (step:=iO l) (K:=some true) l.length (λk=>(k:Int)) (λk f d=> ?_) (λf=> ?_) 1000 (by omega)
 ·obtain⟨a,g,b⟩:=h (at' l (k:Int)) (by rw[lS d];exact List.getElem_mem d);unfold iO;rw[if_pos (by omega),cA (by omega),g,fT (by omega)];have:uK .u32 (a:Int) (16777215:Int)=0:=(WJ _ _).2 λi c=>by
   rw[yK (by omega)]at c;have e:Oh 16777215=2^24 - 1:=yK (a:=16777215) (by omega);rw[e,Nat.testBit_two_pow_sub_one,decide_eq_true_eq];by_cases h:i<24
   ·exact h
   ·have:=Nat.testBit_lt_two_pow (x:=a) (i:=i) (Nat.lt_of_lt_of_le b (Nat.pow_le_pow_right (n:=2) (by omega) (show 24<=i by omega)));rw[this]at c;cases c
  rw[this,if_neg (by simp)]
 ·unfold iO lW;rw[if_neg (by omega)]
structure Da (k:Nat) (cnt:CT) (R B pe:Nat):Prop where
 steps:cnt.1=(k:Int)
 moves:(k:Int)<=cnt.2.1∧cnt.2.1<=24*(k:Int)
 rounds:cnt.2.2.1=(R:Int)
 begun:cnt.2.2.2.1=(B:Int)
 pend:cnt.2.2.2.2=(pe:Int)
 le:R<=B∧B<=k∧B<=R+1
 p24:pe<16777216
theorem Da.valid {k:Nat} {i:CT} {R B j:Nat} (h:Da k i R B j) (n:k<=1000):kD 1000 i=some true:=by
 obtain⟨a,b,c,d,e,f,g⟩:=h;have m:=Ii [(j:Int)] (by simp) λx l=>by
  have l:x=(j:Int):=by simpa using l
  exact⟨j,l,g⟩
 unfold kD;rw[a,c,d,if_neg (by omega),if_neg (by omega),if_neg (by omega),if_neg (by omega),decide_eq_false (by omega)];unfold iH kS;rw[a,c,d,e,if_neg (by decide),fT (by omega),if_neg (by omega),if_pos b.1,wr (by omega) (by omega),if_pos b.2,bH m]
theorem Da.add {k:Nat} {r:CT} {R B o:Nat} (h:Da k r R B o) (I:k<900) {t l:Nat} (A:t<16777216) (C:t≠0) (q:l<16777216) {m:CT} {u:Int} (j:fZ 1000 r (t:Int) (l:Int)=some (m,u)):
  ∃p:Nat,(∀i,p.testBit i=(o.testBit i && !t.testBit i&&l.testBit i))∧((p=0∧Da (k+1) m (R+1) (R+1) l)∨(p≠0∧Da (k+1) m R (R+1) p)):=by
 have H:=h.valid (by omega);obtain⟨a,b,c,d,e,f,g⟩:=h;obtain⟨n,D,E,F⟩:=abw A C;have G:=Ii [(t:Int),(l:Int)] (by simp) λx y=>by
  have y:x=(t:Int)∨x=(l:Int):=by simpa using y
  rcases y with rfl|rfl
  ·exact⟨t,rfl,A⟩
  ·exact⟨l,rfl,q⟩
 have v:EY o t<4294967296:=OX o t;have w:∀i,(EY o t &&& l).testBit i=(o.testBit i && !t.testBit i&&l.testBit i):=λi=>by
  rw[Nat.testBit_and,LC (by omega) (by omega)]
 have s:EY o t &&& l<16777216:=Nat.lt_of_le_of_lt Nat.and_le_right q;unfold fZ at j;rw[bH (show kD 1000 _=some true from H),if_neg (by decide),if_neg (by omega),bH G]at j;unfold pK pL at j;dsimp only at j;rw[a,c,e,if_neg (by decide),if_neg (by omega),bH D,OI,DK v (by omega),fT (by omega),fT (by omega),wr (by omega) (by omega)]at j;refine⟨EY o t &&& l,w,?_⟩
 by_cases z:EY o t &&& l=0
 ·rw[if_pos (by rw[z];rfl)]at j;have:=Option.some.inj j;obtain⟨rfl,_⟩:=Prod.mk.inj this;exact .inl ⟨z,rfl,⟨by dsimp only;omega,by dsimp only;omega⟩,rfl,rfl,rfl,by omega,q⟩
 ·rw[if_neg (by omega)]at j;have:=Option.some.inj j;obtain⟨rfl,_⟩:=Prod.mk.inj this;exact .inr ⟨z,rfl,⟨by dsimp only;omega,by dsimp only;omega⟩,rfl,rfl,rfl,by omega,s⟩
def exX:E:= .ite (.bi 37 (.ag 24 (.lf 12 0)) (.lf 6 0)) (.bi 33 (.ag 24 (.lf 12 0)) (.lf 1 1)) (.lf 6 0)
def exY:E:= .ag 23 (.bi 35 (.lf 12 0) (.ag 24 (.lf 12 0)))
def guT:E:= .bi 41 (.lf 10 0) (.bi 42 (.bi 36 (.lf 5 0) (.lf 1 0)) (.bi 36 (.lf 5 1) (.lf 4 0)))
def guB:E:= .bi 41 (.un 19 (.lf 10 0)) (.bi 42 (.bi 36 (.lf 5 0) exX) (.bi 36 (.lf 5 1) exY))
def RB:List RL:=[(guT,[(0,.lf 1 0),(1,.lf 4 0)]),(guB,[(0,exX),(1,exY)])]
theorem Ye (g:GR) (v:Nat):lo g (at' sO ((0:Nat):Int)) v=0:=rfl
theorem aep (g:GR) (v:Nat):lo g (at' sO ((1:Nat):Int)) v = -1:=rfl
theorem XT (g:GR) (v:Nat):hi g (at' sO ((0:Nat):Int)) v=(g.2.length:Int):=by
 show(0:Int)+1*(g.2.length:Int)+0*jX g g.1.length=_;omega
theorem aeg (g:GR) (v:Nat):hi g (at' sO ((1:Nat):Int)) v=((row g v).length:Int) - 1:=rfl
def GC (c:bF) (v:Nat):Int:=at' (at' c (v:Int)) 1
def Iu (g:GR) (c:bF) (v:Nat):aQ:=(List.range (row g v).length).map λq=>zV g c v q
def XB (g:GR) (c:bF) (v:Nat):Int:=if zU (Iu g c v)<(g.1.length:Int)then Ue (wI .i64 (zU (Iu g c v)+1))else(g.1.length:Int)
def YB (g:GR) (c:bF) (v:Nat):Int:=qH ((List.range (row g v).length).map λq=>AE (decide (zV g c v q=zU (Iu g c v))))
def TB (g:GR) (c:bF) (v:Nat):fP:=if v=0 then(0,-1)else(XB g c v,YB g c v)
def FI (g:GR) (c:bF) (v:Nat):Prop:=EB c v=(TB g c v).1∧GC c v=(TB g c v).2
theorem tX (b:Bool):AE b≠0↔b=true:=by cases b<;>simp[AE]
theorem agk (b:Bool):AE b=0↔b=false:=by cases b<;>simp[AE]
section
variable {p:sQ} {g:GR} {c:List (List Int)} {v:Nat}
theorem Xw:fU (aT p g) c v exX=XB g c v:=by
 show(if AE (decide (zU (Iu g c v)<(g.1.length:Int)))≠0 then Ue (wI .i64 (zU (Iu g c v)+1))else(g.1.length:Int))=_;unfold XB;by_cases h:zU (Iu g c v)<(g.1.length:Int)
 ·rw[if_pos h,if_pos (by rw[tX];exact decide_eq_true h)]
 ·rw[if_neg h,if_neg (by rw[tX];simpa using h)]
theorem Xx:fU (aT p g) c v exY=YB g c v:=rfl
theorem aef:fU (aT p g) c v guT=AE (decide (AE (decide ((v:Int)=0))≠0)&&decide (AE (decide (AE (decide (EB c v≠0))≠0)||decide (AE (decide (GC c v ≠ -1))≠0))≠0)):=rfl
theorem aed:fU (aT p g) c v guB=AE (decide (AE (decide (AE (decide ((v:Int)=0))=0))≠0)&&decide (AE (decide (AE (decide (EB c v≠fU (aT p g) c v exX))≠0)||decide (AE (decide (GC c v≠fU (aT p g) c v exY))≠0))≠0)):=rfl
theorem TD:fU (aT p g) c v guT≠0↔v=0∧(EB c v≠0∨GC c v ≠ -1):=by
 rw[aef,tX,Bool.and_eq_true,decide_eq_true_eq,decide_eq_true_eq,tX,tX,Bool.or_eq_true,decide_eq_true_eq,decide_eq_true_eq,decide_eq_true_eq,tX,tX,decide_eq_true_eq,decide_eq_true_eq];constructor
 ·rintro⟨a,b⟩;exact⟨by omega,b⟩
 ·rintro⟨a,b⟩;exact⟨by omega,b⟩
theorem TC:fU (aT p g) c v guB≠0↔v≠0∧(EB c v≠XB g c v∨GC c v≠YB g c v):=by
 rw[aed,Xw,Xx,tX,Bool.and_eq_true,decide_eq_true_eq,decide_eq_true_eq,tX,tX,Bool.or_eq_true,decide_eq_true_eq,decide_eq_true_eq,decide_eq_true_eq,agk,tX,tX,decide_eq_true_eq,decide_eq_true_eq,decide_eq_false_iff_not];constructor
 ·rintro⟨a,b⟩;exact⟨by omega,b⟩
 ·rintro⟨a,b⟩;exact⟨by omega,b⟩
theorem PR (h:0<=dQ (aT p g) RB c v):(dQ (aT p g) RB c v=0∧v=0∧¬FI g c v)∨(dQ (aT p g) RB c v=1∧v≠0∧¬FI g c v):=by
 obtain⟨i,k,j,l⟩:=(Ec (aT p g) RB c v).resolve_left (λe=>by omega);have j:i<2:=j
 match i,j with
 |0,_=>
  obtain⟨a,b⟩:=TD.1 l;refine .inl ⟨k,a,?_⟩;unfold FI TB;rw[if_pos a];rintro⟨d,f⟩;rcases b with b|b
  ·exact b d
  ·exact b f
 |1,_=>
  obtain⟨a,b⟩:=TC.1 l;refine .inr ⟨k,a,?_⟩;unfold FI TB;rw[if_neg a];rintro⟨d,f⟩;rcases b with b|b
  ·exact b d
  ·exact b f
theorem VC (h:¬0<=dQ (aT p g) RB c v):FI g c v:=by
 have e:dQ (aT p g) RB c v = -1:=by
  rcases Ec (aT p g) RB c v with e|⟨i,f,_⟩
  ·exact e
  ·omega
 have b:¬fU (aT p g) c v guT≠0:=λq=>q (Ku.1 e 0 (by decide));have d:¬fU (aT p g) c v guB≠0:=λq=>q (Ku.1 e 1 (by decide));rw[TD]at b;rw[TC]at d;unfold FI TB;by_cases a:v=0
 ·rw[if_pos a];exact⟨Decidable.not_not.1 λq=>b ⟨a,.inl q⟩,Decidable.not_not.1 λq=>b ⟨a,.inr q⟩⟩
 ·rw[if_neg a];exact⟨Decidable.not_not.1 λq=>d ⟨a,.inl q⟩,Decidable.not_not.1 λq=>d ⟨a,.inr q⟩⟩
theorem Md:¬0<=dQ (aT p g) RB c v↔FI g c v:=by
 refine⟨VC,λh q=> ?_⟩
 rcases PR q with⟨_,_,e⟩|⟨_,_,e⟩<;>exact e h
theorem abu (b:VG g) (d:Du g c sO) (h:v<g.2.length) {i:Nat} (e:i<(row g v).length):0<=zV g c v i∧zV g c v i<=(g.2.length:Int):=by
 obtain⟨u,f,a,_⟩:=b.port h e;rw[EG a];have:=d.ok u f 0 (by decide);rw[Ye,XT]at this;exact this
theorem RQ {x:Int} (h:x∈Iu g c v):∃i,i<(row g v).length∧zV g c v i=x:=by
 obtain⟨i,b,a⟩:=List.mem_map.1 h;exact⟨i,List.mem_range.1 b,a⟩
theorem agi (d:VG g) (m:Du g c sO) (o:v<g.2.length):0<=XB g c v∧XB g c v<=(g.2.length:Int)∧(∀i,i<(row g v).length->XB g c v<=zV g c v i+1)∧(XB g c v=(g.2.length:Int)∨∃i,i<(row g v).length∧XB g c v=zV g c v i+1):=by
 have l:=d.n24;have k:=d.len;have a:∀i,i<(row g v).length->zU (Iu g c v)<=zV g c v i:=λi b=>Nt (List.mem_map.2 ⟨i,List.mem_range.2 b,rfl⟩);unfold XB;by_cases h:zU (Iu g c v)<(g.1.length:Int)
 ·rw[if_pos h];rcases Kh (Iu g c v)with e|e
  ·omega
  ·obtain⟨i,b,r⟩:=RQ e;have q:=abu d m o b;have n:Ue (wI .i64 (zU (Iu g c v)+1))=zU (Iu g c v)+1:=by
    rw[wr (by omega) (by omega)];unfold Ue;omega
   rw[n];refine⟨by omega,by omega,λj f=> ?_,.inr ⟨i,b,by omega⟩⟩
   have:=a j f;omega
 ·rw[if_neg h];refine⟨by omega,by omega,λj f=> ?_,.inl (by omega)⟩
  have:=a j f;omega
theorem Va (l:List Int) : -1<=qH l∧qH l<=(l.length:Int) - 1:=by
 unfold qH;cases h:l.findIdx? nz with
 |none=>dsimp only;omega
 |some i=>
  obtain⟨a,_⟩:=List.findIdx?_eq_some_iff_getElem.1 h;dsimp only;omega
theorem agj : -1<=YB g c v∧YB g c v<=((row g v).length:Int) - 1:=by
 have:=Va ((List.range (row g v).length).map λq=>AE (decide (zV g c v q=zU (Iu g c v))));rw[List.length_map,List.length_range]at this;exact this
theorem age (d:VG g) (e:Du g c sO) (f:v<g.2.length):(0<=(TB g c v).1∧(TB g c v).1<=(g.2.length:Int)) ∧ -1<=(TB g c v).2∧(TB g c v).2<=((row g v).length:Int) - 1:=by
 unfold TB;split
 ·dsimp only;omega
 ·obtain⟨a,b,_⟩:=agi d e f;exact⟨⟨a,b⟩,agj⟩
theorem BP {k a b x:Int} (d:a<=x) (e:x<=b):mM k (a,b) x=x:=by unfold mM;rw[if_pos ⟨d,e⟩]
theorem ZN {a:List (List Int)} (j:VG g) (l:v<g.2.length) (h:∀u,u<g.2.length->EB a u=EB c u):TB g a v=TB g c v:=by
 have f:∀i,i<(row g v).length->zV g a v i=zV g c v i:=λi b=>by
  obtain⟨u,k,d,_⟩:=j.port l b;rw[EG d,EG d,h u k]
 have e:Iu g a v=Iu g c v:=List.map_congr_left λi b=>f i (List.mem_range.1 b);have m:YB g a v=YB g c v:=by
  unfold YB;rw[e];congr 1;exact List.map_congr_left λi b=>by rw[f i (List.mem_range.1 b)]
 unfold TB;rw[m];unfold XB;rw[e]
end
def Cl (k:Nat) (x y:Int):Prop:=(y<(k:Int)->x=y)∧((k:Int)<=y->(k:Int)<=x)
end Go.Proofs.YtlkhndebimcbbaaGreatDoor