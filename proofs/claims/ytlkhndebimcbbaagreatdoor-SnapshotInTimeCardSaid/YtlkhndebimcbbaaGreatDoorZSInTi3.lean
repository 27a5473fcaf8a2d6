/- Models and proofs. Conditions: none. -/
import Derived.Test.YtlkhndebimcbbaaGreatDoorZSInTi2
import Derived.Test.YtlkhndebimcbbaaGreatDoorZSInTi1
set_option linter.unusedVariables false
set_option linter.unusedSimpArgs false
set_option maxHeartbeats 4000000
set_option maxRecDepth 20000
namespace Go.Proofs.YtlkhndebimcbbaaGreatDoor
open Go.Sx
def oY (f:Dt) (c:cE) (a:Int) (b:Int) (d:Int) (e:Bool):Option (fW):=
 if e=true then(some (c.2))else(if f.2.2.2.2.2=true then(ck (0<=a∧a<(List.length c.2:Int)) (ck ((List.length ([(b,d)]):Int)+(List.length (at' c.2 a):Int)<=1099511627) (ck (0<=a∧a<(List.length c.2:Int)) (ck (0<=b∧b<(List.length (List.set c.2 (Int.toNat a) (([(b,d)])++(at' c.2 a))):Int)) (ck ((List.length ([(a,d)]):Int)+(List.length (at' (List.set c.2 (Int.toNat a) (([(b,d)])++(at' c.2 a))) b):Int)<=1099511627) (ck (0<=b∧b<(List.length (List.set c.2 (Int.toNat a) (([(b,d)])++(at' c.2 a))):Int)) (some (List.set (List.set c.2 (Int.toNat a) (([(b,d)])++(at' c.2 a))) (Int.toNat b) (([(a,d)])++(at' (List.set c.2 (Int.toNat a) (([(b,d)])++(at' c.2 a))) b))))))))))else(ck (0<=a∧a<(List.length c.2:Int)) (ck (0<=b∧b<(List.length c.2:Int)) (ck ((List.length (at' c.2 a):Int)+(List.length ([(b,d)]):Int)<=1099511627) (ck ((List.length (at' c.2 b):Int)+(List.length ([(a,d)]):Int)<=1099511627) (ck (Int.toNat a≠Int.toNat b) (ck (0<=a∧a<(List.length (List.set (List.set c.2 (Int.toNat a) ((at' c.2 a)++([(b,d)]))) (Int.toNat b) ((at' c.2 b)++([(a,d)]))):Int)) (ck (0<=b∧b<(List.length (List.set (List.set c.2 (Int.toNat a) ((at' c.2 a)++([(b,d)]))) (Int.toNat b) ((at' c.2 b)++([(a,d)]))):Int)) (some (List.set (List.set c.2 (Int.toNat a) ((at' c.2 a)++([(b,d)]))) (Int.toNat b) ((at' c.2 b)++([(a,d)]))))))))))))
def mU (U:Nat) (e:Dt) (a:cE) (b:Int) (c:Int) (f:Int):Option (fW):=
 if b=c then(oY e a b c f (true))else(Option.bind (mZ U ((a.1,a.2)) b c) λd=>(oY e a b c f (d)))
theorem WP:aX Tryz.prog 42:=Tryz.call42
theorem AR (U:Nat) {s:Dt} {G:cE} {f:Int} {g:Int} {d:Int} (J:Value)  (K:Value)  (L:Value)  (H:Value)  (C:Value)  (A:fV) (r:fW) (h:mU U s G f g d=some r):
  Fq Tryz.prog 42 #[Value.agg #[vI (s.1),J,K,L,vB (s.2.2.2.2.1),vB (s.2.2.2.2.2)],Value.agg #[H,C],vI (f),vI (g),vI (d)] [Ar dA.raw C A,lU cF A G.2] [Sl bO J s.2.1,Sl bO K s.2.2.1,Sl bO L s.2.2.2.1,Sl bO H G.1] (λx:fV=>Value.tuple #[]) (λx l=>Ar dA.raw C x::lU cF x r::l):=by
 refine Fq.of (vs:=[Value.agg #[vI (s.1),J,K,L,vB (s.2.2.2.2.1),vB (s.2.2.2.2.2)],Value.agg #[H,C],vI (f),vI (g),vI (d)]) Tryz.func42 Z Tryz.ntmps42 Z λc=>?_;refine aV<|aH (aN.box (cs:=[vI (s.1),J,K,L,vB (s.2.2.2.2.1),vB (s.2.2.2.2.2)]) Z Z) Z λb1=>aH (aN.box (cs:=[H,C]) Z Z) Z λb2=>aM<|aK<|aK<|Bu (B:=Unit) (λI=>oY s G f g d I=some r) (λI b5=>[(2,vI (f)),(3,vI (g)),(4,vI (d)),(5,vP b1),(6,vP b2),(20,vB (I))]) (λI b5=>[bV b2 [H,C] 28,bV b1 [vI (s.1),J,K,L,vB (s.2.2.2.2.1),vB (s.2.2.2.2.2)] 24,Ar dA.raw C A,lU cF A G.2]) (λI b5=>[Sl bO J s.2.1,Sl bO K s.2.2.1,Sl bO L s.2.2.2.1,Sl bO H G.1]) ?_ ?_
 ·refine aR<|aA Z<|aA Z<|cP Z<|aA Z ?_;refine Dv h Z (λ_ h=>?_) λ_ h=>?_
  ·refine aI Z<|aI Z<|aI Z<|aI Z<|dW Z<|aM ?_;exact iB (true) () h SF Z
  refine aP Z (iN 0 Z Z Z Z) Z<|cS Z<|cS Z<|fH h λav au h=>nF Z (aN.callQ ads (KL U H C (List.zip A G.2) av au) Z (aG.cons (aF.fact 3 Z) (aG.cons (cB (i:=2) (j:=3) Z Z bU) .nil))) Z λa8=>fO Z<|aM ?_;exact iB (av) () h SF Z
 intro I b5 h;refine AZ h Z (λ_ h=>?_) λ_ h=>?_
 ·refine aW<|aJ ?_;cases h;exact FY (A) Z Z .ret (.inl Z) (a_.ix [2,3] Z Z) aG.nil
 refine cK<|aV<|aA Z<|aA Z ?_;refine aB (Ck (r:=Value.agg #[vI (g),vI (d)]) Z Z (by intro w;simp[Instr.build,Instr.fill,fC,eB,dH,fD,fE,eD,gR])) Z ?_;refine aA Z<|aA Z ?_;refine aB (Ck (r:=Value.agg #[vI (f),vI (d)]) Z Z (by intro w;simp[Instr.build,Instr.fill,fC,eB,dH,fD,fE,eD,gR])) Z ?_;refine aH (aN.alloc (cs:=VH) Z Z) Z λb7=>aH (aN.alloc (cs:=VH) Z Z) Z λb8=>bS 1 (vs:=[vI (g),vI (d)]) Z Z Z Z Z Z<|bS 0 (vs:=[vI (f),vI (d)]) Z Z Z Z Z Z<|aM<|aK<|aV<|bT Z<|dD 3 Z<|aM ?_;refine AZ h Z (λ_ h=>?_) λ_ h=>?_
 ·refine aK ?_;refine JR.start [0,1,0,0,8,0,32,0,224,480,1016,2047,4095] 11 mixedOrders (by decide +kernel) ?_;refine JR.open (by exact rfl) ?_;refine dB Z<|jR 2 Z<|bG Z<|pX 1 Z<|JR.loud Z Z Z (bY (e:=cF) ([((g,d))]) [(0,Value.agg #[vI (g),vI (d)])] Z Z Z Z (zE (vI (g)) (vI (d))) Z Z Z) Z (λaT=>(wF [([3],[])] Z)) λaT=>jS Z (dC Z Z Z Z Z)<|bK Z (a_.cons 3 Z .nil) .nil (eH 0 Z Z Z Z Z) (aO.h (a_.ix [2] Z Z) .nil aO.z)<|jS Z (iG Z)<|cX h λu h=>eO (dL 6 Z) λM=>?_;refine bK Z (a_.cons 5 Z .nil) .nil (jU 0 Z Z Z Z Z u.1 (by have m:=u.2;have n:=M;(try simp only[List.length_set]at m);(try simp only[List.length_set]at n);(try simp only[List.length_set]);omega)) (aO.h (a_.ix [4] Z Z) .nil aO.z) ?_;refine eO (dL 6 Z) λN=>bK Z (a_.cons 5 Z .nil) .nil (nQ 0 Z Z N Z Z u) (aO.h (a_.ix [4] Z Z) .nil aO.z)<|cX h λaQ h=>JR.loud Z Z Z (eQ 0 bU Z Z Z (aF.row (j:=6) Z bU u.1 u.2) Z Z Z Z aQ Z) Z (λaw=>(wF [([3],[])] Z)) λaw=>bP 11 Z Z<|cX h λv h=>aB (bX Z Z (cB (i:=5) (j:=6) Z Z bU) Z Z v) Z<|cG (Know.one ((bD (aF.res 0 Z) bU))) λak=>jD (xX (k:=f) 6 0 Z Z Z v) ?_;refine qE 4 5 ⟨v.1,by first|exact v.2|simpa using v.2⟩ Z Z Z Z Z (by simp) ak Z ?_;refine aM<|aK ?_;refine JR.start [0,1,0,0,8,0,32,0,224,480,1016,2047,4095] 11 mixedOrders (by decide +kernel) ?_;refine JR.open (by exact rfl) ?_;refine dB Z<|jR 2 Z<|bG Z<|pX 0 Z<|JR.loud Z Z Z (bY (e:=cF) ([((f,d))]) [(0,Value.agg #[vI (f),vI (d)])] Z Z Z Z (zE (vI (f)) (vI (d))) Z Z Z) Z (λaU=>(wF [([3],[])] Z)) λaU=>jS Z (dC Z Z Z Z Z)<|bK Z (a_.cons 3 Z .nil) .nil (eH 0 Z Z Z Z Z) (aO.h (a_.ix [2] Z Z) .nil aO.z)<|jS Z (iG Z)<|cX h λt h=>eO (dL 6 Z) λO=>?_;refine bK Z (a_.cons 5 Z .nil) .nil (jU 0 Z Z Z Z Z t.1 (by have m:=t.2;have n:=O;(try simp only[List.length_set]at m);(try simp only[List.length_set]at n);(try simp only[List.length_set]);omega)) (aO.h (a_.ix [4] Z Z) .nil aO.z) ?_;refine eO (dL 6 Z) λP=>bK Z (a_.cons 5 Z .nil) .nil (nQ 0 Z Z P Z Z t) (aO.h (a_.ix [4] Z Z) .nil aO.z)<|cX h λaS h=>JR.loud Z Z Z (eQ 0 bU Z Z Z (aF.row (j:=6) Z bU t.1 (by first|exact t.2|simpa using t.2)) Z Z Z Z aS Z) Z (λax=>(wF [([3],[])] Z)) λax=>?_;refine bP 11 Z Z<|cX h λy h=>aB (bX Z Z (cB (i:=5) (j:=6) Z Z bU) Z Z y) Z<|cG (Know.one ((bD (aF.res 0 Z) bU))) λal=>jD (xX (k:=g) 6 0 Z Z Z y) ?_;refine qE 4 5 ⟨y.1,by first|exact y.2|simpa using y.2⟩ Z Z Z Z Z (by simp) al Z ?_;refine aM<|aW<|aJ ?_;cases h;exact FY (List.set (List.set A (Int.toNat f) aw) (Int.toNat g) ax) Z Z .ret (.inl Z) (a_.ix [4,5] Z Z) aG.nil
 refine cK<|cX h λp h=>cX h λq h=>cX h λD h=>cX h λE h=>cX h λF h=>cX h λa h=>cX h λb h=>UB [0,1,0,0,8,0,0,64,0,448,960,0,2048,8128,0,16384,0,114688,245760,0,524288,2097088,4194247,8388551,16777215,33554431] 24 [[0,1,2,3,4,5,6,7,8,9,10,11,14,15,16,17,18,19,12,13,20,21,22,23,24,25],[0,1,2,3,4,5,6,7,8,9,10,11,14,15,16,17,18,19,12,20,13,21,22,23,24,25],[0,1,2,3,4,5,6,7,8,9,10,11,14,15,16,17,18,19,20,12,13,21,22,23,24,25]] mixedOrders (by decide +kernel) (by decide +kernel) ?_;intro o ho;simp only[List.mem_cons,List.not_mem_nil,or_false]at ho;rcases ho with rfl|rfl|rfl
 ·refine dB Z<|jR 2 Z<|bG Z<|dB Z<|jR 2 Z<|bG Z<|dB Z<|jR 2 Z<|bG Z<|eO (dL 5 Z) λQ=>?_;refine bK Z (a_.cons 4 Z .nil) .nil (jU 0 Z Z Z Z Z p.1 (by have m:=p.2;have n:=Q;(try simp only[List.length_set]at m);(try simp only[List.length_set]at n);(try simp only[List.length_set]);omega)) aO.z ?_;refine eO (dL 5 Z) λR=>bK Z (a_.cons 4 Z .nil) .nil (nQ 0 Z Z R Z Z p) aO.z<|pX 1 Z<|dB Z<|jR 2 Z<|bG Z<|eO (dL 5 Z) λS=>?_;refine bK Z (a_.cons 4 Z .nil) .nil (jU 0 Z Z Z Z Z q.1 (by have m:=q.2;have n:=S;(try simp only[List.length_set]at m);(try simp only[List.length_set]at n);(try simp only[List.length_set]);omega)) aO.z ?_;refine eO (dL 5 Z) λT=>bK Z (a_.cons 4 Z .nil) .nil (nQ 0 Z Z T Z Z q) aO.z<|pX 0 Z<|JR.loud Z Z Z (bY (e:=cF) ([((g,d))]) [(0,Value.agg #[vI (g),vI (d)])] Z Z Z Z (zE (vI (g)) (vI (d))) Z Z Z) Z (λaX=>(wF [([1],[]),([5],[]),([5],[]),([3],[]),([5],[]),([5],[]),([3],[]),([3],[]),([3],[])] Z)) λaX=>JR.loud Z Z Z (qT 6 bU Z Z Z (bD (aF.res 0 Z) bU) Z Z Z Z p D Z) Z (λay=>(wF [([1],[]),([5],[]),([5],[]),([3],[]),([3],[]),([3],[])] Z)) λay=>JR.loud Z Z Z (bY (e:=cF) ([((f,d))]) [(0,Value.agg #[vI (f),vI (d)])] Z Z Z Z (zE (vI (f)) (vI (d))) Z Z Z) Z (λaY=>(wF [([6],[]),([6],[]),([4],[]),([3],[]),([6],[]),([6],[]),([4],[]),([4],[]),([4],[])] Z)) λaY=>JR.loud Z Z Z (zM (j:=f) 7 bU Z Z Z (bD (aF.res 0 Z) bU) Z Z Z Z q E Z F) Z (λaz=>(wF [([4],[]),([4],[])] Z)) λaz=>eO (dL 7 Z) λV=>?_;refine bK Z (a_.cons 6 Z .nil) .nil (jU 0 Z Z Z Z Z a.1 (by have m:=a.2;have n:=V;(try simp only[List.length_set]at m);(try simp only[List.length_set]at n);(try simp only[List.length_set]);omega)) (VP Z) ?_;refine eO (Cf (k:=f) (j:=g) 7 Z (by omega) ⟨a.1,by first|exact a.2|simpa using a.2⟩) λam=>?_;refine Dx Z Z Z (Bv 6 7 ⟨a.1,by first|exact a.2|simpa using a.2⟩ Z Z Z Z (by simp) am Z) (λa5=>(wF [([4],[])] Z)) λa5=>?_;refine bP 24 Z Z<|cG (dL 7 Z) λW=>?_;refine aB (jU 6 Z Z Z Z Z b.1 (by have m:=b.2;have n:=W;(try simp only[List.length_set]at m);(try simp only[List.length_set]at n);(try simp only[List.length_set]);omega)) Z ?_;refine cG (Bd 7 (k:=g) Z ⟨b.1,by first|exact b.2|simpa using b.2⟩) λan=>?_;refine qE 6 7 ⟨b.1,by first|exact b.2|simpa using b.2⟩ Z Z Z Z Z (by simp) an Z ?_;refine eI ?_;cases h;exact FY (List.set (List.set A (Int.toNat f) ay) (Int.toNat g) az) Z Z .normal (.inr Z) (a_.ix [6,7] Z Z) aG.nil
 ·refine dB Z<|jR 2 Z<|bG Z<|dB Z<|jR 2 Z<|bG Z<|dB Z<|jR 2 Z<|bG Z<|eO (dL 5 Z) λX=>?_;refine bK Z (a_.cons 4 Z .nil) .nil (jU 0 Z Z Z Z Z p.1 (by have m:=p.2;have n:=X;(try simp only[List.length_set]at m);(try simp only[List.length_set]at n);(try simp only[List.length_set]);omega)) aO.z ?_;refine eO (dL 5 Z) λY=>bK Z (a_.cons 4 Z .nil) .nil (nQ 0 Z Z Y Z Z p) aO.z<|pX 1 Z<|dB Z<|jR 2 Z<|bG Z<|eO (dL 5 Z) λaa=>?_;refine bK Z (a_.cons 4 Z .nil) .nil (jU 0 Z Z Z Z Z q.1 (by have m:=q.2;have n:=aa;(try simp only[List.length_set]at m);(try simp only[List.length_set]at n);(try simp only[List.length_set]);omega)) aO.z ?_;refine eO (dL 5 Z) λab=>bK Z (a_.cons 4 Z .nil) .nil (nQ 0 Z Z ab Z Z q) aO.z<|pX 0 Z<|JR.loud Z Z Z (bY (e:=cF) ([((g,d))]) [(0,Value.agg #[vI (g),vI (d)])] Z Z Z Z (zE (vI (g)) (vI (d))) Z Z Z) Z (λa0=>(wF [([1],[]),([5],[]),([5],[]),([3],[]),([5],[]),([5],[]),([3],[]),([3],[]),([3],[])] Z)) λa0=>JR.loud Z Z Z (bY (e:=cF) ([((f,d))]) [(0,Value.agg #[vI (f),vI (d)])] Z Z Z Z (zE (vI (f)) (vI (d))) Z Z Z) Z (λa1=>(wF [([6],[]),([6],[]),([4],[]),([3],[]),([6],[]),([6],[]),([4],[]),([4],[]),([4],[])] Z)) λa1=>JR.loud Z Z Z (qT 7 bU Z Z Z (bD (aF.res 1 Z) bU) Z Z Z Z p D Z) Z (λaC=>(wF [([2],[]),([6],[]),([6],[]),([4],[]),([4],[]),([4],[])] Z)) λaC=>JR.loud Z Z Z (zM (j:=f) 7 bU Z Z Z (bD (aF.res 0 Z) bU) Z Z Z Z q E Z F) Z (λaD=>(wF [([4],[]),([4],[])] Z)) λaD=>eO (dL 7 Z) λac=>?_;refine bK Z (a_.cons 6 Z .nil) .nil (jU 0 Z Z Z Z Z a.1 (by have m:=a.2;have n:=ac;(try simp only[List.length_set]at m);(try simp only[List.length_set]at n);(try simp only[List.length_set]);omega)) (VP Z) ?_;refine eO (Cf (k:=f) (j:=g) 7 Z (by omega) ⟨a.1,by first|exact a.2|simpa using a.2⟩) λao=>?_;refine Dx Z Z Z (Bv 6 7 ⟨a.1,by first|exact a.2|simpa using a.2⟩ Z Z Z Z (by simp) ao Z) (λa6=>(wF [([4],[])] Z)) λa6=>?_;refine bP 24 Z Z<|cG (dL 7 Z) λad=>?_;refine aB (jU 6 Z Z Z Z Z b.1 (by have m:=b.2;have n:=ad;(try simp only[List.length_set]at m);(try simp only[List.length_set]at n);(try simp only[List.length_set]);omega)) Z ?_;refine cG (Bd 7 (k:=g) Z ⟨b.1,by first|exact b.2|simpa using b.2⟩) λap=>?_;refine qE 6 7 ⟨b.1,by first|exact b.2|simpa using b.2⟩ Z Z Z Z Z (by simp) ap Z ?_;refine eI ?_;cases h;exact FY (List.set (List.set A (Int.toNat f) aC) (Int.toNat g) aD) Z Z .normal (.inr Z) (a_.ix [6,7] Z Z) aG.nil
 refine dB Z<|jR 2 Z<|bG Z<|dB Z<|jR 2 Z<|bG Z<|dB Z<|jR 2 Z<|bG Z<|eO (dL 5 Z) λae=>?_;refine bK Z (a_.cons 4 Z .nil) .nil (jU 0 Z Z Z Z Z p.1 (by have m:=p.2;have n:=ae;(try simp only[List.length_set]at m);(try simp only[List.length_set]at n);(try simp only[List.length_set]);omega)) aO.z ?_;refine eO (dL 5 Z) λaf=>bK Z (a_.cons 4 Z .nil) .nil (nQ 0 Z Z af Z Z p) aO.z<|pX 1 Z<|dB Z<|jR 2 Z<|bG Z<|eO (dL 5 Z) λag=>?_;refine bK Z (a_.cons 4 Z .nil) .nil (jU 0 Z Z Z Z Z q.1 (by have m:=q.2;have n:=ag;(try simp only[List.length_set]at m);(try simp only[List.length_set]at n);(try simp only[List.length_set]);omega)) aO.z ?_;refine eO (dL 5 Z) λah=>bK Z (a_.cons 4 Z .nil) .nil (nQ 0 Z Z ah Z Z q) aO.z<|pX 0 Z<|JR.loud Z Z Z (bY (e:=cF) ([((f,d))]) [(0,Value.agg #[vI (f),vI (d)])] Z Z Z Z (zE (vI (f)) (vI (d))) Z Z Z) Z (λa2=>(wF [([5],[]),([5],[]),([3],[]),([2],[]),([5],[]),([5],[]),([3],[]),([3],[]),([3],[])] Z)) λa2=>JR.loud Z Z Z (bY (e:=cF) ([((g,d))]) [(0,Value.agg #[vI (g),vI (d)])] Z Z Z Z (zE (vI (g)) (vI (d))) Z Z Z) Z (λa3=>(wF [([2],[]),([6],[]),([6],[]),([4],[]),([6],[]),([6],[]),([4],[]),([4],[]),([4],[])] Z)) λa3=>JR.loud Z Z Z (qT 7 bU Z Z Z (bD (aF.res 0 Z) bU) Z Z Z Z p D Z) Z (λaE=>(wF [([2],[]),([6],[]),([6],[]),([4],[]),([4],[]),([4],[])] Z)) λaE=>JR.loud Z Z Z (zM (j:=f) 7 bU Z Z Z (bD (aF.res 1 Z) bU) Z Z Z Z q E Z F) Z (λaL=>(wF [([4],[]),([4],[])] Z)) λaL=>eO (dL 7 Z) λai=>?_;refine bK Z (a_.cons 6 Z .nil) .nil (jU 0 Z Z Z Z Z a.1 (by have m:=a.2;have n:=ai;(try simp only[List.length_set]at m);(try simp only[List.length_set]at n);(try simp only[List.length_set]);omega)) (VP Z) ?_;refine eO (Cf (k:=f) (j:=g) 7 Z (by omega) ⟨a.1,by first|exact a.2|simpa using a.2⟩) λaq=>?_;refine Dx Z Z Z (Bv 6 7 ⟨a.1,by first|exact a.2|simpa using a.2⟩ Z Z Z Z (by simp) aq Z) (λa7=>(wF [([4],[])] Z)) λa7=>?_;refine bP 24 Z Z<|cG (dL 7 Z) λaj=>?_;refine aB (jU 6 Z Z Z Z Z b.1 (by have m:=b.2;have n:=aj;(try simp only[List.length_set]at m);(try simp only[List.length_set]at n);(try simp only[List.length_set]);omega)) Z ?_;refine cG (Bd 7 (k:=g) Z ⟨b.1,by first|exact b.2|simpa using b.2⟩) λar=>?_;refine qE 6 7 ⟨b.1,by first|exact b.2|simpa using b.2⟩ Z Z Z Z Z (by simp) ar Z ?_;refine eI ?_;cases h;exact FY (List.set (List.set A (Int.toNat f) aE) (Int.toNat g) aL) Z Z .normal (.inr Z) (a_.ix [6,7] Z Z) aG.nil
def tO (b:cE) (a:fW):Option tI:=
 some ((b.1,a))
def lV (U:Nat) (b:Dt) (d:cE) (a:Int×fW) (c:(Int×fW)->Option tI) (e:Bool):Option tI:=
 if e=true then(ck (0<=a.1∧a.1<(List.length b.2.1:Int)) (Option.bind (g_ U (at' b.2.1 a.1) (List.length d.2:Int)) λf=>(ck (0<=(wI .i64 (a.1+(1:Int)))∧(wI .i64 (a.1+(1:Int)))<(List.length b.2.1:Int)) (Option.bind (g_ U (at' b.2.1 (wI .i64 (a.1+(1:Int)))) (List.length d.2:Int)) λg=>(Option.bind (sL U b.2.2.1 a.1) λh=>(Option.bind (g_ U h (15:Int)) λi=>(Option.bind (mU U ((b.1,b.2.1,b.2.2.1,b.2.2.2.1,b.2.2.2.2.1,b.2.2.2.2.2)) ((d.1,a.2)) f g (wI .i64 ((1:Int)+i))) λj=>(c ((wI .i64 (a.1+(2:Int))),j)))))))))else(tO d (a.2))
def oZ (U:Nat) (c:Dt) (d:cE) (a:Int×fW) (b:(Int×fW)->Option tI):Option tI:=
 if(wI .i64 (a.1+(1:Int)))<(List.length c.2.1:Int)then(lV U c d a b (decide (a.1<(60:Int))))else(lV U c d a b (false))
def mV (U:Nat) (b:Dt) (a:cE):Option tI:=
 bJ (oZ U b a) U ((List.length a.2:Int),a.2)
theorem ac_:aX Tryz.prog 21:=Tryz.call21
theorem FL (U:Nat) {a:Dt} {e:cE} (n:Value)  (m:Value)  (o:Value)  (f:Value)  (g:Value)  (O:fV) (r:(aQ×fW)) (h:mV U a e=some r):
  Fq Tryz.prog 21 #[Value.agg #[vI (a.1),n,m,o,vB (a.2.2.2.2.1),vB (a.2.2.2.2.2)],Value.agg #[f,g]] [Ar bZ f e.1,Ar dA.raw g O,lU cF O e.2] [Sl bO n a.2.1,Sl bO m a.2.2.1,Sl bO o a.2.2.2.1] (λx:Value×Value×List Value=>Value.agg #[x.1,x.2.1]) (λx l=>Ar bZ x.1 r.1::Ar dA.raw x.2.1 x.2.2::lU cF x.2.2 r.2::l):=by
 refine Fq.of (vs:=[Value.agg #[vI (a.1),n,m,o,vB (a.2.2.2.2.1),vB (a.2.2.2.2.2)],Value.agg #[f,g]]) Tryz.func21 Z Tryz.ntmps21 Z λc=>?_;unfold mV at h;refine aV<|aH (aN.box (cs:=[vI (a.1),n,m,o,vB (a.2.2.2.2.1),vB (a.2.2.2.2.2)]) Z Z) Z λv=>aH (aN.box (cs:=[f,g]) Z Z) Z λq=>aH (aN.alloc (cs:=[lC,lC]) Z Z) Z λs=>aM<|aV<|bT Z<|dD 1 Z<|aB (iF Z (cB (i:=4) (j:=5) Z Z bU) Z) Z<|aE Z<|aM<|aK<|Bu (B:=fV) (λt=>tO e t=some r) (λt u=>[(3,vP q),(4,vP s)]) (λt u=>[bV s [lC,lC] 28,bV q [f,g] 28,Ar bZ f e.1,Ar dA.raw g u,lU cF u t]) (λt u=>[Sl bO n a.2.1,Sl bO m a.2.2.1,Sl bO o a.2.2.2.1]) ?_ ?_
 ·refine aV<|aA Z<|aE Z<|aM<|aS<|Ev (B:=fV) (oZ U a e) (λb d=>[(2,vP v),(3,vP q),(4,vP s),(5,vI (List.length e.2:Int)),(6,vI (b.1))]) (λb d=>[bV s [lC,lC] 28,bV q [f,g] 28,bV v [vI (a.1),n,m,o,vB (a.2.2.2.2.1),vB (a.2.2.2.2.2)] 24,Ar bZ f e.1,Ar dA.raw g d,lU cF d b.2]) (λb d=>[Sl bO n a.2.1,Sl bO m a.2.2.1,Sl bO o a.2.2.2.1]) ((List.length e.2:Int),e.2) (O) h SF (a_.refl _) (aG.refl _ _) ?_;intro J b d h;refine aK<|aK<|Bu (B:=Unit) (λk=>lV U a e b (bJ (oZ U a e) J) k=some r) (λk p=>[(2,vP v),(3,vP q),(4,vP s),(5,vI (List.length e.2:Int)),(6,vI (b.1)),(20,vB (k))]) (λk p=>[bV s [lC,lC] 28,bV q [f,g] 28,bV v [vI (a.1),n,m,o,vB (a.2.2.2.2.1),vB (a.2.2.2.2.2)] 24,Ar bZ f e.1,Ar dA.raw g d,lU cF d b.2]) (λk p=>[Sl bO n a.2.1,Sl bO m a.2.2.1,Sl bO o a.2.2.2.1]) ?_ ?_
  ·refine aR<|aA Z<|cH Z<|bT Z<|dD 2 Z<|kF (aF.fact 0 Z) Z<|cM Z<|aA Z ?_;refine Dv h Z (λ_ h=>?_) λ_ h=>?_
   ·refine cS Z<|aP Z (HW Z Z) Z<|dW Z<|aM ?_;exact iB (decide (b.1<(60:Int))) () h SF Z
   refine aI Z<|aI Z<|fO Z<|aM ?_;exact iB (false) () h SF Z
  intro k p h;refine AZ h Z (λ_ h=>?_) λ_ h=>?_
  ·refine cK<|aK<|aS ?_;refine JR.start [0,0,0,4,0,28,60,0,252,0,512,0,2048,7680,15872,0,65532,0,131072,0,1048572,2097148,4194300,8388607] 23 mixedOrders (by decide +kernel) ?_;refine JR.open (by exact rfl) ?_;refine pX 2 Z<|pX 1 Z<|dB Z<|jR 2 Z<|bG Z<|cX h λE h=>bK Z .nil (kA 0 Z) (aZ Z Z (aF.fact 0 Z) Z Z E) aO.z<|bK Z .nil (kA 0 Z) (bQ Z (aF.fact 0 Z) Z Z Z cQ E) aO.z<|bG Z<|fH h λK w h=>JR.loud Z Z Z (aN.callQ DL (lN U  K w) Z .nil) Z (λP=>(wF [([1],[]),([2],[])] Z)) λP=>jS Z (dC Z Z Z Z Z)<|bK Z (a_.cons 2 Z .nil) .nil (eH 0 Z Z Z Z Z) (aO.h (a_.ix [2] Z Z) .nil aO.z)<|jS Z (iG Z)<|jS Z (xZ Z Z)<|cX h λF h=>bK Z .nil (kA 0 Z) (aZ Z Z (aF.fact 0 Z) Z Z F) (aO.h .nil (kA 0 Z) aO.z)<|bK Z .nil (kA 0 Z) (bQ Z (aF.fact 0 Z) Z Z Z cQ F) (aO.h .nil (kA 0 Z) aO.z)<|jS Z (iG Z)<|fH h λL y h=>JR.loud Z Z Z (aN.callQ DL (lN U  L y) Z .nil) Z (λQ=>(wF [([1],[]),([2],[])] Z)) λQ=>jS Z (dC Z Z Z Z Z)<|bK Z (a_.cons 2 Z .nil) .nil (eH 0 Z Z Z Z Z) (aO.h (a_.ix [2] Z Z) .nil (aO.h (a_.ix [2] Z Z) .nil aO.z))<|jS Z (iG Z)<|fH h λM A h=>JR.loud Z Z Z (aN.callQ Jy (AW U m M A) Z (oS [1] Z)) Z (λR=>(wF [([1],[]),([2],[])] Z)) λR=>fH h λN C h=>JR.loud Z Z Z (aN.callQ DL (lN U  N C) Z .nil) Z (λS=>(wF [([1],[]),([2],[])] Z)) λS=>jS Z (xZ Z Z)<|bP 23 Z Z<|fH h λG D h=>aH (Fp (Min:=[Ar dA.raw g d,lU cF d b.2]) (Mr:=[bV s [lC,lC] 28,bV q [f,g] 28,bV v [vI (a.1),n,m,o,vB (a.2.2.2.2.1),vB (a.2.2.2.2.2)] 24,Ar bZ f e.1]) WP (AR U n m o f g d G D) Z (a_.ix [4,5,0,1,2,3] Z Z) (aG.cons (aF.fact 0 Z) (aG.cons (aF.fact 1 Z) (aG.cons (aF.fact 2 Z) (aG.cons (bD (aF.res 3 Z) dJ) .nil)))) (λ_ _=>rfl)) Z λT=>eI<|mA<|aR<|aA Z<|cH Z<|aE Z<|aM ?_;exact mG ((wI .i64 (b.1+(2:Int))),G) (T) h SF (a_.ix [2,3,4,5,0,1] Z Z) (aG.refl _ _)
  refine e_ ?_;exact cC (b.2) (d) h SF (a_.ix [0,1,3,4,5] Z Z) (aG.refl _ _)
 intro t u h;unfold tO at h;refine aV<|eK 1 Z<|cG (Know.one ((bD (aF.res 2 Z) dJ))) λH=>cG (Know.one (aF.sl (cB (i:=3) (j:=4) Z Z bU))) λI=>bS 0 (vs:=[f,g]) Z Z (lE H (lE I Z)) Z Z Z<|aM<|aW ?_;cases h;exact gH (f,g,u) Z Z (RV.cell 0 Z Z Z Z) (a_.ix [2,3,4] Z Z) aG.nil
def n_ (b:Int) (a:aQ):Option tI:=
 some ((a,(List.replicate (Int.toNat (wI .i64 ((1:Int)+b))) ([]:fM))))
def rZ (a:lB) (c:rA->Option tI) (b:Int):Option tI:=
 ck ((List.length a.2:Int)+(List.length ([b]):Int)<=1099511627) (c ((wI .i64 (a.1+(1:Int))),(a.2++[b])))
def lG (b:iZ->Option tI) (a:fP):Option tI:=
 b (a.1,(wI .i64 (a.2+(1:Int))))
def lH (b:lB) (d:rA->Option tI) (a:fP) (c:iZ->Option tI):Option tI:=
 if a.2<b.1 then(ck (0<=a.2∧a.2<(List.length b.2:Int)) (if(at' b.2 a.2)=a.1 then(ck ((256:Int)≠0) (lG c ((Int.tmod (wI .i64 (a.1+(1:Int))) (256:Int)),(-1:Int))))else(lG c (a.1,a.2))))else(rZ b d (a.1))
def jG (U:Nat) (f:Dt) (e:Int) (a:lB) (b:rA->Option tI):Option tI:=
 if a.1<(wI .i64 ((1:Int)+e))then(Option.bind (sL U f.2.2.2.1 a.1) λc=>(Option.bind (g_ U c (256:Int)) λd=>(bJ (lH a b) U (d,(0:Int)))))else(n_ e (a.2))
def pA (U:Nat) (b:Dt) (c:Int):Option tI:=
 Option.bind (g_ U (wI .i64 (b.1 - (1:Int))) c) λa=>(ck (0<=(wI .i64 ((1:Int)+a))∧(wI .i64 ((1:Int)+a))<=1099511627) (bJ (jG U b a) U ((0:Int),([]:aQ))))
theorem adj:aX Tryz.prog 43:=Tryz.call43
theorem EU (U:Nat) {d:Dt} {S:Int} (y:Value)  (z:Value)  (u:Value) (r:(aQ×fW)) (h:pA U d S=some r):
  aY Tryz.prog 43 #[Value.agg #[vI (d.1),y,z,u,vB (d.2.2.2.2.1),vB (d.2.2.2.2.2)],vI (S)] [Sl bO y d.2.1,Sl bO z d.2.2.1,Sl bO u d.2.2.2.1] (λx:Value×Value×List Value=>Value.agg #[x.1,x.2.1]) (λx l=>Ar bZ x.1 r.1::Ar dA.raw x.2.1 x.2.2::lU cF x.2.2 r.2::l) (λ_ l=>l):=by
 refine aY.of Tryz.func43 Z Tryz.ntmps43 Z λc=>?_;refine aV<|aH (aN.box (cs:=[vI (d.1),y,z,u,vB (d.2.2.2.2.1),vB (d.2.2.2.2.2)]) Z Z) Z λt=>aH (aN.alloc (cs:=[lC,lC]) Z Z) Z λq=>aM<|aV<|bT Z<|dD 1 Z<|aB (oK Z Z) Z<|aA Z<|fH h λb W h=>aH (aN.callQ DL (lN U  b W) Z .nil) Z λx5=>cH Z<|aE Z<|aM<|aV<|aA Z<|cX h λT h=>jD (zA cF (Int.toNat (wI .i64 ((1:Int)+b))))<|aH (mH (e:=dA.raw) (lC) Z Z Z Z T Z Z Z) Z λn=>cG (Know.one (aF.sl (cB (i:=0) (j:=1) Z Z bU))) λK=>?_;refine aB (Wx (r:=Value.agg #[lC,n]) Z (by intro w;simp[Instr.build,Instr.fill,fC,eB,dH,fD,fE,eD,gR,eN K])) Z ?_;refine aH (aN.alloc (cs:=[lC,lC]) Z Z) Z λs=>cG (Know.one (aF.sl (cB (i:=1) (j:=2) Z Z bU))) λE=>bS 0 (vs:=[lC,n]) Z Z (lE Z (lE E Z)) Z Z Z<|aM<|aK<|DZ (B:=Value) (λp=>n_ b p=some r) (λp o=>[(4,vP q),(6,vP s)]) (λp o=>[bV s [o,n] 28,Ar dA.raw n (List.replicate (Int.toNat (wI .i64 ((1:Int)+b))) (lC)),lU cF (List.replicate (Int.toNat (wI .i64 ((1:Int)+b))) (lC)) (List.replicate (Int.toNat (wI .i64 ((1:Int)+b))) ([]:fM)),bV q [lC,lC] 28,Ar bZ o p]) ?_ ?_
 ·refine aV<|aE Z<|aM<|aS<|jD (gQ bZ)<|dU (B:=Value) (jG U d b) (λa f=>[(2,vP t),(4,vP q),(5,vI (wI .i64 ((1:Int)+b))),(6,vP s),(7,vI (a.1))]) (λa f=>[bV s [f,n] 28,Ar dA.raw n (List.replicate (Int.toNat (wI .i64 ((1:Int)+b))) (lC)),lU cF (List.replicate (Int.toNat (wI .i64 ((1:Int)+b))) (lC)) (List.replicate (Int.toNat (wI .i64 ((1:Int)+b))) ([]:fM)),bV q [lC,lC] 28,bV t [vI (d.1),y,z,u,vB (d.2.2.2.2.1),vB (d.2.2.2.2.2)] 24,Ar bZ f a.2]) ((0:Int),([]:aQ)) (lC) h SF (a_.ix [1,2,3,4,5,0] Z Z) ?_;intro v a f h;refine aK<|aV<|aA Z<|aA Z<|cM Z<|aM ?_;refine eV h Z (λh=>?_) λh=>?_
  ·refine cK<|aK<|aS<|aV<|bT Z<|dD 4 Z<|aA Z<|fH h λO Q h=>aH (aN.callQ Jy (AW U u O Q) Z (oS [2] Z)) Z λX=>fH h λJ R h=>aH (aN.callQ DL (lN U  J R) Z .nil) Z λY=>aE Z<|aM<|aK<|dO (λg=>rZ a (bJ (jG U d b) v) g=some r) (λg A=>[(2,vP t),(4,vP q),(5,vI (wI .i64 ((1:Int)+b))),(6,vP s),(7,vI (a.1)),(8,vI (g))]) (λg A=>[bV s [f,n] 28,Ar dA.raw n (List.replicate (Int.toNat (wI .i64 ((1:Int)+b))) (lC)),lU cF (List.replicate (Int.toNat (wI .i64 ((1:Int)+b))) (lC)) (List.replicate (Int.toNat (wI .i64 ((1:Int)+b))) ([]:fM)),bV q [lC,lC] 28,bV t [vI (d.1),y,z,u,vB (d.2.2.2.2.1),vB (d.2.2.2.2.2)] 24,Ar bZ f a.2]) ?_ ?_
   ·refine aV<|aE Z<|aM<|aS<|dU (lH a (bJ (jG U d b) v)) (λk C=>[(2,vP t),(4,vP q),(5,vI (wI .i64 ((1:Int)+b))),(6,vP s),(7,vI (a.1)),(8,vI (k.1)),(9,vI (k.2))]) (λk C=>[bV s [f,n] 28,Ar dA.raw n (List.replicate (Int.toNat (wI .i64 ((1:Int)+b))) (lC)),lU cF (List.replicate (Int.toNat (wI .i64 ((1:Int)+b))) (lC)) (List.replicate (Int.toNat (wI .i64 ((1:Int)+b))) ([]:fM)),bV q [lC,lC] 28,bV t [vI (d.1),y,z,u,vB (d.2.2.2.2.1),vB (d.2.2.2.2.2)] 24,Ar bZ f a.2]) (J,(0:Int)) () h SF (a_.refl _) ?_;intro N k C h;refine aK<|aV<|aA Z<|aA Z<|cM Z<|aM ?_;refine eV h Z (λh=>?_) λh=>?_
    ·refine cK<|aK<|dO (λm=>lG (bJ (lH a (bJ (jG U d b) v)) N) m=some r) (λm D=>[(2,vP t),(4,vP q),(5,vI (wI .i64 ((1:Int)+b))),(6,vP s),(7,vI (a.1)),(8,vI (m.1)),(9,vI (m.2))]) (λm D=>[bV s [f,n] 28,Ar dA.raw n (List.replicate (Int.toNat (wI .i64 ((1:Int)+b))) (lC)),lU cF (List.replicate (Int.toNat (wI .i64 ((1:Int)+b))) (lC)) (List.replicate (Int.toNat (wI .i64 ((1:Int)+b))) ([]:fM)),bV q [lC,lC] 28,bV t [vI (d.1),y,z,u,vB (d.2.2.2.2.1),vB (d.2.2.2.2.2)] 24,Ar bZ f a.2]) ?_ ?_
     ·refine aS<|aV<|bT Z<|dD 0 Z<|aA Z<|cX h λI h=>aB (aZ Z Z (bD (aF.res 5 Z) dJ) Z Z I) Z<|aB (bQ Z (bD (aF.res 5 Z) dJ) Z Z Z cQ I) Z<|aA Z<|cP Z<|aM ?_;refine eV h Z (λh=>?_) λh=>?_
      ·refine aR<|aA Z<|cH Z<|cX h λM h=>aB (OF Z Z M) Z<|aE Z<|aE Z<|eI<|mA ?_;exact iB ((Int.tmod (wI .i64 (k.1+(1:Int))) (256:Int)),(-1:Int)) () h SF Z
      refine dK<|mA ?_;exact iB (k.1,k.2) () h SF Z
     intro m D h;unfold lG at h;refine aR<|aA Z<|cH Z<|aE Z<|aM ?_;exact xT (m.1,(wI .i64 (m.2+(1:Int)))) () h SF Z
    refine e_ ?_;exact iB (k.1) () h SF Z
   intro g A h;refine aR<|bT Z<|dD 0 Z<|aA Z<|aH (bY (e:=bZ) ([g]) [(0,vI (g))] Z Z Z Z (mO (vI (g)) Z) Z Z Z) Z λV=>cX h λL h=>aH (eQ 6 dJ Z Z Z (bD (aF.res 0 Z) dJ) Z Z Z Z L Z) Z λP=>bT Z<|cG (Know.one ((bD (aF.res 6 Z) dJ))) λH=>iI 1 Z Z H Z Z Z<|eI<|mA<|aR<|aA Z<|cH Z<|aE Z<|aM ?_;exact mG ((wI .i64 (a.1+(1:Int))),(a.2++[g])) (P) h SF (a_.ix [1,2,3,4,5,6] Z Z) (aG.refl _ _)
  refine e_ ?_;exact cC (a.2) (f) h SF (a_.ix [0,1,2,3,5] Z Z) (aG.refl _ _)
 intro p o h;unfold n_ at h;refine aV<|eK 0 Z<|cG (Know.one ((bD (aF.res 4 Z) dJ))) λF=>cG (Know.one (aF.sl (cB (i:=1) (j:=2) Z Z bU))) λG=>bS 3 (vs:=[o,n]) Z Z (lE F (lE G Z)) Z Z Z<|aM<|aW ?_;cases h;exact gH (o,n,(List.replicate (Int.toNat (wI .i64 ((1:Int)+b))) (lC))) Z Z (RV.cell 3 Z Z Z Z) (a_.ix [4,1,2] Z Z) aG.nil
def oW (b:(aQ×fW)) (a:fW):Option tI:=
 some ((b.1,a))
def tM (U:Nat) (b:Dt) (i:(aQ×fW)) (a:Int×fW) (c:(Int×fW)->Option tI):Option tI:=
 if a.1<(List.length a.2:Int)then(Option.bind (sL U b.2.1 (wI .i64 (a.1 - (1:Int)))) λd=>(Option.bind (g_ U d a.1) λe=>(Option.bind (sL U b.2.2.1 (wI .i64 (a.1 - (1:Int)))) λf=>(Option.bind (g_ U f (15:Int)) λg=>(Option.bind (mU U ((b.1,b.2.1,b.2.2.1,b.2.2.2.1,b.2.2.2.2.1,b.2.2.2.2.2)) ((i.1,a.2)) e a.1 (wI .i64 ((1:Int)+g))) λh=>(c ((wI .i64 (a.1+(1:Int))),h)))))))else(oW i (a.2))
def mT (U:Nat) (a:Dt) (c:Int):Option tI:=
 Option.bind (pA U ((a.1,a.2.1,a.2.2.1,a.2.2.2.1,a.2.2.2.2.1,a.2.2.2.2.2)) c) λb=>(bJ (tM U a b) U ((1:Int),b.2))
theorem WN:aX Tryz.prog 22:=Tryz.call22
theorem AQ (U:Nat) {p0:Dt} {p1:Int} (g:Value)  (k:Value)  (n:Value) (r:(aQ×fW)) (h:mT U p0 p1=some r):
  aY Tryz.prog 22 #[Value.agg #[vI (p0.1),g,k,n,vB (p0.2.2.2.2.1),vB (p0.2.2.2.2.2)],vI (p1)] [Sl bO g p0.2.1,Sl bO k p0.2.2.1,Sl bO n p0.2.2.2.1] (λx:Value×Value×List Value=>Value.agg #[x.1,x.2.1]) (λx l=>Ar bZ x.1 r.1::Ar dA.raw x.2.1 x.2.2::lU cF x.2.2 r.2::l) (λ_ l=>l):=by
 refine aY.of Tryz.func22 Z Tryz.ntmps22 Z λc=>?_;refine aV<|aH (aN.box (cs:=[vI (p0.1),g,k,n,vB (p0.2.2.2.2.1),vB (p0.2.2.2.2.2)]) Z Z) Z λu=>aH (aN.alloc (cs:=[lC,lC]) Z Z) Z λo=>aM<|aV<|eK 1 Z<|aA Z<|fH h λm P h=>aH (aN.callQ adj (EU U g k n m P) Z (oS [0,1,2] Z)) Z λa=>aH (aN.alloc (cs:=[lC,lC]) Z Z) Z λp=>cG (Know.one ((bD (aF.res 1 Z) dJ))) λv=>cG (Know.one (aF.sl (cB (i:=2) (j:=3) Z Z bU))) λw=>bS 0 (vs:=[a.1,a.2.1]) Z Z (lE v (lE w Z)) Z Z Z<|aM<|aK<|DZ (B:=fV) (λe=>oW m e=some r) (λe f=>[(4,vP o),(5,vP p)]) (λe f=>[bV p [a.1,a.2.1] 28,Ar bZ a.1 m.1,Ar dA.raw a.2.1 f,lU cF f e,bV o [lC,lC] 28]) ?_ ?_
 ·refine aV<|aE Z<|aM<|aS<|dU (B:=fV) (tM U p0 m) (λd b=>[(2,vP u),(4,vP o),(5,vP p),(6,vI (d.1))]) (λd b=>[bV p [a.1,a.2.1] 28,Ar bZ a.1 m.1,Ar dA.raw a.2.1 b,lU cF b d.2,bV o [lC,lC] 28,bV u [vI (p0.1),g,k,n,vB (p0.2.2.2.2.1),vB (p0.2.2.2.2.2)] 24]) ((1:Int),m.2) (a.2.2) h SF (a_.refl _) ?_;intro O d b h;refine aK<|aV<|aA Z<|bT Z<|dD 0 Z<|aB (iF Z (cB (i:=2) (j:=3) Z Z bU) Z) Z<|cM Z<|aM ?_;refine eV h Z (λh=>?_) λh=>?_
  ·refine cK<|aK<|aS ?_;refine JR.start [0,0,0,4,0,16,60,0,252,0,0,1024,0,4096,15868,32252,65020,131071] 17 mixedOrders (by decide +kernel) ?_;refine JR.open (by exact rfl) ?_;refine pX 5 Z<|pX 0 Z<|dB Z<|jR 5 Z<|bG Z<|jS Z (oK Z Z)<|fH h λy E h=>JR.loud Z Z Z (aN.callQ Jy (AW U g y E) Z (oS [0] Z)) Z (λJ=>(wF [([0],[]),([5],[])] Z)) λJ=>jS Z (iG Z)<|fH h λA F h=>JR.loud Z Z Z (aN.callQ DL (lN U  A F) Z .nil) Z (λK=>(wF [([0],[]),([5],[])] Z)) λK=>jS Z (iG Z)<|jS Z (dC Z Z Z Z Z)<|bK Z (a_.cons 5 Z .nil) .nil (eH 0 Z Z Z Z Z) (aO.h (a_.ix [5] Z Z) .nil (aO.h (a_.ix [5] Z Z) .nil aO.z))<|jS Z (iG Z)<|jS Z (oK Z Z)<|fH h λC G h=>JR.loud Z Z Z (aN.callQ Jy (AW U k C G) Z (oS [1] Z)) Z (λL=>(wF [([0],[]),([5],[])] Z)) λL=>fH h λD H h=>JR.loud Z Z Z (aN.callQ DL (lN U  D H) Z .nil) Z (λM=>(wF [([0],[]),([5],[])] Z)) λM=>jS Z (xZ Z Z)<|bP 17 Z Z<|fH h λt I h=>aH (Fp (Min:=[Ar dA.raw a.2.1 b,lU cF b d.2]) (Mr:=[bV p [a.1,a.2.1] 28,Ar bZ a.1 m.1,bV o [lC,lC] 28,bV u [vI (p0.1),g,k,n,vB (p0.2.2.2.2.1),vB (p0.2.2.2.2.2)] 24]) WP (AR U g k n a.1 a.2.1 b t I) Z (a_.ix [2,3,0,1,4,5] Z Z) (aG.cons (aF.fact 0 Z) (aG.cons (aF.fact 1 Z) (aG.cons (aF.fact 2 Z) (aG.cons (bD (aF.res 1 Z) dJ) .nil)))) (λ_ _=>rfl)) Z λN=>eI<|mA<|aR<|aA Z<|cH Z<|aE Z<|aM ?_;exact mG ((wI .i64 (d.1+(1:Int))),t) (N) h SF (a_.ix [2,3,0,1,4,5] Z Z) (aG.refl _ _)
  refine e_ ?_;exact cC (d.2) (b) h SF (a_.ix [0,1,2,3,4] Z Z) (aG.refl _ _)
 intro e f h;unfold oW at h;refine aV<|eK 0 Z<|cG (Know.one ((bD (aF.res 1 Z) dJ))) λq=>cG (Know.one (aF.sl (cB (i:=2) (j:=3) Z Z bU))) λs=>bS 4 (vs:=[a.1,a.2.1]) Z Z (lE q (lE s Z)) Z Z Z<|aM<|aW ?_;cases h;exact gH (a.1,a.2.1,f) Z Z (RV.cell 4 Z Z Z Z) (a_.ix [1,2,3] Z Z) aG.nil
def Bj  (a:Int):Option (Int):=
 some (a)
def Bl (c:aQ) (a:fP) (b:iZ->Option (Int)):Option (Int):=
 if a.2<(List.length c:Int)then(ck (0<=a.2∧a.2<(List.length c:Int)) (b ((max a.1 (at' c a.2)),(wI .i64 (a.2+(1:Int))))))else(Bj  (a.1))
def sZ (a:Nat) (b:aQ):Option (Int):=
 bJ (Bl b) a ((-1:Int),(0:Int))
def nN (a:Nat) (b:cE) (d:Int) (c:Bool):Option (Int):=
 if c=true then(some (-1:Int))else(Option.bind (jW a ((b.1,b.2)) d) λe=>(Option.bind (sZ a e) λf=>(some (f))))
def oD (a:Nat) (b:cE) (c:Int):Option (Int):=
 Option.bind (eT a ((b.1,b.2))) λd=>(if(!d)=true then(nN a b c (true))else(if c<(0:Int)then(nN a b c (true))else(nN a b c (decide ((List.length b.2:Int)<=c)))))
def sJ (U:Nat) (a:ByteArray) (b:Int) (c:Int) (d:Int):Option ((ByteArray×Int×Int×Int×Int×Int)):=
 some ((a,(1:Int),(0:Int),b,c,d))
theorem Rh:aX Tryz.prog 26:=Tryz.call26
theorem AV (U:Nat) {a:ByteArray} {b:Int} {d:Int} {e:Int} (r:Qk) (h:sJ U a b d e=some r):
  aY Tryz.prog 26 #[vS (a),vI (b),vI (d),vI (e)] [] (λx:Unit=>Value.agg #[vS (r.1),vI (r.2.1),vI (r.2.2.1),vI (r.2.2.2.1),vI (r.2.2.2.2.1),vI (r.2.2.2.2.2)]) (λx l=>l) (λ_ l=>l):=by
 refine aY.of Tryz.func26 Z Tryz.ntmps26 Z λc=>?_;unfold sJ at h;refine aV<|aH (aN.alloc (cs:=vD3) Z Z) Z λf=>aM<|aV<|aA Z<|aA Z<|aA Z<|aA Z ?_;refine aB (Y.bld5 (r:=Value.agg #[vS (a),vI (1:Int),vI (0:Int),vI (b),vI (d),vI (e)]) Z Z Z Z Z (by intro w;simp[Instr.build,Instr.fill,fC,eB,dH,fD,fE,eD,gR])) Z ?_;refine bS 0 (vs:=[vS (a),vI (1:Int),vI (0:Int),vI (b),vI (d),vI (e)]) Z Z Z Z Z Z<|aM<|aW ?_;cases h;exact gH () Z Z (RV.cell 0 Z Z Z Z) .nil aG.nil
def zT (U:Nat) (a:ByteArray):Option ((ByteArray×Int×Int×Int×Int×Int)):=
 some ((a,(3:Int),(0:Int),(0:Int),(0:Int),(0:Int)))
theorem adt:aX Tryz.prog 74:=Tryz.call74
theorem IA (U:Nat) {a:ByteArray} (r:Qk) (h:zT U a=some r):
  aY Tryz.prog 74 #[vS (a)] [] (λx:Unit=>Value.agg #[vS (r.1),vI (r.2.1),vI (r.2.2.1),vI (r.2.2.2.1),vI (r.2.2.2.2.1),vI (r.2.2.2.2.2)]) (λx l=>l) (λ_ l=>l):=by
 refine aY.of Tryz.func74 Z Tryz.ntmps74 Z λc=>?_;unfold zT at h;refine aV<|aH (aN.alloc (cs:=vD3) Z Z) Z λb=>aM<|aV<|aA Z ?_;refine aB (Ck (r:=Value.agg #[vS (a),vI (3:Int),vI (0:Int),vI (0:Int),vI (0:Int),vI (0:Int)]) Z Z (by intro w;simp[Instr.build,Instr.fill,fC,eB,dH,fD,fE,eD,gR])) Z ?_;refine bS 0 (vs:=[vS (a),vI (3:Int),vI (0:Int),vI (0:Int),vI (0:Int),vI (0:Int)]) Z Z Z Z Z Z<|aM<|aW ?_;cases h;exact gH () Z Z (RV.cell 0 Z Z Z Z) .nil aG.nil
def Gv (U:Nat)  : Option Zd:=
 Option.bind (sJ U (ByteArray.mk #[100]) (0:Int) (1:Int) (0:Int)) λa=>(Option.bind (zT U (ByteArray.mk #[112])) λb=>(some ([(a.1,a.2.1,a.2.2.1,a.2.2.2.1,a.2.2.2.2.1,a.2.2.2.2.2),(b.1,b.2.1,b.2.2.1,b.2.2.2.1,b.2.2.2.2.1,b.2.2.2.2.2)])))
theorem adk:aX Tryz.prog 44:=Tryz.call44
theorem NI (U:Nat)  (r:Ze) (h:Gv U  = some r):
  aY Tryz.prog 44 #[] [] (λx:Value=>x) (λx l=>Ar iK x r::l) (λ_ l=>l):=by
 refine aY.of Tryz.func44 Z Tryz.ntmps44 Z λc=>?_;refine aV<|aE Z<|aM<|aV<|fH h λa f h=>aH (aN.callQ Rh (AV U  a f) Z .nil) Z λi=>fH h λb g h=>aH (aN.callQ adt (IA U  b g) Z .nil) Z λj=>aH (bY (e:=iK) ([((a.1,a.2.1,a.2.2.1,a.2.2.2.1,a.2.2.2.2.1,a.2.2.2.2.2)),((b.1,b.2.1,b.2.2.1,b.2.2.2.1,b.2.2.2.2.1,b.2.2.2.2.2))]) [(0,Value.agg #[vS (a.1),vI (a.2.1),vI (a.2.2.1),vI (a.2.2.2.1),vI (a.2.2.2.2.1),vI (a.2.2.2.2.2)]),(1,Value.agg #[vS (b.1),vI (b.2.1),vI (b.2.2.1),vI (b.2.2.2.1),vI (b.2.2.2.2.1),vI (b.2.2.2.2.2)])] Z Z Z Z (JQ (vS (a.1)) (vI (a.2.1)) (vI (a.2.2.1)) (vI (a.2.2.2.1)) (vI (a.2.2.2.2.1)) (vI (a.2.2.2.2.2)) (vS (b.1)) (vI (b.2.1)) (vI (b.2.2.1)) (vI (b.2.2.2.1)) (vI (b.2.2.2.2.1)) (vI (b.2.2.2.2.2))) Z Z Z) Z λd=>aE Z<|aM<|aW ?_;cases h;exact gH (d) Z Z (RV.tmp Z) (a_.refl _) aG.nil
def sA  (a:Unit):Option (Bool):=
 some (true)
def lI (c:Int) (a:(Int)->Option (Bool)) (b:Unit):Option (Bool):=
 a (wI .i64 (c+(1:Int)))
def gV (b:Int) (a:(Int)->Option (Bool)) (c:Bool):Option (Bool):=
 if c=true then(some (false))else(a (wI .i64 (b+(1:Int))))
def gU (e:bF) (d:Int) (a:Int) (b:(Int)->Option (Bool)) (c:fP):Option (Bool):=
 if(at' (at' e d) a)<c.1 then(gV a b (true))else(gV a b (decide (c.2<(at' (at' e d) a))))
def cZ (g:cE) (d:bF) (f:aQ) (b:Int) (e:(Int)->Option (Bool)) (a:Int) (c:(Int)->Option (Bool)):Option (Bool):=
 if a<(List.length (at' d b):Int)then(ck (0<=a∧a<(List.length (at' d b):Int)) (ck (0<=a∧a<(List.length f:Int)) (if(at' f a)=(-1:Int)then(ck (0<=b∧b<(List.length g.2:Int)) (gU d b a c ((-1:Int),(wI .i64 ((List.length (at' g.2 b):Int) - (1:Int))))))else(gU d b a c ((0:Int),(at' f a))))))else(lI b e (()))
def fN (U:Nat) (e:cE) (b:bF) (d:aQ) (a:Int) (c:(Int)->Option (Bool)):Option (Bool):=
 if a<(List.length b:Int)then(ck (0<=a∧a<(List.length b:Int)) (if(List.length (at' b a):Int)≠(List.length d:Int)then(some (false))else(bJ (cZ e b d a c) U (0:Int))))else(sA  (()))
def dN (U:Nat) (a:cE) (b:bF) (c:aQ):Option (Bool):=
 if(List.length b:Int)≠(List.length a.1:Int)then(some (false))else(bJ (fN U a b c) U (0:Int))
theorem Ri:aX Tryz.prog 54:=Tryz.call54
theorem tV (U:Nat) {g:cE} {e:bF} {j:aQ} (o:Value)  (p:Value)  (H:k_)  (q:Value)  (E:rB)  (s:Value) (r:Bool) (h:dN U g e j=some r):
  aY Tryz.prog 54 #[Value.agg #[o,p],q,s] [Sl bO o g.1,S2 bB p H g.2,S2 bO q E e,Sl bO s j] (λx:Unit=>vB (r)) (λx l=>l) (λ_ l=>l):=by
 refine aY.of Tryz.func54 Z Tryz.ntmps54 Z λc=>?_;refine aV<|aH (aN.box (cs:=[o,p]) Z Z) Z λk=>aE Z<|aM<|aK<|aV<|aA Z<|aB (iF Z (aF.fact 2 Z) Z) Z<|bT Z<|dD 0 Z<|kF (aF.fact 0 Z) Z<|q_ Z<|aM ?_;refine eV h Z (λh=>?_) λh=>?_
 ·refine aV<|aE Z<|aM<|aW<|aJ ?_;cases h;exact tU Z
 refine cK<|aK<|dO (λC=>sA  C=some r) (λC F=>[]) (λC F=>[]) ?_ ?_
 ·refine aV<|aA Z<|aB (iF Z (aF.fact 2 Z) Z) Z<|aA Z<|aM<|aS<|dU (fN U g e j) (λa G=>[(2,s),(3,vP k),(19,q),(20,vI (List.length e:Int)),(21,vI (a))]) (λa G=>[bV k [o,p] 28]) (0:Int) () h SF (a_.refl _) ?_;intro D a G h;refine aV<|cM Z<|aM<|aK ?_;refine eV h Z (λh=>?_) λh=>?_
  ·refine cK<|aK<|dO (λm=>lI a (bJ (fN U g e j) D) m=some r) (λm t=>[(2,s),(3,vP k),(19,q),(20,vI (List.length e:Int)),(21,vI (a))]) (λm t=>[bV k [o,p] 28]) ?_ ?_
   ·refine aS<|aV<|aA Z<|cX h λd h=>aB (bX Z Z (aF.fact 2 Z) Z Z d) Z<|aB (bW Z (aF.fact 2 Z) Z Z d) Z<|aE Z<|aE Z<|aM<|aK<|aV<|aA Z<|aB (fX Z (aF.el (aF.fact 2 Z) d.1 d.2) Z) Z<|aA Z<|kF (aF.fact 3 Z) Z<|q_ Z<|aM ?_;refine eV h Z (λh=>?_) λh=>?_
    ·refine aV<|aE Z<|aM<|aW<|aJ<|bM<|aJ<|aJ<|bM<|aJ ?_;cases h;exact tU Z
    refine cK<|aV<|aA Z<|aB (fX Z (aF.el (aF.fact 2 Z) d.1 d.2) Z) Z<|aA Z<|aM<|aS<|dU (cZ g e j a (bJ (fN U g e j) D)) (λb u=>[(2,s),(3,vP k),(7,vI (a)),(19,q),(20,vI (List.length e:Int)),(21,vI (a)),(31,(at' E a).1),(32,vI (List.length (at' e a):Int)),(33,vI (b))]) (λb u=>[bV k [o,p] 28]) (0:Int) () h SF (a_.refl _) ?_;intro B b u h;refine aV<|cM Z<|aM<|aK ?_;refine eV h Z (λh=>?_) λh=>?_
    ·refine cK<|aK<|aS<|aV<|aA Z<|cX h λy h=>aB (aZ Z Z (aF.el (aF.fact 2 Z) d.1 d.2) Z Z y) Z<|aB (bQ Z (aF.el (aF.fact 2 Z) d.1 d.2) Z Z Z cQ y) Z<|aE Z<|aE Z<|aM<|aK ?_;refine JR.start [0,0,3,7,0,31] 5 mixedOrders (by decide +kernel) ?_;refine JR.open (by exact rfl) ?_;refine bG Z<|bG Z<|cX h λA h=>bK Z .nil (kA 3 Z) (aZ Z Z (aF.fact 0 Z) Z Z A) aO.z<|bK Z .nil (kA 3 Z) (bQ Z (aF.fact 0 Z) Z Z Z cQ A) aO.z<|jS Z (nZ Z)<|bP 5 Z Z<|aE Z<|aM<|aK<|dO (λf=>gU e a b (bJ (cZ g e j a (bJ (fN U g e j) D)) B) f=some r) (λf v=>[(2,s),(3,vP k),(7,vI (a)),(10,vI (at' (at' e a) b)),(11,vI (f.1)),(12,vI (f.2)),(19,q),(20,vI (List.length e:Int)),(21,vI (a)),(31,(at' E a).1),(32,vI (List.length (at' e a):Int)),(33,vI (b))]) (λf v=>[bV k [o,p] 28]) ?_ ?_
     ·refine aV<|aA Z<|cP Z<|aM ?_;refine eV h Z (λh=>?_) λh=>?_
      ·refine JR.start [0,1,0,7,15,31,63,0,255] 8 mixedOrders (by decide +kernel) ?_;refine JR.open (by exact rfl) ?_;refine dB Z<|jR 0 Z<|bG Z<|cX h λn h=>bK Z .nil (kA 1 Z) (bX Z Z (aF.fact 0 Z) Z Z n) aO.z<|bK Z .nil (kA 1 Z) (bW Z (aF.fact 0 Z) Z Z n) aO.z<|bK Z .nil (kA 1 Z) (fX Z (aF.el (aF.fact 0 Z) n.1 n.2) Z) aO.z<|jS Z (oK Z Z)<|jS Z (nZ Z)<|bP 8 Z Z<|aE Z<|aM ?_;exact iB ((-1:Int),(wI .i64 ((List.length (at' g.2 a):Int) - (1:Int)))) () h SF Z
      refine cK ?_;exact iB ((0:Int),(at' j b)) () h SF Z
     intro f v h;refine aK<|dO (λi=>gV b (bJ (cZ g e j a (bJ (fN U g e j) D)) B) i=some r) (λi w=>[(2,s),(3,vP k),(7,vI (a)),(19,q),(20,vI (List.length e:Int)),(21,vI (a)),(31,(at' E a).1),(32,vI (List.length (at' e a):Int)),(33,vI (b)),(58,vB (i))]) (λi w=>[bV k [o,p] 28]) ?_ ?_
     ·refine aR<|aA Z<|aA Z<|cM Z<|aA Z ?_;refine Dv h Z (λ_ h=>?_) λ_ h=>?_
      ·refine aI Z<|aI Z<|aI Z<|dW Z<|aM ?_;exact iB (true) () h SF Z
      refine cS Z<|cS Z<|aP Z (zC Z Z) Z<|fO Z<|aM ?_;exact iB (decide (f.2<(at' (at' e a) b))) () h SF Z
     intro i w h;refine AZ h Z (λ_ h=>?_) λ_ h=>?_
     ·refine aV<|aE Z<|aM<|aW<|bM<|aJ<|aJ<|bM<|bM<|aJ<|aJ<|bM<|aJ ?_;cases h;exact tU Z
     refine dK<|mA<|aR<|cH Z<|aA Z<|aM ?_;exact xT (wI .i64 (b+(1:Int))) () h SF Z
    refine pH<|dV<|dV<|vM<|mA ?_;exact iB () (()) h SF Z
   intro m t h;unfold lI at h;refine aR<|cH Z<|aA Z<|aM ?_;exact xT (wI .i64 (a+(1:Int))) () h SF Z
  refine e_ ?_;exact cC () (()) h SF .nil (aG.refl _ _)
 intro C F h;unfold sA at h;refine aV<|aE Z<|aM<|aW ?_;cases h;exact lA Z
def fF (U:Nat) (a:Dt) (d:Int):Option tI:=
 Option.bind (mT U ((a.1,a.2.1,a.2.2.1,a.2.2.2.1,a.2.2.2.2.1,a.2.2.2.2.2)) d) λb=>(Option.bind (mV U ((a.1,a.2.1,a.2.2.1,a.2.2.2.1,a.2.2.2.2.1,a.2.2.2.2.2)) ((b.1,b.2))) λc=>(some ((c.1,c.2))))
theorem agp:aX Tryz.prog 6:=Tryz.call6
theorem Cb (U:Nat) {a:Dt} {o:Int} (d:Value)  (e:Value)  (f:Value) (r:(aQ×fW)) (h:fF U a o=some r):
  aY Tryz.prog 6 #[Value.agg #[vI (a.1),d,e,f,vB (a.2.2.2.2.1),vB (a.2.2.2.2.2)],vI (o)] [Sl bO d a.2.1,Sl bO e a.2.2.1,Sl bO f a.2.2.2.1] (λx:Value×Value×List Value=>Value.agg #[x.1,x.2.1]) (λx l=>Ar bZ x.1 r.1::Ar dA.raw x.2.1 x.2.2::lU cF x.2.2 r.2::l) (λ_ l=>l):=by
 refine aY.of Tryz.func6 Z Tryz.ntmps6 Z λc=>?_;refine aV<|aH (aN.box (cs:=[vI (a.1),d,e,f,vB (a.2.2.2.2.1),vB (a.2.2.2.2.2)]) Z Z) Z λp=>aH (aN.alloc (cs:=[lC,lC]) Z Z) Z λq=>aM<|aK ?_;refine JR.start [0,0,0,6,15,31] 4 mixedOrders (by decide +kernel) ?_;refine JR.open (by exact rfl) ?_;refine pX 1 Z<|pX 1 Z<|bG Z<|fH h λn t h=>JR.loud Z Z Z (aN.callQ WN (AQ U d e f n t) Z (oS [0,1,2] Z)) Z (λb=>(wF [([4],[])] Z)) λb=>bP 4 Z Z<|fH h λs u h=>aH (Fp (Min:=[Ar bZ b.1 n.1,Ar dA.raw b.2.1 b.2.2,lU cF b.2.2 n.2]) (Mr:=[bV q [lC,lC] 28,bV p [vI (a.1),d,e,f,vB (a.2.2.2.2.1),vB (a.2.2.2.2.2)] 24]) ac_ (FL U d e f b.1 b.2.1 b.2.2 s u) Z (a_.refl _) (oS [0,1,2] Z) (λ_ _=>rfl)) Z λk=>cG (Know.one ((bD (aF.res 0 Z) dJ))) λm=>cG (Know.one (aF.sl (cB (i:=1) (j:=2) Z Z bU))) λg=>bS 3 (vs:=[k.1,k.2.1]) Z Z (lE m (lE g Z)) Z Z Z<|aM<|aW ?_;cases h;exact gH (k.1,k.2.1,k.2.2) Z Z (RV.cell 3 Z Z Z Z) (a_.ix [0,1,2] Z Z) aG.nil
def vA  (a:bF):Option bF:=
 some (a)
def zZ (a:bF×Int) (c:(bF×Int)->Option bF) (b:aQ):Option bF:=
 ck ((List.length a.1:Int)+(List.length ([b]):Int)<=1099511627) (c ((a.1++[b]),(wI .i64 (a.2+(1:Int)))))
def nW (U:Nat) (g:Il) (h:aQ) (e:bF×Int) (a:aQ×Int) (c:(aQ×Int)->Option bF) (b:fP):Option bF:=
 Option.bind (sL U h (wI .i64 ((wI .i64 (e.2*(List.length g:Int)))+a.2))) λf=>(Option.bind (g_ U f (wI .i64 ((wI .i64 (b.2 - b.1))+(1:Int)))) λd=>(ck ((List.length a.1:Int)+(List.length ([(wI .i64 (b.1+d))]):Int)<=1099511627) (c ((a.1++([(wI .i64 (b.1+d))])),(wI .i64 (a.2+(1:Int)))))))
def nX (U:Nat) (f:cE) (c:Il) (g:aQ) (h:Int) (b:bF×Int) (e:(bF×Int)->Option bF) (a:aQ×Int) (d:(aQ×Int)->Option bF):Option bF:=
 if a.2<(List.length c:Int)then(ck (0<=a.2∧a.2<(List.length c:Int)) (ck (0<=a.2∧a.2<(List.length c:Int)) (ck (0<=a.2∧a.2<(List.length c:Int)) (ck (0<=a.2∧a.2<(List.length c:Int)) (ck (0<=a.2∧a.2<(List.length c:Int)) (if((at' c a.2).2.1)=(2:Int)then(nW U c g b a d ((0:Int),(1:Int)))else(if((at' c a.2).2.1)=(3:Int)then(ck (0<=b.2∧b.2<(List.length f.2:Int)) (nW U c g b a d ((-1:Int),(wI .i64 ((List.length (at' f.2 b.2):Int) - (1:Int))))))else(nW U c g b a d (((at' c a.2).2.2.1),(wI .i64 ((wI .i64 (((at' c a.2).2.2.2.1)+(wI .i64 (((at' c a.2).2.2.2.2.1)*(List.length f.2:Int)))))+(wI .i64 (((at' c a.2).2.2.2.2.2)*h)))))))))))))else(zZ b e (a.1))
def kH (U:Nat) (c:cE) (e:Il) (f:aQ) (d:Int) (a:bF×Int) (b:(bF×Int)->Option bF):Option bF:=
 if a.2<(List.length c.2:Int)then(bJ (nX U c e f d a b) U (([]:aQ),(0:Int)))else(vA  (a.1))
def rC (U:Nat) (b:cE) (c:Il) (d:aQ) (a:Int):Option bF:=
 bJ (kH U b c d a) U (([]:bF),(0:Int))
def vC (U:Nat) (c:cE) (d:Il) (e:aQ) (a:fP) (b:iZ->Option bF):Option bF:=
 if a.2<(List.length c.2:Int)then(ck (0<=a.2∧a.2<(List.length c.1:Int)) (b ((max a.1 (at' c.1 a.2)),(wI .i64 (a.2+(1:Int))))))else(rC U c d e (a.1))
def mY (U:Nat) (a:cE) (b:Il) (c:aQ):Option bF:=
 bJ (vC U a b c) U ((0:Int),(0:Int))
theorem agq:aX Tryz.prog 7:=Tryz.call7
theorem KI (U:Nat) {g:cE} {n:Il} {s:aQ} (v:Value)  (w:Value)  (z2:k_)  (F:Value)  (y:Value) (r:bF) (h:mY U g n s=some r):
  aY Tryz.prog 7 #[Value.agg #[v,w],F,y] [Sl bO v g.1,S2 bB w z2 g.2,Sl aU F n,Sl bO y s] (λx:Ip=>x.1) (λx l=>Ar dA.raw x.1 x.2::lU bZ x.2 r::l) (λ_ l=>l):=by
 refine aY.of Tryz.func7 Z Tryz.ntmps7 Z λc=>?_;unfold mY at h;refine aV<|aH (aN.box (cs:=[v,w]) Z Z) Z λp=>aE Z<|aM<|aV<|bT Z<|dD 0 Z<|aB (iF Z (aF.fact 1 Z) Z) Z<|aE Z<|aE Z<|aM<|aK<|dO (λk=>rC U g n s k=some r) (λk b4=>[(1,F),(2,y),(3,vP p),(7,vI (List.length g.2:Int)),(8,vI (k))]) (λk b4=>[bV p [v,w] 28]) ?_ ?_
 ·refine aV<|aE Z<|aM<|aS<|dU (vC U g n s) (λi J=>[(1,F),(2,y),(3,vP p),(7,vI (List.length g.2:Int)),(8,vI (i.1)),(9,vI (i.2))]) (λi J=>[bV p [v,w] 28]) ((0:Int),(0:Int)) () h SF (a_.refl _) ?_;intro ac i J h;refine aK<|aV<|aA Z<|aA Z<|cM Z<|aM ?_;refine eV h Z (λh=>?_) λh=>?_
  ·refine cK<|aK<|aS<|aR<|aA Z<|bT Z<|dD 0 Z<|aA Z<|cX h λQ h=>aB (aZ Z Z (aF.fact 0 Z) Z Z Q) Z<|aB (bQ Z (aF.fact 0 Z) Z Z Z cQ Q) Z<|aB (Ls Z Z) Z<|aE Z<|eI<|mA<|aR<|aA Z<|cH Z<|aE Z<|aM ?_;exact xT ((max i.1 (at' g.1 i.2)),(wI .i64 (i.2+(1:Int)))) () h SF Z
  refine e_ ?_;exact iB (i.1) () h SF Z
 intro k b4 h;unfold rC at h;refine aV<|aE Z<|aM<|aK<|DZ (B:=Ip) (λH=>vA  H=some r) (λH A=>[(10,A.1)]) (λH A=>[Ar dA.raw A.1 A.2,lU bZ A.2 H]) ?_ ?_
 ·refine aV<|aE Z<|aM<|aS<|jD (gQ dA.raw) (jD (DD bZ) ?_);refine dU (B:=Ip) (kH U g n s k) (λb a=>[(1,F),(2,y),(3,vP p),(7,vI (List.length g.2:Int)),(8,vI (k)),(10,a.1),(11,vI (b.2))]) (λb a=>[bV p [v,w] 28,Ar dA.raw a.1 a.2,lU bZ a.2 b.1]) (([]:bF),(0:Int)) ((lC),([]:fV)) h SF (a_.ix [2,1,0] Z Z) ?_;intro G b a h;refine aK<|aV<|aA Z<|aA Z<|cM Z<|aM ?_;refine eV h Z (λh=>?_) λh=>?_
  ·refine cK<|aK<|aS<|aV<|aE Z<|aM<|aK<|DZ (B:=Value) (λo=>zZ b (bJ (kH U g n s k) G) o=some r) (λo j=>[(1,F),(2,y),(3,vP p),(7,vI (List.length g.2:Int)),(8,vI (k)),(10,a.1),(11,vI (b.2)),(12,j)]) (λo j=>[bV p [v,w] 28,Ar dA.raw a.1 a.2,lU bZ a.2 b.1,Ar bZ j o]) ?_ ?_
   ·refine aV<|aE Z<|aM<|aS<|jD (gQ bZ)<|dU (B:=Value) (nX U g n s k b (bJ (kH U g n s k) G)) (λd m=>[(1,F),(2,y),(3,vP p),(7,vI (List.length g.2:Int)),(8,vI (k)),(10,a.1),(11,vI (b.2)),(12,m),(13,vI (d.2))]) (λd m=>[bV p [v,w] 28,Ar dA.raw a.1 a.2,lU bZ a.2 b.1,Ar bZ m d.1]) (([]:aQ),(0:Int)) (lC) h SF (a_.ix [1,2,3,0] Z Z) ?_;intro S d m h;refine aK<|aV<|aA Z<|aA Z<|kF (aF.fact 2 Z) Z<|cM Z<|aM ?_;refine eV h Z (λh=>?_) λh=>?_
    ·refine cK<|aK<|aS<|aK ?_;refine JR.start [0,0,3,7,15,0,0,96,224,480,0,0,3072,7168,15360,0,64512,131040,0,0,786432,1835008,3932160,0,16515072,33554400,31,134217727] 27 mixedOrders (by decide +kernel) ?_;refine JR.open (by exact rfl) ?_;refine bG Z<|bG Z<|cX h λL h=>bK Z .nil (kA 2 Z) (aZ Z Z (aF.fact 0 Z) Z Z L) aO.z<|jS Z (fY Z Z Z Z Z)<|bK Z .nil (kA 2 Z) (jO Z (aF.fact 0 Z) Z Z Z Dm L) aO.z<|bG Z<|bG Z<|cX h λM h=>bK Z .nil (kA 2 Z) (aZ Z Z (aF.fact 0 Z) Z Z M) aO.z<|jS Z (fY Z Z Z Z Z)<|bK Z .nil (kA 2 Z) (jO Z (aF.fact 0 Z) Z Z Z Dn M) aO.z<|bG Z<|bG Z<|cX h λN h=>bK Z .nil (kA 2 Z) (aZ Z Z (aF.fact 0 Z) Z Z N) aO.z<|jS Z (fY Z Z Z Z Z)<|bK Z .nil (kA 2 Z) (jO Z (aF.fact 0 Z) Z Z Z Do N) aO.z<|bG Z<|jS Z (AD Z Z)<|jS Z (xZ Z Z)<|bG Z<|bG Z<|cX h λO h=>bK Z .nil (kA 2 Z) (aZ Z Z (aF.fact 0 Z) Z Z O) aO.z<|jS Z (fY Z Z Z Z Z)<|bK Z .nil (kA 2 Z) (jO Z (aF.fact 0 Z) Z Z Z Dp O) aO.z<|bG Z<|jS Z (AD Z Z)<|jS Z (xZ Z Z)<|jS Z (nZ Z)<|bP 27 Z Z<|aE Z<|aM<|aK<|dO (λf=>nW U n s b d (bJ (nX U g n s k b (bJ (kH U g n s k) G)) S) f=some r) (λf I=>[(1,F),(2,y),(3,vP p),(7,vI (List.length g.2:Int)),(8,vI (k)),(10,a.1),(11,vI (b.2)),(12,m),(13,vI (d.2)),(14,vI (f.1)),(15,vI (f.2))]) (λf I=>[bV p [v,w] 28,Ar dA.raw a.1 a.2,lU bZ a.2 b.1,Ar bZ m d.1]) ?_ ?_
     ·refine aV<|aA Z<|aA Z<|cX h λP h=>aB (aZ Z Z (aF.fact 2 Z) Z Z P) Z<|aB (fY Z Z Z Z Z) Z<|aB (jO Z (aF.fact 2 Z) Z Z Z xS P) Z<|aM<|aS<|aV<|cP Z<|aE Z<|aM ?_;refine eV h Z (λh=>?_) λh=>?_
      ·refine aR<|aE Z<|aE Z<|eI<|mA ?_;exact iB ((0:Int),(1:Int)) () h SF Z
      refine aV<|cP Z<|aE Z<|aM ?_;refine eV h Z (λh=>?_) λh=>?_
      ·refine JR.start [0,1,0,7,15,31,63,0,255] 8 mixedOrders (by decide +kernel) ?_;refine JR.open (by exact rfl) ?_;refine dB Z<|jR 0 Z<|bG Z<|cX h λu h=>bK Z .nil (kA 1 Z) (bX Z Z (aF.fact 0 Z) Z Z u) aO.z<|bK Z .nil (kA 1 Z) (bW Z (aF.fact 0 Z) Z Z u) aO.z<|bK Z .nil (kA 1 Z) (fX Z (aF.el (aF.fact 0 Z) u.1 u.2) Z) aO.z<|jS Z (oK Z Z)<|jS Z (nZ Z)<|bP 8 Z Z<|aE Z<|eI<|mA ?_;exact iB ((-1:Int),(wI .i64 ((List.length (at' g.2 b.2):Int) - (1:Int)))) () h SF Z
      refine dK<|mA ?_;exact iB (((at' n d.2).2.2.1),(wI .i64 ((wI .i64 (((at' n d.2).2.2.2.1)+(wI .i64 (((at' n d.2).2.2.2.2.1)*(List.length g.2:Int)))))+(wI .i64 (((at' n d.2).2.2.2.2.2)*k))))) () h SF Z
     intro f I h;refine aR<|aA Z<|aA Z<|aA Z<|aA Z<|aA Z<|kF (aF.fact 2 Z) Z<|aB (AD Z Z) Z<|aA Z<|cH Z<|fH h λW aa h=>aH (aN.callQ Jy (AW U y W aa) Z (oS [3] Z)) Z λaf=>aA Z<|aA Z<|aB (oK Z Z) Z<|cH Z<|fH h λt ab h=>aH (aN.callQ DL (lN U  t ab) Z .nil) Z λag=>cH Z<|aH (bY (e:=bZ) ([(wI .i64 (f.1+t))]) [(0,vI (wI .i64 (f.1+t)))] Z Z Z Z (mO (vI (wI .i64 (f.1+t))) Z) Z Z Z) Z λae=>cX h λR h=>aH (eQ 4 dJ Z Z Z (bD (aF.res 0 Z) dJ) Z Z Z Z R Z) Z λY=>aE Z<|eI<|mA<|aR<|aA Z<|cH Z<|aE Z<|aM ?_;exact mG ((d.1++([(wI .i64 (f.1+t))])),(wI .i64 (d.2+(1:Int)))) (Y) h SF (a_.ix [1,2,3,4] Z Z) (aG.refl _ _)
    refine e_ ?_;exact iB (d.1) (m) h SF Z
   intro o j h;refine aR<|aA Z<|aA Z<|jD (DD bZ)<|cG (Know.one ((bD (aF.res 4 Z) dJ))) λE=>jD (QX 0 4 Z Z Z) ?_;refine aH (bY (e:=dA.raw) [j] [(0,j)] Z Z Z Z (mO (j) E) Z Z (by simp[cellsOf,dA.raw,E])) Z λad=>?_;refine cG (dL 4 Z) λC=>cG (dL 1 Z) λD=>cX h λK h=>jD (Ov 4 1 Z Z Z) ?_;refine aH (aN.append 2 0 Z Z Z Z Z Z Z (by have q:=K;have T:=C;have V:=D;(try simp only[List.length_cons,List.length_nil]at q T V ⊢);omega) (by have q:=K;have T:=C;have V:=D;(try simp only[List.length_cons,List.length_nil]at q T V ⊢);omega) Z) Z λX=>?_;refine aE Z<|eI<|mA<|aR<|aA Z<|cH Z<|aE Z<|aM ?_;exact mG ((b.1++[o]),(wI .i64 (b.2+(1:Int)))) (X,(a.2++[j])) h SF (a_.ix [1,2,3] Z Z) (aG.refl _ _)
  refine e_ ?_;exact cC (b.1) (a.1,a.2) h SF (a_.ix [1,2] Z Z) (aG.refl _ _)
 intro H A h;unfold vA at h;refine aV<|aA Z<|aE Z<|aM<|aW ?_;cases h;exact gH (A.1,A.2) Z Z (RV.tmp Z) (a_.refl _) aG.nil
def zF (U:Nat) (a:cE):Option (Int):=
 ck (0<=(List.length a.1:Int)) (some (wI .u32 ((Cn .u32 (1:Int) (List.length a.1:Int)) - (1:Int))))
theorem adx:aX Tryz.prog 77:=Tryz.call77
theorem Qd (U:Nat) {a:cE} (b:Value)  (d:Value)  (f:k_) (r:Int) (h:zF U a=some r):
  aY Tryz.prog 77 #[Value.agg #[b,d]] [Sl bO b a.1,S2 bB d f a.2] (λx:Unit=>vU (r)) (λx l=>l) (λ_ l=>l):=by
 refine aY.of Tryz.func77 Z Tryz.ntmps77 Z λc=>?_;refine aV<|aH (aN.box (cs:=[b,d]) Z Z) Z λg=>aE Z<|aM<|aV<|bT Z<|dD 0 Z<|kF (aF.fact 0 Z) Z<|cX h λe h=>aB (OG Z Z e) Z<|aB (oK Z Z) Z<|aE Z<|aM<|aW ?_;cases h;exact tU Z
def mP (U:Nat) (a:cE) (c:Int) (b:Bool):Option aQ:=
 if b=true then(some ([]:aQ))else(Option.bind (jW U ((a.1,a.2)) c) λd=>(some (d)))
def oC (U:Nat) (a:cE) (b:Int):Option aQ:=
 Option.bind (h_ U ((a.1,a.2))) λc=>(if(!c)=true then(mP U a b (true))else(if b<(0:Int)then(mP U a b (true))else(mP U a b (decide ((List.length a.2:Int)<=b)))))
theorem adC:aX Tryz.prog 85:=Tryz.call85
theorem GX (U:Nat) {f:cE} {g:Int} (b:Value)  (d:Value)  (j:k_) (r:aQ) (h:oC U f g=some r):
  aY Tryz.prog 85 #[Value.agg #[b,d],vI (g)] [Sl bO b f.1,S2 bB d j f.2] (λx:Value=>x) (λx l=>Ar bZ x r::l) (λ_ l=>l):=by
 refine aY.of Tryz.func85 Z Tryz.ntmps85 Z λc=>?_;refine aV<|aH (aN.box (cs:=[b,d]) Z Z) Z λk=>aE Z<|aM<|aK<|aK<|dO (λe=>mP U f g e=some r) (λe m=>[(1,vI (g)),(2,vP k),(18,vB (e))]) (λe m=>[bV k [b,d] 28]) ?_ ?_
 ·refine aR<|eK 0 Z<|fH h λo i h=>aH (aN.callQ MV (yW U b d j o i) Z (oS [0,1] Z)) Z λq=>aB (oQ Z) Z<|aA Z ?_;refine wG (by exact rfl) (by exact rfl) (λa=>?_) (λa=>?_)
  ·have h:=LP a h;refine aI Z<|aI Z<|dW Z<|aA Z<|aI Z<|aI Z<|aI Z<|aI Z<|aI Z<|dW Z<|aM ?_;exact iB (true) () h SF Z
  have h:=Gr a h;refine cS Z<|aP Z (HW Z Z) Z<|fO Z<|aA Z ?_;refine Dv h Z (λ_ h=>?_) λ_ h=>?_
  ·refine aI Z<|aI Z<|aI Z<|aI Z<|aI Z<|dW Z<|aM ?_;exact iB (true) () h SF Z
  refine cS Z<|aP Z (dC Z Z Z Z Z) Z<|aP Z (eH 0 Z Z Z Z Z) Z<|aP Z (iF Z (aF.fact 1 Z) Z) Z<|aP Z (De Z Z) Z<|fO Z<|aM ?_;exact iB (decide ((List.length f.2:Int)<=g)) () h SF Z
 intro e m h;refine AZ h Z (λ_ h=>?_) λ_ h=>?_
 ·refine aV<|aE Z<|aM<|aW<|aJ<|jD (gQ bZ) ?_;cases h;exact gH (lC) Z Z (RV.tmp Z) (a_.ix [0] Z Z) aG.nil
 refine cK<|aV<|eK 0 Z<|aA Z<|fH h λn p h=>aH (aN.callQ WU (El U b d j n p) Z (oS [0,1] Z)) Z λs=>aE Z<|aM<|aW ?_;cases h;exact gH (s) Z Z (RV.tmp Z) (a_.ix [0] Z Z) aG.nil
def zO  (a:Unit):Option (Int):=
 some (-1:Int)
def uQ (c:cE) (d:Int) (e:Int) (a:Int) (b:(Int)->Option (Int)):Option (Int):=
 if a<(List.length (at' c.2 d):Int)then(ck (0<=a∧a<(List.length (at' c.2 d):Int)) (if((at' (at' c.2 d) a).1)=e then(some (a))else(b (wI .i64 (a+(1:Int))))))else(zO  (()))
def sF (U:Nat) (b:cE) (a:Int) (c:Int):Option (Int):=
 ck (0<=a∧a<(List.length b.2:Int)) (bJ (uQ b a c) U (0:Int))
theorem adG:aX Tryz.prog 90:=Tryz.call90
theorem KC (U:Nat) {a:cE} {b:Int} {i:Int} (j:Value)  (k:Value)  (o:k_) (r:Int) (h:sF U a b i=some r):
  aY Tryz.prog 90 #[Value.agg #[j,k],vI (b),vI (i)] [Sl bO j a.1,S2 bB k o a.2] (λx:Unit=>vI (r)) (λx l=>l) (λ_ l=>l):=by
 refine aY.of Tryz.func90 Z Tryz.ntmps90 Z λc=>?_;refine aV<|aH (aN.box (cs:=[j,k]) Z Z) Z λq=>aE Z<|aM<|aK<|dO (λg=>zO  g=some r) (λg m=>[]) (λg m=>[]) ?_ ?_
 ·refine aV<|bT Z<|dD 0 Z<|aA Z<|cX h λe h=>aB (bX Z Z (aF.fact 1 Z) Z Z e) Z<|aB (bW Z (aF.fact 1 Z) Z Z e) Z<|aB (fX Z (aF.el (aF.fact 1 Z) e.1 e.2) Z) Z<|aA Z<|aM<|aS<|dU (uQ a b i) (λd n=>[(2,vI (i)),(13,(at' o b).1),(14,vI (List.length (at' a.2 b):Int)),(15,vI (d))]) (λd n=>[]) (0:Int) () h SF .nil ?_;intro s d n h;refine aV<|cM Z<|aM<|aK ?_;refine eV h Z (λh=>?_) λh=>?_
  ·refine cK<|aK<|aS<|aV<|aA Z<|cX h λf h=>aB (aZ Z Z (aF.el (aF.fact 1 Z) e.1 e.2) Z Z f) Z<|aB (jA (cs:=[vI ((at' (at' a.2 b) d).1),vI ((at' (at' a.2 b) d).2)]) Z (aF.el (aF.fact 1 Z) e.1 e.2) bU Z Z Z Z f) Z<|aH (aN.alloc (cs:=VH) Z Z) Z λp=>aE Z<|bS 0 (vs:=[vI ((at' (at' a.2 b) d).1),vI ((at' (at' a.2 b) d).2)]) Z Z Z Z Z Z<|aM<|aV<|bT Z<|dD 0 Z<|aA Z<|cP Z<|aM ?_;refine eV h Z (λh=>?_) λh=>?_
   ·refine aV<|aA Z<|aE Z<|aM<|aW<|bM<|aJ<|aJ<|bM<|aJ ?_;cases h;exact tU Z
   refine dK<|mA<|aR<|cH Z<|aA Z<|aM ?_;exact mG (wI .i64 (d+(1:Int))) () h SF .nil (aG.refl _ _)
  refine e_ ?_;exact iB () (()) h SF Z
 intro g m h;unfold zO at h;refine aV<|aE Z<|aM<|aW ?_;cases h;exact lA Z
end Go.Proofs.YtlkhndebimcbbaaGreatDoor
namespace Go.Sx
theorem Ao {X R:Type} {b:X->(X->Option R)->Option R} {r:R} (I:X->Prop) (e:X->Nat)
  (h:∀x f,I x->(∀c,I c->e c<e x->f c=some r)->b x f=some r):∀(a:Nat) (x:X),I x->e x<a->bJ b a x=some r:=by
 intro a
 induction a with
 |zero=>intro x _ j;omega
 |succ k l=>
  intro x g j;exact h x _ g λc d i=>l c d (by omega)
def OK {R:Type} (Q:R->Prop) (o:Option R):Prop:=∃r,o=some r∧Q r
theorem wP {X R:Type} {step:X->(X->Option R)->Option R} {Q:R->Prop} (I:X->Prop) (d:X->Nat)
  (h:∀x e,I x->(∀b,I b->d b<d x->OK Q (e b))->OK Q (step x e)):∀(a:Nat) (x:X),I x->d x<a->OK Q (bJ step a x):=by
 intro a
 induction a with
 |zero=>intro x _ i;omega
 |succ k j=>
  intro x f i;exact h x _ f λb c g=>j b c (by omega)
theorem cA {b:Type} {p:Prop} [Decidable p] (a:p) (x:Option b):ck p x=x:=if_pos a
theorem wr {x:Int} (a : -9223372036854775808<=x) (b:x<=9223372036854775807):wI .i64 x=x:=if_pos ⟨a,b⟩
theorem bH {a b:Type} {x:Option a} {y:a} {f:a->Option b} (h:x=some y):x.bind f=f y:=by rw[h];rfl
theorem Sp {a:Type} (l r:List a) (x y:a) (i:Nat) (h:l.length=i):(l++x::r).set i y=l++y::r:=by
 rw[List.set_append_right _ _ (by omega)];simp[<-h]
theorem UN {a:Type} [Inhabited a] (l r:List a) (x:a) (i:Nat) (h:l.length=i):at' (l++x::r) (i:Int)=x:=by
 rw[fQ,List.getD_eq_getElem?_getD,List.getElem?_append_right (by omega)];simp[<-h]
theorem eY {X R:Type} {step:X->(X->Option R)->Option R} {K:Option R} (N:Nat) (F:Nat->X) (c:∀(k:Nat) g,k<N->step (F k) g=g (F (k+1))) (e:∀g,step (F N) g=K):∀b,N<b->bJ step b (F 0)=K:=by
 have i:∀(d a b:Nat),a+d=N->d<b->bJ step b (F a)=K:=by
  intro d
  induction d with
  |zero=>
   intro a b j h;obtain rfl:a=N:=by omega
   obtain⟨f,rfl⟩:∃f,b=f+1:=⟨b - 1,by omega⟩
   exact e _
  |succ d l=>
   intro a b j h;obtain⟨f,rfl⟩:∃f,b=f+1:=⟨b - 1,by omega⟩
   show step (F a) (bJ step f)=K;rw[c a _ (by omega)];exact l (a+1) f (by omega) (by omega)
 exact λb h=>i N 0 b (by omega) h
theorem vJ {X R:Type} {step:X->(X->Option R)->Option R} {K bad:Option R} (N:Nat) (p:Nat->Prop) (F:Nat->X) (r:∀(k:Nat) c,k<N->p k->step (F k) c=c (F (k+1))) (i:∀(k:Nat) c,k<N->¬p k->step (F k) c=bad) (j:∀c,step (F N) c=K):
  ∀b,N<b->((∀k,k<N->p k)->bJ step b (F 0)=K)∧(¬(∀k,k<N->p k)->bJ step b (F 0)=bad):=by
 have s:∀(d a b:Nat),a+d=N->d<b->((∀k,a<=k->k<N->p k)->bJ step b (F a)=K)∧(¬(∀k,a<=k->k<N->p k)->bJ step b (F a)=bad):=by
  intro d
  induction d with
  |zero=>
   intro a b t q;obtain rfl:a=N:=by omega
   obtain⟨f,rfl⟩:∃f,b=f+1:=⟨b - 1,by omega⟩
   exact⟨λ_=>j _,λh=>absurd (λk m g=>by omega) h⟩
  | succ d ih =>
   intro a b t q;obtain⟨f,rfl⟩:∃f,b=f+1:=⟨b - 1,by omega⟩
   obtain⟨u,v⟩:=ih (a+1) f (by omega) (by omega);have e:bJ step (f+1) (F a)=step (F a) (bJ step f):=rfl;rw[e];by_cases n:p a
   ·rw[r a _ (by omega) n];refine⟨λh=>u λk m g=>h k (by omega) g,λh=>v λo=>h λk m g=> ?_⟩
    by_cases l:k=a
    ·subst l;exact n
    ·exact o k (by omega) g
   ·exact⟨λh=>absurd (h a (Nat.le_refl _) (by omega)) n,λ_=>i a _ (by omega) n⟩
 intro b q;obtain⟨m,g⟩:=s N 0 b (by omega) q;exact⟨λh=>m λk _ l=>h k l,λh=>g λo=>h λk l=>o k (by omega) l⟩
theorem BU {X R:Type} {step:X->(X->Option R)->Option R} {K:X->Option R} (N:Nat) (I:Nat->X->Prop) (e:∀(k:Nat) x i,k<N->I k x->∃c,I (k+1) c∧step x i=i c) (h:∀x i,I N x->step x i=K x):∀b x,I 0 x->N<b->∃c,I N c∧bJ step b x=K c:=by
 have m:∀(d a b:Nat) (x:X),a+d=N->d<b->I a x->∃c,I N c∧bJ step b x=K c:=by
  intro d
  induction d with
  |zero=>
   intro a b x p l g;obtain rfl:a=N:=by omega
   obtain⟨f,rfl⟩:∃f,b=f+1:=⟨b - 1,by omega⟩
   exact⟨x,g,h _ _ g⟩
  |succ d r=>
   intro a b x p l g;obtain⟨f,rfl⟩:∃f,b=f+1:=⟨b - 1,by omega⟩
   obtain⟨c,j,q⟩:=e a x (bJ step f) (by omega) g;obtain⟨s,n,o⟩:=r (a+1) f c (by omega) (by omega) j;exact⟨s,n,by rw[<-o];exact q⟩
 exact λb x g l=>m N 0 b x (by omega) l g
def Z_ (q:Nat->Bool):Nat->Bool
 |0=>false
 |k+1=>Z_ q k||q k
theorem WF {q:Nat->Bool}:∀{k:Nat},Z_ q k=true↔∃i,i<k∧q i=true
 |0=>by simp[Z_]
 | k + 1 => by
  simp only[Z_,Bool.or_eq_true,WF (k:=k)];constructor
  ·rintro(⟨i,b,a⟩|h)
   ·exact⟨i,by omega,a⟩
   ·exact⟨k,by omega,h⟩
  ·rintro⟨i,b,a⟩;by_cases e:i=k
   ·subst e;exact .inr a
   ·exact .inl ⟨i,by omega,a⟩
def Bn (p:Nat->Bool):Nat->Nat
 |0=>0
 |k+1=>if p k then Bn p k ||| 2^k else Bn p k
theorem Pp (p:Nat->Bool):∀k,Bn p k<2^k
 |0=>by simp[Bn]
 |k+1=>by
  have h:=Pp p k;simp only[Bn];split
  ·exact Nat.or_lt_two_pow (by omega) (Nat.pow_lt_pow_right (by omega) (by omega))
  ·omega
theorem LV (p:Nat->Bool) (j:Nat):∀k,(Bn p k).testBit j=(decide (j<k)&&p j)
 |0=>by simp[Bn]
 | k + 1 => by
  have h:=LV p j k;simp only[Bn];by_cases e:j=k
  ·subst e;cases c:p j<;>simp[h,c]
  ·have a:decide (j<k+1)=decide (j<k):=decide_eq_decide.2 (by omega);have b:¬k=j:=λh=>e h.symm;split
   ·rw[Nat.testBit_or,h,Nat.testBit_two_pow,a];simp[b]
   ·rw[h,a]
end Go.Sx