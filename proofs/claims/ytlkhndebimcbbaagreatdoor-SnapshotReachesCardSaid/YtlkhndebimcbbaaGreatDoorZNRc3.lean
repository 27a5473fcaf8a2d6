/- Models and proofs. Conditions: none. -/
import Derived.Test.YtlkhndebimcbbaaGreatDoorZNRc2
set_option linter.unusedVariables false
set_option linter.unusedSimpArgs false
set_option maxHeartbeats 4000000
set_option maxRecDepth 20000
namespace Go.Proofs.YtlkhndebimcbbaaGreatDoor
open Go.Sx
def pV (f:Er) (c:cD) (a:Int) (b:Int) (d:Int) (e:Bool):Option (fV):=
 if e=true then(some (c.2))else(if f.2.2.2.2.2=true then(ck (0<=a∧a<(c.2.length:Int)) (ck ((List.length ([(b,d)]):Int)+((at' c.2 a).length:Int)<=1099511627) (ck (0<=a∧a<(c.2.length:Int)) (ck (0<=b∧b<((List.set c.2 (Int.toNat a) (([(b,d)])++(at' c.2 a))).length:Int)) (ck ((List.length ([(a,d)]):Int)+((at' (List.set c.2 (Int.toNat a) (([(b,d)])++(at' c.2 a))) b).length:Int)<=1099511627) (ck (0<=b∧b<((List.set c.2 (Int.toNat a) (([(b,d)])++(at' c.2 a))).length:Int)) (some (List.set (List.set c.2 (Int.toNat a) (([(b,d)])++(at' c.2 a))) (Int.toNat b) (([(a,d)])++(at' (List.set c.2 (Int.toNat a) (([(b,d)])++(at' c.2 a))) b))))))))))else(ck (0<=a∧a<(c.2.length:Int)) (ck (0<=b∧b<(c.2.length:Int)) (ck (((at' c.2 a).length:Int)+(List.length ([(b,d)]):Int)<=1099511627) (ck (((at' c.2 b).length:Int)+(List.length ([(a,d)]):Int)<=1099511627) (ck (Int.toNat a≠Int.toNat b) (ck (0<=a∧a<((List.set (List.set c.2 (Int.toNat a) ((at' c.2 a)++([(b,d)]))) (Int.toNat b) ((at' c.2 b)++([(a,d)]))).length:Int)) (ck (0<=b∧b<((List.set (List.set c.2 (Int.toNat a) ((at' c.2 a)++([(b,d)]))) (Int.toNat b) ((at' c.2 b)++([(a,d)]))).length:Int)) (some (List.set (List.set c.2 (Int.toNat a) ((at' c.2 a)++([(b,d)]))) (Int.toNat b) ((at' c.2 b)++([(a,d)]))))))))))))
def nP (U:Nat) (e:Er) (a:cD) (b:Int) (c:Int) (f:Int):Option (fV):=
 if b=c then(pV e a b c f (true))else(Option.bind (nV U ((a.1,a.2)) b c) λd=>(pV e a b c f (d)))
theorem Ym:aW Tryz.prog 42:=Tryz.call42
theorem BI (U:Nat) {s:Er} {G:cD} {f:Int} {g:Int} {d:Int} (J:Value)  (K:Value)  (L:Value)  (H:Value)  (C:Value)  (A:fO) (r:fV) (h:nP U s G f g d=some r):
  Gr Tryz.prog 42 #[Value.agg #[vI (s.1),J,K,L,vB (s.2.2.2.2.1),vB (s.2.2.2.2.2)],Value.agg #[H,C],vI (f),vI (g),vI (d)] [Ar dD.raw C A,lK cG A G.2] [Sl bN J s.2.1,Sl bN K s.2.2.1,Sl bN L s.2.2.2.1,Sl bN H G.1] (λx:fO=>Value.tuple #[]) (λx l=>Ar dD.raw C x::lK cG x r::l):=by
 refine Gr.of (vs:=[Value.agg #[vI (s.1),J,K,L,vB (s.2.2.2.2.1),vB (s.2.2.2.2.2)],Value.agg #[H,C],vI (f),vI (g),vI (d)]) Tryz.func42 Z Tryz.ntmps42 Z λc=>?_;refine aX<|aH (aO.box (cs:=[vI (s.1),J,K,L,vB (s.2.2.2.2.1),vB (s.2.2.2.2.2)]) Z Z) Z λb1=>aH (aO.box (cs:=[H,C]) Z Z) Z λb2=>aN<|aK<|aK<|Bq (B:=Unit) (λI=>pV s G f g d I=some r) (λI b5=>[(2,vI (f)),(3,vI (g)),(4,vI (d)),(5,vP b1),(6,vP b2),(20,vB (I))]) (λI b5=>[bV b2 [H,C] 28,bV b1 [vI (s.1),J,K,L,vB (s.2.2.2.2.1),vB (s.2.2.2.2.2)] 24,Ar dD.raw C A,lK cG A G.2]) (λI b5=>[Sl bN J s.2.1,Sl bN K s.2.2.1,Sl bN L s.2.2.2.1,Sl bN H G.1]) ?_ ?_
 ·refine aQ<|aA Z<|aA Z<|cS Z<|aA Z ?_;refine Eo h Z (λ_ h=>?_) λ_ h=>?_
  ·refine aI Z<|aI Z<|aI Z<|aI Z<|dO Z<|aN ?_;exact gJ (true) () h SF Z
  refine aP Z (fJ 0 Z Z Z Z) Z<|cP Z<|cP Z<|eZ h λav au h=>mH Z (zBa aeV (LZ U H C (List.zip A G.2) av au) Z (aG.cons (aE.fact 3 Z) (aG.cons (bW (i:=2) (j:=3) Z Z bS) .nil))) Z λa8=>fH Z<|aN ?_;exact gJ (av) () h SF Z
 intro I b5 h;refine Am h Z (λ_ h=>?_) λ_ h=>?_
 ·refine aV<|aJ ?_;cases h;exact Hb (A) Z Z .ret (.inl Z) (a_.ix [2,3] Z Z) aG.nil
 refine cL<|aX<|aA Z<|aA Z ?_;refine aB (Di (r:=Value.agg #[vI (g),vI (d)]) Z Z (by intro w;simp[Instr.build,Instr.fill,dR,cW,cO,dU,dV,cX,eY])) Z ?_;refine aA Z<|aA Z ?_;refine aB (Di (r:=Value.agg #[vI (f),vI (d)]) Z Z (by intro w;simp[Instr.build,Instr.fill,dR,cW,cO,dU,dV,cX,eY])) Z ?_;refine aH (aO.alloc (cs:=VO) Z Z) Z λb7=>aH (aO.alloc (cs:=VO) Z Z) Z λb8=>bQ 1 (vs:=[vI (g),vI (d)]) Z Z Z Z Z Z<|bQ 0 (vs:=[vI (f),vI (d)]) Z Z Z Z Z Z<|aN<|aK<|aX<|bX Z<|dQ 3 Z<|aN ?_;refine Am h Z (λ_ h=>?_) λ_ h=>?_
 ·refine aK ?_;refine JR.start [0,1,0,0,8,0,32,0,224,480,1016,2047,4095] 11 mixedOrders (by decide +kernel) ?_;refine zBd (by exact rfl) ?_;refine dB Z<|iZ 2 Z<|bG Z<|mA 1 Z<|zBc Z Z Z (cA (e:=cG) ([((g,d))]) [(0,Value.agg #[vI (g),vI (d)])] Z Z Z Z (Ao (vI (g)) (vI (d))) Z Z Z) Z (λaT=>(uB [([3],[])] Z)) λaT=>jD Z (c_ Z Z Z Z Z)<|bJ Z (a_.cons 3 Z .nil) .nil (eB 0 Z Z Z Z Z) (aM.h (a_.ix [2] Z Z) .nil aM.z)<|jD Z (fY Z)<|cT h λu h=>eJ (dM 6 Z) λM=>?_;refine bJ Z (a_.cons 5 Z .nil) .nil (iS 0 Z Z Z Z Z u.1 (by have m:=u.2;have n:=M;(try simp only[zA2]at m);(try simp only[zA2]at n);(try simp only[zA2]);omega)) (aM.h (a_.ix [4] Z Z) .nil aM.z) ?_;refine eJ (dM 6 Z) λN=>bJ Z (a_.cons 5 Z .nil) .nil (mI 0 Z Z N Z Z u) (aM.h (a_.ix [4] Z Z) .nil aM.z)<|cT h λaR h=>zBc Z Z Z (eW 0 bS Z Z Z (aE.row (j:=6) Z bS u.1 u.2) Z Z Z Z aR Z) Z (λaw=>(uB [([3],[])] Z)) λaw=>bO 11 Z Z<|cT h λv h=>aB (cC Z Z (bW (i:=5) (j:=6) Z Z bS) Z Z v) Z<|cH (Know.one ((bB (aE.res 0 Z) bS))) λak=>jL (zE (k:=f) 6 0 Z Z Z v) ?_;refine pI 4 5 ⟨v.1,by first|exact v.2|simpa using v.2⟩ Z Z Z Z Z (by simp) ak Z ?_;refine aN<|aK ?_;refine JR.start [0,1,0,0,8,0,32,0,224,480,1016,2047,4095] 11 mixedOrders (by decide +kernel) ?_;refine zBd (by exact rfl) ?_;refine dB Z<|iZ 2 Z<|bG Z<|mA 0 Z<|zBc Z Z Z (cA (e:=cG) ([((f,d))]) [(0,Value.agg #[vI (f),vI (d)])] Z Z Z Z (Ao (vI (f)) (vI (d))) Z Z Z) Z (λaU=>(uB [([3],[])] Z)) λaU=>jD Z (c_ Z Z Z Z Z)<|bJ Z (a_.cons 3 Z .nil) .nil (eB 0 Z Z Z Z Z) (aM.h (a_.ix [2] Z Z) .nil aM.z)<|jD Z (fY Z)<|cT h λt h=>eJ (dM 6 Z) λO=>?_;refine bJ Z (a_.cons 5 Z .nil) .nil (iS 0 Z Z Z Z Z t.1 (by have m:=t.2;have n:=O;(try simp only[zA2]at m);(try simp only[zA2]at n);(try simp only[zA2]);omega)) (aM.h (a_.ix [4] Z Z) .nil aM.z) ?_;refine eJ (dM 6 Z) λP=>bJ Z (a_.cons 5 Z .nil) .nil (mI 0 Z Z P Z Z t) (aM.h (a_.ix [4] Z Z) .nil aM.z)<|cT h λaS h=>zBc Z Z Z (eW 0 bS Z Z Z (aE.row (j:=6) Z bS t.1 (by first|exact t.2|simpa using t.2)) Z Z Z Z aS Z) Z (λax=>(uB [([3],[])] Z)) λax=>?_;refine bO 11 Z Z<|cT h λy h=>aB (cC Z Z (bW (i:=5) (j:=6) Z Z bS) Z Z y) Z<|cH (Know.one ((bB (aE.res 0 Z) bS))) λal=>jL (zE (k:=g) 6 0 Z Z Z y) ?_;refine pI 4 5 ⟨y.1,by first|exact y.2|simpa using y.2⟩ Z Z Z Z Z (by simp) al Z ?_;refine aN<|aV<|aJ ?_;cases h;exact Hb (List.set (List.set A (Int.toNat f) aw) (Int.toNat g) ax) Z Z .ret (.inl Z) (a_.ix [4,5] Z Z) aG.nil
 refine cL<|cT h λp h=>cT h λq h=>cT h λD h=>cT h λE h=>cT h λF h=>cT h λa h=>cT h λb h=>Wa [0,1,0,0,8,0,0,64,0,448,960,0,2048,8128,0,16384,0,114688,245760,0,524288,2097088,4194247,8388551,16777215,33554431] 24 [[0,1,2,3,4,5,6,7,8,9,10,11,14,15,16,17,18,19,12,13,20,21,22,23,24,25],[0,1,2,3,4,5,6,7,8,9,10,11,14,15,16,17,18,19,12,20,13,21,22,23,24,25],[0,1,2,3,4,5,6,7,8,9,10,11,14,15,16,17,18,19,20,12,13,21,22,23,24,25]] mixedOrders (by decide +kernel) (by decide +kernel) ?_;intro o ho;simp only[zAo,List.not_mem_nil,or_false]at ho;rcases ho with rfl|rfl|rfl
 ·refine dB Z<|iZ 2 Z<|bG Z<|dB Z<|iZ 2 Z<|bG Z<|dB Z<|iZ 2 Z<|bG Z<|eJ (dM 5 Z) λQ=>?_;refine bJ Z (a_.cons 4 Z .nil) .nil (iS 0 Z Z Z Z Z p.1 (by have m:=p.2;have n:=Q;(try simp only[zA2]at m);(try simp only[zA2]at n);(try simp only[zA2]);omega)) aM.z ?_;refine eJ (dM 5 Z) λR=>bJ Z (a_.cons 4 Z .nil) .nil (mI 0 Z Z R Z Z p) aM.z<|mA 1 Z<|dB Z<|iZ 2 Z<|bG Z<|eJ (dM 5 Z) λS=>?_;refine bJ Z (a_.cons 4 Z .nil) .nil (iS 0 Z Z Z Z Z q.1 (by have m:=q.2;have n:=S;(try simp only[zA2]at m);(try simp only[zA2]at n);(try simp only[zA2]);omega)) aM.z ?_;refine eJ (dM 5 Z) λT=>bJ Z (a_.cons 4 Z .nil) .nil (mI 0 Z Z T Z Z q) aM.z<|mA 0 Z<|zBc Z Z Z (cA (e:=cG) ([((g,d))]) [(0,Value.agg #[vI (g),vI (d)])] Z Z Z Z (Ao (vI (g)) (vI (d))) Z Z Z) Z (λaW=>(uB [([1],[]),([5],[]),([5],[]),([3],[]),([5],[]),([5],[]),([3],[]),([3],[]),([3],[])] Z)) λaW=>zBc Z Z Z (oL 6 bS Z Z Z (bB (aE.res 0 Z) bS) Z Z Z Z p D Z) Z (λay=>(uB [([1],[]),([5],[]),([5],[]),([3],[]),([3],[]),([3],[])] Z)) λay=>zBc Z Z Z (cA (e:=cG) ([((f,d))]) [(0,Value.agg #[vI (f),vI (d)])] Z Z Z Z (Ao (vI (f)) (vI (d))) Z Z Z) Z (λaY=>(uB [([6],[]),([6],[]),([4],[]),([3],[]),([6],[]),([6],[]),([4],[]),([4],[]),([4],[])] Z)) λaY=>zBc Z Z Z (Ay (j:=f) 7 bS Z Z Z (bB (aE.res 0 Z) bS) Z Z Z Z q E Z F) Z (λaz=>(uB [([4],[]),([4],[])] Z)) λaz=>eJ (dM 7 Z) λV=>?_;refine bJ Z (a_.cons 6 Z .nil) .nil (iS 0 Z Z Z Z Z a.1 (by have m:=a.2;have n:=V;(try simp only[zA2]at m);(try simp only[zA2]at n);(try simp only[zA2]);omega)) (hkI Z) ?_;refine eJ (Dd (k:=f) (j:=g) 7 Z (by omega) ⟨a.1,by first|exact a.2|simpa using a.2⟩) λam=>?_;refine Es Z Z Z (Cj 6 7 ⟨a.1,by first|exact a.2|simpa using a.2⟩ Z Z Z Z (by simp) am Z) (λa5=>(uB [([4],[])] Z)) λa5=>?_;refine bO 24 Z Z<|cH (dM 7 Z) λW=>?_;refine aB (iS 6 Z Z Z Z Z b.1 (by have m:=b.2;have n:=W;(try simp only[zA2]at m);(try simp only[zA2]at n);(try simp only[zA2]);omega)) Z ?_;refine cH (Aj 7 (k:=g) Z ⟨b.1,by first|exact b.2|simpa using b.2⟩) λan=>?_;refine pI 6 7 ⟨b.1,by first|exact b.2|simpa using b.2⟩ Z Z Z Z Z (by simp) an Z ?_;refine eM ?_;cases h;exact Hb (List.set (List.set A (Int.toNat f) ay) (Int.toNat g) az) Z Z .normal (.inr Z) (a_.ix [6,7] Z Z) aG.nil
 ·refine dB Z<|iZ 2 Z<|bG Z<|dB Z<|iZ 2 Z<|bG Z<|dB Z<|iZ 2 Z<|bG Z<|eJ (dM 5 Z) λX=>?_;refine bJ Z (a_.cons 4 Z .nil) .nil (iS 0 Z Z Z Z Z p.1 (by have m:=p.2;have n:=X;(try simp only[zA2]at m);(try simp only[zA2]at n);(try simp only[zA2]);omega)) aM.z ?_;refine eJ (dM 5 Z) λY=>bJ Z (a_.cons 4 Z .nil) .nil (mI 0 Z Z Y Z Z p) aM.z<|mA 1 Z<|dB Z<|iZ 2 Z<|bG Z<|eJ (dM 5 Z) λaa=>?_;refine bJ Z (a_.cons 4 Z .nil) .nil (iS 0 Z Z Z Z Z q.1 (by have m:=q.2;have n:=aa;(try simp only[zA2]at m);(try simp only[zA2]at n);(try simp only[zA2]);omega)) aM.z ?_;refine eJ (dM 5 Z) λab=>bJ Z (a_.cons 4 Z .nil) .nil (mI 0 Z Z ab Z Z q) aM.z<|mA 0 Z<|zBc Z Z Z (cA (e:=cG) ([((g,d))]) [(0,Value.agg #[vI (g),vI (d)])] Z Z Z Z (Ao (vI (g)) (vI (d))) Z Z Z) Z (λa0=>(uB [([1],[]),([5],[]),([5],[]),([3],[]),([5],[]),([5],[]),([3],[]),([3],[]),([3],[])] Z)) λa0=>zBc Z Z Z (cA (e:=cG) ([((f,d))]) [(0,Value.agg #[vI (f),vI (d)])] Z Z Z Z (Ao (vI (f)) (vI (d))) Z Z Z) Z (λa1=>(uB [([6],[]),([6],[]),([4],[]),([3],[]),([6],[]),([6],[]),([4],[]),([4],[]),([4],[])] Z)) λa1=>zBc Z Z Z (oL 7 bS Z Z Z (bB (aE.res 1 Z) bS) Z Z Z Z p D Z) Z (λaC=>(uB [([2],[]),([6],[]),([6],[]),([4],[]),([4],[]),([4],[])] Z)) λaC=>zBc Z Z Z (Ay (j:=f) 7 bS Z Z Z (bB (aE.res 0 Z) bS) Z Z Z Z q E Z F) Z (λaD=>(uB [([4],[]),([4],[])] Z)) λaD=>eJ (dM 7 Z) λac=>?_;refine bJ Z (a_.cons 6 Z .nil) .nil (iS 0 Z Z Z Z Z a.1 (by have m:=a.2;have n:=ac;(try simp only[zA2]at m);(try simp only[zA2]at n);(try simp only[zA2]);omega)) (hkI Z) ?_;refine eJ (Dd (k:=f) (j:=g) 7 Z (by omega) ⟨a.1,by first|exact a.2|simpa using a.2⟩) λao=>?_;refine Es Z Z Z (Cj 6 7 ⟨a.1,by first|exact a.2|simpa using a.2⟩ Z Z Z Z (by simp) ao Z) (λa6=>(uB [([4],[])] Z)) λa6=>?_;refine bO 24 Z Z<|cH (dM 7 Z) λad=>?_;refine aB (iS 6 Z Z Z Z Z b.1 (by have m:=b.2;have n:=ad;(try simp only[zA2]at m);(try simp only[zA2]at n);(try simp only[zA2]);omega)) Z ?_;refine cH (Aj 7 (k:=g) Z ⟨b.1,by first|exact b.2|simpa using b.2⟩) λap=>?_;refine pI 6 7 ⟨b.1,by first|exact b.2|simpa using b.2⟩ Z Z Z Z Z (by simp) ap Z ?_;refine eM ?_;cases h;exact Hb (List.set (List.set A (Int.toNat f) aC) (Int.toNat g) aD) Z Z .normal (.inr Z) (a_.ix [6,7] Z Z) aG.nil
 refine dB Z<|iZ 2 Z<|bG Z<|dB Z<|iZ 2 Z<|bG Z<|dB Z<|iZ 2 Z<|bG Z<|eJ (dM 5 Z) λae=>?_;refine bJ Z (a_.cons 4 Z .nil) .nil (iS 0 Z Z Z Z Z p.1 (by have m:=p.2;have n:=ae;(try simp only[zA2]at m);(try simp only[zA2]at n);(try simp only[zA2]);omega)) aM.z ?_;refine eJ (dM 5 Z) λaf=>bJ Z (a_.cons 4 Z .nil) .nil (mI 0 Z Z af Z Z p) aM.z<|mA 1 Z<|dB Z<|iZ 2 Z<|bG Z<|eJ (dM 5 Z) λag=>?_;refine bJ Z (a_.cons 4 Z .nil) .nil (iS 0 Z Z Z Z Z q.1 (by have m:=q.2;have n:=ag;(try simp only[zA2]at m);(try simp only[zA2]at n);(try simp only[zA2]);omega)) aM.z ?_;refine eJ (dM 5 Z) λah=>bJ Z (a_.cons 4 Z .nil) .nil (mI 0 Z Z ah Z Z q) aM.z<|mA 0 Z<|zBc Z Z Z (cA (e:=cG) ([((f,d))]) [(0,Value.agg #[vI (f),vI (d)])] Z Z Z Z (Ao (vI (f)) (vI (d))) Z Z Z) Z (λa2=>(uB [([5],[]),([5],[]),([3],[]),([2],[]),([5],[]),([5],[]),([3],[]),([3],[]),([3],[])] Z)) λa2=>zBc Z Z Z (cA (e:=cG) ([((g,d))]) [(0,Value.agg #[vI (g),vI (d)])] Z Z Z Z (Ao (vI (g)) (vI (d))) Z Z Z) Z (λa3=>(uB [([2],[]),([6],[]),([6],[]),([4],[]),([6],[]),([6],[]),([4],[]),([4],[]),([4],[])] Z)) λa3=>zBc Z Z Z (oL 7 bS Z Z Z (bB (aE.res 0 Z) bS) Z Z Z Z p D Z) Z (λaF=>(uB [([2],[]),([6],[]),([6],[]),([4],[]),([4],[]),([4],[])] Z)) λaF=>zBc Z Z Z (Ay (j:=f) 7 bS Z Z Z (bB (aE.res 1 Z) bS) Z Z Z Z q E Z F) Z (λaL=>(uB [([4],[]),([4],[])] Z)) λaL=>eJ (dM 7 Z) λai=>?_;refine bJ Z (a_.cons 6 Z .nil) .nil (iS 0 Z Z Z Z Z a.1 (by have m:=a.2;have n:=ai;(try simp only[zA2]at m);(try simp only[zA2]at n);(try simp only[zA2]);omega)) (hkI Z) ?_;refine eJ (Dd (k:=f) (j:=g) 7 Z (by omega) ⟨a.1,by first|exact a.2|simpa using a.2⟩) λaq=>?_;refine Es Z Z Z (Cj 6 7 ⟨a.1,by first|exact a.2|simpa using a.2⟩ Z Z Z Z (by simp) aq Z) (λa7=>(uB [([4],[])] Z)) λa7=>?_;refine bO 24 Z Z<|cH (dM 7 Z) λaj=>?_;refine aB (iS 6 Z Z Z Z Z b.1 (by have m:=b.2;have n:=aj;(try simp only[zA2]at m);(try simp only[zA2]at n);(try simp only[zA2]);omega)) Z ?_;refine cH (Aj 7 (k:=g) Z ⟨b.1,by first|exact b.2|simpa using b.2⟩) λar=>?_;refine pI 6 7 ⟨b.1,by first|exact b.2|simpa using b.2⟩ Z Z Z Z Z (by simp) ar Z ?_;refine eM ?_;cases h;exact Hb (List.set (List.set A (Int.toNat f) aF) (Int.toNat g) aL) Z Z .normal (.inr Z) (a_.ix [6,7] Z Z) aG.nil
def uT (b:cD) (a:fV):Option uR:=
 some ((b.1,a))
def mP (U:Nat) (b:Er) (d:cD) (a:Int×fV) (c:(Int×fV)->Option uR) (e:Bool):Option uR:=
 if e=true then(ck (0<=a.1∧a.1<(b.2.1.length:Int)) (Option.bind (iK U (at' b.2.1 a.1) (d.2.length:Int)) λf=>(ck (0<=(wI .i64 (a.1+(1:Int)))∧(wI .i64 (a.1+(1:Int)))<(b.2.1.length:Int)) (Option.bind (iK U (at' b.2.1 (wI .i64 (a.1+(1:Int)))) (d.2.length:Int)) λg=>(Option.bind (tR U b.2.2.1 a.1) λh=>(Option.bind (iK U h (15:Int)) λi=>(Option.bind (nP U ((b.1,b.2.1,b.2.2.1,b.2.2.2.1,b.2.2.2.2.1,b.2.2.2.2.2)) ((d.1,a.2)) f g (wI .i64 ((1:Int)+i))) λj=>(c ((wI .i64 (a.1+(2:Int))),j)))))))))else(uT d (a.2))
def pW (U:Nat) (c:Er) (d:cD) (a:Int×fV) (b:(Int×fV)->Option uR):Option uR:=
 if(wI .i64 (a.1+(1:Int)))<(c.2.1.length:Int)then(mP U c d a b (decide (a.1<(60:Int))))else(mP U c d a b (false))
def nQ (U:Nat) (b:Er) (a:cD):Option uR:=
 bI (pW U b a) U ((a.2.length:Int),a.2)
theorem aeC:aW Tryz.prog 21:=Tryz.call21
theorem GM (U:Nat) {a:Er} {e:cD} (n:Value)  (m:Value)  (o:Value)  (f:Value)  (g:Value)  (O:fO) (r:(aR×fV)) (h:nQ U a e=some r):
  Gr Tryz.prog 21 #[Value.agg #[vI (a.1),n,m,o,vB (a.2.2.2.2.1),vB (a.2.2.2.2.2)],Value.agg #[f,g]] [Ar bZ f e.1,Ar dD.raw g O,lK cG O e.2] [Sl bN n a.2.1,Sl bN m a.2.2.1,Sl bN o a.2.2.2.1] (λx:Value×Value×List Value=>Value.agg #[x.1,x.2.1]) (λx l=>Ar bZ x.1 r.1::Ar dD.raw x.2.1 x.2.2::lK cG x.2.2 r.2::l):=by
 refine Gr.of (vs:=[Value.agg #[vI (a.1),n,m,o,vB (a.2.2.2.2.1),vB (a.2.2.2.2.2)],Value.agg #[f,g]]) Tryz.func21 Z Tryz.ntmps21 Z λc=>?_;unfold nQ at h;refine aX<|aH (aO.box (cs:=[vI (a.1),n,m,o,vB (a.2.2.2.2.1),vB (a.2.2.2.2.2)]) Z Z) Z λv=>aH (aO.box (cs:=[f,g]) Z Z) Z λq=>aH (aO.alloc (cs:=[lB,lB]) Z Z) Z λs=>aN<|aX<|bX Z<|dQ 1 Z<|aB (gU Z (bW (i:=4) (j:=5) Z Z bS) Z) Z<|aD Z<|aN<|aK<|Bq (B:=fO) (λt=>uT e t=some r) (λt u=>[(3,vP q),(4,vP s)]) (λt u=>[bV s [lB,lB] 28,bV q [f,g] 28,Ar bZ f e.1,Ar dD.raw g u,lK cG u t]) (λt u=>[Sl bN n a.2.1,Sl bN m a.2.2.1,Sl bN o a.2.2.2.1]) ?_ ?_
 ·refine aX<|aA Z<|aD Z<|aN<|aT<|Fq (B:=fO) (pW U a e) (λb d=>[(2,vP v),(3,vP q),(4,vP s),(5,vI (e.2.length:Int)),(6,vI (b.1))]) (λb d=>[bV s [lB,lB] 28,bV q [f,g] 28,bV v [vI (a.1),n,m,o,vB (a.2.2.2.2.1),vB (a.2.2.2.2.2)] 24,Ar bZ f e.1,Ar dD.raw g d,lK cG d b.2]) (λb d=>[Sl bN n a.2.1,Sl bN m a.2.2.1,Sl bN o a.2.2.2.1]) ((e.2.length:Int),e.2) (O) h SF (a_.refl _) (aG.refl _ _) ?_;intro J b d h;refine aK<|aK<|Bq (B:=Unit) (λk=>mP U a e b (bI (pW U a e) J) k=some r) (λk p=>[(2,vP v),(3,vP q),(4,vP s),(5,vI (e.2.length:Int)),(6,vI (b.1)),(20,vB (k))]) (λk p=>[bV s [lB,lB] 28,bV q [f,g] 28,bV v [vI (a.1),n,m,o,vB (a.2.2.2.2.1),vB (a.2.2.2.2.2)] 24,Ar bZ f e.1,Ar dD.raw g d,lK cG d b.2]) (λk p=>[Sl bN n a.2.1,Sl bN m a.2.2.1,Sl bN o a.2.2.2.1]) ?_ ?_
  ·refine aQ<|aA Z<|cJ Z<|bX Z<|dQ 2 Z<|jN (aE.fact 0 Z) Z<|cM Z<|aA Z ?_;refine Eo h Z (λ_ h=>?_) λ_ h=>?_
   ·refine cP Z<|aP Z (Hl Z Z) Z<|dO Z<|aN ?_;exact gJ (decide (b.1<(60:Int))) () h SF Z
   refine aI Z<|aI Z<|fH Z<|aN ?_;exact gJ (false) () h SF Z
  intro k p h;refine Am h Z (λ_ h=>?_) λ_ h=>?_
  ·refine cL<|aK<|aT ?_;refine JR.start [0,0,0,4,0,28,60,0,252,0,512,0,2048,7680,15872,0,65532,0,131072,0,1048572,2097148,4194300,8388607] 23 mixedOrders (by decide +kernel) ?_;refine zBd (by exact rfl) ?_;refine mA 2 Z<|mA 1 Z<|dB Z<|iZ 2 Z<|bG Z<|cT h λE h=>bJ Z .nil (jS 0 Z) (aZ Z Z (aE.fact 0 Z) Z Z E) aM.z<|bJ Z .nil (jS 0 Z) (bR Z (aE.fact 0 Z) Z Z Z cR E) aM.z<|bG Z<|eZ h λK w h=>zBc Z Z Z (zBa ED (mE U  K w) Z .nil) Z (λP=>(uB [([1],[]),([2],[])] Z)) λP=>jD Z (c_ Z Z Z Z Z)<|bJ Z (a_.cons 2 Z .nil) .nil (eB 0 Z Z Z Z Z) (aM.h (a_.ix [2] Z Z) .nil aM.z)<|jD Z (fY Z)<|jD Z (Az Z Z)<|cT h λF h=>bJ Z .nil (jS 0 Z) (aZ Z Z (aE.fact 0 Z) Z Z F) (aM.h .nil (jS 0 Z) aM.z)<|bJ Z .nil (jS 0 Z) (bR Z (aE.fact 0 Z) Z Z Z cR F) (aM.h .nil (jS 0 Z) aM.z)<|jD Z (fY Z)<|eZ h λL y h=>zBc Z Z Z (zBa ED (mE U  L y) Z .nil) Z (λQ=>(uB [([1],[]),([2],[])] Z)) λQ=>jD Z (c_ Z Z Z Z Z)<|bJ Z (a_.cons 2 Z .nil) .nil (eB 0 Z Z Z Z Z) (aM.h (a_.ix [2] Z Z) .nil (aM.h (a_.ix [2] Z Z) .nil aM.z))<|jD Z (fY Z)<|eZ h λM A h=>zBc Z Z Z (zBa KB (BP U m M A) Z (mT [1] Z)) Z (λR=>(uB [([1],[]),([2],[])] Z)) λR=>eZ h λN C h=>zBc Z Z Z (zBa ED (mE U  N C) Z .nil) Z (λS=>(uB [([1],[]),([2],[])] Z)) λS=>jD Z (Az Z Z)<|bO 23 Z Z<|eZ h λG D h=>aH (Gq (Min:=[Ar dD.raw g d,lK cG d b.2]) (Mr:=[bV s [lB,lB] 28,bV q [f,g] 28,bV v [vI (a.1),n,m,o,vB (a.2.2.2.2.1),vB (a.2.2.2.2.2)] 24,Ar bZ f e.1]) Ym (BI U n m o f g d G D) Z (a_.ix [4,5,0,1,2,3] Z Z) (aG.cons (aE.fact 0 Z) (aG.cons (aE.fact 1 Z) (aG.cons (aE.fact 2 Z) (aG.cons (bB (aE.res 3 Z) dK) .nil)))) (λ_ _=>rfl)) Z λT=>eM<|mN<|aQ<|aA Z<|cJ Z<|aD Z<|aN ?_;exact lS ((wI .i64 (b.1+(2:Int))),G) (T) h SF (a_.ix [2,3,4,5,0,1] Z Z) (aG.refl _ _)
  refine e_ ?_;exact cF (b.2) (d) h SF (a_.ix [0,1,3,4,5] Z Z) (aG.refl _ _)
 intro t u h;unfold uT at h;refine aX<|dN 1 Z<|cH (Know.one ((bB (aE.res 2 Z) dK))) λH=>cH (Know.one (aE.sl (bW (i:=3) (j:=4) Z Z bS))) λI=>bQ 0 (vs:=[f,g]) Z Z (lN H (lN I Z)) Z Z Z<|aN<|aV ?_;cases h;exact fP (f,g,u) Z Z (RV.cell 0 Z Z Z Z) (a_.ix [2,3,4] Z Z) aG.nil
def o_ (b:Int) (a:aR):Option uR:=
 some ((a,(List.replicate (Int.toNat (wI .i64 ((1:Int)+b))) ([]:fZ))))
def tD (a:lL) (c:rZ->Option uR) (b:Int):Option uR:=
 ck ((a.2.length:Int)+(List.length ([b]):Int)<=1099511627) (c ((wI .i64 (a.1+(1:Int))),(a.2++[b])))
def lV (b:jO->Option uR) (a:gE):Option uR:=
 b (a.1,(wI .i64 (a.2+(1:Int))))
def lW (b:lL) (d:rZ->Option uR) (a:gE) (c:jO->Option uR):Option uR:=
 if a.2<b.1 then(ck (0<=a.2∧a.2<(b.2.length:Int)) (if(at' b.2 a.2)=a.1 then(ck ((256:Int)≠0) (lV c ((Int.tmod (wI .i64 (a.1+(1:Int))) (256:Int)),(-1:Int))))else(lV c (a.1,a.2))))else(tD b d (a.1))
def jV (U:Nat) (f:Er) (e:Int) (a:lL) (b:rZ->Option uR):Option uR:=
 if a.1<(wI .i64 ((1:Int)+e))then(Option.bind (tR U f.2.2.2.1 a.1) λc=>(Option.bind (iK U c (256:Int)) λd=>(bI (lW a b) U (d,(0:Int)))))else(o_ e (a.2))
def pZ (U:Nat) (b:Er) (c:Int):Option uR:=
 Option.bind (iK U (wI .i64 (b.1 - (1:Int))) c) λa=>(ck (0<=(wI .i64 ((1:Int)+a))∧(wI .i64 ((1:Int)+a))<=1099511627) (bI (jV U b a) U ((0:Int),([]:aR))))
theorem aeL:aW Tryz.prog 43:=Tryz.call43
theorem FW (U:Nat) {d:Er} {S:Int} (y:Value)  (z:Value)  (u:Value) (r:(aR×fV)) (h:pZ U d S=some r):
  aY Tryz.prog 43 #[Value.agg #[vI (d.1),y,z,u,vB (d.2.2.2.2.1),vB (d.2.2.2.2.2)],vI (S)] [Sl bN y d.2.1,Sl bN z d.2.2.1,Sl bN u d.2.2.2.1] (λx:Value×Value×List Value=>Value.agg #[x.1,x.2.1]) (λx l=>Ar bZ x.1 r.1::Ar dD.raw x.2.1 x.2.2::lK cG x.2.2 r.2::l) (λ_ l=>l):=by
 refine aY.of Tryz.func43 Z Tryz.ntmps43 Z λc=>?_;refine aX<|aH (aO.box (cs:=[vI (d.1),y,z,u,vB (d.2.2.2.2.1),vB (d.2.2.2.2.2)]) Z Z) Z λt=>aH (aO.alloc (cs:=[lB,lB]) Z Z) Z λq=>aN<|aX<|bX Z<|dQ 1 Z<|aB (oI Z Z) Z<|aA Z<|eZ h λb W h=>aH (zBa ED (mE U  b W) Z .nil) Z λx5=>cJ Z<|aD Z<|aN<|aX<|aA Z<|cT h λT h=>jL (w_ cG (Int.toNat (wI .i64 ((1:Int)+b))))<|aH (mL (e:=dD.raw) (lB) Z Z Z Z T Z Z Z) Z λn=>cH (Know.one (aE.sl (bW (i:=0) (j:=1) Z Z bS))) λK=>?_;refine aB (XV (r:=Value.agg #[lB,n]) Z (by intro w;simp[Instr.build,Instr.fill,dR,cW,cO,dU,dV,cX,eY,eO K])) Z ?_;refine aH (aO.alloc (cs:=[lB,lB]) Z Z) Z λs=>cH (Know.one (aE.sl (bW (i:=1) (j:=2) Z Z bS))) λE=>bQ 0 (vs:=[lB,n]) Z Z (lN Z (lN E Z)) Z Z Z<|aN<|aK<|CR (B:=Value) (λp=>o_ b p=some r) (λp o=>[(4,vP q),(6,vP s)]) (λp o=>[bV s [o,n] 28,Ar dD.raw n (List.replicate (Int.toNat (wI .i64 ((1:Int)+b))) (lB)),lK cG (List.replicate (Int.toNat (wI .i64 ((1:Int)+b))) (lB)) (List.replicate (Int.toNat (wI .i64 ((1:Int)+b))) ([]:fZ)),bV q [lB,lB] 28,Ar bZ o p]) ?_ ?_
 ·refine aX<|aD Z<|aN<|aT<|jL (gN bZ)<|dX (B:=Value) (jV U d b) (λa f=>[(2,vP t),(4,vP q),(5,vI (wI .i64 ((1:Int)+b))),(6,vP s),(7,vI (a.1))]) (λa f=>[bV s [f,n] 28,Ar dD.raw n (List.replicate (Int.toNat (wI .i64 ((1:Int)+b))) (lB)),lK cG (List.replicate (Int.toNat (wI .i64 ((1:Int)+b))) (lB)) (List.replicate (Int.toNat (wI .i64 ((1:Int)+b))) ([]:fZ)),bV q [lB,lB] 28,bV t [vI (d.1),y,z,u,vB (d.2.2.2.2.1),vB (d.2.2.2.2.2)] 24,Ar bZ f a.2]) ((0:Int),([]:aR)) (lB) h SF (a_.ix [1,2,3,4,5,0] Z Z) ?_;intro v a f h;refine aK<|aX<|aA Z<|aA Z<|cM Z<|aN ?_;refine fD h Z (λh=>?_) λh=>?_
  ·refine cL<|aK<|aT<|aX<|bX Z<|dQ 4 Z<|aA Z<|eZ h λO Q h=>aH (zBa KB (BP U u O Q) Z (mT [2] Z)) Z λX=>eZ h λJ R h=>aH (zBa ED (mE U  J R) Z .nil) Z λY=>aD Z<|aN<|aK<|dW (λg=>tD a (bI (jV U d b) v) g=some r) (λg A=>[(2,vP t),(4,vP q),(5,vI (wI .i64 ((1:Int)+b))),(6,vP s),(7,vI (a.1)),(8,vI (g))]) (λg A=>[bV s [f,n] 28,Ar dD.raw n (List.replicate (Int.toNat (wI .i64 ((1:Int)+b))) (lB)),lK cG (List.replicate (Int.toNat (wI .i64 ((1:Int)+b))) (lB)) (List.replicate (Int.toNat (wI .i64 ((1:Int)+b))) ([]:fZ)),bV q [lB,lB] 28,bV t [vI (d.1),y,z,u,vB (d.2.2.2.2.1),vB (d.2.2.2.2.2)] 24,Ar bZ f a.2]) ?_ ?_
   ·refine aX<|aD Z<|aN<|aT<|dX (lW a (bI (jV U d b) v)) (λk C=>[(2,vP t),(4,vP q),(5,vI (wI .i64 ((1:Int)+b))),(6,vP s),(7,vI (a.1)),(8,vI (k.1)),(9,vI (k.2))]) (λk C=>[bV s [f,n] 28,Ar dD.raw n (List.replicate (Int.toNat (wI .i64 ((1:Int)+b))) (lB)),lK cG (List.replicate (Int.toNat (wI .i64 ((1:Int)+b))) (lB)) (List.replicate (Int.toNat (wI .i64 ((1:Int)+b))) ([]:fZ)),bV q [lB,lB] 28,bV t [vI (d.1),y,z,u,vB (d.2.2.2.2.1),vB (d.2.2.2.2.2)] 24,Ar bZ f a.2]) (J,(0:Int)) () h SF (a_.refl _) ?_;intro N k C h;refine aK<|aX<|aA Z<|aA Z<|cM Z<|aN ?_;refine fD h Z (λh=>?_) λh=>?_
    ·refine cL<|aK<|dW (λm=>lV (bI (lW a (bI (jV U d b) v)) N) m=some r) (λm D=>[(2,vP t),(4,vP q),(5,vI (wI .i64 ((1:Int)+b))),(6,vP s),(7,vI (a.1)),(8,vI (m.1)),(9,vI (m.2))]) (λm D=>[bV s [f,n] 28,Ar dD.raw n (List.replicate (Int.toNat (wI .i64 ((1:Int)+b))) (lB)),lK cG (List.replicate (Int.toNat (wI .i64 ((1:Int)+b))) (lB)) (List.replicate (Int.toNat (wI .i64 ((1:Int)+b))) ([]:fZ)),bV q [lB,lB] 28,bV t [vI (d.1),y,z,u,vB (d.2.2.2.2.1),vB (d.2.2.2.2.2)] 24,Ar bZ f a.2]) ?_ ?_
     ·refine aT<|aX<|bX Z<|dQ 0 Z<|aA Z<|cT h λI h=>aB (aZ Z Z (bB (aE.res 5 Z) dK) Z Z I) Z<|aB (bR Z (bB (aE.res 5 Z) dK) Z Z Z cR I) Z<|aA Z<|cS Z<|aN ?_;refine fD h Z (λh=>?_) λh=>?_
      ·refine aQ<|aA Z<|cJ Z<|cT h λM h=>aB (Qb Z Z M) Z<|aD Z<|aD Z<|eM<|mN ?_;exact gJ ((Int.tmod (wI .i64 (k.1+(1:Int))) (256:Int)),(-1:Int)) () h SF Z
      refine dY<|mN ?_;exact gJ (k.1,k.2) () h SF Z
     intro m D h;unfold lV at h;refine aQ<|aA Z<|cJ Z<|aD Z<|aN ?_;exact xR (m.1,(wI .i64 (m.2+(1:Int)))) () h SF Z
    refine e_ ?_;exact gJ (k.1) () h SF Z
   intro g A h;refine aQ<|bX Z<|dQ 0 Z<|aA Z<|aH (cA (e:=bZ) ([g]) [(0,vI (g))] Z Z Z Z (l_ (vI (g)) Z) Z Z Z) Z λV=>cT h λL h=>aH (eW 6 dK Z Z Z (bB (aE.res 0 Z) dK) Z Z Z Z L Z) Z λP=>bX Z<|cH (Know.one ((bB (aE.res 6 Z) dK))) λH=>iC 1 Z Z H Z Z Z<|eM<|mN<|aQ<|aA Z<|cJ Z<|aD Z<|aN ?_;exact lS ((wI .i64 (a.1+(1:Int))),(a.2++[g])) (P) h SF (a_.ix [1,2,3,4,5,6] Z Z) (aG.refl _ _)
  refine e_ ?_;exact cF (a.2) (f) h SF (a_.ix [0,1,2,3,5] Z Z) (aG.refl _ _)
 intro p o h;unfold o_ at h;refine aX<|dN 0 Z<|cH (Know.one ((bB (aE.res 4 Z) dK))) λF=>cH (Know.one (aE.sl (bW (i:=1) (j:=2) Z Z bS))) λG=>bQ 3 (vs:=[o,n]) Z Z (lN F (lN G Z)) Z Z Z<|aN<|aV ?_;cases h;exact fP (o,n,(List.replicate (Int.toNat (wI .i64 ((1:Int)+b))) (lB))) Z Z (RV.cell 3 Z Z Z Z) (a_.ix [4,1,2] Z Z) aG.nil
def pU (b:(aR×fV)) (a:fV):Option uR:=
 some ((b.1,a))
def uS (U:Nat) (b:Er) (i:(aR×fV)) (a:Int×fV) (c:(Int×fV)->Option uR):Option uR:=
 if a.1<(a.2.length:Int)then(Option.bind (tR U b.2.1 (wI .i64 (a.1 - (1:Int)))) λd=>(Option.bind (iK U d a.1) λe=>(Option.bind (tR U b.2.2.1 (wI .i64 (a.1 - (1:Int)))) λf=>(Option.bind (iK U f (15:Int)) λg=>(Option.bind (nP U ((b.1,b.2.1,b.2.2.1,b.2.2.2.1,b.2.2.2.2.1,b.2.2.2.2.2)) ((i.1,a.2)) e a.1 (wI .i64 ((1:Int)+g))) λh=>(c ((wI .i64 (a.1+(1:Int))),h)))))))else(pU i (a.2))
def nO (U:Nat) (a:Er) (c:Int):Option uR:=
 Option.bind (pZ U ((a.1,a.2.1,a.2.2.1,a.2.2.2.1,a.2.2.2.2.1,a.2.2.2.2.2)) c) λb=>(bI (uS U a b) U ((1:Int),b.2))
theorem Yi:aW Tryz.prog 22:=Tryz.call22
theorem BH (U:Nat) {p0:Er} {p1:Int} (g:Value)  (k:Value)  (n:Value) (r:(aR×fV)) (h:nO U p0 p1=some r):
  aY Tryz.prog 22 #[Value.agg #[vI (p0.1),g,k,n,vB (p0.2.2.2.2.1),vB (p0.2.2.2.2.2)],vI (p1)] [Sl bN g p0.2.1,Sl bN k p0.2.2.1,Sl bN n p0.2.2.2.1] (λx:Value×Value×List Value=>Value.agg #[x.1,x.2.1]) (λx l=>Ar bZ x.1 r.1::Ar dD.raw x.2.1 x.2.2::lK cG x.2.2 r.2::l) (λ_ l=>l):=by
 refine aY.of Tryz.func22 Z Tryz.ntmps22 Z λc=>?_;refine aX<|aH (aO.box (cs:=[vI (p0.1),g,k,n,vB (p0.2.2.2.2.1),vB (p0.2.2.2.2.2)]) Z Z) Z λu=>aH (aO.alloc (cs:=[lB,lB]) Z Z) Z λo=>aN<|aX<|dN 1 Z<|aA Z<|eZ h λm P h=>aH (zBa aeL (FW U g k n m P) Z (mT [0,1,2] Z)) Z λa=>aH (aO.alloc (cs:=[lB,lB]) Z Z) Z λp=>cH (Know.one ((bB (aE.res 1 Z) dK))) λv=>cH (Know.one (aE.sl (bW (i:=2) (j:=3) Z Z bS))) λw=>bQ 0 (vs:=[a.1,a.2.1]) Z Z (lN v (lN w Z)) Z Z Z<|aN<|aK<|CR (B:=fO) (λe=>pU m e=some r) (λe f=>[(4,vP o),(5,vP p)]) (λe f=>[bV p [a.1,a.2.1] 28,Ar bZ a.1 m.1,Ar dD.raw a.2.1 f,lK cG f e,bV o [lB,lB] 28]) ?_ ?_
 ·refine aX<|aD Z<|aN<|aT<|dX (B:=fO) (uS U p0 m) (λd b=>[(2,vP u),(4,vP o),(5,vP p),(6,vI (d.1))]) (λd b=>[bV p [a.1,a.2.1] 28,Ar bZ a.1 m.1,Ar dD.raw a.2.1 b,lK cG b d.2,bV o [lB,lB] 28,bV u [vI (p0.1),g,k,n,vB (p0.2.2.2.2.1),vB (p0.2.2.2.2.2)] 24]) ((1:Int),m.2) (a.2.2) h SF (a_.refl _) ?_;intro O d b h;refine aK<|aX<|aA Z<|bX Z<|dQ 0 Z<|aB (gU Z (bW (i:=2) (j:=3) Z Z bS) Z) Z<|cM Z<|aN ?_;refine fD h Z (λh=>?_) λh=>?_
  ·refine cL<|aK<|aT ?_;refine JR.start [0,0,0,4,0,16,60,0,252,0,0,1024,0,4096,15868,32252,65020,131071] 17 mixedOrders (by decide +kernel) ?_;refine zBd (by exact rfl) ?_;refine mA 5 Z<|mA 0 Z<|dB Z<|iZ 5 Z<|bG Z<|jD Z (oI Z Z)<|eZ h λy E h=>zBc Z Z Z (zBa KB (BP U g y E) Z (mT [0] Z)) Z (λJ=>(uB [([0],[]),([5],[])] Z)) λJ=>jD Z (fY Z)<|eZ h λA F h=>zBc Z Z Z (zBa ED (mE U  A F) Z .nil) Z (λK=>(uB [([0],[]),([5],[])] Z)) λK=>jD Z (fY Z)<|jD Z (c_ Z Z Z Z Z)<|bJ Z (a_.cons 5 Z .nil) .nil (eB 0 Z Z Z Z Z) (aM.h (a_.ix [5] Z Z) .nil (aM.h (a_.ix [5] Z Z) .nil aM.z))<|jD Z (fY Z)<|jD Z (oI Z Z)<|eZ h λC G h=>zBc Z Z Z (zBa KB (BP U k C G) Z (mT [1] Z)) Z (λL=>(uB [([0],[]),([5],[])] Z)) λL=>eZ h λD H h=>zBc Z Z Z (zBa ED (mE U  D H) Z .nil) Z (λM=>(uB [([0],[]),([5],[])] Z)) λM=>jD Z (Az Z Z)<|bO 17 Z Z<|eZ h λt I h=>aH (Gq (Min:=[Ar dD.raw a.2.1 b,lK cG b d.2]) (Mr:=[bV p [a.1,a.2.1] 28,Ar bZ a.1 m.1,bV o [lB,lB] 28,bV u [vI (p0.1),g,k,n,vB (p0.2.2.2.2.1),vB (p0.2.2.2.2.2)] 24]) Ym (BI U g k n a.1 a.2.1 b t I) Z (a_.ix [2,3,0,1,4,5] Z Z) (aG.cons (aE.fact 0 Z) (aG.cons (aE.fact 1 Z) (aG.cons (aE.fact 2 Z) (aG.cons (bB (aE.res 1 Z) dK) .nil)))) (λ_ _=>rfl)) Z λN=>eM<|mN<|aQ<|aA Z<|cJ Z<|aD Z<|aN ?_;exact lS ((wI .i64 (d.1+(1:Int))),t) (N) h SF (a_.ix [2,3,0,1,4,5] Z Z) (aG.refl _ _)
  refine e_ ?_;exact cF (d.2) (b) h SF (a_.ix [0,1,2,3,4] Z Z) (aG.refl _ _)
 intro e f h;unfold pU at h;refine aX<|dN 0 Z<|cH (Know.one ((bB (aE.res 1 Z) dK))) λq=>cH (Know.one (aE.sl (bW (i:=2) (j:=3) Z Z bS))) λs=>bQ 4 (vs:=[a.1,a.2.1]) Z Z (lN q (lN s Z)) Z Z Z<|aN<|aV ?_;cases h;exact fP (a.1,a.2.1,f) Z Z (RV.cell 4 Z Z Z Z) (a_.ix [1,2,3] Z Z) aG.nil
def sP  (a:Int):Option (Int):=
 some (a)
def yA (c:aR) (a:gE) (b:jO->Option (Int)):Option (Int):=
 if a.2<(c.length:Int)then(ck (0<=a.2∧a.2<(c.length:Int)) (b ((max a.1 (at' c a.2)),(wI .i64 (a.2+(1:Int))))))else(sP  (a.1))
def m_ (U:Nat) (a:aR):Option (Int):=
 bI (yA a) U ((-1:Int),(0:Int))
theorem aeR:aW Tryz.prog 60:=Tryz.call60
theorem IS (U:Nat) {e:aR} (f:Value) (r:Int) (h:m_ U e=some r):
  aY Tryz.prog 60 #[f] [Sl bN f e] (λx:Unit=>vI (r)) (λx l=>l) (λ_ l=>l):=by
 refine aY.of Tryz.func60 Z Tryz.ntmps60 Z λc=>?_;unfold m_ at h;refine aX<|aD Z<|aN<|aX<|aD Z<|aN<|aK<|dW (λb=>sP  b=some r) (λb g=>[(3,vI (b))]) (λb g=>[]) ?_ ?_
 ·refine aX<|aA Z<|jN (aE.fact 0 Z) Z<|aA Z<|aN<|aT<|dX (yA e) (λa i=>[(3,vI (a.1)),(6,f),(7,vI (e.length:Int)),(8,vI (a.2))]) (λa i=>[]) ((-1:Int),(0:Int)) () h SF (a_.refl _) ?_;intro j a i h;refine aX<|cM Z<|aN<|aK ?_;refine fD h Z (λh=>?_) λh=>?_
  ·refine cL<|aK<|aT<|aX<|cT h λd h=>aB (aZ Z Z (aE.fact 0 Z) Z Z d) Z<|aB (bR Z (aE.fact 0 Z) Z Z Z cR d) Z<|aD Z<|aN<|aQ<|aA Z<|aA Z<|aB (IZ Z Z) Z<|aD Z<|eM<|mN<|aQ<|cJ Z<|aA Z<|aN ?_;exact xR ((max a.1 (at' e a.2)),(wI .i64 (a.2+(1:Int)))) () h SF Z
  refine e_ ?_;exact gJ (a.1) () h SF Z
 intro b g h;unfold sP at h;refine aX<|aA Z<|aD Z<|aN<|aV ?_;cases h;exact lA Z
def kX (U:Nat) (a:cD) (c:Int) (b:Bool):Option (Int):=
 if b=true then(some (-1:Int))else(Option.bind (kG U ((a.1,a.2)) c) λd=>(Option.bind (m_ U d) λe=>(some (e))))
def iJ (U:Nat) (a:cD) (b:Int):Option (Int):=
 Option.bind (dC U ((a.1,a.2))) λc=>(if(!c)=true then(kX U a b (true))else(if b<(0:Int)then(kX U a b (true))else(kX U a b (decide ((a.2.length:Int)<=b)))))
theorem aeI:aW Tryz.prog 36:=Tryz.call36
theorem Fa (U:Nat) {f:cD} {g:Int} (b:Value)  (d:Value)  (m:kA) (r:Int) (h:iJ U f g=some r):
  aY Tryz.prog 36 #[Value.agg #[b,d],vI (g)] [Sl bN b f.1,S2 bA d m f.2] (λx:Unit=>vI (r)) (λx l=>l) (λ_ l=>l):=by
 refine aY.of Tryz.func36 Z Tryz.ntmps36 Z λc=>?_;refine aX<|aH (aO.box (cs:=[b,d]) Z Z) Z λn=>aD Z<|aN<|aK<|aK<|dW (λe=>kX U f g e=some r) (λe o=>[(1,vI (g)),(2,vP n),(18,vB (e))]) (λe o=>[bV n [b,d] 28]) ?_ ?_
 ·refine aQ<|dN 0 Z<|eZ h λi k h=>aH (zBa Oe (sU U b d m i k) Z (mT [0,1] Z)) Z λu=>aB (lU Z) Z<|aA Z ?_;refine rD (by exact rfl) (by exact rfl) (λa=>?_) (λa=>?_)
  ·have h:=IA a h;refine aI Z<|aI Z<|dO Z<|aA Z<|aI Z<|aI Z<|aI Z<|aI Z<|aI Z<|dO Z<|aN ?_;exact gJ (true) () h SF Z
  have h:=Dw a h;refine cP Z<|aP Z (Hl Z Z) Z<|fH Z<|aA Z ?_;refine Eo h Z (λ_ h=>?_) λ_ h=>?_
  ·refine aI Z<|aI Z<|aI Z<|aI Z<|aI Z<|dO Z<|aN ?_;exact gJ (true) () h SF Z
  refine cP Z<|aP Z (c_ Z Z Z Z Z) Z<|aP Z (eB 0 Z Z Z Z Z) Z<|aP Z (gU Z (aE.fact 1 Z) Z) Z<|aP Z (Bu Z Z) Z<|fH Z<|aN ?_;exact gJ (decide ((f.2.length:Int)<=g)) () h SF Z
 intro e o h;refine Am h Z (λ_ h=>?_) λ_ h=>?_
 ·refine aX<|aD Z<|aN<|aV<|aJ ?_;cases h;exact rX Z
 refine cL<|aX<|dN 0 Z<|aA Z<|eZ h λp s h=>aH (zBa SZ (BM U b d m p s) Z (mT [0,1] Z)) Z λv=>eZ h λq j h=>aH (zBa aeR (IS U v q j) Z (aG.cons (bB (aE.res 0 Z) dK) .nil)) Z λt=>aD Z<|aN<|aV ?_;cases h;exact rX Z
def tO (U:Nat) (a:ByteArray) (b:Int) (c:Int) (d:Int):Option ((ByteArray×Int×Int×Int×Int×Int)):=
 some ((a,(1:Int),(0:Int),b,c,d))
theorem SV:aW Tryz.prog 26:=Tryz.call26
theorem BO (U:Nat) {a:ByteArray} {b:Int} {d:Int} {e:Int} (r:RJ) (h:tO U a b d e=some r):
  aY Tryz.prog 26 #[vS (a),vI (b),vI (d),vI (e)] [] (λx:Unit=>Value.agg #[vS (r.1),vI (r.2.1),vI (r.2.2.1),vI (r.2.2.2.1),vI (r.2.2.2.2.1),vI (r.2.2.2.2.2)]) (λx l=>l) (λ_ l=>l):=by
 refine aY.of Tryz.func26 Z Tryz.ntmps26 Z λc=>?_;unfold tO at h;refine aX<|aH (aO.alloc (cs:=vD3) Z Z) Z λf=>aN<|aX<|aA Z<|aA Z<|aA Z<|aA Z ?_;refine aB (Y.bld5 (r:=Value.agg #[vS (a),vI (1:Int),vI (0:Int),vI (b),vI (d),vI (e)]) Z Z Z Z Z (by intro w;simp[Instr.build,Instr.fill,dR,cW,cO,dU,dV,cX,eY])) Z ?_;refine bQ 0 (vs:=[vS (a),vI (1:Int),vI (0:Int),vI (b),vI (d),vI (e)]) Z Z Z Z Z Z<|aN<|aV ?_;cases h;exact fP () Z Z (RV.cell 0 Z Z Z Z) .nil aG.nil
def AI (U:Nat) (a:ByteArray):Option ((ByteArray×Int×Int×Int×Int×Int)):=
 some ((a,(3:Int),(0:Int),(0:Int),(0:Int),(0:Int)))
theorem aeW:aW Tryz.prog 74:=Tryz.call74
theorem JB (U:Nat) {a:ByteArray} (r:RJ) (h:AI U a=some r):
  aY Tryz.prog 74 #[vS (a)] [] (λx:Unit=>Value.agg #[vS (r.1),vI (r.2.1),vI (r.2.2.1),vI (r.2.2.2.1),vI (r.2.2.2.2.1),vI (r.2.2.2.2.2)]) (λx l=>l) (λ_ l=>l):=by
 refine aY.of Tryz.func74 Z Tryz.ntmps74 Z λc=>?_;unfold AI at h;refine aX<|aH (aO.alloc (cs:=vD3) Z Z) Z λb=>aN<|aX<|aA Z ?_;refine aB (Di (r:=Value.agg #[vS (a),vI (3:Int),vI (0:Int),vI (0:Int),vI (0:Int),vI (0:Int)]) Z Z (by intro w;simp[Instr.build,Instr.fill,dR,cW,cO,dU,dV,cX,eY])) Z ?_;refine bQ 0 (vs:=[vS (a),vI (3:Int),vI (0:Int),vI (0:Int),vI (0:Int),vI (0:Int)]) Z Z Z Z Z Z<|aN<|aV ?_;cases h;exact fP () Z Z (RV.cell 0 Z Z Z Z) .nil aG.nil
def HB (U:Nat)  : Option aaw:=
 Option.bind (tO U (ByteArray.mk #[100]) (0:Int) (1:Int) (0:Int)) λa=>(Option.bind (AI U (ByteArray.mk #[112])) λb=>(some ([(a.1,a.2.1,a.2.2.1,a.2.2.2.1,a.2.2.2.2.1,a.2.2.2.2.2),(b.1,b.2.1,b.2.2.1,b.2.2.2.1,b.2.2.2.2.1,b.2.2.2.2.2)])))
theorem aeM:aW Tryz.prog 44:=Tryz.call44
theorem OY (U:Nat)  (r:aax) (h:HB U  = some r):
  aY Tryz.prog 44 #[] [] (λx:Value=>x) (λx l=>Ar iV x r::l) (λ_ l=>l):=by
 refine aY.of Tryz.func44 Z Tryz.ntmps44 Z λc=>?_;refine aX<|aD Z<|aN<|aX<|eZ h λa f h=>aH (zBa SV (BO U  a f) Z .nil) Z λi=>eZ h λb g h=>aH (zBa aeW (JB U  b g) Z .nil) Z λj=>aH (cA (e:=iV) ([((a.1,a.2.1,a.2.2.1,a.2.2.2.1,a.2.2.2.2.1,a.2.2.2.2.2)),((b.1,b.2.1,b.2.2.1,b.2.2.2.1,b.2.2.2.2.1,b.2.2.2.2.2))]) [(0,Value.agg #[vS (a.1),vI (a.2.1),vI (a.2.2.1),vI (a.2.2.2.1),vI (a.2.2.2.2.1),vI (a.2.2.2.2.2)]),(1,Value.agg #[vS (b.1),vI (b.2.1),vI (b.2.2.1),vI (b.2.2.2.1),vI (b.2.2.2.2.1),vI (b.2.2.2.2.2)])] Z Z Z Z (KX (vS (a.1)) (vI (a.2.1)) (vI (a.2.2.1)) (vI (a.2.2.2.1)) (vI (a.2.2.2.2.1)) (vI (a.2.2.2.2.2)) (vS (b.1)) (vI (b.2.1)) (vI (b.2.2.1)) (vI (b.2.2.2.1)) (vI (b.2.2.2.2.1)) (vI (b.2.2.2.2.2))) Z Z Z) Z λd=>aD Z<|aN<|aV ?_;cases h;exact fP (d) Z Z (RV.tmp Z) (a_.refl _) aG.nil
def tG  (a:Unit):Option Bool:=
 some (true)
def lY (c:Int) (a:(Int)->Option Bool) (b:Unit):Option Bool:=
 a (wI .i64 (c+(1:Int)))
def iF (b:Int) (a:(Int)->Option Bool) (c:Bool):Option Bool:=
 if c=true then(some (false))else(a (wI .i64 (b+(1:Int))))
def iD (e:bF) (d:Int) (a:Int) (b:(Int)->Option Bool) (c:gE):Option Bool:=
 if(at' (at' e d) a)<c.1 then(iF a b (true))else(iF a b (decide (c.2<(at' (at' e d) a))))
def dH (g:cD) (d:bF) (f:aR) (b:Int) (e:(Int)->Option Bool) (a:Int) (c:(Int)->Option Bool):Option Bool:=
 if a<((at' d b).length:Int)then(ck (0<=a∧a<((at' d b).length:Int)) (ck (0<=a∧a<(f.length:Int)) (if(at' f a)=(-1:Int)then(ck (0<=b∧b<(g.2.length:Int)) (iD d b a c ((-1:Int),(wI .i64 (((at' g.2 b).length:Int) - (1:Int))))))else(iD d b a c ((0:Int),(at' f a))))))else(lY b e (()))
def gA (U:Nat) (e:cD) (b:bF) (d:aR) (a:Int) (c:(Int)->Option Bool):Option Bool:=
 if a<(b.length:Int)then(ck (0<=a∧a<(b.length:Int)) (if((at' b a).length:Int)≠(d.length:Int)then(some (false))else(bI (dH e b d a c) U (0:Int))))else(tG  (()))
def eH (U:Nat) (a:cD) (b:bF) (c:aR):Option Bool:=
 if(b.length:Int)≠(a.1.length:Int)then(some (false))else(bI (gA U a b c) U (0:Int))
theorem SY:aW Tryz.prog 54:=Tryz.call54
theorem uY (U:Nat) {g:cD} {e:bF} {j:aR} (o:Value)  (p:Value)  (H:kA)  (q:Value)  (E:q_)  (s:Value) (r:Bool) (h:eH U g e j=some r):
  aY Tryz.prog 54 #[Value.agg #[o,p],q,s] [Sl bN o g.1,S2 bA p H g.2,S2 bN q E e,Sl bN s j] (λx:Unit=>vB (r)) (λx l=>l) (λ_ l=>l):=by
 refine aY.of Tryz.func54 Z Tryz.ntmps54 Z λc=>?_;refine aX<|aH (aO.box (cs:=[o,p]) Z Z) Z λk=>aD Z<|aN<|aK<|aX<|aA Z<|aB (gU Z (aE.fact 2 Z) Z) Z<|bX Z<|dQ 0 Z<|jN (aE.fact 0 Z) Z<|rB Z<|aN ?_;refine fD h Z (λh=>?_) λh=>?_
 ·refine aX<|aD Z<|aN<|aV<|aJ ?_;cases h;exact rX Z
 refine cL<|aK<|dW (λC=>tG  C=some r) (λC F=>[]) (λC F=>[]) ?_ ?_
 ·refine aX<|aA Z<|aB (gU Z (aE.fact 2 Z) Z) Z<|aA Z<|aN<|aT<|dX (gA U g e j) (λa G=>[(2,s),(3,vP k),(19,q),(20,vI (e.length:Int)),(21,vI (a))]) (λa G=>[bV k [o,p] 28]) (0:Int) () h SF (a_.refl _) ?_;intro D a G h;refine aX<|cM Z<|aN<|aK ?_;refine fD h Z (λh=>?_) λh=>?_
  ·refine cL<|aK<|dW (λm=>lY a (bI (gA U g e j) D) m=some r) (λm t=>[(2,s),(3,vP k),(19,q),(20,vI (e.length:Int)),(21,vI (a))]) (λm t=>[bV k [o,p] 28]) ?_ ?_
   ·refine aT<|aX<|aA Z<|cT h λd h=>aB (cC Z Z (aE.fact 2 Z) Z Z d) Z<|aB (b_ Z (aE.fact 2 Z) Z Z d) Z<|aD Z<|aD Z<|aN<|aK<|aX<|aA Z<|aB (fX Z (zBb (aE.fact 2 Z) d.1 d.2) Z) Z<|aA Z<|jN (aE.fact 3 Z) Z<|rB Z<|aN ?_;refine fD h Z (λh=>?_) λh=>?_
    ·refine aX<|aD Z<|aN<|aV<|aJ<|bM<|aJ<|aJ<|bM<|aJ ?_;cases h;exact rX Z
    refine cL<|aX<|aA Z<|aB (fX Z (zBb (aE.fact 2 Z) d.1 d.2) Z) Z<|aA Z<|aN<|aT<|dX (dH g e j a (bI (gA U g e j) D)) (λb u=>[(2,s),(3,vP k),(7,vI (a)),(19,q),(20,vI (e.length:Int)),(21,vI (a)),(31,(at' E a).1),(32,vI ((at' e a).length:Int)),(33,vI (b))]) (λb u=>[bV k [o,p] 28]) (0:Int) () h SF (a_.refl _) ?_;intro B b u h;refine aX<|cM Z<|aN<|aK ?_;refine fD h Z (λh=>?_) λh=>?_
    ·refine cL<|aK<|aT<|aX<|aA Z<|cT h λy h=>aB (aZ Z Z (zBb (aE.fact 2 Z) d.1 d.2) Z Z y) Z<|aB (bR Z (zBb (aE.fact 2 Z) d.1 d.2) Z Z Z cR y) Z<|aD Z<|aD Z<|aN<|aK ?_;refine JR.start [0,0,3,7,0,31] 5 mixedOrders (by decide +kernel) ?_;refine zBd (by exact rfl) ?_;refine bG Z<|bG Z<|cT h λA h=>bJ Z .nil (jS 3 Z) (aZ Z Z (aE.fact 0 Z) Z Z A) aM.z<|bJ Z .nil (jS 3 Z) (bR Z (aE.fact 0 Z) Z Z Z cR A) aM.z<|jD Z (oZ Z)<|bO 5 Z Z<|aD Z<|aN<|aK<|dW (λf=>iD e a b (bI (dH g e j a (bI (gA U g e j) D)) B) f=some r) (λf v=>[(2,s),(3,vP k),(7,vI (a)),(10,vI (at' (at' e a) b)),(11,vI (f.1)),(12,vI (f.2)),(19,q),(20,vI (e.length:Int)),(21,vI (a)),(31,(at' E a).1),(32,vI ((at' e a).length:Int)),(33,vI (b))]) (λf v=>[bV k [o,p] 28]) ?_ ?_
     ·refine aX<|aA Z<|cS Z<|aN ?_;refine fD h Z (λh=>?_) λh=>?_
      ·refine JR.start [0,1,0,7,15,31,63,0,255] 8 mixedOrders (by decide +kernel) ?_;refine zBd (by exact rfl) ?_;refine dB Z<|iZ 0 Z<|bG Z<|cT h λn h=>bJ Z .nil (jS 1 Z) (cC Z Z (aE.fact 0 Z) Z Z n) aM.z<|bJ Z .nil (jS 1 Z) (b_ Z (aE.fact 0 Z) Z Z n) aM.z<|bJ Z .nil (jS 1 Z) (fX Z (zBb (aE.fact 0 Z) n.1 n.2) Z) aM.z<|jD Z (oI Z Z)<|jD Z (oZ Z)<|bO 8 Z Z<|aD Z<|aN ?_;exact gJ ((-1:Int),(wI .i64 (((at' g.2 a).length:Int) - (1:Int)))) () h SF Z
      refine cL ?_;exact gJ ((0:Int),(at' j b)) () h SF Z
     intro f v h;refine aK<|dW (λi=>iF b (bI (dH g e j a (bI (gA U g e j) D)) B) i=some r) (λi w=>[(2,s),(3,vP k),(7,vI (a)),(19,q),(20,vI (e.length:Int)),(21,vI (a)),(31,(at' E a).1),(32,vI ((at' e a).length:Int)),(33,vI (b)),(58,vB (i))]) (λi w=>[bV k [o,p] 28]) ?_ ?_
     ·refine aQ<|aA Z<|aA Z<|cM Z<|aA Z ?_;refine Eo h Z (λ_ h=>?_) λ_ h=>?_
      ·refine aI Z<|aI Z<|aI Z<|dO Z<|aN ?_;exact gJ (true) () h SF Z
      refine cP Z<|cP Z<|aP Z (xQ Z Z) Z<|fH Z<|aN ?_;exact gJ (decide (f.2<(at' (at' e a) b))) () h SF Z
     intro i w h;refine Am h Z (λ_ h=>?_) λ_ h=>?_
     ·refine aX<|aD Z<|aN<|aV<|bM<|aJ<|aJ<|bM<|bM<|aJ<|aJ<|bM<|aJ ?_;cases h;exact rX Z
     refine dY<|mN<|aQ<|cJ Z<|aA Z<|aN ?_;exact xR (wI .i64 (b+(1:Int))) () h SF Z
    refine pH<|d_<|d_<|u_<|mN ?_;exact gJ () (()) h SF Z
   intro m t h;unfold lY at h;refine aQ<|cJ Z<|aA Z<|aN ?_;exact xR (wI .i64 (a+(1:Int))) () h SF Z
  refine e_ ?_;exact cF () (()) h SF .nil (aG.refl _ _)
 intro C F h;unfold tG at h;refine aX<|aD Z<|aN<|aV ?_;cases h;exact lA Z
def fR (U:Nat) (a:Er) (d:Int):Option uR:=
 Option.bind (nO U ((a.1,a.2.1,a.2.2.1,a.2.2.2.1,a.2.2.2.2.1,a.2.2.2.2.2)) d) λb=>(Option.bind (nQ U ((a.1,a.2.1,a.2.2.1,a.2.2.2.1,a.2.2.2.2.1,a.2.2.2.2.2)) ((b.1,b.2))) λc=>(some ((c.1,c.2))))
theorem ahO:aW Tryz.prog 6:=Tryz.call6
theorem CX (U:Nat) {a:Er} {o:Int} (d:Value)  (e:Value)  (f:Value) (r:(aR×fV)) (h:fR U a o=some r):
  aY Tryz.prog 6 #[Value.agg #[vI (a.1),d,e,f,vB (a.2.2.2.2.1),vB (a.2.2.2.2.2)],vI (o)] [Sl bN d a.2.1,Sl bN e a.2.2.1,Sl bN f a.2.2.2.1] (λx:Value×Value×List Value=>Value.agg #[x.1,x.2.1]) (λx l=>Ar bZ x.1 r.1::Ar dD.raw x.2.1 x.2.2::lK cG x.2.2 r.2::l) (λ_ l=>l):=by
 refine aY.of Tryz.func6 Z Tryz.ntmps6 Z λc=>?_;refine aX<|aH (aO.box (cs:=[vI (a.1),d,e,f,vB (a.2.2.2.2.1),vB (a.2.2.2.2.2)]) Z Z) Z λp=>aH (aO.alloc (cs:=[lB,lB]) Z Z) Z λq=>aN<|aK ?_;refine JR.start [0,0,0,6,15,31] 4 mixedOrders (by decide +kernel) ?_;refine zBd (by exact rfl) ?_;refine mA 1 Z<|mA 1 Z<|bG Z<|eZ h λn t h=>zBc Z Z Z (zBa Yi (BH U d e f n t) Z (mT [0,1,2] Z)) Z (λb=>(uB [([4],[])] Z)) λb=>bO 4 Z Z<|eZ h λs u h=>aH (Gq (Min:=[Ar bZ b.1 n.1,Ar dD.raw b.2.1 b.2.2,lK cG b.2.2 n.2]) (Mr:=[bV q [lB,lB] 28,bV p [vI (a.1),d,e,f,vB (a.2.2.2.2.1),vB (a.2.2.2.2.2)] 24]) aeC (GM U d e f b.1 b.2.1 b.2.2 s u) Z (a_.refl _) (mT [0,1,2] Z) (λ_ _=>rfl)) Z λk=>cH (Know.one ((bB (aE.res 0 Z) dK))) λm=>cH (Know.one (aE.sl (bW (i:=1) (j:=2) Z Z bS))) λg=>bQ 3 (vs:=[k.1,k.2.1]) Z Z (lN m (lN g Z)) Z Z Z<|aN<|aV ?_;cases h;exact fP (k.1,k.2.1,k.2.2) Z Z (RV.cell 3 Z Z Z Z) (a_.ix [0,1,2] Z Z) aG.nil
def hZ (U:Nat) (a:cD):Option Bool:=
 Option.bind (kH U ((a.1,a.2)) (0:Int)) λb=>(Option.bind (nA U b) λc=>(some (decide ((0:Int)<=c))))
theorem aeS:aW Tryz.prog 62:=Tryz.call62
theorem HZ (U:Nat) {d:cD} (a:Value)  (b:Value)  (e:kA) (r:Bool) (h:hZ U d=some r):
  aY Tryz.prog 62 #[Value.agg #[a,b]] [Sl bN a d.1,S2 bA b e d.2] (λx:Unit=>vB (r)) (λx l=>l) (λ_ l=>l):=by
 refine aY.of Tryz.func62 Z Tryz.ntmps62 Z λc=>?_;refine aX<|aH (aO.box (cs:=[a,b]) Z Z) Z λm=>aD Z<|aN<|aX<|dN 0 Z<|eZ h λf i h=>aH (zBa Yk (Ch U a b e f i) Z (mT [0,1] Z)) Z λk=>eZ h λg j h=>aH (zBa Yj (CZ U k g j) Z (aG.cons (bB (aE.res 0 Z) dK) .nil)) Z λn=>aB (Bu Z Z) Z<|aD Z<|aN<|aV ?_;cases h;exact rX Z
def wN  (a:bF):Option bF:=
 some (a)
def AQ (a:bF×Int) (c:(bF×Int)->Option bF) (b:aR):Option bF:=
 ck ((a.1.length:Int)+(List.length ([b]):Int)<=1099511627) (c ((a.1++[b]),(wI .i64 (a.2+(1:Int)))))
def oV (U:Nat) (g:Jn) (h:aR) (e:bF×Int) (a:aR×Int) (c:(aR×Int)->Option bF) (b:gE):Option bF:=
 Option.bind (tR U h (wI .i64 ((wI .i64 (e.2*(g.length:Int)))+a.2))) λf=>(Option.bind (iK U f (wI .i64 ((wI .i64 (b.2 - b.1))+(1:Int)))) λd=>(ck ((a.1.length:Int)+(List.length ([(wI .i64 (b.1+d))]):Int)<=1099511627) (c ((a.1++([(wI .i64 (b.1+d))])),(wI .i64 (a.2+(1:Int)))))))
def oW (U:Nat) (f:cD) (c:Jn) (g:aR) (h:Int) (b:bF×Int) (e:(bF×Int)->Option bF) (a:aR×Int) (d:(aR×Int)->Option bF):Option bF:=
 if a.2<(c.length:Int)then(ck (0<=a.2∧a.2<(c.length:Int)) (ck (0<=a.2∧a.2<(c.length:Int)) (ck (0<=a.2∧a.2<(c.length:Int)) (ck (0<=a.2∧a.2<(c.length:Int)) (ck (0<=a.2∧a.2<(c.length:Int)) (if((at' c a.2).2.1)=(2:Int)then(oV U c g b a d ((0:Int),(1:Int)))else(if((at' c a.2).2.1)=(3:Int)then(ck (0<=b.2∧b.2<(f.2.length:Int)) (oV U c g b a d ((-1:Int),(wI .i64 (((at' f.2 b.2).length:Int) - (1:Int))))))else(oV U c g b a d (((at' c a.2).2.2.1),(wI .i64 ((wI .i64 (((at' c a.2).2.2.2.1)+(wI .i64 (((at' c a.2).2.2.2.2.1)*(f.2.length:Int)))))+(wI .i64 (((at' c a.2).2.2.2.2.2)*h)))))))))))))else(AQ b e (a.1))
def kO (U:Nat) (c:cD) (e:Jn) (f:aR) (d:Int) (a:bF×Int) (b:(bF×Int)->Option bF):Option bF:=
 if a.2<(c.2.length:Int)then(bI (oW U c e f d a b) U (([]:aR),(0:Int)))else(wN  (a.1))
def r_ (U:Nat) (b:cD) (c:Jn) (d:aR) (a:Int):Option bF:=
 bI (kO U b c d a) U (([]:bF),(0:Int))
def wO (U:Nat) (c:cD) (d:Jn) (e:aR) (a:gE) (b:jO->Option bF):Option bF:=
 if a.2<(c.2.length:Int)then(ck (0<=a.2∧a.2<(c.1.length:Int)) (b ((max a.1 (at' c.1 a.2)),(wI .i64 (a.2+(1:Int))))))else(r_ U c d e (a.1))
def nU (U:Nat) (a:cD) (b:Jn) (c:aR):Option bF:=
 bI (wO U a b c) U ((0:Int),(0:Int))
theorem ahP:aW Tryz.prog 7:=Tryz.call7
theorem LX (U:Nat) {g:cD} {n:Jn} {s:aR} (v:Value)  (w:Value)  (z2:kA)  (F:Value)  (y:Value) (r:bF) (h:nU U g n s=some r):
  aY Tryz.prog 7 #[Value.agg #[v,w],F,y] [Sl bN v g.1,S2 bA w z2 g.2,Sl aS F n,Sl bN y s] (λx:Jq=>x.1) (λx l=>Ar dD.raw x.1 x.2::lK bZ x.2 r::l) (λ_ l=>l):=by
 refine aY.of Tryz.func7 Z Tryz.ntmps7 Z λc=>?_;unfold nU at h;refine aX<|aH (aO.box (cs:=[v,w]) Z Z) Z λp=>aD Z<|aN<|aX<|bX Z<|dQ 0 Z<|aB (gU Z (aE.fact 1 Z) Z) Z<|aD Z<|aD Z<|aN<|aK<|dW (λk=>r_ U g n s k=some r) (λk b4=>[(1,F),(2,y),(3,vP p),(7,vI (g.2.length:Int)),(8,vI (k))]) (λk b4=>[bV p [v,w] 28]) ?_ ?_
 ·refine aX<|aD Z<|aN<|aT<|dX (wO U g n s) (λi J=>[(1,F),(2,y),(3,vP p),(7,vI (g.2.length:Int)),(8,vI (i.1)),(9,vI (i.2))]) (λi J=>[bV p [v,w] 28]) ((0:Int),(0:Int)) () h SF (a_.refl _) ?_;intro ac i J h;refine aK<|aX<|aA Z<|aA Z<|cM Z<|aN ?_;refine fD h Z (λh=>?_) λh=>?_
  ·refine cL<|aK<|aT<|aQ<|aA Z<|bX Z<|dQ 0 Z<|aA Z<|cT h λQ h=>aB (aZ Z Z (aE.fact 0 Z) Z Z Q) Z<|aB (bR Z (aE.fact 0 Z) Z Z Z cR Q) Z<|aB (IZ Z Z) Z<|aD Z<|eM<|mN<|aQ<|aA Z<|cJ Z<|aD Z<|aN ?_;exact xR ((max i.1 (at' g.1 i.2)),(wI .i64 (i.2+(1:Int)))) () h SF Z
  refine e_ ?_;exact gJ (i.1) () h SF Z
 intro k b4 h;unfold r_ at h;refine aX<|aD Z<|aN<|aK<|CR (B:=Jq) (λH=>wN  H=some r) (λH A=>[(10,A.1)]) (λH A=>[Ar dD.raw A.1 A.2,lK bZ A.2 H]) ?_ ?_
 ·refine aX<|aD Z<|aN<|aT<|jL (gN dD.raw) (jL (Ew bZ) ?_);refine dX (B:=Jq) (kO U g n s k) (λb a=>[(1,F),(2,y),(3,vP p),(7,vI (g.2.length:Int)),(8,vI (k)),(10,a.1),(11,vI (b.2))]) (λb a=>[bV p [v,w] 28,Ar dD.raw a.1 a.2,lK bZ a.2 b.1]) (([]:bF),(0:Int)) ((lB),([]:fO)) h SF (a_.ix [2,1,0] Z Z) ?_;intro G b a h;refine aK<|aX<|aA Z<|aA Z<|cM Z<|aN ?_;refine fD h Z (λh=>?_) λh=>?_
  ·refine cL<|aK<|aT<|aX<|aD Z<|aN<|aK<|CR (B:=Value) (λo=>AQ b (bI (kO U g n s k) G) o=some r) (λo j=>[(1,F),(2,y),(3,vP p),(7,vI (g.2.length:Int)),(8,vI (k)),(10,a.1),(11,vI (b.2)),(12,j)]) (λo j=>[bV p [v,w] 28,Ar dD.raw a.1 a.2,lK bZ a.2 b.1,Ar bZ j o]) ?_ ?_
   ·refine aX<|aD Z<|aN<|aT<|jL (gN bZ)<|dX (B:=Value) (oW U g n s k b (bI (kO U g n s k) G)) (λd m=>[(1,F),(2,y),(3,vP p),(7,vI (g.2.length:Int)),(8,vI (k)),(10,a.1),(11,vI (b.2)),(12,m),(13,vI (d.2))]) (λd m=>[bV p [v,w] 28,Ar dD.raw a.1 a.2,lK bZ a.2 b.1,Ar bZ m d.1]) (([]:aR),(0:Int)) (lB) h SF (a_.ix [1,2,3,0] Z Z) ?_;intro S d m h;refine aK<|aX<|aA Z<|aA Z<|jN (aE.fact 2 Z) Z<|cM Z<|aN ?_;refine fD h Z (λh=>?_) λh=>?_
    ·refine cL<|aK<|aT<|aK ?_;refine JR.start [0,0,3,7,15,0,0,96,224,480,0,0,3072,7168,15360,0,64512,131040,0,0,786432,1835008,3932160,0,16515072,33554400,31,134217727] 27 mixedOrders (by decide +kernel) ?_;refine zBd (by exact rfl) ?_;refine bG Z<|bG Z<|cT h λL h=>bJ Z .nil (jS 2 Z) (aZ Z Z (aE.fact 0 Z) Z Z L) aM.z<|jD Z (gF Z Z Z Z Z)<|bJ Z .nil (jS 2 Z) (jJ Z (aE.fact 0 Z) Z Z Z Ej L) aM.z<|bG Z<|bG Z<|cT h λM h=>bJ Z .nil (jS 2 Z) (aZ Z Z (aE.fact 0 Z) Z Z M) aM.z<|jD Z (gF Z Z Z Z Z)<|bJ Z .nil (jS 2 Z) (jJ Z (aE.fact 0 Z) Z Z Z Ek M) aM.z<|bG Z<|bG Z<|cT h λN h=>bJ Z .nil (jS 2 Z) (aZ Z Z (aE.fact 0 Z) Z Z N) aM.z<|jD Z (gF Z Z Z Z Z)<|bJ Z .nil (jS 2 Z) (jJ Z (aE.fact 0 Z) Z Z Z El N) aM.z<|bG Z<|jD Z (AA Z Z)<|jD Z (Az Z Z)<|bG Z<|bG Z<|cT h λO h=>bJ Z .nil (jS 2 Z) (aZ Z Z (aE.fact 0 Z) Z Z O) aM.z<|jD Z (gF Z Z Z Z Z)<|bJ Z .nil (jS 2 Z) (jJ Z (aE.fact 0 Z) Z Z Z Em O) aM.z<|bG Z<|jD Z (AA Z Z)<|jD Z (Az Z Z)<|jD Z (oZ Z)<|bO 27 Z Z<|aD Z<|aN<|aK<|dW (λf=>oV U n s b d (bI (oW U g n s k b (bI (kO U g n s k) G)) S) f=some r) (λf I=>[(1,F),(2,y),(3,vP p),(7,vI (g.2.length:Int)),(8,vI (k)),(10,a.1),(11,vI (b.2)),(12,m),(13,vI (d.2)),(14,vI (f.1)),(15,vI (f.2))]) (λf I=>[bV p [v,w] 28,Ar dD.raw a.1 a.2,lK bZ a.2 b.1,Ar bZ m d.1]) ?_ ?_
     ·refine aX<|aA Z<|aA Z<|cT h λP h=>aB (aZ Z Z (aE.fact 2 Z) Z Z P) Z<|aB (gF Z Z Z Z Z) Z<|aB (jJ Z (aE.fact 2 Z) Z Z Z y_ P) Z<|aN<|aT<|aX<|cS Z<|aD Z<|aN ?_;refine fD h Z (λh=>?_) λh=>?_
      ·refine aQ<|aD Z<|aD Z<|eM<|mN ?_;exact gJ ((0:Int),(1:Int)) () h SF Z
      refine aX<|cS Z<|aD Z<|aN ?_;refine fD h Z (λh=>?_) λh=>?_
      ·refine JR.start [0,1,0,7,15,31,63,0,255] 8 mixedOrders (by decide +kernel) ?_;refine zBd (by exact rfl) ?_;refine dB Z<|iZ 0 Z<|bG Z<|cT h λu h=>bJ Z .nil (jS 1 Z) (cC Z Z (aE.fact 0 Z) Z Z u) aM.z<|bJ Z .nil (jS 1 Z) (b_ Z (aE.fact 0 Z) Z Z u) aM.z<|bJ Z .nil (jS 1 Z) (fX Z (zBb (aE.fact 0 Z) u.1 u.2) Z) aM.z<|jD Z (oI Z Z)<|jD Z (oZ Z)<|bO 8 Z Z<|aD Z<|eM<|mN ?_;exact gJ ((-1:Int),(wI .i64 (((at' g.2 b.2).length:Int) - (1:Int)))) () h SF Z
      refine dY<|mN ?_;exact gJ (((at' n d.2).2.2.1),(wI .i64 ((wI .i64 (((at' n d.2).2.2.2.1)+(wI .i64 (((at' n d.2).2.2.2.2.1)*(g.2.length:Int)))))+(wI .i64 (((at' n d.2).2.2.2.2.2)*k))))) () h SF Z
     intro f I h;refine aQ<|aA Z<|aA Z<|aA Z<|aA Z<|aA Z<|jN (aE.fact 2 Z) Z<|aB (AA Z Z) Z<|aA Z<|cJ Z<|eZ h λW aa h=>aH (zBa KB (BP U y W aa) Z (mT [3] Z)) Z λaf=>aA Z<|aA Z<|aB (oI Z Z) Z<|cJ Z<|eZ h λt ab h=>aH (zBa ED (mE U  t ab) Z .nil) Z λag=>cJ Z<|aH (cA (e:=bZ) ([(wI .i64 (f.1+t))]) [(0,vI (wI .i64 (f.1+t)))] Z Z Z Z (l_ (vI (wI .i64 (f.1+t))) Z) Z Z Z) Z λae=>cT h λR h=>aH (eW 4 dK Z Z Z (bB (aE.res 0 Z) dK) Z Z Z Z R Z) Z λY=>aD Z<|eM<|mN<|aQ<|aA Z<|cJ Z<|aD Z<|aN ?_;exact lS ((d.1++([(wI .i64 (f.1+t))])),(wI .i64 (d.2+(1:Int)))) (Y) h SF (a_.ix [1,2,3,4] Z Z) (aG.refl _ _)
    refine e_ ?_;exact gJ (d.1) (m) h SF Z
   intro o j h;refine aQ<|aA Z<|aA Z<|jL (Ew bZ)<|cH (Know.one ((bB (aE.res 4 Z) dK))) λE=>jL (SG 0 4 Z Z Z) ?_;refine aH (cA (e:=dD.raw) [j] [(0,j)] Z Z Z Z (l_ (j) E) Z Z (by simp[cellsOf,dD.raw,E])) Z λad=>?_;refine cH (dM 4 Z) λC=>cH (dM 1 Z) λD=>cT h λK h=>jL (PT 4 1 Z Z Z) ?_;refine aH (aO.append 2 0 Z Z Z Z Z Z Z (by have q:=K;have T:=C;have V:=D;(try simp only[zAh,List.length_nil]at q T V ⊢);omega) (by have q:=K;have T:=C;have V:=D;(try simp only[zAh,List.length_nil]at q T V ⊢);omega) Z) Z λX=>?_;refine aD Z<|eM<|mN<|aQ<|aA Z<|cJ Z<|aD Z<|aN ?_;exact lS ((b.1++[o]),(wI .i64 (b.2+(1:Int)))) (X,(a.2++[j])) h SF (a_.ix [1,2,3] Z Z) (aG.refl _ _)
  refine e_ ?_;exact cF (b.1) (a.1,a.2) h SF (a_.ix [1,2] Z Z) (aG.refl _ _)
 intro H A h;unfold wN at h;refine aX<|aA Z<|aD Z<|aN<|aV ?_;cases h;exact fP (A.1,A.2) Z Z (RV.tmp Z) (a_.refl _) aG.nil
def Ap (U:Nat) (a:cD):Option (Int):=
 ck (0<=(a.1.length:Int)) (some (wI .u32 ((Dk .u32 (1:Int) (a.1.length:Int)) - (1:Int))))
theorem aeZ:aW Tryz.prog 77:=Tryz.call77
theorem RA (U:Nat) {a:cD} (b:Value)  (d:Value)  (f:kA) (r:Int) (h:Ap U a=some r):
  aY Tryz.prog 77 #[Value.agg #[b,d]] [Sl bN b a.1,S2 bA d f a.2] (λx:Unit=>vU (r)) (λx l=>l) (λ_ l=>l):=by
 refine aY.of Tryz.func77 Z Tryz.ntmps77 Z λc=>?_;refine aX<|aH (aO.box (cs:=[b,d]) Z Z) Z λg=>aD Z<|aN<|aX<|bX Z<|dQ 0 Z<|jN (aE.fact 0 Z) Z<|cT h λe h=>aB (Qc Z Z e) Z<|aB (oI Z Z) Z<|aD Z<|aN<|aV ?_;cases h;exact rX Z
def nK (U:Nat) (a:cD) (c:Int) (b:Bool):Option aR:=
 if b=true then(some ([]:aR))else(Option.bind (kG U ((a.1,a.2)) c) λd=>(some (d)))
def pC (U:Nat) (a:cD) (b:Int):Option aR:=
 Option.bind (gQ U ((a.1,a.2))) λc=>(if(!c)=true then(nK U a b (true))else(if b<(0:Int)then(nK U a b (true))else(nK U a b (decide ((a.2.length:Int)<=b)))))
theorem afd:aW Tryz.prog 85:=Tryz.call85
theorem HX (U:Nat) {f:cD} {g:Int} (b:Value)  (d:Value)  (j:kA) (r:aR) (h:pC U f g=some r):
  aY Tryz.prog 85 #[Value.agg #[b,d],vI (g)] [Sl bN b f.1,S2 bA d j f.2] (λx:Value=>x) (λx l=>Ar bZ x r::l) (λ_ l=>l):=by
 refine aY.of Tryz.func85 Z Tryz.ntmps85 Z λc=>?_;refine aX<|aH (aO.box (cs:=[b,d]) Z Z) Z λk=>aD Z<|aN<|aK<|aK<|dW (λe=>nK U f g e=some r) (λe m=>[(1,vI (g)),(2,vP k),(18,vB (e))]) (λe m=>[bV k [b,d] 28]) ?_ ?_
 ·refine aQ<|dN 0 Z<|eZ h λo i h=>aH (zBa Of (Ab U b d j o i) Z (mT [0,1] Z)) Z λq=>aB (lU Z) Z<|aA Z ?_;refine rD (by exact rfl) (by exact rfl) (λa=>?_) (λa=>?_)
  ·have h:=IA a h;refine aI Z<|aI Z<|dO Z<|aA Z<|aI Z<|aI Z<|aI Z<|aI Z<|aI Z<|dO Z<|aN ?_;exact gJ (true) () h SF Z
  have h:=Dw a h;refine cP Z<|aP Z (Hl Z Z) Z<|fH Z<|aA Z ?_;refine Eo h Z (λ_ h=>?_) λ_ h=>?_
  ·refine aI Z<|aI Z<|aI Z<|aI Z<|aI Z<|dO Z<|aN ?_;exact gJ (true) () h SF Z
  refine cP Z<|aP Z (c_ Z Z Z Z Z) Z<|aP Z (eB 0 Z Z Z Z Z) Z<|aP Z (gU Z (aE.fact 1 Z) Z) Z<|aP Z (Bu Z Z) Z<|fH Z<|aN ?_;exact gJ (decide ((f.2.length:Int)<=g)) () h SF Z
 intro e m h;refine Am h Z (λ_ h=>?_) λ_ h=>?_
 ·refine aX<|aD Z<|aN<|aV<|aJ<|jL (gN bZ) ?_;cases h;exact fP (lB) Z Z (RV.tmp Z) (a_.ix [0] Z Z) aG.nil
 refine cL<|aX<|dN 0 Z<|aA Z<|eZ h λn p h=>aH (zBa SZ (BM U b d j n p) Z (mT [0,1] Z)) Z λs=>aD Z<|aN<|aV ?_;cases h;exact fP (s) Z Z (RV.tmp Z) (a_.ix [0] Z Z) aG.nil
def AC  (a:Unit):Option (Int):=
 some (-1:Int)
def wA (c:cD) (d:Int) (e:Int) (a:Int) (b:(Int)->Option (Int)):Option (Int):=
 if a<((at' c.2 d).length:Int)then(ck (0<=a∧a<((at' c.2 d).length:Int)) (if((at' (at' c.2 d) a).1)=e then(some (a))else(b (wI .i64 (a+(1:Int))))))else(AC  (()))
def nR (U:Nat) (b:cD) (a:Int) (c:Int):Option (Int):=
 ck (0<=a∧a<(b.2.length:Int)) (bI (wA b a c) U (0:Int))
theorem Ys:aW Tryz.prog 90:=Tryz.call90
theorem Fb (U:Nat) {a:cD} {b:Int} {i:Int} (j:Value)  (k:Value)  (o:kA) (r:Int) (h:nR U a b i=some r):
  aY Tryz.prog 90 #[Value.agg #[j,k],vI (b),vI (i)] [Sl bN j a.1,S2 bA k o a.2] (λx:Unit=>vI (r)) (λx l=>l) (λ_ l=>l):=by
 refine aY.of Tryz.func90 Z Tryz.ntmps90 Z λc=>?_;refine aX<|aH (aO.box (cs:=[j,k]) Z Z) Z λq=>aD Z<|aN<|aK<|dW (λg=>AC  g=some r) (λg m=>[]) (λg m=>[]) ?_ ?_
 ·refine aX<|bX Z<|dQ 0 Z<|aA Z<|cT h λe h=>aB (cC Z Z (aE.fact 1 Z) Z Z e) Z<|aB (b_ Z (aE.fact 1 Z) Z Z e) Z<|aB (fX Z (zBb (aE.fact 1 Z) e.1 e.2) Z) Z<|aA Z<|aN<|aT<|dX (wA a b i) (λd n=>[(2,vI (i)),(13,(at' o b).1),(14,vI ((at' a.2 b).length:Int)),(15,vI (d))]) (λd n=>[]) (0:Int) () h SF .nil ?_;intro s d n h;refine aX<|cM Z<|aN<|aK ?_;refine fD h Z (λh=>?_) λh=>?_
  ·refine cL<|aK<|aT<|aX<|aA Z<|cT h λf h=>aB (aZ Z Z (zBb (aE.fact 1 Z) e.1 e.2) Z Z f) Z<|aB (iX (cs:=[vI ((at' (at' a.2 b) d).1),vI ((at' (at' a.2 b) d).2)]) Z (zBb (aE.fact 1 Z) e.1 e.2) bS Z Z Z Z f) Z<|aH (aO.alloc (cs:=VO) Z Z) Z λp=>aD Z<|bQ 0 (vs:=[vI ((at' (at' a.2 b) d).1),vI ((at' (at' a.2 b) d).2)]) Z Z Z Z Z Z<|aN<|aX<|bX Z<|dQ 0 Z<|aA Z<|cS Z<|aN ?_;refine fD h Z (λh=>?_) λh=>?_
   ·refine aX<|aA Z<|aD Z<|aN<|aV<|bM<|aJ<|aJ<|bM<|aJ ?_;cases h;exact rX Z
   refine dY<|mN<|aQ<|cJ Z<|aA Z<|aN ?_;exact lS (wI .i64 (d+(1:Int))) () h SF .nil (aG.refl _ _)
  refine e_ ?_;exact gJ () (()) h SF Z
 intro g m h;unfold AC at h;refine aX<|aD Z<|aN<|aV ?_;cases h;exact lA Z
end Go.Proofs.YtlkhndebimcbbaaGreatDoor
namespace Go.Sx
theorem Bb {X R:Type} {b:X->(X->Option R)->Option R} {r:R} (I:X->Prop) (e:X->Nat)
  (h:∀x f,I x->(∀c,I c->e c<e x->f c=some r)->b x f=some r):∀(a:Nat) (x:X),I x->e x<a->bI b a x=some r:=by
 intro a
 induction a with
 |zero=>intro x _ j;omega
 |succ k l=>
  intro x g j;exact h x _ g λc d i=>l c d (by omega)
def OK {R:Type} (Q:R->Prop) (o:Option R):Prop:=∃r,o=some r∧Q r
theorem yC {X R:Type} {step:X->(X->Option R)->Option R} {Q:R->Prop} (I:X->Prop) (d:X->Nat)
  (h:∀x e,I x->(∀b,I b->d b<d x->OK Q (e b))->OK Q (step x e)):∀(a:Nat) (x:X),I x->d x<a->OK Q (bI step a x):=by
 intro a
 induction a with
 |zero=>intro x _ i;omega
 |succ k j=>
  intro x f i;exact h x _ f λb c g=>j b c (by omega)
theorem cB {b:Type} {p:Prop} [Decidable p] (a:p) (x:Option b):ck p x=x:=if_pos a
theorem wr {x:Int} (a : -9223372036854775808<=x) (b:x<=9223372036854775807):wI .i64 x=x:=if_pos ⟨a,b⟩
theorem bD {a b:Type} {x:Option a} {y:a} {f:a->Option b} (h:x=some y):x.bind f=f y:=by rw[h];rfl
theorem TV {a:Type} (l r:List a) (x y:a) (i:Nat) (h:l.length=i):(l++x::r).set i y=l++y::r:=by
 rw[List.set_append_right _ _ (by omega)];simp[<-h]
theorem Wn {a:Type} [Inhabited a] (l r:List a) (x:a) (i:Nat) (h:l.length=i):at' (l++x::r) (i:Int)=x:=by
 rw[gG,zA1,zA9 (by omega)];simp[<-h]
theorem eL {X R:Type} {step:X->(X->Option R)->Option R} {K:Option R} (N:Nat) (F:Nat->X) (c:∀(k:Nat) g,k<N->step (F k) g=g (F (k+1))) (e:∀g,step (F N) g=K):∀b,N<b->bI step b (F 0)=K:=by
 have i:∀(d a b:Nat),a+d=N->d<b->bI step b (F a)=K:=by
  intro d
  induction d with
  |zero=>
   intro a b j h;obtain rfl:a=N:=by omega
   obtain⟨f,rfl⟩:∃f,b=f+1:=⟨b - 1,by omega⟩
   exact e _
  |succ d l=>
   intro a b j h;obtain⟨f,rfl⟩:∃f,b=f+1:=⟨b - 1,by omega⟩
   show step (F a) (bI step f)=K;rw[c a _ (by omega)];exact l (a+1) f (by omega) (by omega)
 exact λb h=>i N 0 b (by omega) h
theorem wU {X R:Type} {step:X->(X->Option R)->Option R} {K bad:Option R} (N:Nat) (p:Nat->Prop) (F:Nat->X) (r:∀(k:Nat) c,k<N->p k->step (F k) c=c (F (k+1))) (i:∀(k:Nat) c,k<N->¬p k->step (F k) c=bad) (j:∀c,step (F N) c=K):
  ∀b,N<b->((∀k,k<N->p k)->bI step b (F 0)=K)∧(¬(∀k,k<N->p k)->bI step b (F 0)=bad):=by
 have s:∀(d a b:Nat),a+d=N->d<b->((∀k,a<=k->k<N->p k)->bI step b (F a)=K)∧(¬(∀k,a<=k->k<N->p k)->bI step b (F a)=bad):=by
  intro d
  induction d with
  |zero=>
   intro a b t q;obtain rfl:a=N:=by omega
   obtain⟨f,rfl⟩:∃f,b=f+1:=⟨b - 1,by omega⟩
   exact⟨λ_=>j _,λh=>absurd (λk m g=>by omega) h⟩
  | succ d ih =>
   intro a b t q;obtain⟨f,rfl⟩:∃f,b=f+1:=⟨b - 1,by omega⟩
   obtain⟨u,v⟩:=ih (a+1) f (by omega) (by omega);have e:bI step (f+1) (F a)=step (F a) (bI step f):=rfl;rw[e];by_cases n:p a
   ·rw[r a _ (by omega) n];refine⟨λh=>u λk m g=>h k (by omega) g,λh=>v λo=>h λk m g=> ?_⟩
    by_cases l:k=a
    ·subst l;exact n
    ·exact o k (by omega) g
   ·exact⟨λh=>absurd (h a (zAf _) (by omega)) n,λ_=>i a _ (by omega) n⟩
 intro b q;obtain⟨m,g⟩:=s N 0 b (by omega) q;exact⟨λh=>m λk _ l=>h k l,λh=>g λo=>h λk l=>o k (by omega) l⟩
theorem CM {X R:Type} {step:X->(X->Option R)->Option R} {K:X->Option R} (N:Nat) (I:Nat->X->Prop) (e:∀(k:Nat) x i,k<N->I k x->∃c,I (k+1) c∧step x i=i c) (h:∀x i,I N x->step x i=K x):∀b x,I 0 x->N<b->∃c,I N c∧bI step b x=K c:=by
 have m:∀(d a b:Nat) (x:X),a+d=N->d<b->I a x->∃c,I N c∧bI step b x=K c:=by
  intro d
  induction d with
  |zero=>
   intro a b x p l g;obtain rfl:a=N:=by omega
   obtain⟨f,rfl⟩:∃f,b=f+1:=⟨b - 1,by omega⟩
   exact⟨x,g,h _ _ g⟩
  |succ d r=>
   intro a b x p l g;obtain⟨f,rfl⟩:∃f,b=f+1:=⟨b - 1,by omega⟩
   obtain⟨c,j,q⟩:=e a x (bI step f) (by omega) g;obtain⟨s,n,o⟩:=r (a+1) f c (by omega) (by omega) j;exact⟨s,n,by rw[<-o];exact q⟩
 exact λb x g l=>m N 0 b x (by omega) l g
def abr (q:Nat->Bool):Nat->Bool
 |0=>false
 |k+1=>abr q k||q k
theorem Ya {q:Nat->Bool}:∀{k:Nat},abr q k=true↔∃i,i<k∧q i=true
 |0=>by simp[abr]
 | k + 1 => by
  simp only[abr,zAr,Ya (k:=k)];constructor
  ·rintro(⟨i,b,a⟩|h)
   ·exact⟨i,by omega,a⟩
   ·exact⟨k,by omega,h⟩
  ·rintro⟨i,b,a⟩;by_cases e:i=k
   ·subst e;exact .inr a
   ·exact .inl ⟨i,by omega,a⟩
def Cd (p:Nat->Bool):Nat->Nat
 |0=>0
 |k+1=>if p k then Cd p k ||| 2^k else Cd p k
theorem QI (p:Nat->Bool):∀k,Cd p k<2^k
 |0=>by simp[Cd]
 |k+1=>by
  have h:=QI p k;simp only[Cd];split
  ·exact Nat.or_lt_two_pow (by omega) (Nat.pow_lt_pow_right (by omega) (by omega))
  ·omega
theorem Ni (p:Nat->Bool) (j:Nat):∀k,(Cd p k).testBit j=(decide (j<k)&&p j)
 |0=>by simp[Cd]
 | k + 1 => by
  have h:=Ni p j k;simp only[Cd];by_cases e:j=k
  ·subst e;cases c:p j<;>simp[h,c]
  ·have a:decide (j<k+1)=decide (j<k):=decide_eq_decide.2 (by omega);have b:¬k=j:=λh=>e h.symm;split
   ·rw[Nat.testBit_or,h,zB0,a];simp[b]
   ·rw[h,a]
end Go.Sx