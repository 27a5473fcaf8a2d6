/- Models of functions with their proofs, by program (gen/xt.py), and plain laws, in one text. Conditions: none. -/
import Derived.Test.YtdbcpliafeoghaaGreatDoorZSTe4
set_option linter.unusedVariables false
set_option linter.unusedSimpArgs false
set_option maxHeartbeats 4000000
set_option maxRecDepth 20000
section
namespace Go.Proofs.YtdbcpliafeoghaaGreatDoor
open Go.Sx
def tab0:List Int:=[0,1,28,2,29,14,24,3,30,22,20,15,25,17,4,8,31,27,13,23,21,19,16,7,26,12,18,6,11,5,10,9]
theorem _root_.Go.Sx.Y.bld5 {P:Program} {c:Ctx} {n:Sz} {σ:Fr} {M L:List Fact} {d:Option Tmp} {ty:TypeId} {pos:String} {aft:Array Edge} {g:Option (Nat×Bool)} {T:TypeId} {i0 i1 i2 i3 i4:Nat} {x0 x1 x2 x3 x4:Operand} {v0 v1 v2 v3 v4:Value} {r:Value} (h0:ev σ x0=some v0) (h1:ev σ x1=some v1) (h2:ev σ x2=some v2) (h3:ev σ x3=some v3) (h4:ev σ x4=some v4) (hr:∀w,(Instr.build T ([(i0,v0),(i1,v1),(i2,v2),(i3,v3),(i4,v4)]:List (Nat×Value)).toArray).run P w = .ok r w):Y P c n σ M L ⟨d,.build T #[(i0,x0),(i1,x1),(i2,x2),(i3,x3),(i4,x4)],ty,pos,aft,g⟩ r:=
 Y.buildOf (ps:=[(i0,x0),(i1,x1),(i2,x2),(i3,x3),(i4,x4)]) (vs:=[(i0,v0),(i1,v1),(i2,v2),(i3,v3),(i4,v4)]) (by simp[h0,h1,h2,h3,h4]) hr
abbrev ESt:Enc ByteArray:=⟨1,Nat.one_pos,fun x=>[.string x],fun _=>rfl⟩
abbrev RSt:Rep ByteArray:=⟨1,Nat.one_pos,fun _ _ cs x=>cs=[.string x],fun h=>by simp[h],fun h _=>h⟩
theorem FSt:ESt.Fits RSt:=⟨rfl,fun h=>h,rfl,fun _=>rfl⟩
abbrev EI64:Enc Int:=Enc.int .i64
abbrev RI64:Rep Int:=Rep.int .i64
theorem FI64:EI64.Fits RI64:=Enc.int_fits .i64
theorem RI64c0:RI64.Cell 0 (fun x=> .int .i64 x):=Rep.int_cell .i64
abbrev EStI64I64I64I64I64p:Enc (ByteArray×Int×Int×Int×Int×Int):=Enc.pair ESt (Enc.pair EI64 (Enc.pair EI64 (Enc.pair EI64 (Enc.pair EI64 (EI64)))))
abbrev RStI64I64I64I64I64p:Rep (ByteArray×Int×Int×Int×Int×Int):=Rep.pair RSt (Rep.pair RI64 (Rep.pair RI64 (Rep.pair RI64 (Rep.pair RI64 (RI64)))))
theorem FStI64I64I64I64I64p:EStI64I64I64I64I64p.Fits RStI64I64I64I64I64p:=Enc.pair_fits FSt (Enc.pair_fits FI64 (Enc.pair_fits FI64 (Enc.pair_fits FI64 (Enc.pair_fits FI64 (FI64)))))
abbrev EU8:Enc Int:=Enc.int .u8
abbrev EI64I64p:Enc (Int×Int):=Enc.pair EI64 (EI64)
abbrev RI64I64p:Rep (Int×Int):=Rep.pair RI64 (RI64)
theorem FI64I64p:EI64I64p.Fits RI64I64p:=Enc.pair_fits FI64 (FI64)
theorem RI64I64pc0:RI64I64p.Cell 0 (fun x=> .int .i64 x.1):=Rep.pair_cell1 (RI64c0)
abbrev EBo:Enc Bool:=Enc.bool
abbrev RU32:Rep Int:=Rep.int .u32
theorem RU32c0:RU32.Cell 0 (fun x=> .int .u32 x):=Rep.int_cell .u32
def vI64 (x:Int):Value:=Value.int .i64 (x)
def vI64I64p (x:Int×Int):Value:=Value.agg #[Value.int .i64 (x.1),Value.int .i64 (x.2)]
theorem key_T33 (x y:ByteArray×Int×Int×Int×Int×Int) (m:Nat) (w:World):(Op.equalIn (m+2) 33 (.agg #[.string x.1,.int .i64 x.2.1,.int .i64 x.2.2.1,.int .i64 x.2.2.2.1,.int .i64 x.2.2.2.2.1,.int .i64 x.2.2.2.2.2]) (.agg #[.string y.1,.int .i64 y.2.1,.int .i64 y.2.2.1,.int .i64 y.2.2.2.1,.int .i64 y.2.2.2.2.1,.int .i64 y.2.2.2.2.2])).run Tryz.prog w = .ok (decide (x=y)) w:=by
 have h3:∀a b:Int,(Op.equalIn (m+1) 3 (.int .i64 a) (.int .i64 b)).run Tryz.prog w = .ok (a==b) w:=by
  intro a b
  simp[Op.equalIn]
 have h9:∀a b:ByteArray,(Op.equalIn (m+1) 9 (.string a) (.string b)).run Tryz.prog w = .ok (decide (a=b)) w:=by
  intro a b
  simp[Op.equalIn,beqB]
 have hs:Tryz.prog.stoodInHeld 33=false:=by kernel_rfl
 unfold Op.equalIn
 simp[hs,part,isAgg,h3,h9]
 obtain⟨a0,a1,a2,a3,a4,a5⟩:=x
 obtain⟨c0,c1,c2,c3,c4,c5⟩:=y
 by_cases e0:a0=c0<;>by_cases e1:a1=c1<;>by_cases e2:a2=c2<;>by_cases e3:a3=c3<;>by_cases e4:a4=c4<;>by_cases e5:a5=c5<;>simp[e0,e1,e2,e3,e4,e5,h3,h9]
theorem guard_T33 (x y:Operand) (u v:Array Value) (op:BinOp) (w:World):(eqGuard op 33 x y (.agg u) (.agg v)).run Tryz.prog w = .ok () w:=by
 have hg:Tryz.prog.eqGuardType Tryz.prog.depth 33=false:=by kernel_rfl
 unfold eqGuard
 cases op<;>simp[hg]
theorem eq_T33N (x y:ByteArray×Int×Int×Int×Int×Int) (p q:Operand) (w:World):(eqGuard .neq 33 p q (.agg #[.string x.1,.int .i64 x.2.1,.int .i64 x.2.2.1,.int .i64 x.2.2.2.1,.int .i64 x.2.2.2.2.1,.int .i64 x.2.2.2.2.2]) (.agg #[.string y.1,.int .i64 y.2.1,.int .i64 y.2.2.1,.int .i64 y.2.2.2.1,.int .i64 y.2.2.2.2.1,.int .i64 y.2.2.2.2.2])).run Tryz.prog w = .ok () w∧(binOp .neq 33 (.agg #[.string x.1,.int .i64 x.2.1,.int .i64 x.2.2.1,.int .i64 x.2.2.2.1,.int .i64 x.2.2.2.2.1,.int .i64 x.2.2.2.2.2]) (.agg #[.string y.1,.int .i64 y.2.1,.int .i64 y.2.2.1,.int .i64 y.2.2.2.1,.int .i64 y.2.2.2.2.1,.int .i64 y.2.2.2.2.2])).run Tryz.prog w = .ok (.bool (decide (x≠y))) w:=by
 refine⟨guard_T33 _ _ _ _ _ _,?_⟩
 have h:(Op.equal 33 (.agg #[.string x.1,.int .i64 x.2.1,.int .i64 x.2.2.1,.int .i64 x.2.2.2.1,.int .i64 x.2.2.2.2.1,.int .i64 x.2.2.2.2.2]) (.agg #[.string y.1,.int .i64 y.2.1,.int .i64 y.2.2.1,.int .i64 y.2.2.2.1,.int .i64 y.2.2.2.2.1,.int .i64 y.2.2.2.2.2])).run Tryz.prog w = .ok (decide (x=y)) w:=key_T33 x y 9998 w
 simp[binOp,h]
theorem key_T189 (x y:Int×Int) (m:Nat) (w:World):(Op.equalIn (m+2) 189 (.agg #[.int .i64 x.1,.int .i64 x.2]) (.agg #[.int .i64 y.1,.int .i64 y.2])).run Tryz.prog w = .ok (decide (x=y)) w:=by
 have h3:∀a b:Int,(Op.equalIn (m+1) 3 (.int .i64 a) (.int .i64 b)).run Tryz.prog w = .ok (a==b) w:=by
  intro a b
  simp[Op.equalIn]
 unfold Op.equalIn
 simp[show List.range' 0 2=[0,1]from rfl,part,isAgg,h3]
 obtain⟨a0,a1⟩:=x
 obtain⟨c0,c1⟩:=y
 by_cases e0:a0=c0<;>by_cases e1:a1=c1<;>simp[e0,e1,h3]
theorem chk_T189 (b:Bool) (k:Int×Int) (w:World):(Instr.checkKey b 10000 189 (vI64I64p k)).run Tryz.prog w = .ok () w:=by
 have key:∀m:Nat,(Instr.checkKey b (m+2) 189 (vI64I64p k)).run Tryz.prog w = .ok () w:=by
  intro m
  simp[Instr.checkKey,vI64I64p,part,isAgg,show List.range' 0 2=[0,1]from rfl]
 exact key 9998
theorem kok_189:KeyOk Tryz.prog 189 vI64I64p:=KeyOk.deep Tryz.underlying189 chk_T189 (fun _ _=>rfl) (fun a b w=>key_T189 a b 9998 w) (fun k=>by
 have key:∀m:Nat,Instr.sameBits (m+2) (vI64I64p k) (vI64I64p k)=true:=fun m=>by simp[Instr.sameBits,vI64I64p]
 exact key 9998)
theorem fill_1_1 (u0:Value) (h0:one u0=true) (init:Array Value) (h:init.size=1*1):Instr.fill (fun i=>some (i*1,1)) init [(0,u0)]=some [u0].toArray:=by
 obtain⟨l⟩:=init
 match l,h with
 | [z0],_=>simp[Instr.fill,one_cells h0]
theorem fill_1_2 (u0 u1:Value) (init:Array Value) (h:init.size=1*2):Instr.fill (fun i=>some (i*2,2)) init [(0,.agg #[u0,u1])]=some [u0,u1].toArray:=by
 obtain⟨l⟩:=init
 match l,h with
 | [z0,z1],_=>simp[Instr.fill,Value.cells]
theorem fill_2_1 (u0 u1:Value) (h0:one u0=true) (h1:one u1=true) (init:Array Value) (h:init.size=2*1):Instr.fill (fun i=>some (i*1,1)) init [(0,u0),(1,u1)]=some [u0,u1].toArray:=by
 obtain⟨l⟩:=init
 match l,h with
 | [z0,z1],_=>simp[Instr.fill,one_cells h0,one_cells h1]
theorem fill_2_6 (u0 u1 u2 u3 u4 u5 u6 u7 u8 u9 u10 u11:Value) (init:Array Value) (h:init.size=2*6):Instr.fill (fun i=>some (i*6,6)) init [(0,.agg #[u0,u1,u2,u3,u4,u5]),(1,.agg #[u6,u7,u8,u9,u10,u11])]=some [u0,u1,u2,u3,u4,u5,u6,u7,u8,u9,u10,u11].toArray:=by
 obtain⟨l⟩:=init
 match l,h with
 | [z0,z1,z2,z3,z4,z5,z6,z7,z8,z9,z10,z11],_=>simp[Instr.fill,Value.cells]
theorem fill_4_1 (u0 u1 u2 u3:Value) (h0:one u0=true) (h1:one u1=true) (h2:one u2=true) (h3:one u3=true) (init:Array Value) (h:init.size=4*1):Instr.fill (fun i=>some (i*1,1)) init [(0,u0),(1,u1),(2,u2),(3,u3)]=some [u0,u1,u2,u3].toArray:=by
 obtain⟨l⟩:=init
 match l,h with
 | [z0,z1,z2,z3],_=>simp[Instr.fill,one_cells h0,one_cells h1,one_cells h2,one_cells h3]
theorem fill_6_1 (u0 u1 u2 u3 u4 u5:Value) (h0:one u0=true) (h1:one u1=true) (h2:one u2=true) (h3:one u3=true) (h4:one u4=true) (h5:one u5=true) (init:Array Value) (h:init.size=6*1):Instr.fill (fun i=>some (i*1,1)) init [(0,u0),(1,u1),(2,u2),(3,u3),(4,u4),(5,u5)]=some [u0,u1,u2,u3,u4,u5].toArray:=by
 obtain⟨l⟩:=init
 match l,h with
 | [z0,z1,z2,z3,z4,z5],_=>simp[Instr.fill,one_cells h0,one_cells h1,one_cells h2,one_cells h3,one_cells h4,one_cells h5]
end Go.Proofs.YtdbcpliafeoghaaGreatDoor
end
section
namespace Go.Proofs.YtdbcpliafeoghaaGreatDoor
open Go.Sx
def graph_DifferentIDs_k1  (a2:Unit):Option (Bool):=
 some (true)
def graph_DifferentIDs_k2 (p0:List (Int)) (a7:Int×List (Bool)) (ag6:(Int×List (Bool))->Option (Bool)) (a13:Bool):Option (Bool):=
 if a13=true then(some (false))else(ck ((0<=(at' p0 a7.1)∧(at' p0 a7.1)<((256:Nat):Int))∧List.length a7.2=256) (ag6 ((wI .i64 (a7.1+(1:Int))),(List.set a7.2 (Int.toNat (at' p0 a7.1)) true))))
def graph_DifferentIDs_s1 (p0:List (Int)) (a7:Int×List (Bool)) (ag6:(Int×List (Bool))->Option (Bool)):Option (Bool):=
 if a7.1<(List.length p0:Int)then(ck (0<=a7.1∧a7.1<(List.length p0:Int)) (if(at' p0 a7.1)<(0:Int)then(graph_DifferentIDs_k2 p0 a7 ag6 (true))else(if(255:Int)<(at' p0 a7.1)then(graph_DifferentIDs_k2 p0 a7 ag6 (true))else(ck ((0<=(at' p0 a7.1)∧(at' p0 a7.1)<((256:Nat):Int))∧List.length a7.2=256) (graph_DifferentIDs_k2 p0 a7 ag6 ((at' a7.2 (at' p0 a7.1))))))))else(graph_DifferentIDs_k1  (()))
def m_graph_DifferentIDs (fuel:Nat) (p0:List (Int)):Option (Bool):=
 iter (graph_DifferentIDs_s1 p0) fuel ((0:Int),(List.replicate 256 false))
theorem body162:HasBody Tryz.prog 162:=Tryz.call162
theorem t_graph_DifferentIDs (fuel:Nat) {p0:List (Int)} (v0:Value) (r:Bool) (h:m_graph_DifferentIDs fuel p0=some r):
  Meets Tryz.prog 162 #[v0] [Sl RI64 v0 p0] (fun x:Unit=>Value.bool (r)) (fun x l=>l) (fun _ l=>l):=by
 refine Meets.of (vs:=[v0]) Tryz.func162 rfl Tryz.ntmps162 rfl fun c=> ?_
 unfold m_graph_DifferentIDs at h
 refine J.seq<|J.region<|J.quiet (Y.assign rfl) rfl<|J.done<|J.thenN<|J.seq<|J.region ?_
 refine J.loud (Loud.alloc (cs:=cellsOf EBo (List.replicate 256 false)) rfl (by kernel_rfl)) rfl fun b1=> ?_
 refine J.done<|J.thenN<|J.seq<|J.midI (A:=Unit) (B:=Unit) (fun a2=>graph_DifferentIDs_k1  a2=some r) (fun a2 b3=>[]) (fun a2 b3=>[]) (fun a2 b3=>[Sl RI64 v0 p0]) ?_ ?_
 ·refine J.seq<|J.region<|J.quiet (Y.move rfl) rfl<|J.quiet (Y.lenS rfl (Lent.fact 0 rfl) rfl) rfl<|J.quiet (Y.move rfl) rfl<|J.done<|J.thenN<|J.block<|J.loopI (A:=Int×List (Bool)) (B:=Unit) (graph_DifferentIDs_s1 p0) (fun a7 b8=>[(3,Value.pointer (some ⟨b1,0,none⟩)),(6,v0),(7,Value.int .i64 (List.length p0:Int)),(8,Value.int .i64 (a7.1))]) (fun a7 b8=>[Blk b1 (cellsOf EBo a7.2) 213]) (fun a7 b8=>[Sl RI64 v0 p0]) ((0:Int),(List.replicate 256 false)) (()) h SF (SubM.refl _) (LentAll.refl _ _) ?_
  clear h
  intro k9 a7 b8 h
  unfold graph_DifferentIDs_s1 at h
  refine J.seq<|J.region<|J.quiet (Y.lss rfl rfl) rfl<|J.done<|J.thenN<|J.seq ?_
  refine J.condD (by exact rfl) (fun hp10=> ?_) (fun hp10=> ?_)
  ·have h:=ifP hp10 h
   refine J.skip<|J.thenN<|J.seq<|J.block<|J.seq<|J.region ?_
   have h:=ck_some h;obtain⟨hc11,h⟩:=h
   refine J.quiet (Y.indexS rfl rfl (Lent.fact 0 rfl) rfl rfl hc11) rfl<|J.quiet (Y.loadS0 rfl (Lent.fact 0 rfl) rfl rfl rfl RI64c0 hc11) rfl<|J.quiet (Y.assign rfl) rfl<|J.done<|J.thenN<|J.seq<|J.seq<|J.midI (A:=Bool) (B:=Unit) (fun a13=>graph_DifferentIDs_k2 p0 a7 (iter (graph_DifferentIDs_s1 p0) k9) a13=some r) (fun a13 b14=>[(3,Value.pointer (some ⟨b1,0,none⟩)),(5,Value.int .i64 (at' p0 a7.1)),(6,v0),(7,Value.int .i64 (List.length p0:Int)),(8,Value.int .i64 (a7.1)),(22,Value.bool (a13))]) (fun a13 b14=>[Blk b1 (cellsOf EBo a7.2) 213]) (fun a13 b14=>[Sl RI64 v0 p0]) ?_ ?_
   ·refine J.region<|J.quiet (Y.move rfl) rfl<|J.quiet (Y.lss rfl rfl) rfl<|J.quiet (Y.move rfl) rfl ?_
    refine J.guardD (by exact rfl) (by exact rfl) (fun hp17=> ?_) (fun hp17=> ?_)
    ·have h:=ifP hp17 h
     refine J.guardN rfl rfl rfl<|J.guardN rfl rfl rfl<|J.quiet (Y.pickT rfl rfl) rfl<|J.quiet (Y.move rfl) rfl<|J.guardN rfl rfl rfl<|J.guardN rfl rfl rfl<|J.guardN rfl rfl rfl<|J.quiet (Y.pickT rfl rfl) rfl<|J.done<|J.thenN ?_
     exact J.meetI (true) (()) h SF (SubM.refl _) (LentAll.refl _ _)
    ·have h:=ifN hp17 h
     refine J.guardY rfl (Y.move rfl) rfl<|J.guardY rfl (Y.gtr rfl rfl) rfl<|J.quiet (Y.pickF rfl rfl) rfl<|J.quiet (Y.move rfl) rfl ?_
     refine J.guardD (by exact rfl) (by exact rfl) (fun hp18=> ?_) (fun hp18=> ?_)
     ·have h:=ifP hp18 h
      refine J.guardN rfl rfl rfl<|J.guardN rfl rfl rfl<|J.guardN rfl rfl rfl<|J.quiet (Y.pickT rfl rfl) rfl<|J.done<|J.thenN ?_
      exact J.meetI (true) (()) h SF (SubM.refl _) (LentAll.refl _ _)
     ·have h:=ifN hp18 h
      refine J.guardY rfl (Y.move rfl) rfl ?_
      have h:=ck_some h;obtain⟨hc19,h⟩:=h
      refine J.guardY rfl (Y.indexArr rfl rfl rfl rfl rfl hc19.1) rfl<|J.guardY rfl (Y.loadArr (e:=EBo) rfl (Lent.res 0 rfl) rfl rfl rfl rfl hc19) rfl<|J.quiet (Y.pickF rfl rfl) rfl<|J.done<|J.thenN ?_
      exact J.meetI ((at' a7.2 (at' p0 a7.1))) (()) h SF (SubM.refl _) (LentAll.refl _ _)
   ·clear h
    intro a13 b14 h
    unfold graph_DifferentIDs_k2 at h
    refine J.cond (by exact rfl) (fun hp15=> ?_) (fun hp15=> ?_)
    ·have h:=ifP hp15 h
     refine J.seq<|J.region<|J.quiet (Y.assign rfl) rfl<|J.done<|J.thenN<|J.ret<|J.thenR<|J.inR<|J.thenR<|J.thenR<|J.inR<|J.thenR ?_
     obtain rfl:=Option.some.inj h
     exact J.retG1 (()) rfl rfl (RV.tmp rfl) (SubM.nil) LentAll.nil
    ·have h:=ifBN hp15 h
     refine J.skip<|J.thenN<|J.region<|J.quiet (Y.move rfl) rfl ?_
     have h:=ck_some h;obtain⟨hc16,h⟩:=h
     refine J.quiet (Y.indexArr rfl rfl rfl rfl rfl hc16.1) rfl<|J.storeArr 0 (e:=EBo) true hc16 rfl rfl rfl rfl rfl rfl rfl<|J.done<|J.inN<|J.thenN<|J.region<|J.quiet (Y.addW rfl rfl) rfl<|J.quiet (Y.move rfl) rfl<|J.done<|J.thenN ?_
     exact J.againI ((wI .i64 (a7.1+(1:Int))),(List.set a7.2 (Int.toNat (at' p0 a7.1)) true)) (()) h SF (SubM.refl _) (LentAll.refl _ _)
  ·have h:=ifN hp10 h
   refine J.exit<|J.thenX<|J.thenX<|J.inX<|J.thenN ?_
   exact J.meetI (()) (()) h SF (SubM.nil) (LentAll.refl _ _)
 ·clear h
  intro a2 b3 h
  unfold graph_DifferentIDs_k1 at h
  refine J.seq<|J.region<|J.quiet (Y.assign rfl) rfl<|J.done<|J.thenN<|J.ret ?_
  obtain rfl:=Option.some.inj h
  exact J.retG1 (()) rfl rfl (RV.tmp rfl) (SubM.refl _) LentAll.nil
end Go.Proofs.YtdbcpliafeoghaaGreatDoor
end
section
namespace Go.Proofs.YtdbcpliafeoghaaGreatDoor
open Go.Sx
def graph_symmetric_s1 (a3:(List ((Int×Int)×Int))) (kv6:(Int×Int)×Int) (xa9:Option (Bool)):Option (Bool):=
 if(Option.getD (mget (kv6.1.2,kv6.1.1) a3) (0:Int))≠kv6.2 then(some (false))else(xa9)
def graph_symmetric_k1  (a3:(List ((Int×Int)×Int))):Option (Bool):=
 mrun (graph_symmetric_s1 a3) (some (true)) a3
def graph_symmetric_k2 (a17:Int×(List ((Int×Int)×Int))) (ag16:(Int×(List ((Int×Int)×Int)))->Option (Bool)) (a22:(List ((Int×Int)×Int))):Option (Bool):=
 ag16 ((wI .i64 (a17.1+(1:Int))),a22)
def graph_symmetric_k4 (p0:List (List (Int×Int))) (a17:Int×(List ((Int×Int)×Int))) (a28:Int×(List ((Int×Int)×Int))) (ag27:(Int×(List ((Int×Int)×Int)))->Option (Bool)) (a39:Bool):Option (Bool):=
 if a39=true then(some (false))else(if(Option.isSome (mget (a17.1,((at' (at' p0 a17.1) a28.1).1)) a28.2))=true then(some (false))else(ag27 ((wI .i64 (a28.1+(1:Int))),(mset (a17.1,((at' (at' p0 a17.1) a28.1).1)) ((at' (at' p0 a17.1) a28.1).2) a28.2))))
def graph_symmetric_k3 (p0:List (List (Int×Int))) (a17:Int×(List ((Int×Int)×Int))) (a28:Int×(List ((Int×Int)×Int))) (ag27:(Int×(List ((Int×Int)×Int)))->Option (Bool)) (a35:Bool):Option (Bool):=
 if a35=true then(some (false))else(if((at' (at' p0 a17.1) a28.1).2)<(1:Int)then(graph_symmetric_k4 p0 a17 a28 ag27 (true))else(graph_symmetric_k4 p0 a17 a28 ag27 (decide ((15:Int)<((at' (at' p0 a17.1) a28.1).2)))))
def graph_symmetric_s3 (p0:List (List (Int×Int))) (a17:Int×(List ((Int×Int)×Int))) (ag16:(Int×(List ((Int×Int)×Int)))->Option (Bool)) (a28:Int×(List ((Int×Int)×Int))) (ag27:(Int×(List ((Int×Int)×Int)))->Option (Bool)):Option (Bool):=
 if a28.1<(List.length (at' p0 a17.1):Int)then(ck (0<=a28.1∧a28.1<(List.length (at' p0 a17.1):Int)) (if((at' (at' p0 a17.1) a28.1).1)<(0:Int)then(graph_symmetric_k3 p0 a17 a28 ag27 (true))else(if(List.length p0:Int)<=((at' (at' p0 a17.1) a28.1).1)then(graph_symmetric_k3 p0 a17 a28 ag27 (true))else(graph_symmetric_k3 p0 a17 a28 ag27 (decide (((at' (at' p0 a17.1) a28.1).1)=a17.1))))))else(graph_symmetric_k2 a17 ag16 (a28.2))
def graph_symmetric_s2 (fuel:Nat) (p0:List (List (Int×Int))) (a17:Int×(List ((Int×Int)×Int))) (ag16:(Int×(List ((Int×Int)×Int)))->Option (Bool)):Option (Bool):=
 if a17.1<(List.length p0:Int)then(ck (0<=a17.1∧a17.1<(List.length p0:Int)) (iter (graph_symmetric_s3 p0 a17 ag16) fuel ((0:Int),a17.2)))else(graph_symmetric_k1  (a17.2))
def m_graph_symmetric (fuel:Nat) (p0:List (List (Int×Int))):Option (Bool):=
 iter (graph_symmetric_s2 fuel p0) fuel ((0:Int),([]:List ((Int×Int)×Int)))
theorem body163:HasBody Tryz.prog 163:=Tryz.call163
theorem t_graph_symmetric (fuel:Nat) {p0:List (List (Int×Int))} (v0:Value)  (z1:List (Value×List (Int×Int))) (r:Bool) (h:m_graph_symmetric fuel p0=some r):
  Meets Tryz.prog 163 #[v0] [S2 RI64I64p v0 z1 p0] (fun x:Unit=>Value.bool (r)) (fun x l=>l) (fun _ l=>l):=by
 refine Meets.of (vs:=[v0]) Tryz.func163 rfl Tryz.ntmps163 rfl fun c=> ?_
 unfold m_graph_symmetric at h
 refine J.seq<|J.region<|J.quiet (Y.assign rfl) rfl<|J.done<|J.thenN<|J.seq<|J.region<|J.loud (Loud.makeMap vI64I64p vI64) rfl fun b1=>J.quiet (Y.assign rfl) rfl<|J.done<|J.thenN<|J.seq<|J.midI (A:=(List ((Int×Int)×Int))) (B:=Unit) (fun a3=>graph_symmetric_k1  a3=some r) (fun a3 b4=>[(3,Value.map (some b1))]) (fun a3 b4=>[Mp vI64I64p vI64 b1 a3]) (fun a3 b4=>[S2 RI64I64p v0 z1 p0]) ?_ ?_
 ·refine J.seq<|J.region<|J.quiet (Y.move rfl) rfl<|J.quiet (Y.lenN rfl (Lent.fact 0 rfl) rfl) rfl<|J.quiet (Y.move rfl) rfl<|J.done<|J.thenN<|J.block<|J.loopI (A:=Int×(List ((Int×Int)×Int))) (B:=Unit) (graph_symmetric_s2 fuel p0) (fun a17 b18=>[(0,v0),(3,Value.map (some b1)),(14,v0),(15,Value.int .i64 (List.length p0:Int)),(16,Value.int .i64 (a17.1))]) (fun a17 b18=>[Mp vI64I64p vI64 b1 a17.2]) (fun a17 b18=>[S2 RI64I64p v0 z1 p0]) ((0:Int),([]:List ((Int×Int)×Int))) (()) h SF (SubM.refl _) (LentAll.refl _ _) ?_
  clear h
  intro k19 a17 b18 h
  unfold graph_symmetric_s2 at h
  refine J.seq<|J.region<|J.quiet (Y.lss rfl rfl) rfl<|J.done<|J.thenN<|J.seq ?_
  refine J.condD (by exact rfl) (fun hp20=> ?_) (fun hp20=> ?_)
  ·have h:=ifP hp20 h
   refine J.skip<|J.thenN<|J.seq<|J.midI (A:=(List ((Int×Int)×Int))) (B:=Unit) (fun a22=>graph_symmetric_k2 a17 (iter (graph_symmetric_s2 fuel p0) k19) a22=some r) (fun a22 b23=>[(0,v0),(3,Value.map (some b1)),(14,v0),(15,Value.int .i64 (List.length p0:Int)),(16,Value.int .i64 (a17.1))]) (fun a22 b23=>[Mp vI64I64p vI64 b1 a22]) (fun a22 b23=>[S2 RI64I64p v0 z1 p0]) ?_ ?_
   ·refine J.block<|J.seq<|J.region<|J.quiet (Y.move rfl) rfl ?_
    have h:=ck_some h;obtain⟨hc24,h⟩:=h
    refine J.quiet (Y.indexN rfl rfl (Lent.fact 0 rfl) rfl rfl hc24) rfl<|J.quiet (Y.loadRow rfl (Lent.fact 0 rfl) rfl rfl hc24) rfl<|J.quiet (Y.assign rfl) rfl<|J.quiet (Y.assign rfl) rfl<|J.done<|J.thenN<|J.seq<|J.region<|J.quiet (Y.move rfl) rfl<|J.quiet (Y.lenS rfl (Lent.el (Lent.fact 0 rfl) hc24.1 hc24.2) rfl) rfl<|J.quiet (Y.move rfl) rfl<|J.done<|J.thenN<|J.block<|J.loopI (A:=Int×(List ((Int×Int)×Int))) (B:=Unit) (graph_symmetric_s3 p0 a17 (iter (graph_symmetric_s2 fuel p0) k19)) (fun a28 b29=>[(0,v0),(3,Value.map (some b1)),(4,Value.int .i64 (a17.1)),(14,v0),(15,Value.int .i64 (List.length p0:Int)),(16,Value.int .i64 (a17.1)),(21,(at' z1 a17.1).1),(22,Value.int .i64 (List.length (at' p0 a17.1):Int)),(23,Value.int .i64 (a28.1))]) (fun a28 b29=>[Mp vI64I64p vI64 b1 a28.2]) (fun a28 b29=>[S2 RI64I64p v0 z1 p0]) ((0:Int),a17.2) (()) h SF (SubM.refl _) (LentAll.refl _ _) ?_
    clear h
    intro k30 a28 b29 h
    unfold graph_symmetric_s3 at h
    refine J.seq<|J.region<|J.quiet (Y.lss rfl rfl) rfl<|J.done<|J.thenN<|J.seq ?_
    refine J.condD (by exact rfl) (fun hp31=> ?_) (fun hp31=> ?_)
    ·have h:=ifP hp31 h
     refine J.skip<|J.thenN<|J.seq<|J.block<|J.seq<|J.region ?_
     have h:=ck_some h;obtain⟨hc32,h⟩:=h
     refine J.quiet (Y.indexS rfl rfl (Lent.el (Lent.fact 0 rfl) hc24.1 hc24.2) rfl rfl hc32) rfl<|J.quiet (Y.loadAggS (cs:=[Value.int .i64 ((at' (at' p0 a17.1) a28.1).1),Value.int .i64 ((at' (at' p0 a17.1) a28.1).2)]) rfl (Lent.el (Lent.fact 0 rfl) hc24.1 hc24.2) FI64I64p rfl rfl rfl rfl hc32) rfl<|J.loud (Loud.alloc (cs:=[Value.int .i64 (0:Int),Value.int .i64 (0:Int)]) rfl rfl) rfl fun b33=>J.storeAll 0 (vs:=[Value.int .i64 ((at' (at' p0 a17.1) a28.1).1),Value.int .i64 ((at' (at' p0 a17.1) a28.1).2)]) rfl rfl rfl rfl rfl rfl<|J.done<|J.thenN<|J.seq<|J.seq<|J.midI (A:=Bool) (B:=Unit) (fun a35=>graph_symmetric_k3 p0 a17 a28 (iter (graph_symmetric_s3 p0 a17 (iter (graph_symmetric_s2 fuel p0) k19)) k30) a35=some r) (fun a35 b36=>[(0,v0),(3,Value.map (some b1)),(4,Value.int .i64 (a17.1)),(7,Value.pointer (some ⟨b33,0,none⟩)),(14,v0),(15,Value.int .i64 (List.length p0:Int)),(16,Value.int .i64 (a17.1)),(21,(at' z1 a17.1).1),(22,Value.int .i64 (List.length (at' p0 a17.1):Int)),(23,Value.int .i64 (a28.1)),(42,Value.bool (a35))]) (fun a35 b36=>[Blk b33 [Value.int .i64 ((at' (at' p0 a17.1) a28.1).1),Value.int .i64 ((at' (at' p0 a17.1) a28.1).2)] 131,Mp vI64I64p vI64 b1 a28.2]) (fun a35 b36=>[S2 RI64I64p v0 z1 p0]) ?_ ?_
     ·refine J.region<|J.quiet (Y.fieldB rfl rfl rfl rfl rfl) rfl<|J.quiet (Y.loadB 0 rfl rfl rfl rfl rfl) rfl<|J.quiet (Y.lss rfl rfl) rfl<|J.quiet (Y.move rfl) rfl ?_
      refine J.guardD (by exact rfl) (by exact rfl) (fun hp45=> ?_) (fun hp45=> ?_)
      ·have h:=ifP hp45 h
       refine J.guardN rfl rfl rfl<|J.guardN rfl rfl rfl<|J.guardN rfl rfl rfl<|J.guardN rfl rfl rfl<|J.guardN rfl rfl rfl<|J.quiet (Y.pickT rfl rfl) rfl<|J.quiet (Y.move rfl) rfl<|J.guardN rfl rfl rfl<|J.guardN rfl rfl rfl<|J.guardN rfl rfl rfl<|J.guardN rfl rfl rfl<|J.quiet (Y.pickT rfl rfl) rfl<|J.done<|J.thenN ?_
       exact J.meetI (true) (()) h SF (SubM.refl _) (LentAll.refl _ _)
      ·have h:=ifN hp45 h
       refine J.guardY rfl (Y.fieldB rfl rfl rfl rfl rfl) rfl<|J.guardY rfl (Y.loadB 0 rfl rfl rfl rfl rfl) rfl<|J.guardY rfl (Y.move rfl) rfl<|J.guardY rfl (Y.lenN rfl (Lent.fact 0 rfl) rfl) rfl<|J.guardY rfl (Y.geq rfl rfl) rfl<|J.quiet (Y.pickF rfl rfl) rfl<|J.quiet (Y.move rfl) rfl ?_
       refine J.guardD (by exact rfl) (by exact rfl) (fun hp46=> ?_) (fun hp46=> ?_)
       ·have h:=ifP hp46 h
        refine J.guardN rfl rfl rfl<|J.guardN rfl rfl rfl<|J.guardN rfl rfl rfl<|J.guardN rfl rfl rfl<|J.quiet (Y.pickT rfl rfl) rfl<|J.done<|J.thenN ?_
        exact J.meetI (true) (()) h SF (SubM.refl _) (LentAll.refl _ _)
       ·have h:=ifN hp46 h
        refine J.guardY rfl (Y.fieldB rfl rfl rfl rfl rfl) rfl<|J.guardY rfl (Y.loadB 0 rfl rfl rfl rfl rfl) rfl<|J.guardY rfl (Y.move rfl) rfl<|J.guardY rfl (Y.eql rfl rfl) rfl<|J.quiet (Y.pickF rfl rfl) rfl<|J.done<|J.thenN ?_
        exact J.meetI (decide (((at' (at' p0 a17.1) a28.1).1)=a17.1)) (()) h SF (SubM.refl _) (LentAll.refl _ _)
     ·clear h
      intro a35 b36 h
      unfold graph_symmetric_k3 at h
      refine J.cond (by exact rfl) (fun hp37=> ?_) (fun hp37=> ?_)
      ·have h:=ifP hp37 h
       refine J.seq<|J.region<|J.quiet (Y.assign rfl) rfl<|J.done<|J.thenN<|J.ret<|J.thenR<|J.inR<|J.thenR<|J.thenR<|J.inR<|J.inR<|J.thenR<|J.thenR<|J.inR<|J.thenR ?_
       obtain rfl:=Option.some.inj h
       exact J.retG1 (()) rfl rfl (RV.tmp rfl) (SubM.nil) LentAll.nil
      ·have h:=ifBN hp37 h
       refine J.skip<|J.thenN<|J.seq<|J.seq<|J.midI (A:=Bool) (B:=Unit) (fun a39=>graph_symmetric_k4 p0 a17 a28 (iter (graph_symmetric_s3 p0 a17 (iter (graph_symmetric_s2 fuel p0) k19)) k30) a39=some r) (fun a39 b40=>[(0,v0),(3,Value.map (some b1)),(4,Value.int .i64 (a17.1)),(7,Value.pointer (some ⟨b33,0,none⟩)),(14,v0),(15,Value.int .i64 (List.length p0:Int)),(16,Value.int .i64 (a17.1)),(21,(at' z1 a17.1).1),(22,Value.int .i64 (List.length (at' p0 a17.1):Int)),(23,Value.int .i64 (a28.1)),(50,Value.bool (a39))]) (fun a39 b40=>[Blk b33 [Value.int .i64 ((at' (at' p0 a17.1) a28.1).1),Value.int .i64 ((at' (at' p0 a17.1) a28.1).2)] 131,Mp vI64I64p vI64 b1 a28.2]) (fun a39 b40=>[S2 RI64I64p v0 z1 p0]) ?_ ?_
       ·refine J.region<|J.quiet (Y.fieldB rfl rfl rfl rfl rfl) rfl<|J.quiet (Y.loadB 0 rfl rfl rfl rfl rfl) rfl<|J.quiet (Y.lss rfl rfl) rfl<|J.quiet (Y.move rfl) rfl ?_
        refine J.guardD (by exact rfl) (by exact rfl) (fun hp44=> ?_) (fun hp44=> ?_)
        ·have h:=ifP hp44 h
         refine J.guardN rfl rfl rfl<|J.guardN rfl rfl rfl<|J.guardN rfl rfl rfl<|J.quiet (Y.pickT rfl rfl) rfl<|J.done<|J.thenN ?_
         exact J.meetI (true) (()) h SF (SubM.refl _) (LentAll.refl _ _)
        ·have h:=ifN hp44 h
         refine J.guardY rfl (Y.fieldB rfl rfl rfl rfl rfl) rfl<|J.guardY rfl (Y.loadB 0 rfl rfl rfl rfl rfl) rfl<|J.guardY rfl (Y.gtr rfl rfl) rfl<|J.quiet (Y.pickF rfl rfl) rfl<|J.done<|J.thenN ?_
         exact J.meetI (decide ((15:Int)<((at' (at' p0 a17.1) a28.1).2))) (()) h SF (SubM.refl _) (LentAll.refl _ _)
       ·clear h
        intro a39 b40 h
        unfold graph_symmetric_k4 at h
        refine J.cond (by exact rfl) (fun hp41=> ?_) (fun hp41=> ?_)
        ·have h:=ifP hp41 h
         refine J.seq<|J.region<|J.quiet (Y.assign rfl) rfl<|J.done<|J.thenN<|J.ret<|J.thenR<|J.inR<|J.thenR<|J.thenR<|J.inR<|J.inR<|J.thenR<|J.thenR<|J.inR<|J.thenR ?_
         obtain rfl:=Option.some.inj h
         exact J.retG1 (()) rfl rfl (RV.tmp rfl) (SubM.nil) LentAll.nil
        ·have h:=ifBN hp41 h
         refine J.skip<|J.thenN<|J.seq<|J.region<|J.quiet (Y.move rfl) rfl<|J.quiet (Y.fieldB rfl rfl rfl rfl rfl) rfl<|J.quiet (Y.loadB 0 rfl rfl rfl rfl rfl) rfl ?_
         refine J.quiet (Y.bld2 (r:=Value.agg #[Value.int .i64 (a17.1),Value.int .i64 ((at' (at' p0 a17.1) a28.1).1)]) rfl rfl (by intro w;simp[Instr.build,Instr.fill,cells_intV,cells_boolV,cells_sliceV,cells_ptrV,cells_strV,cells_funcV,cells_agg])) rfl ?_
         refine J.loud (Loud.alloc (cs:=[Value.int .i64 (0:Int),Value.int .i64 (0:Int)]) rfl rfl) rfl fun b42=>J.storeAll 0 (vs:=[Value.int .i64 (a17.1),Value.int .i64 ((at' (at' p0 a17.1) a28.1).1)]) rfl rfl rfl rfl rfl rfl<|J.done<|J.thenN<|J.seq<|J.seq<|J.region<|J.quiet (Y.move rfl) rfl<|J.quiet (Y.loadBAll 0 rfl rfl rfl rfl) rfl ?_
         refine J.quiet (Y.lookup 2 ((a17.1,((at' (at' p0 a17.1) a28.1).1))) (u:=Value.int .i64 (Option.getD (mget (a17.1,((at' (at' p0 a17.1) a28.1).1)) a28.2) (0:Int))) kok_189 rfl rfl rfl rfl rfl (by cases mget ((a17.1,((at' (at' p0 a17.1) a28.1).1))) a28.2<;>rfl)) rfl ?_
         refine J.quiet (Y.move rfl) rfl<|J.quiet (Y.extract rfl rfl) rfl<|J.quiet (Y.extract rfl rfl) rfl<|J.quiet (Y.assign rfl) rfl<|J.quiet (Y.assign rfl) rfl<|J.done<|J.thenN<|J.seq<|J.region<|J.quiet (Y.move rfl) rfl<|J.done<|J.thenN ?_
         refine J.cond (by exact rfl) (fun hp43=> ?_) (fun hp43=> ?_)
         ·have h:=ifP hp43 h
          refine J.seq<|J.region<|J.quiet (Y.assign rfl) rfl<|J.done<|J.thenN<|J.ret<|J.thenR<|J.inR<|J.thenR<|J.thenR<|J.inR<|J.inR<|J.thenR<|J.thenR<|J.inR<|J.thenR ?_
          obtain rfl:=Option.some.inj h
          exact J.retG1 (()) rfl rfl (RV.tmp rfl) (SubM.nil) LentAll.nil
         ·have h:=ifBN hp43 h
          refine J.skip<|J.thenN<|J.region<|J.quiet (Y.move rfl) rfl<|J.quiet (Y.loadBAll 0 rfl rfl rfl rfl) rfl<|J.quiet (Y.fieldB rfl rfl rfl rfl rfl) rfl<|J.quiet (Y.loadB 1 rfl rfl rfl rfl rfl) rfl<|J.mapUpdate 2 ((a17.1,((at' (at' p0 a17.1) a28.1).1))) ((at' (at' p0 a17.1) a28.1).2) kok_189 rfl rfl rfl rfl rfl<|J.done<|J.inN<|J.thenN<|J.region<|J.quiet (Y.addW rfl rfl) rfl<|J.quiet (Y.move rfl) rfl<|J.done<|J.thenN ?_
          exact J.againI ((wI .i64 (a28.1+(1:Int))),(mset (a17.1,((at' (at' p0 a17.1) a28.1).1)) ((at' (at' p0 a17.1) a28.1).2) a28.2)) (()) h SF (SubM.cons 2 rfl (SubM.nil)) (LentAll.refl _ _)
    ·have h:=ifN hp31 h
     refine J.exit<|J.thenX<|J.thenX<|J.inX<|J.inN<|J.thenN ?_
     exact J.meetI (a28.2) (()) h SF (SubM.refl _) (LentAll.refl _ _)
   ·clear h
    intro a22 b23 h
    unfold graph_symmetric_k2 at h
    refine J.region<|J.quiet (Y.addW rfl rfl) rfl<|J.quiet (Y.move rfl) rfl<|J.done<|J.thenN ?_
    exact J.againI ((wI .i64 (a17.1+(1:Int))),a22) (()) h SF (SubM.refl _) (LentAll.refl _ _)
  ·have h:=ifN hp20 h
   refine J.exit<|J.thenX<|J.thenX<|J.inX<|J.thenN ?_
   exact J.meetI (a17.2) (()) h SF (SubM.refl _) (LentAll.refl _ _)
 ·clear h
  intro a3 b4 h
  unfold graph_symmetric_k1 at h
  refine J.seq<|J.seq<|J.region<|J.quiet (Y.move rfl) rfl<|J.loud (Loud.range 0 rfl rfl rfl) rfl fun b5=>J.done<|J.thenN<|J.block<|J.weakE [(3,Value.map (some b1)),(69,Value.pointer (some ⟨b5,0,none⟩))] [It b5 b1 (List.length a3) ([]),Mp vI64I64p vI64 b1 a3] [S2 RI64I64p v0 z1 p0] SF (SubM.refl _) (LentAll.refl _ _) ?_
  refine J.loopMap (graph_symmetric_s1 a3) 1 0 (by intro a b x;unfold graph_symmetric_s1;repeat' split;all_goals first|rfl|contradiction|simp_all) h rfl rfl rfl rfl rfl rfl ?_ ?_
  ·clear h
   intro kv6 i7 se8 xa9 hkv10 h
   unfold graph_symmetric_s1 at h
   refine J.block<|J.seq<|J.region<|J.loud (Loud.entry 1 0 hkv10 rfl rfl rfl) rfl fun x11=>J.quiet (Y.extract rfl rfl) rfl<|J.quiet (Y.extract rfl rfl) rfl<|J.loud (Loud.alloc (cs:=[Value.int .i64 (0:Int),Value.int .i64 (0:Int)]) rfl rfl) rfl fun b12=>J.storeAll 0 (vs:=[Value.int .i64 (kv6.1.1),Value.int .i64 (kv6.1.2)]) rfl rfl rfl rfl rfl rfl<|J.quiet (Y.assign rfl) rfl<|J.done<|J.thenN<|J.seq<|J.region<|J.quiet (Y.move rfl) rfl ?_
   refine J.quiet (Y.indexArr (i:=1) rfl rfl rfl rfl rfl (by decide)) rfl ?_
   refine J.quiet (Y.loadB 0 rfl rfl rfl rfl rfl) rfl ?_
   refine J.quiet (Y.indexArr (i:=0) rfl rfl rfl rfl rfl (by decide)) rfl ?_
   refine J.quiet (Y.loadB 0 rfl rfl rfl rfl rfl) rfl ?_
   refine J.quiet (Y.bld2 (r:=Value.agg #[Value.int .i64 (kv6.1.2),Value.int .i64 (kv6.1.1)]) rfl rfl (by intro w;simp[Instr.build,Instr.fill,cells_intV,cells_boolV,cells_sliceV,cells_ptrV,cells_strV,cells_funcV,cells_agg])) rfl ?_
   refine J.quiet (Y.lookup 2 ((kv6.1.2,kv6.1.1)) (u:=Value.int .i64 (Option.getD (mget (kv6.1.2,kv6.1.1) a3) (0:Int))) kok_189 rfl rfl rfl rfl rfl (by cases mget ((kv6.1.2,kv6.1.1)) a3<;>rfl)) rfl ?_
   refine J.quiet (Y.move rfl) rfl<|J.quiet (Y.neq rfl rfl) rfl<|J.done<|J.thenN ?_
   refine J.condD (by exact rfl) (fun hp13=> ?_) (fun hp13=> ?_)
   ·have h:=ifP hp13 h
    refine J.seq<|J.region<|J.quiet (Y.assign rfl) rfl<|J.done<|J.thenN<|J.ret<|J.inR<|J.thenR<|J.inR<|J.thenR ?_
    obtain rfl:=Option.some.inj h
    exact J.retG1 (()) rfl rfl (RV.tmp rfl) (SubM.nil) LentAll.nil
   ·have h:=ifN hp13 h
    refine J.skip<|J.inN<|J.thenN ?_
    exact J.mapAgain h SF (SubM.cons 1 rfl (SubM.cons 1 rfl (SubM.nil))) (LentAll.refl _ _)
  ·clear h
   intro se8 h
   refine J.inX<|J.thenN<|J.seq<|J.region<|J.quiet (Y.assign rfl) rfl<|J.done<|J.thenN<|J.ret ?_
   obtain rfl:=Option.some.inj h
   exact J.retG1 (()) rfl rfl (RV.tmp rfl) (SubM.nil) LentAll.nil
end Go.Proofs.YtdbcpliafeoghaaGreatDoor
end
section
namespace Go.Proofs.YtdbcpliafeoghaaGreatDoor
open Go.Sx
def graph_Valid_k2  (a7:Bool):Option (Bool):=
 some (a7)
def graph_Valid_k1 (fuel:Nat) (p0:List (Int)×(List (List (Int×Int)))) (a3:Bool):Option (Bool):=
 if a3=true then(some (false))else(Option.bind (m_graph_DifferentIDs fuel p0.1) fun r9=>(if r9=true then(Option.bind (m_graph_symmetric fuel p0.2) fun r13=>(graph_Valid_k2  (r13)))else(graph_Valid_k2  (false))))
def m_graph_Valid (fuel:Nat) (p0:List (Int)×(List (List (Int×Int)))):Option (Bool):=
 if(List.length p0.1:Int)<(1:Int)then(graph_Valid_k1 fuel p0 (true))else(if(24:Int)<(List.length p0.1:Int)then(graph_Valid_k1 fuel p0 (true))else(graph_Valid_k1 fuel p0 (decide ((List.length p0.2:Int)≠(List.length p0.1:Int)))))
theorem body128:HasBody Tryz.prog 128:=Tryz.call128
theorem t_graph_Valid (fuel:Nat) {p0:List (Int)×(List (List (Int×Int)))} (v0:Value)  (v1:Value)  (z2:List (Value×List (Int×Int))) (r:Bool) (h:m_graph_Valid fuel p0=some r):
  Meets Tryz.prog 128 #[Value.agg #[v0,v1]] [Sl RI64 v0 p0.1,S2 RI64I64p v1 z2 p0.2] (fun x:Unit=>Value.bool (r)) (fun x l=>l) (fun _ l=>l):=by
 refine Meets.of (vs:=[Value.agg #[v0,v1]]) Tryz.func128 rfl Tryz.ntmps128 rfl fun c=> ?_
 unfold m_graph_Valid at h
 refine J.seq<|J.region<|J.loud (Loud.box (cs:=[v0,v1]) rfl rfl) rfl fun b1=>J.quiet (Y.assign rfl) rfl<|J.done<|J.thenN<|J.seq<|J.region<|J.quiet (Y.fieldB rfl rfl rfl rfl rfl) rfl<|J.quiet (Y.loadB 0 rfl rfl rfl rfl rfl) rfl<|J.quiet (Y.lenS rfl (Lent.fact 0 rfl) rfl) rfl<|J.quiet (Y.assign rfl) rfl<|J.done<|J.thenN<|J.seq<|J.seq<|J.midI (A:=Bool) (B:=Unit) (fun a3=>graph_Valid_k1 fuel p0 a3=some r) (fun a3 b4=>[(1,Value.pointer (some ⟨b1,0,none⟩)),(19,Value.bool (a3))]) (fun a3 b4=>[Blk b1 [v0,v1] 53]) (fun a3 b4=>[Sl RI64 v0 p0.1,S2 RI64I64p v1 z2 p0.2]) ?_ ?_
 ·refine J.region<|J.quiet (Y.move rfl) rfl<|J.quiet (Y.lss rfl rfl) rfl<|J.quiet (Y.move rfl) rfl ?_
  refine J.guardD (by exact rfl) (by exact rfl) (fun hp16=> ?_) (fun hp16=> ?_)
  ·have h:=ifP hp16 h
   refine J.guardN rfl rfl rfl<|J.guardN rfl rfl rfl<|J.quiet (Y.pickT rfl rfl) rfl<|J.quiet (Y.move rfl) rfl<|J.guardN rfl rfl rfl<|J.guardN rfl rfl rfl<|J.guardN rfl rfl rfl<|J.guardN rfl rfl rfl<|J.guardN rfl rfl rfl<|J.quiet (Y.pickT rfl rfl) rfl<|J.done<|J.thenN ?_
   exact J.meetI (true) (()) h SF (SubM.refl _) (LentAll.refl _ _)
  ·have h:=ifN hp16 h
   refine J.guardY rfl (Y.move rfl) rfl<|J.guardY rfl (Y.gtr rfl rfl) rfl<|J.quiet (Y.pickF rfl rfl) rfl<|J.quiet (Y.move rfl) rfl ?_
   refine J.guardD (by exact rfl) (by exact rfl) (fun hp17=> ?_) (fun hp17=> ?_)
   ·have h:=ifP hp17 h
    refine J.guardN rfl rfl rfl<|J.guardN rfl rfl rfl<|J.guardN rfl rfl rfl<|J.guardN rfl rfl rfl<|J.guardN rfl rfl rfl<|J.quiet (Y.pickT rfl rfl) rfl<|J.done<|J.thenN ?_
    exact J.meetI (true) (()) h SF (SubM.refl _) (LentAll.refl _ _)
   ·have h:=ifN hp17 h
    refine J.guardY rfl (Y.fieldB rfl rfl rfl rfl rfl) rfl<|J.guardY rfl (Y.loadB 0 rfl rfl rfl rfl rfl) rfl<|J.guardY rfl (Y.lenN rfl (Lent.fact 1 rfl) rfl) rfl<|J.guardY rfl (Y.move rfl) rfl<|J.guardY rfl (Y.neq rfl rfl) rfl<|J.quiet (Y.pickF rfl rfl) rfl<|J.done<|J.thenN ?_
    exact J.meetI (decide ((List.length p0.2:Int)≠(List.length p0.1:Int))) (()) h SF (SubM.refl _) (LentAll.refl _ _)
 ·clear h
  intro a3 b4 h
  unfold graph_Valid_k1 at h
  refine J.cond (by exact rfl) (fun hp5=> ?_) (fun hp5=> ?_)
  ·have h:=ifP hp5 h
   refine J.seq<|J.region<|J.quiet (Y.assign rfl) rfl<|J.done<|J.thenN<|J.ret<|J.thenR ?_
   obtain rfl:=Option.some.inj h
   exact J.retG1 (()) rfl rfl (RV.tmp rfl) (SubM.nil) LentAll.nil
  ·have h:=ifBN hp5 h
   refine J.skip<|J.thenN<|J.seq<|J.midI (A:=Bool) (B:=Unit) (fun a7=>graph_Valid_k2  a7=some r) (fun a7 b8=>[(2,Value.bool (a7))]) (fun a7 b8=>[]) (fun a7 b8=>[Sl RI64 v0 p0.1,S2 RI64I64p v1 z2 p0.2]) ?_ ?_
   ·refine J.region<|J.quiet (Y.fieldB rfl rfl rfl rfl rfl) rfl<|J.quiet (Y.loadB 0 rfl rfl rfl rfl rfl) rfl ?_
    have h:=bnd h;obtain⟨r9,hr10,h⟩:=h
    refine J.loud (Loud.callL body162 (t_graph_DifferentIDs fuel v0 r9 hr10) rfl (LentAll.cons (Lent.fact 0 rfl) .nil) (fun _ _=>rfl)) rfl fun x11=>J.quiet (Y.move rfl) rfl ?_
    refine J.guard (by exact rfl) (by exact rfl) (fun hp12=> ?_) (fun hp12=> ?_)
    ·have h:=ifP hp12 h
     refine J.guardY rfl (Y.fieldB rfl rfl rfl rfl rfl) rfl<|J.guardY rfl (Y.loadB 0 rfl rfl rfl rfl rfl) rfl ?_
     have h:=bnd h;obtain⟨r13,hr14,h⟩:=h
     refine J.loudG rfl (Loud.callL body163 (t_graph_symmetric fuel v1 z2 r13 hr14) rfl (LentAll.cons (Lent.fact 1 rfl) .nil) (fun _ _=>rfl)) rfl fun x15=>J.quiet (Y.pickT rfl rfl) rfl<|J.quiet (Y.assign rfl) rfl<|J.done<|J.thenN ?_
     exact J.meetI (r13) (()) h SF (SubM.nil) (LentAll.refl _ _)
    ·have h:=ifBN hp12 h
     refine J.guardN rfl rfl rfl<|J.guardN rfl rfl rfl<|J.guardN rfl rfl rfl<|J.quiet (Y.pickF rfl rfl) rfl<|J.quiet (Y.assign rfl) rfl<|J.done<|J.thenN ?_
     exact J.meetI (false) (()) h SF (SubM.nil) (LentAll.refl _ _)
   ·clear h
    intro a7 b8 h
    unfold graph_Valid_k2 at h
    refine J.ret ?_
    obtain rfl:=Option.some.inj h
    exact J.retG1 (()) rfl rfl (RV.tmp rfl) (SubM.refl _) LentAll.nil
end Go.Proofs.YtdbcpliafeoghaaGreatDoor
end
section
namespace Go.Proofs.YtdbcpliafeoghaaGreatDoor
open Go.Sx
def world_Within_k1  (a4:Int):Option (Int):=
 some (a4)
def m_world_Within (fuel:Nat) (p0:Int) (p1:Int):Option (Int):=
 if p1<(1:Int)then(some (0:Int))else(ck (p1≠0) (if(Int.tmod p0 p1)<(0:Int)then(world_Within_k1  (wI .i64 ((Int.tmod p0 p1)+p1)))else(world_Within_k1  (Int.tmod p0 p1))))
theorem body8:HasBody Tryz.prog 8:=Tryz.call8
theorem t_world_Within (fuel:Nat) {p0:Int} {p1:Int} (r:Int) (h:m_world_Within fuel p0 p1=some r):
  Meets Tryz.prog 8 #[Value.int .i64 (p0),Value.int .i64 (p1)] [] (fun x:Unit=>Value.int .i64 (r)) (fun x l=>l) (fun _ l=>l):=by
 refine Meets.of (vs:=[Value.int .i64 (p0),Value.int .i64 (p1)]) Tryz.func8 rfl Tryz.ntmps8 rfl fun c=> ?_
 unfold m_world_Within at h
 refine J.seq<|J.region<|J.quiet (Y.assign rfl) rfl<|J.done<|J.thenN<|J.seq<|J.seq<|J.region<|J.quiet (Y.move rfl) rfl<|J.quiet (Y.lss rfl rfl) rfl<|J.done<|J.thenN ?_
 refine J.condD (by exact rfl) (fun hp1=> ?_) (fun hp1=> ?_)
 ·have h:=ifP hp1 h
  refine J.seq<|J.region<|J.quiet (Y.assign rfl) rfl<|J.done<|J.thenN<|J.ret<|J.thenR ?_
  obtain rfl:=Option.some.inj h
  exact J.retG1 (()) rfl rfl (RV.tmp rfl) (SubM.refl _) LentAll.nil
 ·have h:=ifN hp1 h
  refine J.skip<|J.thenN<|J.seq<|J.region<|J.quiet (Y.move rfl) rfl<|J.quiet (Y.move rfl) rfl ?_
  have h:=ck_some h;obtain⟨hc2,h⟩:=h
  refine J.quiet (Y.rem rfl rfl hc2) rfl<|J.quiet (Y.assign rfl) rfl<|J.done<|J.thenN<|J.seq<|J.midI (A:=Int) (B:=Unit) (fun a4=>world_Within_k1  a4=some r) (fun a4 b5=>[(0,Value.int .i64 (a4))]) (fun a4 b5=>[]) (fun a4 b5=>[]) ?_ ?_
  ·refine J.seq<|J.region<|J.quiet (Y.move rfl) rfl<|J.quiet (Y.lss rfl rfl) rfl<|J.done<|J.thenN ?_
   refine J.condD (by exact rfl) (fun hp6=> ?_) (fun hp6=> ?_)
   ·have h:=ifP hp6 h
    refine J.region<|J.quiet (Y.move rfl) rfl<|J.quiet (Y.move rfl) rfl<|J.quiet (Y.addW rfl rfl) rfl<|J.quiet (Y.assign rfl) rfl<|J.done<|J.thenN ?_
    exact J.meetI (wI .i64 ((Int.tmod p0 p1)+p1)) (()) h SF (SubM.refl _) (LentAll.refl _ _)
   ·have h:=ifN hp6 h
    refine J.skip<|J.thenN ?_
    exact J.meetI (Int.tmod p0 p1) (()) h SF (SubM.refl _) (LentAll.refl _ _)
  ·clear h
   intro a4 b5 h
   unfold world_Within_k1 at h
   refine J.seq<|J.region<|J.quiet (Y.move rfl) rfl<|J.quiet (Y.assign rfl) rfl<|J.done<|J.thenN<|J.ret ?_
   obtain rfl:=Option.some.inj h
   exact J.retG1 (()) rfl rfl (RV.tmp rfl) (SubM.refl _) LentAll.nil
end Go.Proofs.YtdbcpliafeoghaaGreatDoor
end
section
namespace Go.Proofs.YtdbcpliafeoghaaGreatDoor
open Go.Sx
def m_world_at (fuel:Nat) (p0:List (Int)) (p1:Int):Option (Int):=
 if p1<(List.length p0:Int)then(ck (0<=p1∧p1<(List.length p0:Int)) (some (at' p0 p1)))else(some (0:Int))
theorem body50:HasBody Tryz.prog 50:=Tryz.call50
theorem t_world_at (fuel:Nat) {p0:List (Int)} {p1:Int} (v0:Value) (r:Int) (h:m_world_at fuel p0 p1=some r):
  Meets Tryz.prog 50 #[v0,Value.int .i64 (p1)] [Sl RI64 v0 p0] (fun x:Unit=>Value.int .i64 (r)) (fun x l=>l) (fun _ l=>l):=by
 refine Meets.of (vs:=[v0,Value.int .i64 (p1)]) Tryz.func50 rfl Tryz.ntmps50 rfl fun c=> ?_
 unfold m_world_at at h
 refine J.seq<|J.region<|J.quiet (Y.assign rfl) rfl<|J.done<|J.thenN<|J.seq<|J.seq<|J.region<|J.quiet (Y.move rfl) rfl<|J.quiet (Y.move rfl) rfl<|J.quiet (Y.lenS rfl (Lent.fact 0 rfl) rfl) rfl<|J.quiet (Y.lss rfl rfl) rfl<|J.done<|J.thenN ?_
 refine J.condD (by exact rfl) (fun hp1=> ?_) (fun hp1=> ?_)
 ·have h:=ifP hp1 h
  refine J.seq<|J.region<|J.quiet (Y.move rfl) rfl<|J.quiet (Y.move rfl) rfl ?_
  have h:=ck_some h;obtain⟨hc2,h⟩:=h
  refine J.quiet (Y.indexS rfl rfl (Lent.fact 0 rfl) rfl rfl hc2) rfl<|J.quiet (Y.loadS0 rfl (Lent.fact 0 rfl) rfl rfl rfl RI64c0 hc2) rfl<|J.quiet (Y.assign rfl) rfl<|J.done<|J.thenN<|J.ret<|J.thenR ?_
  obtain rfl:=Option.some.inj h
  exact J.retG1 (()) rfl rfl (RV.tmp rfl) (SubM.refl _) LentAll.nil
 ·have h:=ifN hp1 h
  refine J.skip<|J.thenN<|J.seq<|J.region<|J.quiet (Y.assign rfl) rfl<|J.done<|J.thenN<|J.ret ?_
  obtain rfl:=Option.some.inj h
  exact J.retG1 (()) rfl rfl (RV.tmp rfl) (SubM.refl _) LentAll.nil
end Go.Proofs.YtdbcpliafeoghaaGreatDoor
end
section
namespace Go.Proofs.YtdbcpliafeoghaaGreatDoor
open Go.Sx
def _world_Net__nodes_k1 (r3:Int) (a13:List (Int)):Option ((List (Int)×(List (List (Int×Int))))):=
 some ((a13,(List.replicate (Int.toNat (wI .i64 ((1:Int)+r3))) ([]:List (Int×Int)))))
def _world_Net__nodes_k2 (a21:Int×List (Int)) (ag20:(Int×List (Int))->Option ((List (Int)×(List (List (Int×Int)))))) (a32:Int):Option ((List (Int)×(List (List (Int×Int))))):=
 ck ((List.length a21.2:Int)+(List.length ([a32]):Int)<=1099511627) (ag20 ((wI .i64 (a21.1+(1:Int))),(a21.2++[a32])))
def _world_Net__nodes_k3 (ag40:(Int×Int)->Option ((List (Int)×(List (List (Int×Int)))))) (a47:Int×Int):Option ((List (Int)×(List (List (Int×Int))))):=
 ag40 (a47.1,(wI .i64 (a47.2+(1:Int))))
def _world_Net__nodes_s2 (a21:Int×List (Int)) (ag20:(Int×List (Int))->Option ((List (Int)×(List (List (Int×Int)))))) (a41:Int×Int) (ag40:(Int×Int)->Option ((List (Int)×(List (List (Int×Int)))))):Option ((List (Int)×(List (List (Int×Int))))):=
 if a41.2<a21.1 then(ck (0<=a41.2∧a41.2<(List.length a21.2:Int)) (if(at' a21.2 a41.2)=a41.1 then(ck ((256:Int)≠0) (_world_Net__nodes_k3 ag40 ((Int.tmod (wI .i64 (a41.1+(1:Int))) (256:Int)),(-1:Int))))else(_world_Net__nodes_k3 ag40 (a41.1,a41.2))))else(_world_Net__nodes_k2 a21 ag20 (a41.1))
def _world_Net__nodes_s1 (fuel:Nat) (p0:Int×List (Int)×List (Int)×List (Int)×Bool×Bool) (r3:Int) (a21:Int×List (Int)) (ag20:(Int×List (Int))->Option ((List (Int)×(List (List (Int×Int)))))):Option ((List (Int)×(List (List (Int×Int))))):=
 if a21.1<(wI .i64 ((1:Int)+r3))then(Option.bind (m_world_at fuel p0.2.2.2.1 a21.1) fun r25=>(Option.bind (m_world_Within fuel r25 (256:Int)) fun r28=>(iter (_world_Net__nodes_s2 a21 ag20) fuel (r28,(0:Int)))))else(_world_Net__nodes_k1 r3 (a21.2))
def m__world_Net__nodes (fuel:Nat) (p0:Int×List (Int)×List (Int)×List (Int)×Bool×Bool) (p1:Int):Option ((List (Int)×(List (List (Int×Int))))):=
 Option.bind (m_world_Within fuel (wI .i64 (p0.1 - (1:Int))) p1) fun r3=>(ck (0<=(wI .i64 ((1:Int)+r3))∧(wI .i64 ((1:Int)+r3))<=1099511627) (iter (_world_Net__nodes_s1 fuel p0 r3) fuel ((0:Int),([]:List Int))))
theorem body48:HasBody Tryz.prog 48:=Tryz.call48
theorem t__world_Net__nodes (fuel:Nat) {p0:Int×List (Int)×List (Int)×List (Int)×Bool×Bool} {p1:Int} (v0:Value)  (v1:Value)  (v2:Value) (r:(List (Int)×(List (List (Int×Int))))) (h:m__world_Net__nodes fuel p0 p1=some r):
  Meets Tryz.prog 48 #[Value.agg #[Value.int .i64 (p0.1),v0,v1,v2,Value.bool (p0.2.2.2.2.1),Value.bool (p0.2.2.2.2.2)],Value.int .i64 (p1)] [Sl RI64 v0 p0.2.1,Sl RI64 v1 p0.2.2.1,Sl RI64 v2 p0.2.2.2.1] (fun x:Value×Value×List Value=>Value.agg #[x.1,x.2.1]) (fun x l=>Ar EI64 x.1 r.1::Ar Enc.raw x.2.1 x.2.2::Rws EI64I64p x.2.2 r.2::l) (fun _ l=>l):=by
 refine Meets.of (vs:=[Value.agg #[Value.int .i64 (p0.1),v0,v1,v2,Value.bool (p0.2.2.2.2.1),Value.bool (p0.2.2.2.2.2)],Value.int .i64 (p1)]) Tryz.func48 rfl Tryz.ntmps48 rfl fun c=> ?_
 unfold m__world_Net__nodes at h
 refine J.seq<|J.region<|J.loud (Loud.box (cs:=[Value.int .i64 (p0.1),v0,v1,v2,Value.bool (p0.2.2.2.2.1),Value.bool (p0.2.2.2.2.2)]) rfl rfl) rfl fun b1=>J.loud (Loud.alloc (cs:=[Value.slice none 0 0,Value.slice none 0 0]) rfl rfl) rfl fun b2=>J.done<|J.thenN<|J.seq<|J.region<|J.quiet (Y.fieldB rfl rfl rfl rfl rfl) rfl<|J.quiet (Y.loadB 1 rfl rfl rfl rfl rfl) rfl<|J.quiet (Y.subW rfl rfl) rfl<|J.quiet (Y.move rfl) rfl ?_
 have h:=bnd h;obtain⟨r3,hr4,h⟩:=h
 refine J.loud (Loud.callL body8 (t_world_Within fuel  r3 hr4) rfl .nil (fun _ _=>rfl)) rfl fun x5=>J.quiet (Y.addW rfl rfl) rfl<|J.quiet (Y.assign rfl) rfl<|J.done<|J.thenN<|J.seq<|J.region<|J.quiet (Y.move rfl) rfl ?_
 have h:=ck_some h;obtain⟨hc6,h⟩:=h
 refine J.stp (Stp.rowsNew EI64I64p (Int.toNat (wI .i64 ((1:Int)+r3))))<|J.loud (Loud.makeS (e:=Enc.raw) (Value.slice none 0 0) rfl rfl rfl rfl hc6 rfl rfl rfl) rfl fun u7=>J.know (Know.one (Lent.sl (Lent.rows (i:=0) (j:=1) rfl rfl FI64I64p))) fun ho8=> ?_
 refine J.quiet (Y.bld1 (r:=Value.agg #[Value.slice none 0 0,u7]) rfl (by intro w;simp[Instr.build,Instr.fill,cells_intV,cells_boolV,cells_sliceV,cells_ptrV,cells_strV,cells_funcV,cells_agg,one_cells ho8])) rfl ?_
 refine J.loud (Loud.alloc (cs:=[Value.slice none 0 0,Value.slice none 0 0]) rfl rfl) rfl fun b9=>J.know (Know.one (Lent.sl (Lent.rows (i:=1) (j:=2) rfl rfl FI64I64p))) fun ho10=>J.storeAll 0 (vs:=[Value.slice none 0 0,u7]) rfl rfl (all1 rfl (all1 ho10 rfl)) rfl rfl rfl<|J.done<|J.thenN<|J.seq<|J.midI (A:=List (Int)) (B:=Value) (fun a13=>_world_Net__nodes_k1 r3 a13=some r) (fun a13 b14=>[(4,Value.pointer (some ⟨b2,0,none⟩)),(6,Value.pointer (some ⟨b9,0,none⟩))]) (fun a13 b14=>[Blk b9 [b14,u7] 53,Ar Enc.raw u7 (List.replicate (Int.toNat (wI .i64 ((1:Int)+r3))) (Value.slice none 0 0)),Rws EI64I64p (List.replicate (Int.toNat (wI .i64 ((1:Int)+r3))) (Value.slice none 0 0)) (List.replicate (Int.toNat (wI .i64 ((1:Int)+r3))) ([]:List (Int×Int))),Blk b2 [Value.slice none 0 0,Value.slice none 0 0] 53,Ar EI64 b14 a13]) (fun a13 b14=>[Sl RI64 v0 p0.2.1,Sl RI64 v1 p0.2.2.1,Sl RI64 v2 p0.2.2.2.1]) ?_ ?_
 ·refine J.seq<|J.region<|J.quiet (Y.assign rfl) rfl<|J.done<|J.thenN<|J.block<|J.stp (Stp.nilAr EI64)<|J.loopI (A:=Int×List (Int)) (B:=Value) (_world_Net__nodes_s1 fuel p0 r3) (fun a21 b22=>[(2,Value.pointer (some ⟨b1,0,none⟩)),(4,Value.pointer (some ⟨b2,0,none⟩)),(5,Value.int .i64 (wI .i64 ((1:Int)+r3))),(6,Value.pointer (some ⟨b9,0,none⟩)),(7,Value.int .i64 (a21.1))]) (fun a21 b22=>[Blk b9 [b22,u7] 53,Ar Enc.raw u7 (List.replicate (Int.toNat (wI .i64 ((1:Int)+r3))) (Value.slice none 0 0)),Rws EI64I64p (List.replicate (Int.toNat (wI .i64 ((1:Int)+r3))) (Value.slice none 0 0)) (List.replicate (Int.toNat (wI .i64 ((1:Int)+r3))) ([]:List (Int×Int))),Blk b2 [Value.slice none 0 0,Value.slice none 0 0] 53,Blk b1 [Value.int .i64 (p0.1),v0,v1,v2,Value.bool (p0.2.2.2.2.1),Value.bool (p0.2.2.2.2.2)] 55,Ar EI64 b22 a21.2]) (fun a21 b22=>[Sl RI64 v0 p0.2.1,Sl RI64 v1 p0.2.2.1,Sl RI64 v2 p0.2.2.2.1]) ((0:Int),([]:List Int)) (Value.slice none 0 0) h SF (SubM.cons 1 rfl (SubM.cons 1 rfl (SubM.cons 1 rfl (SubM.cons 1 rfl (SubM.cons 1 rfl (SubM.cons 0 rfl (SubM.nil))))))) (LentAll.refl _ _) ?_
  clear h
  intro k23 a21 b22 h
  unfold _world_Net__nodes_s1 at h
  refine J.seq<|J.seq<|J.region<|J.quiet (Y.move rfl) rfl<|J.quiet (Y.move rfl) rfl<|J.quiet (Y.lss rfl rfl) rfl<|J.done<|J.thenN ?_
  refine J.condD (by exact rfl) (fun hp24=> ?_) (fun hp24=> ?_)
  ·have h:=ifP hp24 h
   refine J.skip<|J.thenN<|J.seq<|J.block<|J.seq<|J.region<|J.quiet (Y.fieldB rfl rfl rfl rfl rfl) rfl<|J.quiet (Y.loadB 4 rfl rfl rfl rfl rfl) rfl<|J.quiet (Y.move rfl) rfl ?_
   have h:=bnd h;obtain⟨r25,hr26,h⟩:=h
   refine J.loud (Loud.callL body50 (t_world_at fuel v2 r25 hr26) rfl (LentAll.cons (Lent.fact 2 rfl) .nil) (fun _ _=>rfl)) rfl fun x27=> ?_
   have h:=bnd h;obtain⟨r28,hr29,h⟩:=h
   refine J.loud (Loud.callL body8 (t_world_Within fuel  r28 hr29) rfl .nil (fun _ _=>rfl)) rfl fun x30=>J.quiet (Y.assign rfl) rfl<|J.done<|J.thenN<|J.seq<|J.midI (A:=Int) (B:=Unit) (fun a32=>_world_Net__nodes_k2 a21 (iter (_world_Net__nodes_s1 fuel p0 r3) k23) a32=some r) (fun a32 b33=>[(2,Value.pointer (some ⟨b1,0,none⟩)),(4,Value.pointer (some ⟨b2,0,none⟩)),(5,Value.int .i64 (wI .i64 ((1:Int)+r3))),(6,Value.pointer (some ⟨b9,0,none⟩)),(7,Value.int .i64 (a21.1)),(8,Value.int .i64 (a32))]) (fun a32 b33=>[Blk b9 [b22,u7] 53,Ar Enc.raw u7 (List.replicate (Int.toNat (wI .i64 ((1:Int)+r3))) (Value.slice none 0 0)),Rws EI64I64p (List.replicate (Int.toNat (wI .i64 ((1:Int)+r3))) (Value.slice none 0 0)) (List.replicate (Int.toNat (wI .i64 ((1:Int)+r3))) ([]:List (Int×Int))),Blk b2 [Value.slice none 0 0,Value.slice none 0 0] 53,Blk b1 [Value.int .i64 (p0.1),v0,v1,v2,Value.bool (p0.2.2.2.2.1),Value.bool (p0.2.2.2.2.2)] 55,Ar EI64 b22 a21.2]) (fun a32 b33=>[Sl RI64 v0 p0.2.1,Sl RI64 v1 p0.2.2.1,Sl RI64 v2 p0.2.2.2.1]) ?_ ?_
   ·refine J.seq<|J.region<|J.quiet (Y.assign rfl) rfl<|J.done<|J.thenN<|J.block<|J.loopI (A:=Int×Int) (B:=Unit) (_world_Net__nodes_s2 a21 (iter (_world_Net__nodes_s1 fuel p0 r3) k23)) (fun a41 b42=>[(2,Value.pointer (some ⟨b1,0,none⟩)),(4,Value.pointer (some ⟨b2,0,none⟩)),(5,Value.int .i64 (wI .i64 ((1:Int)+r3))),(6,Value.pointer (some ⟨b9,0,none⟩)),(7,Value.int .i64 (a21.1)),(8,Value.int .i64 (a41.1)),(9,Value.int .i64 (a41.2))]) (fun a41 b42=>[Blk b9 [b22,u7] 53,Ar Enc.raw u7 (List.replicate (Int.toNat (wI .i64 ((1:Int)+r3))) (Value.slice none 0 0)),Rws EI64I64p (List.replicate (Int.toNat (wI .i64 ((1:Int)+r3))) (Value.slice none 0 0)) (List.replicate (Int.toNat (wI .i64 ((1:Int)+r3))) ([]:List (Int×Int))),Blk b2 [Value.slice none 0 0,Value.slice none 0 0] 53,Blk b1 [Value.int .i64 (p0.1),v0,v1,v2,Value.bool (p0.2.2.2.2.1),Value.bool (p0.2.2.2.2.2)] 55,Ar EI64 b22 a21.2]) (fun a41 b42=>[Sl RI64 v0 p0.2.1,Sl RI64 v1 p0.2.2.1,Sl RI64 v2 p0.2.2.2.1]) (r28,(0:Int)) (()) h SF (SubM.refl _) (LentAll.refl _ _) ?_
    clear h
    intro k43 a41 b42 h
    unfold _world_Net__nodes_s2 at h
    refine J.seq<|J.seq<|J.region<|J.quiet (Y.move rfl) rfl<|J.quiet (Y.move rfl) rfl<|J.quiet (Y.lss rfl rfl) rfl<|J.done<|J.thenN ?_
    refine J.condD (by exact rfl) (fun hp44=> ?_) (fun hp44=> ?_)
    ·have h:=ifP hp44 h
     refine J.skip<|J.thenN<|J.seq<|J.midI (A:=Int×Int) (B:=Unit) (fun a47=>_world_Net__nodes_k3 (iter (_world_Net__nodes_s2 a21 (iter (_world_Net__nodes_s1 fuel p0 r3) k23)) k43) a47=some r) (fun a47 b48=>[(2,Value.pointer (some ⟨b1,0,none⟩)),(4,Value.pointer (some ⟨b2,0,none⟩)),(5,Value.int .i64 (wI .i64 ((1:Int)+r3))),(6,Value.pointer (some ⟨b9,0,none⟩)),(7,Value.int .i64 (a21.1)),(8,Value.int .i64 (a47.1)),(9,Value.int .i64 (a47.2))]) (fun a47 b48=>[Blk b9 [b22,u7] 53,Ar Enc.raw u7 (List.replicate (Int.toNat (wI .i64 ((1:Int)+r3))) (Value.slice none 0 0)),Rws EI64I64p (List.replicate (Int.toNat (wI .i64 ((1:Int)+r3))) (Value.slice none 0 0)) (List.replicate (Int.toNat (wI .i64 ((1:Int)+r3))) ([]:List (Int×Int))),Blk b2 [Value.slice none 0 0,Value.slice none 0 0] 53,Blk b1 [Value.int .i64 (p0.1),v0,v1,v2,Value.bool (p0.2.2.2.2.1),Value.bool (p0.2.2.2.2.2)] 55,Ar EI64 b22 a21.2]) (fun a47 b48=>[Sl RI64 v0 p0.2.1,Sl RI64 v1 p0.2.2.1,Sl RI64 v2 p0.2.2.2.1]) ?_ ?_
     ·refine J.block<|J.seq<|J.region<|J.quiet (Y.fieldB rfl rfl rfl rfl rfl) rfl<|J.quiet (Y.loadB 0 rfl rfl rfl rfl rfl) rfl<|J.quiet (Y.move rfl) rfl ?_
      have h:=ck_some h;obtain⟨hc49,h⟩:=h
      refine J.quiet (Y.indexS rfl rfl (Lent.ar (Lent.res 5 rfl) FI64) rfl rfl hc49) rfl<|J.quiet (Y.loadS0 rfl (Lent.ar (Lent.res 5 rfl) FI64) rfl rfl rfl RI64c0 hc49) rfl<|J.quiet (Y.move rfl) rfl<|J.quiet (Y.eql rfl rfl) rfl<|J.done<|J.thenN ?_
      refine J.condD (by exact rfl) (fun hp50=> ?_) (fun hp50=> ?_)
      ·have h:=ifP hp50 h
       refine J.region<|J.quiet (Y.move rfl) rfl<|J.quiet (Y.addW rfl rfl) rfl ?_
       have h:=ck_some h;obtain⟨hc51,h⟩:=h
       refine J.quiet (Y.rem rfl rfl hc51) rfl<|J.quiet (Y.assign rfl) rfl<|J.quiet (Y.assign rfl) rfl<|J.done<|J.inN<|J.thenN ?_
       exact J.meetI ((Int.tmod (wI .i64 (a41.1+(1:Int))) (256:Int)),(-1:Int)) (()) h SF (SubM.refl _) (LentAll.refl _ _)
      ·have h:=ifN hp50 h
       refine J.skip<|J.inN<|J.thenN ?_
       exact J.meetI (a41.1,a41.2) (()) h SF (SubM.refl _) (LentAll.refl _ _)
     ·clear h
      intro a47 b48 h
      unfold _world_Net__nodes_k3 at h
      refine J.region<|J.quiet (Y.move rfl) rfl<|J.quiet (Y.addW rfl rfl) rfl<|J.quiet (Y.assign rfl) rfl<|J.done<|J.thenN ?_
      exact J.againI (a47.1,(wI .i64 (a47.2+(1:Int)))) (()) h SF (SubM.refl _) (LentAll.refl _ _)
    ·have h:=ifN hp44 h
     refine J.exit<|J.thenX<|J.thenX<|J.inX<|J.thenN ?_
     exact J.meetI (a41.1) (()) h SF (SubM.refl _) (LentAll.refl _ _)
   ·clear h
    intro a32 b33 h
    unfold _world_Net__nodes_k2 at h
    refine J.region<|J.quiet (Y.fieldB rfl rfl rfl rfl rfl) rfl<|J.quiet (Y.loadB 0 rfl rfl rfl rfl rfl) rfl<|J.quiet (Y.move rfl) rfl<|J.loud (Loud.buildS (e:=EI64) ([a32]) [(0,Value.int .i64 (a32))] rfl rfl rfl rfl (fill_1_1 (Value.int .i64 (a32)) rfl) rfl rfl rfl) rfl fun u34=> ?_
    have h:=ck_some h;obtain⟨hc36,h⟩:=h
    refine J.loud (Loud.appendL 6 FI64 rfl rfl rfl (Lent.ar (Lent.res 0 rfl) FI64) rfl rfl rfl rfl hc36 rfl) rfl fun u35=>J.quiet (Y.fieldB rfl rfl rfl rfl rfl) rfl<|J.know (Know.one ((Lent.ar (Lent.res 6 rfl) FI64))) fun ho37=>J.store1 1 rfl rfl ho37 rfl rfl rfl<|J.done<|J.inN<|J.thenN<|J.region<|J.quiet (Y.move rfl) rfl<|J.quiet (Y.addW rfl rfl) rfl<|J.quiet (Y.assign rfl) rfl<|J.done<|J.thenN ?_
    exact J.againI ((wI .i64 (a21.1+(1:Int))),(a21.2++[a32])) (u35) h SF (SubM.cons 1 rfl (SubM.cons 1 rfl (SubM.cons 1 rfl (SubM.cons 1 rfl (SubM.cons 1 rfl (SubM.cons 1 rfl (SubM.nil))))))) (LentAll.refl _ _)
  ·have h:=ifN hp24 h
   refine J.exit<|J.thenX<|J.thenX<|J.inX<|J.thenN ?_
   exact J.meetI (a21.2) (b22) h SF (SubM.cons 0 rfl (SubM.cons 0 rfl (SubM.cons 0 rfl (SubM.cons 0 rfl (SubM.cons 1 rfl (SubM.nil)))))) (LentAll.refl _ _)
 ·clear h
  intro a13 b14 h
  unfold _world_Net__nodes_k1 at h
  refine J.seq<|J.region<|J.quiet (Y.loadBAll 0 rfl rfl rfl rfl) rfl<|J.know (Know.one ((Lent.ar (Lent.res 4 rfl) FI64))) fun ho15=>J.know (Know.one (Lent.sl (Lent.rows (i:=1) (j:=2) rfl rfl FI64I64p))) fun ho16=>J.storeAll 3 (vs:=[b14,u7]) rfl rfl (all1 ho15 (all1 ho16 rfl)) rfl rfl rfl<|J.done<|J.thenN<|J.ret ?_
  obtain rfl:=Option.some.inj h
  exact J.retG1 (b14,u7,(List.replicate (Int.toNat (wI .i64 ((1:Int)+r3))) (Value.slice none 0 0))) rfl rfl (RV.cell 3 rfl rfl rfl rfl) (SubM.cons 4 rfl (SubM.cons 1 rfl (SubM.cons 1 rfl (SubM.nil)))) LentAll.nil
end Go.Proofs.YtdbcpliafeoghaaGreatDoor
end
section
namespace Go.Proofs.YtdbcpliafeoghaaGreatDoor
open Go.Sx
def world_linked_k1  (a2:Unit):Option (Bool):=
 some (false)
def world_linked_s1 (p0:List (Int)×(List (List (Int×Int)))) (p1:Int) (p2:Int) (a6:Int) (ag5:(Int)->Option (Bool)):Option (Bool):=
 ck (0<=p1∧p1<(List.length p0.2:Int)) (if a6<(List.length (at' p0.2 p1):Int)then(ck (0<=p1∧p1<(List.length p0.2:Int)) (ck (0<=a6∧a6<(List.length (at' p0.2 p1):Int)) (if((at' (at' p0.2 p1) a6).1)=p2 then(some (true))else(ag5 (wI .i64 (a6+(1:Int)))))))else(world_linked_k1  (())))
def m_world_linked (fuel:Nat) (p0:List (Int)×(List (List (Int×Int)))) (p1:Int) (p2:Int):Option (Bool):=
 iter (world_linked_s1 p0 p1 p2) fuel (0:Int)
theorem body84:HasBody Tryz.prog 84:=Tryz.call84
theorem t_world_linked (fuel:Nat) {p0:List (Int)×(List (List (Int×Int)))} {p1:Int} {p2:Int} (v0:Value)  (v1:Value)  (z2:List (Value×List (Int×Int))) (r:Bool) (h:m_world_linked fuel p0 p1 p2=some r):
  Meets Tryz.prog 84 #[Value.agg #[v0,v1],Value.int .i64 (p1),Value.int .i64 (p2)] [Sl RI64 v0 p0.1,S2 RI64I64p v1 z2 p0.2] (fun x:Unit=>Value.bool (r)) (fun x l=>l) (fun _ l=>l):=by
 refine Meets.of (vs:=[Value.agg #[v0,v1],Value.int .i64 (p1),Value.int .i64 (p2)]) Tryz.func84 rfl Tryz.ntmps84 rfl fun c=> ?_
 unfold m_world_linked at h
 refine J.seq<|J.region<|J.loud (Loud.box (cs:=[v0,v1]) rfl rfl) rfl fun b1=>J.quiet (Y.assign rfl) rfl<|J.done<|J.thenN<|J.seq<|J.midI (A:=Unit) (B:=Unit) (fun a2=>world_linked_k1  a2=some r) (fun a2 b3=>[]) (fun a2 b3=>[]) (fun a2 b3=>[Sl RI64 v0 p0.1,S2 RI64I64p v1 z2 p0.2]) ?_ ?_
 ·refine J.seq<|J.region<|J.quiet (Y.assign rfl) rfl<|J.done<|J.thenN<|J.block<|J.loopI (A:=Int) (B:=Unit) (world_linked_s1 p0 p1 p2) (fun a6 b7=>[(1,Value.int .i64 (p1)),(2,Value.int .i64 (p2)),(3,Value.pointer (some ⟨b1,0,none⟩)),(7,Value.int .i64 (a6))]) (fun a6 b7=>[Blk b1 [v0,v1] 53]) (fun a6 b7=>[Sl RI64 v0 p0.1,S2 RI64I64p v1 z2 p0.2]) (0:Int) (()) h SF (SubM.refl _) (LentAll.refl _ _) ?_
  clear h
  intro k8 a6 b7 h
  unfold world_linked_s1 at h
  refine J.seq<|J.seq<|J.region<|J.quiet (Y.move rfl) rfl<|J.quiet (Y.fieldB rfl rfl rfl rfl rfl) rfl<|J.quiet (Y.loadB 0 rfl rfl rfl rfl rfl) rfl<|J.quiet (Y.move rfl) rfl ?_
  have h:=ck_some h;obtain⟨hc9,h⟩:=h
  refine J.quiet (Y.indexN rfl rfl (Lent.fact 1 rfl) rfl rfl hc9) rfl<|J.quiet (Y.loadRow rfl (Lent.fact 1 rfl) rfl rfl hc9) rfl<|J.quiet (Y.lenS rfl (Lent.el (Lent.fact 1 rfl) hc9.1 hc9.2) rfl) rfl<|J.quiet (Y.lss rfl rfl) rfl<|J.done<|J.thenN ?_
  refine J.condD (by exact rfl) (fun hp10=> ?_) (fun hp10=> ?_)
  ·have h:=ifP hp10 h
   refine J.skip<|J.thenN<|J.seq<|J.block<|J.seq<|J.region<|J.quiet (Y.fieldB rfl rfl rfl rfl rfl) rfl<|J.quiet (Y.loadB 0 rfl rfl rfl rfl rfl) rfl<|J.quiet (Y.move rfl) rfl ?_
   have h:=ck_some h;obtain⟨hc11,h⟩:=h
   refine J.quiet (Y.indexN rfl rfl (Lent.fact 1 rfl) rfl rfl hc11) rfl<|J.quiet (Y.loadRow rfl (Lent.fact 1 rfl) rfl rfl hc11) rfl<|J.quiet (Y.move rfl) rfl ?_
   have h:=ck_some h;obtain⟨hc12,h⟩:=h
   refine J.quiet (Y.indexS rfl rfl (Lent.el (Lent.fact 1 rfl) hc11.1 hc11.2) rfl rfl hc12) rfl<|J.quiet (Y.fieldEl rfl rfl rfl rfl rfl) rfl<|J.quiet (Y.loadS rfl (Lent.el (Lent.fact 1 rfl) hc11.1 hc11.2) rfl rfl rfl RI64I64pc0 hc12) rfl<|J.quiet (Y.move rfl) rfl<|J.quiet (Y.eql rfl rfl) rfl<|J.done<|J.thenN ?_
   refine J.condD (by exact rfl) (fun hp13=> ?_) (fun hp13=> ?_)
   ·have h:=ifP hp13 h
    refine J.seq<|J.region<|J.quiet (Y.assign rfl) rfl<|J.done<|J.thenN<|J.ret<|J.inR<|J.thenR<|J.thenR<|J.inR<|J.thenR ?_
    obtain rfl:=Option.some.inj h
    exact J.retG1 (()) rfl rfl (RV.tmp rfl) (SubM.nil) LentAll.nil
   ·have h:=ifN hp13 h
    refine J.skip<|J.inN<|J.thenN<|J.region<|J.quiet (Y.move rfl) rfl<|J.quiet (Y.addW rfl rfl) rfl<|J.quiet (Y.assign rfl) rfl<|J.done<|J.thenN ?_
    exact J.againI (wI .i64 (a6+(1:Int))) (()) h SF (SubM.refl _) (LentAll.refl _ _)
  ·have h:=ifN hp10 h
   refine J.exit<|J.thenX<|J.thenX<|J.inX<|J.thenN ?_
   exact J.meetI (()) (()) h SF (SubM.nil) (LentAll.refl _ _)
 ·clear h
  intro a2 b3 h
  unfold world_linked_k1 at h
  refine J.seq<|J.region<|J.quiet (Y.assign rfl) rfl<|J.done<|J.thenN<|J.ret ?_
  obtain rfl:=Option.some.inj h
  exact J.retG1 (()) rfl rfl (RV.tmp rfl) (SubM.refl _) LentAll.nil
end Go.Proofs.YtdbcpliafeoghaaGreatDoor
end
section
namespace Go.Proofs.YtdbcpliafeoghaaGreatDoor
open Go.Sx
def _world_Net__link_k1 (p0:Int×List (Int)×List (Int)×List (Int)×Bool×Bool) (p1:List (Int)×(List (List (Int×Int)))) (p2:Int) (p3:Int) (p4:Int) (a4:Bool):Option ((List (List (Int×Int)))):=
 if a4=true then(some (p1.2))else(if p0.2.2.2.2.2=true then(ck (0<=p2∧p2<(List.length p1.2:Int)) (ck ((List.length ([(p3,p4)]):Int)+(List.length (at' p1.2 p2):Int)<=1099511627) (ck (0<=p2∧p2<(List.length p1.2:Int)) (ck (0<=p3∧p3<(List.length (List.set p1.2 (Int.toNat p2) (([(p3,p4)])++(at' p1.2 p2))):Int)) (ck ((List.length ([(p2,p4)]):Int)+(List.length (at' (List.set p1.2 (Int.toNat p2) (([(p3,p4)])++(at' p1.2 p2))) p3):Int)<=1099511627) (ck (0<=p3∧p3<(List.length (List.set p1.2 (Int.toNat p2) (([(p3,p4)])++(at' p1.2 p2))):Int)) (some (List.set (List.set p1.2 (Int.toNat p2) (([(p3,p4)])++(at' p1.2 p2))) (Int.toNat p3) (([(p2,p4)])++(at' (List.set p1.2 (Int.toNat p2) (([(p3,p4)])++(at' p1.2 p2))) p3))))))))))else(ck (0<=p2∧p2<(List.length p1.2:Int)) (ck (0<=p3∧p3<(List.length p1.2:Int)) (ck ((List.length (at' p1.2 p2):Int)+(List.length ([(p3,p4)]):Int)<=1099511627) (ck ((List.length (at' p1.2 p3):Int)+(List.length ([(p2,p4)]):Int)<=1099511627) (ck (Int.toNat p2≠Int.toNat p3) (ck (0<=p2∧p2<(List.length (List.set (List.set p1.2 (Int.toNat p2) ((at' p1.2 p2)++([(p3,p4)]))) (Int.toNat p3) ((at' p1.2 p3)++([(p2,p4)]))):Int)) (ck (0<=p3∧p3<(List.length (List.set (List.set p1.2 (Int.toNat p2) ((at' p1.2 p2)++([(p3,p4)]))) (Int.toNat p3) ((at' p1.2 p3)++([(p2,p4)]))):Int)) (some (List.set (List.set p1.2 (Int.toNat p2) ((at' p1.2 p2)++([(p3,p4)]))) (Int.toNat p3) ((at' p1.2 p3)++([(p2,p4)]))))))))))))
def m__world_Net__link (fuel:Nat) (p0:Int×List (Int)×List (Int)×List (Int)×Bool×Bool) (p1:List (Int)×(List (List (Int×Int)))) (p2:Int) (p3:Int) (p4:Int):Option ((List (List (Int×Int)))):=
 if p2=p3 then(_world_Net__link_k1 p0 p1 p2 p3 p4 (true))else(Option.bind (m_world_linked fuel ((p1.1,p1.2)) p2 p3) fun r86=>(_world_Net__link_k1 p0 p1 p2 p3 p4 (r86)))
theorem body49:HasBody Tryz.prog 49:=Tryz.call49
theorem t__world_Net__link (fuel:Nat) {p0:Int×List (Int)×List (Int)×List (Int)×Bool×Bool} {p1:List (Int)×(List (List (Int×Int)))} {p2:Int} {p3:Int} {p4:Int} (v0:Value)  (v1:Value)  (v2:Value)  (v3:Value)  (v4:Value)  (w5:List Value) (r:(List (List (Int×Int)))) (h:m__world_Net__link fuel p0 p1 p2 p3 p4=some r):
  MeetsM Tryz.prog 49 #[Value.agg #[Value.int .i64 (p0.1),v0,v1,v2,Value.bool (p0.2.2.2.2.1),Value.bool (p0.2.2.2.2.2)],Value.agg #[v3,v4],Value.int .i64 (p2),Value.int .i64 (p3),Value.int .i64 (p4)] [Ar Enc.raw v4 w5,Rws EI64I64p w5 p1.2] [Sl RI64 v0 p0.2.1,Sl RI64 v1 p0.2.2.1,Sl RI64 v2 p0.2.2.2.1,Sl RI64 v3 p1.1] (fun x:List Value=>Value.tuple #[]) (fun x l=>Ar Enc.raw v4 x::Rws EI64I64p x r::l):=by
 refine MeetsM.of (vs:=[Value.agg #[Value.int .i64 (p0.1),v0,v1,v2,Value.bool (p0.2.2.2.2.1),Value.bool (p0.2.2.2.2.2)],Value.agg #[v3,v4],Value.int .i64 (p2),Value.int .i64 (p3),Value.int .i64 (p4)]) Tryz.func49 rfl Tryz.ntmps49 rfl fun c=> ?_
 unfold m__world_Net__link at h
 refine J.seq<|J.region<|J.loud (Loud.box (cs:=[Value.int .i64 (p0.1),v0,v1,v2,Value.bool (p0.2.2.2.2.1),Value.bool (p0.2.2.2.2.2)]) rfl rfl) rfl fun b1=>J.loud (Loud.box (cs:=[v3,v4]) rfl rfl) rfl fun b2=>J.done<|J.thenN<|J.seq<|J.seq<|J.midI (A:=Bool) (B:=Unit) (fun a4=>_world_Net__link_k1 p0 p1 p2 p3 p4 a4=some r) (fun a4 b5=>[(2,Value.int .i64 (p2)),(3,Value.int .i64 (p3)),(4,Value.int .i64 (p4)),(5,Value.pointer (some ⟨b1,0,none⟩)),(6,Value.pointer (some ⟨b2,0,none⟩)),(20,Value.bool (a4))]) (fun a4 b5=>[Blk b2 [v3,v4] 53,Blk b1 [Value.int .i64 (p0.1),v0,v1,v2,Value.bool (p0.2.2.2.2.1),Value.bool (p0.2.2.2.2.2)] 55,Ar Enc.raw v4 w5,Rws EI64I64p w5 p1.2]) (fun a4 b5=>[Sl RI64 v0 p0.2.1,Sl RI64 v1 p0.2.2.1,Sl RI64 v2 p0.2.2.2.1,Sl RI64 v3 p1.1]) ?_ ?_
 ·refine J.region<|J.quiet (Y.move rfl) rfl<|J.quiet (Y.move rfl) rfl<|J.quiet (Y.eql rfl rfl) rfl<|J.quiet (Y.move rfl) rfl ?_
  refine J.guardD (by exact rfl) (by exact rfl) (fun hp85=> ?_) (fun hp85=> ?_)
  ·have h:=ifP hp85 h
   refine J.guardN rfl rfl rfl<|J.guardN rfl rfl rfl<|J.guardN rfl rfl rfl<|J.guardN rfl rfl rfl<|J.quiet (Y.pickT rfl rfl) rfl<|J.done<|J.thenN ?_
   exact J.meetI (true) (()) h SF (SubM.refl _) (LentAll.refl _ _)
  ·have h:=ifN hp85 h
   refine J.guardY rfl (Y.loadBAll 0 rfl rfl rfl rfl) rfl<|J.guardY rfl (Y.move rfl) rfl<|J.guardY rfl (Y.move rfl) rfl ?_
   have h:=bnd h;obtain⟨r86,hr87,h⟩:=h
   refine J.loudG rfl (Loud.callL body84 (t_world_linked fuel v3 v4 (List.zip w5 p1.2) r86 hr87) rfl (LentAll.cons (Lent.fact 3 rfl) (LentAll.cons (Lent.rows (i:=2) (j:=3) rfl rfl FI64I64p) .nil)) (fun _ _=>rfl)) rfl fun x88=>J.quiet (Y.pickF rfl rfl) rfl<|J.done<|J.thenN ?_
   exact J.meetI (r86) (()) h SF (SubM.refl _) (LentAll.refl _ _)
 ·clear h
  intro a4 b5 h
  unfold _world_Net__link_k1 at h
  refine J.cond (by exact rfl) (fun hp6=> ?_) (fun hp6=> ?_)
  ·have h:=ifP hp6 h
   refine J.ret<|J.thenR ?_
   obtain rfl:=Option.some.inj h
   exact J.retG0 (w5) rfl rfl .ret (.inl rfl) (SubM.cons 2 rfl (SubM.cons 2 rfl (SubM.nil))) LentAll.nil
  ·have h:=ifBN hp6 h
   refine J.skip<|J.thenN<|J.seq<|J.region<|J.quiet (Y.move rfl) rfl<|J.quiet (Y.move rfl) rfl ?_
   refine J.quiet (Y.bld2 (r:=Value.agg #[Value.int .i64 (p3),Value.int .i64 (p4)]) rfl rfl (by intro w;simp[Instr.build,Instr.fill,cells_intV,cells_boolV,cells_sliceV,cells_ptrV,cells_strV,cells_funcV,cells_agg])) rfl ?_
   refine J.quiet (Y.move rfl) rfl<|J.quiet (Y.move rfl) rfl ?_
   refine J.quiet (Y.bld2 (r:=Value.agg #[Value.int .i64 (p2),Value.int .i64 (p4)]) rfl rfl (by intro w;simp[Instr.build,Instr.fill,cells_intV,cells_boolV,cells_sliceV,cells_ptrV,cells_strV,cells_funcV,cells_agg])) rfl ?_
   refine J.loud (Loud.alloc (cs:=[Value.int .i64 (0:Int),Value.int .i64 (0:Int)]) rfl rfl) rfl fun b7=>J.loud (Loud.alloc (cs:=[Value.int .i64 (0:Int),Value.int .i64 (0:Int)]) rfl rfl) rfl fun b8=>J.storeAll 1 (vs:=[Value.int .i64 (p3),Value.int .i64 (p4)]) rfl rfl rfl rfl rfl rfl<|J.storeAll 0 (vs:=[Value.int .i64 (p2),Value.int .i64 (p4)]) rfl rfl rfl rfl rfl rfl<|J.done<|J.thenN<|J.seq<|J.seq<|J.region<|J.quiet (Y.fieldB rfl rfl rfl rfl rfl) rfl<|J.quiet (Y.loadB 3 rfl rfl rfl rfl rfl) rfl<|J.done<|J.thenN ?_
   refine J.cond (by exact rfl) (fun hp9=> ?_) (fun hp9=> ?_)
   ·have h:=ifP hp9 h
    refine J.seq ?_
    refine JR.start [0,1,0,0,8,0,32,0,224,480,1016,2047,4095] 11 mixedOrders (by decide +kernel) ?_
    refine JR.open (by exact rfl) ?_
    refine JR.qt rfl (SubM.nil) (SubL.nil) (Y.fieldB rfl rfl rfl rfl rfl) HistOk.z<|JR.qt rfl (SubM.cons 2 rfl (SubM.nil)) (SubL.nil) (Y.loadB 0 rfl rfl rfl rfl rfl) HistOk.z<|JR.qt rfl (SubM.nil) (SubL.nil) (Y.move rfl) HistOk.z<|JR.qt rfl (SubM.cons 1 rfl (SubM.nil)) (SubL.nil) (Y.loadBAll 0 rfl rfl rfl rfl) HistOk.z<|JR.loud rfl rfl rfl (Loud.buildS (e:=EI64I64p) ([((p3,p4))]) [(0,Value.agg #[Value.int .i64 (p3),Value.int .i64 (p4)])] rfl rfl rfl rfl (fill_1_2 (Value.int .i64 (p3)) (Value.int .i64 (p4))) rfl rfl rfl) rfl (fun u10=>(BsOk.b rfl (BsOk.h (SubM.nil) (SubL.nil) (BsOk.h (SubM.cons 3 rfl (SubM.nil)) (SubL.nil) (BsOk.h (SubM.nil) (SubL.nil) BsOk.z))))) fun u10=>JR.qt rfl (SubM.nil) (SubL.nil) (Y.fieldB rfl rfl rfl rfl rfl) (HistOk.h (SubM.nil) (SubL.nil) HistOk.z)<|JR.qt rfl (SubM.cons 3 rfl (SubM.nil)) (SubL.nil) (Y.loadB 0 rfl rfl rfl rfl rfl) (HistOk.h (SubM.cons 2 rfl (SubM.nil)) (SubL.nil) HistOk.z)<|JR.qt rfl (SubM.nil) (SubL.nil) (Y.move rfl) (HistOk.h (SubM.nil) (SubL.nil) HistOk.z) ?_
    have h:=ck_some h;obtain⟨hc11,h⟩:=h
    refine JR.know (Know.rws 6 rfl) fun hl12=> ?_
    refine JR.qt rfl (SubM.cons 5 rfl (SubM.nil)) (SubL.nil) (Y.indexA 0 rfl rfl rfl rfl rfl hc11.1 (by have q1:=hc11.2;have q2:=hl12;(try simp only[List.length_set]at q1);(try simp only[List.length_set]at q2);(try simp only[List.length_set]);omega)) (HistOk.h (SubM.cons 4 rfl (SubM.nil)) (SubL.nil) HistOk.z) ?_
    refine JR.know (Know.rws 6 rfl) fun hl13=>JR.qt rfl (SubM.cons 5 rfl (SubM.nil)) (SubL.nil) (Y.loadRaw 0 rfl rfl hl13 rfl rfl hc11) (HistOk.h (SubM.cons 4 rfl (SubM.nil)) (SubL.nil) HistOk.z) ?_
    have h:=ck_some h;obtain⟨hc15,h⟩:=h
    refine JR.loud rfl rfl rfl (Loud.appendL 0 FI64I64p rfl rfl rfl (Lent.row (j:=6) rfl FI64I64p hc11.1 hc11.2) rfl rfl rfl rfl hc15 rfl) rfl (fun u14=>(BsOk.b rfl (BsOk.b rfl (BsOk.b rfl (BsOk.b rfl (BsOk.b rfl (BsOk.b rfl (BsOk.h (SubM.nil) (SubL.nil) (BsOk.h (SubM.cons 3 rfl (SubM.nil)) (SubL.nil) (BsOk.h (SubM.nil) (SubL.nil) BsOk.z)))))))))) fun u14=>JR.tailD 11 rfl rfl ?_
    have h:=ck_some h;obtain⟨hc16,h⟩:=h
    refine J.quiet (Y.indexN rfl rfl (Lent.rows (i:=5) (j:=6) rfl rfl FI64I64p) rfl rfl hc16) rfl<|J.know (Know.one ((Lent.ar (Lent.res 0 rfl) FI64I64p))) fun ho17=>J.stp (Stp.putRow (k:=p2) 6 0 rfl rfl rfl hc16) ?_
    refine J.storeRow 4 5 ⟨hc16.1,by first|exact hc16.2|simpa using hc16.2⟩ rfl rfl rfl rfl rfl (by simp) ho17 rfl ?_
    refine J.done<|J.thenN<|J.seq ?_
    refine JR.start [0,1,0,0,8,0,32,0,224,480,1016,2047,4095] 11 mixedOrders (by decide +kernel) ?_
    refine JR.open (by exact rfl) ?_
    refine JR.qt rfl (SubM.nil) (SubL.nil) (Y.fieldB rfl rfl rfl rfl rfl) HistOk.z<|JR.qt rfl (SubM.cons 2 rfl (SubM.nil)) (SubL.nil) (Y.loadB 0 rfl rfl rfl rfl rfl) HistOk.z<|JR.qt rfl (SubM.nil) (SubL.nil) (Y.move rfl) HistOk.z<|JR.qt rfl (SubM.cons 0 rfl (SubM.nil)) (SubL.nil) (Y.loadBAll 0 rfl rfl rfl rfl) HistOk.z<|JR.loud rfl rfl rfl (Loud.buildS (e:=EI64I64p) ([((p2,p4))]) [(0,Value.agg #[Value.int .i64 (p2),Value.int .i64 (p4)])] rfl rfl rfl rfl (fill_1_2 (Value.int .i64 (p2)) (Value.int .i64 (p4))) rfl rfl rfl) rfl (fun u18=>(BsOk.b rfl (BsOk.h (SubM.nil) (SubL.nil) (BsOk.h (SubM.cons 3 rfl (SubM.nil)) (SubL.nil) (BsOk.h (SubM.nil) (SubL.nil) BsOk.z))))) fun u18=>JR.qt rfl (SubM.nil) (SubL.nil) (Y.fieldB rfl rfl rfl rfl rfl) (HistOk.h (SubM.nil) (SubL.nil) HistOk.z)<|JR.qt rfl (SubM.cons 3 rfl (SubM.nil)) (SubL.nil) (Y.loadB 0 rfl rfl rfl rfl rfl) (HistOk.h (SubM.cons 2 rfl (SubM.nil)) (SubL.nil) HistOk.z)<|JR.qt rfl (SubM.nil) (SubL.nil) (Y.move rfl) (HistOk.h (SubM.nil) (SubL.nil) HistOk.z) ?_
    have h:=ck_some h;obtain⟨hc19,h⟩:=h
    refine JR.know (Know.rws 6 rfl) fun hl20=> ?_
    refine JR.qt rfl (SubM.cons 5 rfl (SubM.nil)) (SubL.nil) (Y.indexA 0 rfl rfl rfl rfl rfl hc19.1 (by have q1:=hc19.2;have q2:=hl20;(try simp only[List.length_set]at q1);(try simp only[List.length_set]at q2);(try simp only[List.length_set]);omega)) (HistOk.h (SubM.cons 4 rfl (SubM.nil)) (SubL.nil) HistOk.z) ?_
    refine JR.know (Know.rws 6 rfl) fun hl21=>JR.qt rfl (SubM.cons 5 rfl (SubM.nil)) (SubL.nil) (Y.loadRaw 0 rfl rfl hl21 rfl rfl hc19) (HistOk.h (SubM.cons 4 rfl (SubM.nil)) (SubL.nil) HistOk.z) ?_
    have h:=ck_some h;obtain⟨hc23,h⟩:=h
    refine JR.loud rfl rfl rfl (Loud.appendL 0 FI64I64p rfl rfl rfl (Lent.row (j:=6) rfl FI64I64p hc19.1 hc19.2) rfl rfl rfl rfl hc23 rfl) rfl (fun u22=>(BsOk.b rfl (BsOk.b rfl (BsOk.b rfl (BsOk.b rfl (BsOk.b rfl (BsOk.b rfl (BsOk.h (SubM.nil) (SubL.nil) (BsOk.h (SubM.cons 3 rfl (SubM.nil)) (SubL.nil) (BsOk.h (SubM.nil) (SubL.nil) BsOk.z)))))))))) fun u22=>JR.tailD 11 rfl rfl ?_
    have h:=ck_some h;obtain⟨hc24,h⟩:=h
    refine J.quiet (Y.indexN rfl rfl (Lent.rows (i:=5) (j:=6) rfl rfl FI64I64p) rfl rfl hc24) rfl<|J.know (Know.one ((Lent.ar (Lent.res 0 rfl) FI64I64p))) fun ho25=>J.stp (Stp.putRow (k:=p3) 6 0 rfl rfl rfl hc24) ?_
    refine J.storeRow 4 5 ⟨hc24.1,by first|exact hc24.2|simpa using hc24.2⟩ rfl rfl rfl rfl rfl (by simp) ho25 rfl ?_
    refine J.done<|J.thenN<|J.ret<|J.thenR ?_
    obtain rfl:=Option.some.inj h
    exact J.retG0 (List.set (List.set w5 (Int.toNat p2) u14) (Int.toNat p3) u22) rfl rfl .ret (.inl rfl) (SubM.cons 4 rfl (SubM.cons 4 rfl (SubM.nil))) LentAll.nil
   ·have h:=ifBN hp9 h
    refine J.skip<|J.thenN ?_
    have h:=ck_some h;obtain⟨hc26,h⟩:=h
    have h:=ck_some h;obtain⟨hc29,h⟩:=h
    have h:=ck_some h;obtain⟨hc34,h⟩:=h
    have h:=ck_some h;obtain⟨hc37,h⟩:=h
    have h:=ck_some h;obtain⟨hc38,h⟩:=h
    have h:=ck_some h;obtain⟨hc39,h⟩:=h
    have h:=ck_some h;obtain⟨hc43,h⟩:=h
    refine JR.orders [0,1,0,0,8,0,0,64,0,448,960,0,2048,8128,0,16384,0,114688,245760,0,524288,2097088,4194247,8388551,16777215,33554431] 24 [[0,1,2,3,4,5,6,7,8,9,10,11,14,15,16,17,18,19,12,13,20,21,22,23,24,25],[0,1,2,3,4,5,6,7,8,9,10,11,14,15,16,17,18,19,12,20,13,21,22,23,24,25],[0,1,2,3,4,5,6,7,8,9,10,11,14,15,16,17,18,19,20,12,13,21,22,23,24,25]] mixedOrders (by decide +kernel) (by decide +kernel) ?_
    intro o ho
    simp only[List.mem_cons,List.not_mem_nil,or_false]at ho
    rcases ho with rfl|rfl|rfl
    ·refine JR.qt rfl (SubM.nil) (SubL.nil) (Y.fieldB rfl rfl rfl rfl rfl) HistOk.z<|JR.qt rfl (SubM.cons 2 rfl (SubM.nil)) (SubL.nil) (Y.loadB 0 rfl rfl rfl rfl rfl) HistOk.z<|JR.qt rfl (SubM.nil) (SubL.nil) (Y.move rfl) HistOk.z<|JR.qt rfl (SubM.nil) (SubL.nil) (Y.fieldB rfl rfl rfl rfl rfl) HistOk.z<|JR.qt rfl (SubM.cons 2 rfl (SubM.nil)) (SubL.nil) (Y.loadB 0 rfl rfl rfl rfl rfl) HistOk.z<|JR.qt rfl (SubM.nil) (SubL.nil) (Y.move rfl) HistOk.z<|JR.qt rfl (SubM.nil) (SubL.nil) (Y.fieldB rfl rfl rfl rfl rfl) HistOk.z<|JR.qt rfl (SubM.cons 2 rfl (SubM.nil)) (SubL.nil) (Y.loadB 0 rfl rfl rfl rfl rfl) HistOk.z<|JR.qt rfl (SubM.nil) (SubL.nil) (Y.move rfl) HistOk.z<|JR.know (Know.rws 5 rfl) fun hl46=> ?_
     refine JR.qt rfl (SubM.cons 4 rfl (SubM.nil)) (SubL.nil) (Y.indexA 0 rfl rfl rfl rfl rfl hc26.1 (by have q1:=hc26.2;have q2:=hl46;(try simp only[List.length_set]at q1);(try simp only[List.length_set]at q2);(try simp only[List.length_set]);omega)) HistOk.z ?_
     refine JR.know (Know.rws 5 rfl) fun hl47=>JR.qt rfl (SubM.cons 4 rfl (SubM.nil)) (SubL.nil) (Y.loadRaw 0 rfl rfl hl47 rfl rfl hc26) HistOk.z<|JR.qt rfl (SubM.cons 1 rfl (SubM.nil)) (SubL.nil) (Y.loadBAll 0 rfl rfl rfl rfl) HistOk.z<|JR.qt rfl (SubM.nil) (SubL.nil) (Y.fieldB rfl rfl rfl rfl rfl) HistOk.z<|JR.qt rfl (SubM.cons 2 rfl (SubM.nil)) (SubL.nil) (Y.loadB 0 rfl rfl rfl rfl rfl) HistOk.z<|JR.qt rfl (SubM.nil) (SubL.nil) (Y.move rfl) HistOk.z<|JR.know (Know.rws 5 rfl) fun hl48=> ?_
     refine JR.qt rfl (SubM.cons 4 rfl (SubM.nil)) (SubL.nil) (Y.indexA 0 rfl rfl rfl rfl rfl hc29.1 (by have q1:=hc29.2;have q2:=hl48;(try simp only[List.length_set]at q1);(try simp only[List.length_set]at q2);(try simp only[List.length_set]);omega)) HistOk.z ?_
     refine JR.know (Know.rws 5 rfl) fun hl49=>JR.qt rfl (SubM.cons 4 rfl (SubM.nil)) (SubL.nil) (Y.loadRaw 0 rfl rfl hl49 rfl rfl hc29) HistOk.z<|JR.qt rfl (SubM.cons 0 rfl (SubM.nil)) (SubL.nil) (Y.loadBAll 0 rfl rfl rfl rfl) HistOk.z<|JR.loud rfl rfl rfl (Loud.buildS (e:=EI64I64p) ([((p3,p4))]) [(0,Value.agg #[Value.int .i64 (p3),Value.int .i64 (p4)])] rfl rfl rfl rfl (fill_1_2 (Value.int .i64 (p3)) (Value.int .i64 (p4))) rfl rfl rfl) rfl (fun u50=>(BsOk.h (SubM.cons 1 rfl (SubM.nil)) (SubL.nil) (BsOk.h (SubM.cons 5 rfl (SubM.nil)) (SubL.nil) (BsOk.h (SubM.cons 5 rfl (SubM.nil)) (SubL.nil) (BsOk.h (SubM.nil) (SubL.nil) (BsOk.h (SubM.cons 3 rfl (SubM.nil)) (SubL.nil) (BsOk.h (SubM.nil) (SubL.nil) (BsOk.b rfl (BsOk.h (SubM.cons 5 rfl (SubM.nil)) (SubL.nil) (BsOk.h (SubM.cons 5 rfl (SubM.nil)) (SubL.nil) (BsOk.h (SubM.nil) (SubL.nil) (BsOk.h (SubM.cons 3 rfl (SubM.nil)) (SubL.nil) (BsOk.h (SubM.nil) (SubL.nil) (BsOk.h (SubM.nil) (SubL.nil) (BsOk.h (SubM.cons 3 rfl (SubM.nil)) (SubL.nil) (BsOk.h (SubM.nil) (SubL.nil) (BsOk.h (SubM.nil) (SubL.nil) (BsOk.h (SubM.cons 3 rfl (SubM.nil)) (SubL.nil) (BsOk.h (SubM.nil) (SubL.nil) BsOk.z))))))))))))))))))) fun u50=>JR.loud rfl rfl rfl (Loud.appendRowL 6 FI64I64p rfl rfl rfl (Lent.ar (Lent.res 0 rfl) FI64I64p) rfl rfl rfl rfl hc26 hc34 rfl) rfl (fun u51=>(BsOk.h (SubM.cons 1 rfl (SubM.nil)) (SubL.nil) (BsOk.h (SubM.cons 5 rfl (SubM.nil)) (SubL.nil) (BsOk.h (SubM.cons 5 rfl (SubM.nil)) (SubL.nil) (BsOk.h (SubM.nil) (SubL.nil) (BsOk.h (SubM.cons 3 rfl (SubM.nil)) (SubL.nil) (BsOk.h (SubM.nil) (SubL.nil) (BsOk.b rfl (BsOk.b rfl (BsOk.b rfl (BsOk.b rfl (BsOk.b rfl (BsOk.b rfl (BsOk.h (SubM.nil) (SubL.nil) (BsOk.h (SubM.cons 3 rfl (SubM.nil)) (SubL.nil) (BsOk.h (SubM.nil) (SubL.nil) (BsOk.h (SubM.nil) (SubL.nil) (BsOk.h (SubM.cons 3 rfl (SubM.nil)) (SubL.nil) (BsOk.h (SubM.nil) (SubL.nil) BsOk.z))))))))))))))))))) fun u51=>JR.loud rfl rfl rfl (Loud.buildS (e:=EI64I64p) ([((p2,p4))]) [(0,Value.agg #[Value.int .i64 (p2),Value.int .i64 (p4)])] rfl rfl rfl rfl (fill_1_2 (Value.int .i64 (p2)) (Value.int .i64 (p4))) rfl rfl rfl) rfl (fun u52=>(BsOk.b rfl (BsOk.h (SubM.cons 6 rfl (SubM.nil)) (SubL.nil) (BsOk.h (SubM.cons 6 rfl (SubM.nil)) (SubL.nil) (BsOk.h (SubM.nil) (SubL.nil) (BsOk.h (SubM.cons 4 rfl (SubM.nil)) (SubL.nil) (BsOk.h (SubM.nil) (SubL.nil) (BsOk.h (SubM.cons 3 rfl (SubM.nil)) (SubL.nil) (BsOk.h (SubM.cons 6 rfl (SubM.nil)) (SubL.nil) (BsOk.h (SubM.cons 6 rfl (SubM.nil)) (SubL.nil) (BsOk.h (SubM.nil) (SubL.nil) (BsOk.h (SubM.cons 4 rfl (SubM.nil)) (SubL.nil) (BsOk.h (SubM.nil) (SubL.nil) (BsOk.h (SubM.nil) (SubL.nil) (BsOk.h (SubM.cons 4 rfl (SubM.nil)) (SubL.nil) (BsOk.h (SubM.nil) (SubL.nil) (BsOk.h (SubM.nil) (SubL.nil) (BsOk.h (SubM.cons 4 rfl (SubM.nil)) (SubL.nil) (BsOk.h (SubM.nil) (SubL.nil) BsOk.z))))))))))))))))))) fun u52=>JR.loud rfl rfl rfl (Loud.appendRow2 (j:=p2) 7 FI64I64p rfl rfl rfl (Lent.ar (Lent.res 0 rfl) FI64I64p) rfl rfl rfl rfl hc29 hc37 rfl hc38) rfl (fun u53=>(BsOk.b rfl (BsOk.b rfl (BsOk.b rfl (BsOk.b rfl (BsOk.b rfl (BsOk.b rfl (BsOk.b rfl (BsOk.b rfl (BsOk.b rfl (BsOk.b rfl (BsOk.b rfl (BsOk.b rfl (BsOk.h (SubM.nil) (SubL.nil) (BsOk.h (SubM.cons 4 rfl (SubM.nil)) (SubL.nil) (BsOk.h (SubM.nil) (SubL.nil) (BsOk.h (SubM.nil) (SubL.nil) (BsOk.h (SubM.cons 4 rfl (SubM.nil)) (SubL.nil) (BsOk.h (SubM.nil) (SubL.nil) BsOk.z))))))))))))))))))) fun u53=>JR.know (Know.rws 7 rfl) fun hl54=> ?_
     refine JR.qt rfl (SubM.cons 6 rfl (SubM.nil)) (SubL.nil) (Y.indexA 0 rfl rfl rfl rfl rfl hc39.1 (by have q1:=hc39.2;have q2:=hl54;(try simp only[List.length_set]at q1);(try simp only[List.length_set]at q2);(try simp only[List.length_set]);omega)) (HistOk.b rfl (HistOk.b rfl (HistOk.b rfl (HistOk.b rfl HistOk.z)))) ?_
     refine JR.know (Know.oneRow2 (k:=p2) (j:=p3) 7 rfl (by omega) ⟨hc39.1,by first|exact hc39.2|simpa using hc39.2⟩) fun ho55=> ?_
     refine JR.loud0 rfl rfl rfl (Loud.storeRow 6 7 ⟨hc39.1,by first|exact hc39.2|simpa using hc39.2⟩ rfl rfl rfl rfl (by simp) ho55 rfl) (fun x56=>(BsOk.b rfl (BsOk.b rfl (BsOk.b rfl (BsOk.b rfl (BsOk.b rfl (BsOk.b rfl (BsOk.b rfl (BsOk.b rfl (BsOk.b rfl (BsOk.b rfl (BsOk.b rfl (BsOk.b rfl (BsOk.b rfl (BsOk.h (SubM.nil) (SubL.nil) (BsOk.h (SubM.cons 4 rfl (SubM.nil)) (SubL.nil) (BsOk.h (SubM.nil) (SubL.nil) (BsOk.b rfl (BsOk.b rfl (BsOk.b rfl BsOk.z)))))))))))))))))))) fun x56=> ?_
     refine JR.tailD 24 rfl rfl<|J.know (Know.rws 7 rfl) fun hl57=> ?_
     refine J.quiet (Y.indexA 6 rfl rfl rfl rfl rfl hc43.1 (by have q1:=hc43.2;have q2:=hl57;(try simp only[List.length_set]at q1);(try simp only[List.length_set]at q2);(try simp only[List.length_set]);omega)) rfl ?_
     refine J.know (Know.oneRow 7 (k:=p3) rfl ⟨hc43.1,by first|exact hc43.2|simpa using hc43.2⟩) fun ho58=> ?_
     refine J.storeRow 6 7 ⟨hc43.1,by first|exact hc43.2|simpa using hc43.2⟩ rfl rfl rfl rfl rfl (by simp) ho58 rfl ?_
     refine J.done ?_
     obtain rfl:=Option.some.inj h
     exact J.retG0 (List.set (List.set w5 (Int.toNat p2) u51) (Int.toNat p3) u53) rfl rfl .normal (.inr rfl) (SubM.cons 6 rfl (SubM.cons 6 rfl (SubM.nil))) LentAll.nil
    ·refine JR.qt rfl (SubM.nil) (SubL.nil) (Y.fieldB rfl rfl rfl rfl rfl) HistOk.z<|JR.qt rfl (SubM.cons 2 rfl (SubM.nil)) (SubL.nil) (Y.loadB 0 rfl rfl rfl rfl rfl) HistOk.z<|JR.qt rfl (SubM.nil) (SubL.nil) (Y.move rfl) HistOk.z<|JR.qt rfl (SubM.nil) (SubL.nil) (Y.fieldB rfl rfl rfl rfl rfl) HistOk.z<|JR.qt rfl (SubM.cons 2 rfl (SubM.nil)) (SubL.nil) (Y.loadB 0 rfl rfl rfl rfl rfl) HistOk.z<|JR.qt rfl (SubM.nil) (SubL.nil) (Y.move rfl) HistOk.z<|JR.qt rfl (SubM.nil) (SubL.nil) (Y.fieldB rfl rfl rfl rfl rfl) HistOk.z<|JR.qt rfl (SubM.cons 2 rfl (SubM.nil)) (SubL.nil) (Y.loadB 0 rfl rfl rfl rfl rfl) HistOk.z<|JR.qt rfl (SubM.nil) (SubL.nil) (Y.move rfl) HistOk.z<|JR.know (Know.rws 5 rfl) fun hl59=> ?_
     refine JR.qt rfl (SubM.cons 4 rfl (SubM.nil)) (SubL.nil) (Y.indexA 0 rfl rfl rfl rfl rfl hc26.1 (by have q1:=hc26.2;have q2:=hl59;(try simp only[List.length_set]at q1);(try simp only[List.length_set]at q2);(try simp only[List.length_set]);omega)) HistOk.z ?_
     refine JR.know (Know.rws 5 rfl) fun hl60=>JR.qt rfl (SubM.cons 4 rfl (SubM.nil)) (SubL.nil) (Y.loadRaw 0 rfl rfl hl60 rfl rfl hc26) HistOk.z<|JR.qt rfl (SubM.cons 1 rfl (SubM.nil)) (SubL.nil) (Y.loadBAll 0 rfl rfl rfl rfl) HistOk.z<|JR.qt rfl (SubM.nil) (SubL.nil) (Y.fieldB rfl rfl rfl rfl rfl) HistOk.z<|JR.qt rfl (SubM.cons 2 rfl (SubM.nil)) (SubL.nil) (Y.loadB 0 rfl rfl rfl rfl rfl) HistOk.z<|JR.qt rfl (SubM.nil) (SubL.nil) (Y.move rfl) HistOk.z<|JR.know (Know.rws 5 rfl) fun hl61=> ?_
     refine JR.qt rfl (SubM.cons 4 rfl (SubM.nil)) (SubL.nil) (Y.indexA 0 rfl rfl rfl rfl rfl hc29.1 (by have q1:=hc29.2;have q2:=hl61;(try simp only[List.length_set]at q1);(try simp only[List.length_set]at q2);(try simp only[List.length_set]);omega)) HistOk.z ?_
     refine JR.know (Know.rws 5 rfl) fun hl62=>JR.qt rfl (SubM.cons 4 rfl (SubM.nil)) (SubL.nil) (Y.loadRaw 0 rfl rfl hl62 rfl rfl hc29) HistOk.z<|JR.qt rfl (SubM.cons 0 rfl (SubM.nil)) (SubL.nil) (Y.loadBAll 0 rfl rfl rfl rfl) HistOk.z<|JR.loud rfl rfl rfl (Loud.buildS (e:=EI64I64p) ([((p3,p4))]) [(0,Value.agg #[Value.int .i64 (p3),Value.int .i64 (p4)])] rfl rfl rfl rfl (fill_1_2 (Value.int .i64 (p3)) (Value.int .i64 (p4))) rfl rfl rfl) rfl (fun u63=>(BsOk.h (SubM.cons 1 rfl (SubM.nil)) (SubL.nil) (BsOk.h (SubM.cons 5 rfl (SubM.nil)) (SubL.nil) (BsOk.h (SubM.cons 5 rfl (SubM.nil)) (SubL.nil) (BsOk.h (SubM.nil) (SubL.nil) (BsOk.h (SubM.cons 3 rfl (SubM.nil)) (SubL.nil) (BsOk.h (SubM.nil) (SubL.nil) (BsOk.b rfl (BsOk.h (SubM.cons 5 rfl (SubM.nil)) (SubL.nil) (BsOk.h (SubM.cons 5 rfl (SubM.nil)) (SubL.nil) (BsOk.h (SubM.nil) (SubL.nil) (BsOk.h (SubM.cons 3 rfl (SubM.nil)) (SubL.nil) (BsOk.h (SubM.nil) (SubL.nil) (BsOk.h (SubM.nil) (SubL.nil) (BsOk.h (SubM.cons 3 rfl (SubM.nil)) (SubL.nil) (BsOk.h (SubM.nil) (SubL.nil) (BsOk.h (SubM.nil) (SubL.nil) (BsOk.h (SubM.cons 3 rfl (SubM.nil)) (SubL.nil) (BsOk.h (SubM.nil) (SubL.nil) BsOk.z))))))))))))))))))) fun u63=>JR.loud rfl rfl rfl (Loud.buildS (e:=EI64I64p) ([((p2,p4))]) [(0,Value.agg #[Value.int .i64 (p2),Value.int .i64 (p4)])] rfl rfl rfl rfl (fill_1_2 (Value.int .i64 (p2)) (Value.int .i64 (p4))) rfl rfl rfl) rfl (fun u64=>(BsOk.b rfl (BsOk.h (SubM.cons 6 rfl (SubM.nil)) (SubL.nil) (BsOk.h (SubM.cons 6 rfl (SubM.nil)) (SubL.nil) (BsOk.h (SubM.nil) (SubL.nil) (BsOk.h (SubM.cons 4 rfl (SubM.nil)) (SubL.nil) (BsOk.h (SubM.nil) (SubL.nil) (BsOk.h (SubM.cons 3 rfl (SubM.nil)) (SubL.nil) (BsOk.h (SubM.cons 6 rfl (SubM.nil)) (SubL.nil) (BsOk.h (SubM.cons 6 rfl (SubM.nil)) (SubL.nil) (BsOk.h (SubM.nil) (SubL.nil) (BsOk.h (SubM.cons 4 rfl (SubM.nil)) (SubL.nil) (BsOk.h (SubM.nil) (SubL.nil) (BsOk.h (SubM.nil) (SubL.nil) (BsOk.h (SubM.cons 4 rfl (SubM.nil)) (SubL.nil) (BsOk.h (SubM.nil) (SubL.nil) (BsOk.h (SubM.nil) (SubL.nil) (BsOk.h (SubM.cons 4 rfl (SubM.nil)) (SubL.nil) (BsOk.h (SubM.nil) (SubL.nil) BsOk.z))))))))))))))))))) fun u64=>JR.loud rfl rfl rfl (Loud.appendRowL 7 FI64I64p rfl rfl rfl (Lent.ar (Lent.res 1 rfl) FI64I64p) rfl rfl rfl rfl hc26 hc34 rfl) rfl (fun u65=>(BsOk.h (SubM.cons 2 rfl (SubM.nil)) (SubL.nil) (BsOk.h (SubM.cons 6 rfl (SubM.nil)) (SubL.nil) (BsOk.h (SubM.cons 6 rfl (SubM.nil)) (SubL.nil) (BsOk.h (SubM.nil) (SubL.nil) (BsOk.h (SubM.cons 4 rfl (SubM.nil)) (SubL.nil) (BsOk.h (SubM.nil) (SubL.nil) (BsOk.b rfl (BsOk.b rfl (BsOk.b rfl (BsOk.b rfl (BsOk.b rfl (BsOk.b rfl (BsOk.h (SubM.nil) (SubL.nil) (BsOk.h (SubM.cons 4 rfl (SubM.nil)) (SubL.nil) (BsOk.h (SubM.nil) (SubL.nil) (BsOk.h (SubM.nil) (SubL.nil) (BsOk.h (SubM.cons 4 rfl (SubM.nil)) (SubL.nil) (BsOk.h (SubM.nil) (SubL.nil) BsOk.z))))))))))))))))))) fun u65=>JR.loud rfl rfl rfl (Loud.appendRow2 (j:=p2) 7 FI64I64p rfl rfl rfl (Lent.ar (Lent.res 0 rfl) FI64I64p) rfl rfl rfl rfl hc29 hc37 rfl hc38) rfl (fun u66=>(BsOk.b rfl (BsOk.b rfl (BsOk.b rfl (BsOk.b rfl (BsOk.b rfl (BsOk.b rfl (BsOk.b rfl (BsOk.b rfl (BsOk.b rfl (BsOk.b rfl (BsOk.b rfl (BsOk.b rfl (BsOk.h (SubM.nil) (SubL.nil) (BsOk.h (SubM.cons 4 rfl (SubM.nil)) (SubL.nil) (BsOk.h (SubM.nil) (SubL.nil) (BsOk.h (SubM.nil) (SubL.nil) (BsOk.h (SubM.cons 4 rfl (SubM.nil)) (SubL.nil) (BsOk.h (SubM.nil) (SubL.nil) BsOk.z))))))))))))))))))) fun u66=>JR.know (Know.rws 7 rfl) fun hl67=> ?_
     refine JR.qt rfl (SubM.cons 6 rfl (SubM.nil)) (SubL.nil) (Y.indexA 0 rfl rfl rfl rfl rfl hc39.1 (by have q1:=hc39.2;have q2:=hl67;(try simp only[List.length_set]at q1);(try simp only[List.length_set]at q2);(try simp only[List.length_set]);omega)) (HistOk.b rfl (HistOk.b rfl (HistOk.b rfl (HistOk.b rfl HistOk.z)))) ?_
     refine JR.know (Know.oneRow2 (k:=p2) (j:=p3) 7 rfl (by omega) ⟨hc39.1,by first|exact hc39.2|simpa using hc39.2⟩) fun ho68=> ?_
     refine JR.loud0 rfl rfl rfl (Loud.storeRow 6 7 ⟨hc39.1,by first|exact hc39.2|simpa using hc39.2⟩ rfl rfl rfl rfl (by simp) ho68 rfl) (fun x69=>(BsOk.b rfl (BsOk.b rfl (BsOk.b rfl (BsOk.b rfl (BsOk.b rfl (BsOk.b rfl (BsOk.b rfl (BsOk.b rfl (BsOk.b rfl (BsOk.b rfl (BsOk.b rfl (BsOk.b rfl (BsOk.b rfl (BsOk.h (SubM.nil) (SubL.nil) (BsOk.h (SubM.cons 4 rfl (SubM.nil)) (SubL.nil) (BsOk.h (SubM.nil) (SubL.nil) (BsOk.b rfl (BsOk.b rfl (BsOk.b rfl BsOk.z)))))))))))))))))))) fun x69=> ?_
     refine JR.tailD 24 rfl rfl<|J.know (Know.rws 7 rfl) fun hl70=> ?_
     refine J.quiet (Y.indexA 6 rfl rfl rfl rfl rfl hc43.1 (by have q1:=hc43.2;have q2:=hl70;(try simp only[List.length_set]at q1);(try simp only[List.length_set]at q2);(try simp only[List.length_set]);omega)) rfl ?_
     refine J.know (Know.oneRow 7 (k:=p3) rfl ⟨hc43.1,by first|exact hc43.2|simpa using hc43.2⟩) fun ho71=> ?_
     refine J.storeRow 6 7 ⟨hc43.1,by first|exact hc43.2|simpa using hc43.2⟩ rfl rfl rfl rfl rfl (by simp) ho71 rfl ?_
     refine J.done ?_
     obtain rfl:=Option.some.inj h
     exact J.retG0 (List.set (List.set w5 (Int.toNat p2) u65) (Int.toNat p3) u66) rfl rfl .normal (.inr rfl) (SubM.cons 6 rfl (SubM.cons 6 rfl (SubM.nil))) LentAll.nil
    ·refine JR.qt rfl (SubM.nil) (SubL.nil) (Y.fieldB rfl rfl rfl rfl rfl) HistOk.z<|JR.qt rfl (SubM.cons 2 rfl (SubM.nil)) (SubL.nil) (Y.loadB 0 rfl rfl rfl rfl rfl) HistOk.z<|JR.qt rfl (SubM.nil) (SubL.nil) (Y.move rfl) HistOk.z<|JR.qt rfl (SubM.nil) (SubL.nil) (Y.fieldB rfl rfl rfl rfl rfl) HistOk.z<|JR.qt rfl (SubM.cons 2 rfl (SubM.nil)) (SubL.nil) (Y.loadB 0 rfl rfl rfl rfl rfl) HistOk.z<|JR.qt rfl (SubM.nil) (SubL.nil) (Y.move rfl) HistOk.z<|JR.qt rfl (SubM.nil) (SubL.nil) (Y.fieldB rfl rfl rfl rfl rfl) HistOk.z<|JR.qt rfl (SubM.cons 2 rfl (SubM.nil)) (SubL.nil) (Y.loadB 0 rfl rfl rfl rfl rfl) HistOk.z<|JR.qt rfl (SubM.nil) (SubL.nil) (Y.move rfl) HistOk.z<|JR.know (Know.rws 5 rfl) fun hl72=> ?_
     refine JR.qt rfl (SubM.cons 4 rfl (SubM.nil)) (SubL.nil) (Y.indexA 0 rfl rfl rfl rfl rfl hc26.1 (by have q1:=hc26.2;have q2:=hl72;(try simp only[List.length_set]at q1);(try simp only[List.length_set]at q2);(try simp only[List.length_set]);omega)) HistOk.z ?_
     refine JR.know (Know.rws 5 rfl) fun hl73=>JR.qt rfl (SubM.cons 4 rfl (SubM.nil)) (SubL.nil) (Y.loadRaw 0 rfl rfl hl73 rfl rfl hc26) HistOk.z<|JR.qt rfl (SubM.cons 1 rfl (SubM.nil)) (SubL.nil) (Y.loadBAll 0 rfl rfl rfl rfl) HistOk.z<|JR.qt rfl (SubM.nil) (SubL.nil) (Y.fieldB rfl rfl rfl rfl rfl) HistOk.z<|JR.qt rfl (SubM.cons 2 rfl (SubM.nil)) (SubL.nil) (Y.loadB 0 rfl rfl rfl rfl rfl) HistOk.z<|JR.qt rfl (SubM.nil) (SubL.nil) (Y.move rfl) HistOk.z<|JR.know (Know.rws 5 rfl) fun hl74=> ?_
     refine JR.qt rfl (SubM.cons 4 rfl (SubM.nil)) (SubL.nil) (Y.indexA 0 rfl rfl rfl rfl rfl hc29.1 (by have q1:=hc29.2;have q2:=hl74;(try simp only[List.length_set]at q1);(try simp only[List.length_set]at q2);(try simp only[List.length_set]);omega)) HistOk.z ?_
     refine JR.know (Know.rws 5 rfl) fun hl75=>JR.qt rfl (SubM.cons 4 rfl (SubM.nil)) (SubL.nil) (Y.loadRaw 0 rfl rfl hl75 rfl rfl hc29) HistOk.z<|JR.qt rfl (SubM.cons 0 rfl (SubM.nil)) (SubL.nil) (Y.loadBAll 0 rfl rfl rfl rfl) HistOk.z<|JR.loud rfl rfl rfl (Loud.buildS (e:=EI64I64p) ([((p2,p4))]) [(0,Value.agg #[Value.int .i64 (p2),Value.int .i64 (p4)])] rfl rfl rfl rfl (fill_1_2 (Value.int .i64 (p2)) (Value.int .i64 (p4))) rfl rfl rfl) rfl (fun u76=>(BsOk.b rfl (BsOk.h (SubM.cons 5 rfl (SubM.nil)) (SubL.nil) (BsOk.h (SubM.cons 5 rfl (SubM.nil)) (SubL.nil) (BsOk.h (SubM.nil) (SubL.nil) (BsOk.h (SubM.cons 3 rfl (SubM.nil)) (SubL.nil) (BsOk.h (SubM.nil) (SubL.nil) (BsOk.h (SubM.cons 2 rfl (SubM.nil)) (SubL.nil) (BsOk.h (SubM.cons 5 rfl (SubM.nil)) (SubL.nil) (BsOk.h (SubM.cons 5 rfl (SubM.nil)) (SubL.nil) (BsOk.h (SubM.nil) (SubL.nil) (BsOk.h (SubM.cons 3 rfl (SubM.nil)) (SubL.nil) (BsOk.h (SubM.nil) (SubL.nil) (BsOk.h (SubM.nil) (SubL.nil) (BsOk.h (SubM.cons 3 rfl (SubM.nil)) (SubL.nil) (BsOk.h (SubM.nil) (SubL.nil) (BsOk.h (SubM.nil) (SubL.nil) (BsOk.h (SubM.cons 3 rfl (SubM.nil)) (SubL.nil) (BsOk.h (SubM.nil) (SubL.nil) BsOk.z))))))))))))))))))) fun u76=>JR.loud rfl rfl rfl (Loud.buildS (e:=EI64I64p) ([((p3,p4))]) [(0,Value.agg #[Value.int .i64 (p3),Value.int .i64 (p4)])] rfl rfl rfl rfl (fill_1_2 (Value.int .i64 (p3)) (Value.int .i64 (p4))) rfl rfl rfl) rfl (fun u77=>(BsOk.h (SubM.cons 2 rfl (SubM.nil)) (SubL.nil) (BsOk.h (SubM.cons 6 rfl (SubM.nil)) (SubL.nil) (BsOk.h (SubM.cons 6 rfl (SubM.nil)) (SubL.nil) (BsOk.h (SubM.nil) (SubL.nil) (BsOk.h (SubM.cons 4 rfl (SubM.nil)) (SubL.nil) (BsOk.h (SubM.nil) (SubL.nil) (BsOk.b rfl (BsOk.h (SubM.cons 6 rfl (SubM.nil)) (SubL.nil) (BsOk.h (SubM.cons 6 rfl (SubM.nil)) (SubL.nil) (BsOk.h (SubM.nil) (SubL.nil) (BsOk.h (SubM.cons 4 rfl (SubM.nil)) (SubL.nil) (BsOk.h (SubM.nil) (SubL.nil) (BsOk.h (SubM.nil) (SubL.nil) (BsOk.h (SubM.cons 4 rfl (SubM.nil)) (SubL.nil) (BsOk.h (SubM.nil) (SubL.nil) (BsOk.h (SubM.nil) (SubL.nil) (BsOk.h (SubM.cons 4 rfl (SubM.nil)) (SubL.nil) (BsOk.h (SubM.nil) (SubL.nil) BsOk.z))))))))))))))))))) fun u77=>JR.loud rfl rfl rfl (Loud.appendRowL 7 FI64I64p rfl rfl rfl (Lent.ar (Lent.res 0 rfl) FI64I64p) rfl rfl rfl rfl hc26 hc34 rfl) rfl (fun u78=>(BsOk.h (SubM.cons 2 rfl (SubM.nil)) (SubL.nil) (BsOk.h (SubM.cons 6 rfl (SubM.nil)) (SubL.nil) (BsOk.h (SubM.cons 6 rfl (SubM.nil)) (SubL.nil) (BsOk.h (SubM.nil) (SubL.nil) (BsOk.h (SubM.cons 4 rfl (SubM.nil)) (SubL.nil) (BsOk.h (SubM.nil) (SubL.nil) (BsOk.b rfl (BsOk.b rfl (BsOk.b rfl (BsOk.b rfl (BsOk.b rfl (BsOk.b rfl (BsOk.h (SubM.nil) (SubL.nil) (BsOk.h (SubM.cons 4 rfl (SubM.nil)) (SubL.nil) (BsOk.h (SubM.nil) (SubL.nil) (BsOk.h (SubM.nil) (SubL.nil) (BsOk.h (SubM.cons 4 rfl (SubM.nil)) (SubL.nil) (BsOk.h (SubM.nil) (SubL.nil) BsOk.z))))))))))))))))))) fun u78=>JR.loud rfl rfl rfl (Loud.appendRow2 (j:=p2) 7 FI64I64p rfl rfl rfl (Lent.ar (Lent.res 1 rfl) FI64I64p) rfl rfl rfl rfl hc29 hc37 rfl hc38) rfl (fun u79=>(BsOk.b rfl (BsOk.b rfl (BsOk.b rfl (BsOk.b rfl (BsOk.b rfl (BsOk.b rfl (BsOk.b rfl (BsOk.b rfl (BsOk.b rfl (BsOk.b rfl (BsOk.b rfl (BsOk.b rfl (BsOk.h (SubM.nil) (SubL.nil) (BsOk.h (SubM.cons 4 rfl (SubM.nil)) (SubL.nil) (BsOk.h (SubM.nil) (SubL.nil) (BsOk.h (SubM.nil) (SubL.nil) (BsOk.h (SubM.cons 4 rfl (SubM.nil)) (SubL.nil) (BsOk.h (SubM.nil) (SubL.nil) BsOk.z))))))))))))))))))) fun u79=>JR.know (Know.rws 7 rfl) fun hl80=> ?_
     refine JR.qt rfl (SubM.cons 6 rfl (SubM.nil)) (SubL.nil) (Y.indexA 0 rfl rfl rfl rfl rfl hc39.1 (by have q1:=hc39.2;have q2:=hl80;(try simp only[List.length_set]at q1);(try simp only[List.length_set]at q2);(try simp only[List.length_set]);omega)) (HistOk.b rfl (HistOk.b rfl (HistOk.b rfl (HistOk.b rfl HistOk.z)))) ?_
     refine JR.know (Know.oneRow2 (k:=p2) (j:=p3) 7 rfl (by omega) ⟨hc39.1,by first|exact hc39.2|simpa using hc39.2⟩) fun ho81=> ?_
     refine JR.loud0 rfl rfl rfl (Loud.storeRow 6 7 ⟨hc39.1,by first|exact hc39.2|simpa using hc39.2⟩ rfl rfl rfl rfl (by simp) ho81 rfl) (fun x82=>(BsOk.b rfl (BsOk.b rfl (BsOk.b rfl (BsOk.b rfl (BsOk.b rfl (BsOk.b rfl (BsOk.b rfl (BsOk.b rfl (BsOk.b rfl (BsOk.b rfl (BsOk.b rfl (BsOk.b rfl (BsOk.b rfl (BsOk.h (SubM.nil) (SubL.nil) (BsOk.h (SubM.cons 4 rfl (SubM.nil)) (SubL.nil) (BsOk.h (SubM.nil) (SubL.nil) (BsOk.b rfl (BsOk.b rfl (BsOk.b rfl BsOk.z)))))))))))))))))))) fun x82=> ?_
     refine JR.tailD 24 rfl rfl<|J.know (Know.rws 7 rfl) fun hl83=> ?_
     refine J.quiet (Y.indexA 6 rfl rfl rfl rfl rfl hc43.1 (by have q1:=hc43.2;have q2:=hl83;(try simp only[List.length_set]at q1);(try simp only[List.length_set]at q2);(try simp only[List.length_set]);omega)) rfl ?_
     refine J.know (Know.oneRow 7 (k:=p3) rfl ⟨hc43.1,by first|exact hc43.2|simpa using hc43.2⟩) fun ho84=> ?_
     refine J.storeRow 6 7 ⟨hc43.1,by first|exact hc43.2|simpa using hc43.2⟩ rfl rfl rfl rfl rfl (by simp) ho84 rfl ?_
     refine J.done ?_
     obtain rfl:=Option.some.inj h
     exact J.retG0 (List.set (List.set w5 (Int.toNat p2) u78) (Int.toNat p3) u79) rfl rfl .normal (.inr rfl) (SubM.cons 6 rfl (SubM.cons 6 rfl (SubM.nil))) LentAll.nil
end Go.Proofs.YtdbcpliafeoghaaGreatDoor
end
section
namespace Go.Proofs.YtdbcpliafeoghaaGreatDoor
open Go.Sx
def _world_Net__Tree_k1 (r3:(List (Int)×(List (List (Int×Int))))) (a11:(List (List (Int×Int)))):Option ((List (Int)×(List (List (Int×Int))))):=
 some ((r3.1,a11))
def _world_Net__Tree_s1 (fuel:Nat) (p0:Int×List (Int)×List (Int)×List (Int)×Bool×Bool) (r3:(List (Int)×(List (List (Int×Int))))) (a19:Int×(List (List (Int×Int)))) (ag18:(Int×(List (List (Int×Int))))->Option ((List (Int)×(List (List (Int×Int)))))):Option ((List (Int)×(List (List (Int×Int))))):=
 if a19.1<(List.length a19.2:Int)then(Option.bind (m_world_at fuel p0.2.1 (wI .i64 (a19.1 - (1:Int)))) fun r23=>(Option.bind (m_world_Within fuel r23 a19.1) fun r26=>(Option.bind (m_world_at fuel p0.2.2.1 (wI .i64 (a19.1 - (1:Int)))) fun r29=>(Option.bind (m_world_Within fuel r29 (15:Int)) fun r32=>(Option.bind (m__world_Net__link fuel ((p0.1,p0.2.1,p0.2.2.1,p0.2.2.2.1,p0.2.2.2.2.1,p0.2.2.2.2.2)) ((r3.1,a19.2)) r26 a19.1 (wI .i64 ((1:Int)+r32))) fun r35=>(ag18 ((wI .i64 (a19.1+(1:Int))),r35)))))))else(_world_Net__Tree_k1 r3 (a19.2))
def m__world_Net__Tree (fuel:Nat) (p0:Int×List (Int)×List (Int)×List (Int)×Bool×Bool) (p1:Int):Option ((List (Int)×(List (List (Int×Int))))):=
 Option.bind (m__world_Net__nodes fuel ((p0.1,p0.2.1,p0.2.2.1,p0.2.2.2.1,p0.2.2.2.2.1,p0.2.2.2.2.2)) p1) fun r3=>(iter (_world_Net__Tree_s1 fuel p0 r3) fuel ((1:Int),r3.2))
theorem body22:HasBody Tryz.prog 22:=Tryz.call22
theorem t__world_Net__Tree (fuel:Nat) {p0:Int×List (Int)×List (Int)×List (Int)×Bool×Bool} {p1:Int} (v0:Value)  (v1:Value)  (v2:Value) (r:(List (Int)×(List (List (Int×Int))))) (h:m__world_Net__Tree fuel p0 p1=some r):
  Meets Tryz.prog 22 #[Value.agg #[Value.int .i64 (p0.1),v0,v1,v2,Value.bool (p0.2.2.2.2.1),Value.bool (p0.2.2.2.2.2)],Value.int .i64 (p1)] [Sl RI64 v0 p0.2.1,Sl RI64 v1 p0.2.2.1,Sl RI64 v2 p0.2.2.2.1] (fun x:Value×Value×List Value=>Value.agg #[x.1,x.2.1]) (fun x l=>Ar EI64 x.1 r.1::Ar Enc.raw x.2.1 x.2.2::Rws EI64I64p x.2.2 r.2::l) (fun _ l=>l):=by
 refine Meets.of (vs:=[Value.agg #[Value.int .i64 (p0.1),v0,v1,v2,Value.bool (p0.2.2.2.2.1),Value.bool (p0.2.2.2.2.2)],Value.int .i64 (p1)]) Tryz.func22 rfl Tryz.ntmps22 rfl fun c=> ?_
 unfold m__world_Net__Tree at h
 refine J.seq<|J.region<|J.loud (Loud.box (cs:=[Value.int .i64 (p0.1),v0,v1,v2,Value.bool (p0.2.2.2.2.1),Value.bool (p0.2.2.2.2.2)]) rfl rfl) rfl fun b1=>J.loud (Loud.alloc (cs:=[Value.slice none 0 0,Value.slice none 0 0]) rfl rfl) rfl fun b2=>J.done<|J.thenN<|J.seq<|J.region<|J.quiet (Y.loadBAll 1 rfl rfl rfl rfl) rfl<|J.quiet (Y.move rfl) rfl ?_
 have h:=bnd h;obtain⟨r3,hr4,h⟩:=h
 refine J.loud (Loud.callL body48 (t__world_Net__nodes fuel v0 v1 v2 r3 hr4) rfl (LentAll.cons (Lent.fact 0 rfl) (LentAll.cons (Lent.fact 1 rfl) (LentAll.cons (Lent.fact 2 rfl) .nil))) (fun _ _=>rfl)) rfl fun x5=>J.loud (Loud.alloc (cs:=[Value.slice none 0 0,Value.slice none 0 0]) rfl rfl) rfl fun b6=>J.know (Know.one ((Lent.ar (Lent.res 1 rfl) FI64))) fun ho7=>J.know (Know.one (Lent.sl (Lent.rows (i:=2) (j:=3) rfl rfl FI64I64p))) fun ho8=>J.storeAll 0 (vs:=[x5.1,x5.2.1]) rfl rfl (all1 ho7 (all1 ho8 rfl)) rfl rfl rfl<|J.done<|J.thenN<|J.seq<|J.midI (A:=(List (List (Int×Int)))) (B:=List Value) (fun a11=>_world_Net__Tree_k1 r3 a11=some r) (fun a11 b12=>[(4,Value.pointer (some ⟨b2,0,none⟩)),(5,Value.pointer (some ⟨b6,0,none⟩))]) (fun a11 b12=>[Blk b6 [x5.1,x5.2.1] 53,Ar EI64 x5.1 r3.1,Ar Enc.raw x5.2.1 b12,Rws EI64I64p b12 a11,Blk b2 [Value.slice none 0 0,Value.slice none 0 0] 53]) (fun a11 b12=>[Sl RI64 v0 p0.2.1,Sl RI64 v1 p0.2.2.1,Sl RI64 v2 p0.2.2.2.1]) ?_ ?_
 ·refine J.seq<|J.region<|J.quiet (Y.assign rfl) rfl<|J.done<|J.thenN<|J.block<|J.loopI (A:=Int×(List (List (Int×Int)))) (B:=List Value) (_world_Net__Tree_s1 fuel p0 r3) (fun a19 b20=>[(2,Value.pointer (some ⟨b1,0,none⟩)),(4,Value.pointer (some ⟨b2,0,none⟩)),(5,Value.pointer (some ⟨b6,0,none⟩)),(6,Value.int .i64 (a19.1))]) (fun a19 b20=>[Blk b6 [x5.1,x5.2.1] 53,Ar EI64 x5.1 r3.1,Ar Enc.raw x5.2.1 b20,Rws EI64I64p b20 a19.2,Blk b2 [Value.slice none 0 0,Value.slice none 0 0] 53,Blk b1 [Value.int .i64 (p0.1),v0,v1,v2,Value.bool (p0.2.2.2.2.1),Value.bool (p0.2.2.2.2.2)] 55]) (fun a19 b20=>[Sl RI64 v0 p0.2.1,Sl RI64 v1 p0.2.2.1,Sl RI64 v2 p0.2.2.2.1]) ((1:Int),r3.2) (x5.2.2) h SF (SubM.refl _) (LentAll.refl _ _) ?_
  clear h
  intro k21 a19 b20 h
  unfold _world_Net__Tree_s1 at h
  refine J.seq<|J.seq<|J.region<|J.quiet (Y.move rfl) rfl<|J.quiet (Y.fieldB rfl rfl rfl rfl rfl) rfl<|J.quiet (Y.loadB 0 rfl rfl rfl rfl rfl) rfl<|J.quiet (Y.lenN rfl (Lent.rows (i:=2) (j:=3) rfl rfl FI64I64p) rfl) rfl<|J.quiet (Y.lss rfl rfl) rfl<|J.done<|J.thenN ?_
  refine J.condD (by exact rfl) (fun hp22=> ?_) (fun hp22=> ?_)
  ·have h:=ifP hp22 h
   refine J.skip<|J.thenN<|J.seq<|J.block ?_
   refine JR.start [0,0,0,4,0,16,60,0,252,0,0,1024,0,4096,15868,32252,65020,131071] 17 mixedOrders (by decide +kernel) ?_
   refine JR.open (by exact rfl) ?_
   refine JR.qt rfl (SubM.cons 5 rfl (SubM.nil)) (SubL.nil) (Y.loadBAll 0 rfl rfl rfl rfl) HistOk.z<|JR.qt rfl (SubM.cons 0 rfl (SubM.nil)) (SubL.nil) (Y.loadBAll 0 rfl rfl rfl rfl) HistOk.z<|JR.qt rfl (SubM.nil) (SubL.nil) (Y.fieldB rfl rfl rfl rfl rfl) HistOk.z<|JR.qt rfl (SubM.cons 5 rfl (SubM.nil)) (SubL.nil) (Y.loadB 0 rfl rfl rfl rfl rfl) HistOk.z<|JR.qt rfl (SubM.nil) (SubL.nil) (Y.move rfl) HistOk.z<|JR.qt rfl (SubM.nil) (SubL.nil) (Y.subW rfl rfl) HistOk.z ?_
   have h:=bnd h;obtain⟨r23,hr24,h⟩:=h
   refine JR.loud rfl rfl rfl (Loud.callL body50 (t_world_at fuel v0 r23 hr24) rfl (LentAll.cons (Lent.fact 0 rfl) .nil) (fun _ _=>rfl)) rfl (fun x25=>(BsOk.b rfl (BsOk.b rfl (BsOk.b rfl (BsOk.b rfl (BsOk.h (SubM.cons 0 rfl (SubM.nil)) (SubL.nil) (BsOk.h (SubM.cons 5 rfl (SubM.nil)) (SubL.nil) BsOk.z))))))) fun x25=>JR.qt rfl (SubM.nil) (SubL.nil) (Y.move rfl) (HistOk.h (SubM.nil) (SubL.nil) HistOk.z) ?_
   have h:=bnd h;obtain⟨r26,hr27,h⟩:=h
   refine JR.loud rfl rfl rfl (Loud.callL body8 (t_world_Within fuel  r26 hr27) rfl .nil (fun _ _=>rfl)) rfl (fun x28=>(BsOk.b rfl (BsOk.b rfl (BsOk.b rfl (BsOk.b rfl (BsOk.b rfl (BsOk.h (SubM.cons 0 rfl (SubM.nil)) (SubL.nil) (BsOk.h (SubM.cons 5 rfl (SubM.nil)) (SubL.nil) BsOk.z)))))))) fun x28=>JR.qt rfl (SubM.nil) (SubL.nil) (Y.move rfl) (HistOk.h (SubM.nil) (SubL.nil) (HistOk.h (SubM.nil) (SubL.nil) HistOk.z))<|JR.qt rfl (SubM.nil) (SubL.nil) (Y.fieldB rfl rfl rfl rfl rfl) (HistOk.h (SubM.nil) (SubL.nil) (HistOk.h (SubM.nil) (SubL.nil) HistOk.z))<|JR.qt rfl (SubM.cons 5 rfl (SubM.nil)) (SubL.nil) (Y.loadB 0 rfl rfl rfl rfl rfl) (HistOk.h (SubM.cons 5 rfl (SubM.nil)) (SubL.nil) (HistOk.h (SubM.cons 5 rfl (SubM.nil)) (SubL.nil) HistOk.z))<|JR.qt rfl (SubM.nil) (SubL.nil) (Y.move rfl) (HistOk.h (SubM.nil) (SubL.nil) (HistOk.h (SubM.nil) (SubL.nil) HistOk.z))<|JR.qt rfl (SubM.nil) (SubL.nil) (Y.subW rfl rfl) (HistOk.h (SubM.nil) (SubL.nil) (HistOk.h (SubM.nil) (SubL.nil) HistOk.z)) ?_
   have h:=bnd h;obtain⟨r29,hr30,h⟩:=h
   refine JR.loud rfl rfl rfl (Loud.callL body50 (t_world_at fuel v1 r29 hr30) rfl (LentAll.cons (Lent.fact 1 rfl) .nil) (fun _ _=>rfl)) rfl (fun x31=>(BsOk.b rfl (BsOk.b rfl (BsOk.b rfl (BsOk.b rfl (BsOk.h (SubM.nil) (SubL.nil) (BsOk.b rfl (BsOk.b rfl (BsOk.b rfl (BsOk.b rfl (BsOk.b rfl (BsOk.h (SubM.cons 0 rfl (SubM.nil)) (SubL.nil) (BsOk.h (SubM.cons 5 rfl (SubM.nil)) (SubL.nil) BsOk.z))))))))))))) fun x31=> ?_
   have h:=bnd h;obtain⟨r32,hr33,h⟩:=h
   refine JR.loud rfl rfl rfl (Loud.callL body8 (t_world_Within fuel  r32 hr33) rfl .nil (fun _ _=>rfl)) rfl (fun x34=>(BsOk.b rfl (BsOk.b rfl (BsOk.b rfl (BsOk.b rfl (BsOk.h (SubM.nil) (SubL.nil) (BsOk.b rfl (BsOk.b rfl (BsOk.b rfl (BsOk.b rfl (BsOk.b rfl (BsOk.h (SubM.cons 0 rfl (SubM.nil)) (SubL.nil) (BsOk.h (SubM.cons 5 rfl (SubM.nil)) (SubL.nil) BsOk.z))))))))))))) fun x34=>JR.qt rfl (SubM.nil) (SubL.nil) (Y.addW rfl rfl) (HistOk.b rfl (HistOk.b rfl (HistOk.b rfl (HistOk.b rfl HistOk.z))))<|JR.tailD 17 rfl rfl ?_
   have h:=bnd h;obtain⟨r35,hr36,h⟩:=h
   refine J.loud (Loud.callM (Min:=[Ar Enc.raw x5.2.1 b20,Rws EI64I64p b20 a19.2]) (Mr:=[Blk b6 [x5.1,x5.2.1] 53,Ar EI64 x5.1 r3.1,Blk b2 [Value.slice none 0 0,Value.slice none 0 0] 53,Blk b1 [Value.int .i64 (p0.1),v0,v1,v2,Value.bool (p0.2.2.2.2.1),Value.bool (p0.2.2.2.2.2)] 55]) body49 (t__world_Net__link fuel v0 v1 v2 x5.1 x5.2.1 b20 r35 hr36) rfl (SubM.cons 2 rfl (SubM.cons 2 rfl (SubM.cons 0 rfl (SubM.cons 0 rfl (SubM.cons 0 rfl (SubM.cons 0 rfl (SubM.nil))))))) (LentAll.cons (Lent.fact 0 rfl) (LentAll.cons (Lent.fact 1 rfl) (LentAll.cons (Lent.fact 2 rfl) (LentAll.cons (Lent.ar (Lent.res 1 rfl) FI64) .nil)))) (fun _ _=>rfl)) rfl fun x37=>J.done<|J.inN<|J.thenN<|J.region<|J.quiet (Y.move rfl) rfl<|J.quiet (Y.addW rfl rfl) rfl<|J.quiet (Y.assign rfl) rfl<|J.done<|J.thenN ?_
   exact J.againI ((wI .i64 (a19.1+(1:Int))),r35) (x37) h SF (SubM.cons 2 rfl (SubM.cons 2 rfl (SubM.cons 0 rfl (SubM.cons 0 rfl (SubM.cons 0 rfl (SubM.cons 0 rfl (SubM.nil))))))) (LentAll.refl _ _)
  ·have h:=ifN hp22 h
   refine J.exit<|J.thenX<|J.thenX<|J.inX<|J.thenN ?_
   exact J.meetI (a19.2) (b20) h SF (SubM.cons 0 rfl (SubM.cons 0 rfl (SubM.cons 0 rfl (SubM.cons 0 rfl (SubM.cons 0 rfl (SubM.nil)))))) (LentAll.refl _ _)
 ·clear h
  intro a11 b12 h
  unfold _world_Net__Tree_k1 at h
  refine J.seq<|J.region<|J.quiet (Y.loadBAll 0 rfl rfl rfl rfl) rfl<|J.know (Know.one ((Lent.ar (Lent.res 1 rfl) FI64))) fun ho13=>J.know (Know.one (Lent.sl (Lent.rows (i:=2) (j:=3) rfl rfl FI64I64p))) fun ho14=>J.storeAll 4 (vs:=[x5.1,x5.2.1]) rfl rfl (all1 ho13 (all1 ho14 rfl)) rfl rfl rfl<|J.done<|J.thenN<|J.ret ?_
  obtain rfl:=Option.some.inj h
  exact J.retG1 (x5.1,x5.2.1,b12) rfl rfl (RV.cell 4 rfl rfl rfl rfl) (SubM.cons 1 rfl (SubM.cons 1 rfl (SubM.cons 1 rfl (SubM.nil)))) LentAll.nil
end Go.Proofs.YtdbcpliafeoghaaGreatDoor
end
section
namespace Go.Proofs.YtdbcpliafeoghaaGreatDoor
open Go.Sx
def m_bits_TrailingZeros32 (fuel:Nat) (p0:Int):Option (Int):=
 if p0=(0:Int)then(some (32:Int))else(ck (0<=(27:Int)) (ck ((0<=(bShr .u32 (wI .u32 ((bAnd .u32 p0 (wI .u32 (0 - p0)))*(125613361:Int))) (27:Int))∧(bShr .u32 (wI .u32 ((bAnd .u32 p0 (wI .u32 (0 - p0)))*(125613361:Int))) (27:Int))<((32:Nat):Int))∧List.length tab0=32) (some (wI .i64 (at' tab0 (bShr .u32 (wI .u32 ((bAnd .u32 p0 (wI .u32 (0 - p0)))*(125613361:Int))) (27:Int)))))))
theorem body161:HasBody Tryz.prog 161:=Tryz.call161
theorem t_bits_TrailingZeros32 (fuel:Nat) {p0:Int} (r:Int) (h:m_bits_TrailingZeros32 fuel p0=some r):
  Meets Tryz.prog 161 #[Value.int .u32 (p0)] [Gb 0 (cellsOf EU8 tab0)] (fun x:Unit=>Value.int .i64 (r)) (fun x l=>l) (fun _ l=>l):=by
 refine Meets.of (vs:=[Value.int .u32 (p0)]) Tryz.func161 rfl Tryz.ntmps161 rfl fun c=> ?_
 unfold m_bits_TrailingZeros32 at h
 refine J.seq<|J.region<|J.quiet (Y.assign rfl) rfl<|J.done<|J.thenN<|J.seq<|J.seq<|J.region<|J.quiet (Y.move rfl) rfl<|J.quiet (Y.eql rfl rfl) rfl<|J.done<|J.thenN ?_
 refine J.condD (by exact rfl) (fun hp1=> ?_) (fun hp1=> ?_)
 ·have h:=ifP hp1 h
  refine J.seq<|J.region<|J.quiet (Y.assign rfl) rfl<|J.done<|J.thenN<|J.ret<|J.thenR ?_
  obtain rfl:=Option.some.inj h
  exact J.retG1 (()) rfl rfl (RV.tmp rfl) (SubM.refl _) LentAll.nil
 ·have h:=ifN hp1 h
  refine J.skip<|J.thenN<|J.seq<|J.region<|J.quiet (Y.move rfl) rfl<|J.quiet (Y.move rfl) rfl<|J.quiet (Y.neg rfl) rfl<|J.quiet (Y.and rfl rfl) rfl<|J.quiet (Y.mulW rfl rfl) rfl ?_
  have h:=ck_some h;obtain⟨hc2,h⟩:=h
  refine J.quiet (Y.shr rfl rfl hc2) rfl ?_
  have h:=ck_some h;obtain⟨hc3,h⟩:=h
  refine J.quiet (Y.indexArrK rfl rfl rfl rfl rfl hc3.1) rfl<|J.quiet (Y.loadGlb (e:=EU8) rfl (Lent.fact 0 rfl) rfl rfl rfl rfl hc3) rfl<|J.quiet (Y.conv rfl rfl rfl) rfl<|J.quiet (Y.assign rfl) rfl<|J.done<|J.thenN<|J.ret ?_
  obtain rfl:=Option.some.inj h
  exact J.retG1 (()) rfl rfl (RV.tmp rfl) (SubM.refl _) LentAll.nil
end Go.Proofs.YtdbcpliafeoghaaGreatDoor
end
section
namespace Go.Proofs.YtdbcpliafeoghaaGreatDoor
open Go.Sx
def _daemon_Net__independent_k1  (a7:Unit):Option (Bool):=
 some (true)
def _daemon_Net__independent_s1 (fuel:Nat) (p0:List (Int)) (p1:Int) (a18:Int) (ag17:(Int)->Option (Bool)):Option (Bool):=
 if a18≠(0:Int)then(Option.bind (m_bits_TrailingZeros32 fuel a18) fun r22=>(ck (0<=r22∧r22<(List.length p0:Int)) (if(bAnd .u32 (at' p0 r22) p1)≠(0:Int)then(some (false))else(ag17 (bAnd .u32 a18 (wI .u32 (a18 - (1:Int))))))))else(_daemon_Net__independent_k1  (()))
def _daemon_Net__independent_k2 (fuel:Nat) (p0:List (Int)) (p1:Int) (a10:Unit):Option (Bool):=
 iter (_daemon_Net__independent_s1 fuel p0 p1) fuel (p1)
def m__daemon_Net__independent (fuel:Nat) (p0:List (Int)) (p1:Int):Option (Bool):=
 _daemon_Net__independent_k2 fuel p0 p1 (())
theorem body155:HasBody Tryz.prog 155:=Tryz.call155
theorem t__daemon_Net__independent (fuel:Nat) {p0:List (Int)} {p1:Int} (v0:Value) (r:Bool) (h:m__daemon_Net__independent fuel p0 p1=some r):
  Meets Tryz.prog 155 #[v0,Value.int .u32 (p1)] [Sl RU32 v0 p0,Gb 0 (cellsOf EU8 tab0)] (fun x:Unit=>Value.bool (r)) (fun x l=>l) (fun _ l=>l):=by
 refine Meets.of (vs:=[v0,Value.int .u32 (p1)]) Tryz.func155 rfl Tryz.ntmps155 rfl fun c=> ?_
 unfold m__daemon_Net__independent at h
 refine J.stp Stp.dfs0<|J.seq<|J.region<|J.know (Know.one ((Lent.fact 0 rfl))) fun ho3=> ?_
 refine J.loud (Loud.box (cs:=[v0]) rfl (by rw[one_cells ho3])) rfl fun b2=> ?_
 refine J.loud (Loud.box (cs:=[Value.int .u32 (p1)]) rfl rfl) rfl fun b4=>J.loud (Loud.alloc (cs:=[Value.bool (false)]) rfl rfl) rfl fun b5=>J.done<|J.thenN<|J.seq<|J.midN (A:=Unit) (B:=List Nat) (fun a7 b8=>⟨16,marks b8⟩) (fun a7=>_daemon_Net__independent_k1  a7=some r) (fun a7 b8=>[(4,Value.pointer (some ⟨b5,0,none⟩))]) (fun a7 b8=>[Blk b5 [Value.bool (false)] 4,Dfs b8]) (fun a7 b8=>[Sl RU32 v0 p0,Gb 0 (cellsOf EU8 tab0)]) ?_ ?_
 ·refine J.seq<|J.region<|J.quiet (Y.loadB 1 rfl rfl rfl rfl rfl) rfl<|J.inlC (A:=Unit) (B:=Nat) (vs:=[Value.int .u32 (p1)]) (fun a10=>_daemon_Net__independent_k2 fuel p0 p1 a10=some r) (fun a10 b11=>Value.func (.func 160) #[] #[Value.pointer (some ⟨b11,0,none⟩)]) (fun a10 b11=>[Blk b11 [Value.int .u32 (p1)] 59,Blk b5 [Value.bool (false)] 4,Blk b4 [Value.int .u32 (p1)] 59,Blk b2 [v0] 101,Dfs ([]:List Nat)]) (fun a10 b11=>[Sl RU32 v0 p0,Gb 0 (cellsOf EU8 tab0)]) (Enter.fn (show HasBody Tryz.prog 126 from Tryz.call126) rfl) Tryz.func126 rfl Tryz.ntmps126 rfl rfl ?_ ?_
  ·refine J.seq<|J.region<|J.loud (Loud.box (cs:=[Value.int .u32 (p1)]) rfl rfl) rfl fun b27=>J.quiet (Y.assign rfl) rfl<|J.done<|J.thenN<|J.seq<|J.region<|J.quiet (Y.makeFunc (cs:=[.tmp 1]) (vs:=[Value.pointer (some ⟨b27,0,none⟩)]) rfl) rfl<|J.quiet (Y.assign rfl) rfl<|J.done<|J.thenN<|J.ret ?_
   exact J.retM (()) (b27) h (.inl rfl) (Res.r1 rfl (RV.tmp rfl)) rfl (SubM.refl _) (LentAll.refl _ _)
  ·clear h
   intro a10 b11 h
   unfold _daemon_Net__independent_k2 at h
   refine J.done<|J.thenN<|J.block<|J.rangeFuncD (i:=4) (cs:=[Value.pointer (some ⟨b11,0,none⟩)]) ([]:List Nat) rfl (show HasBody Tryz.prog 160 from Tryz.call160) rfl Tryz.func160 rfl Tryz.ntmps160 rfl fun l12 D13 R14 hR15=>J.block<|J.loopI (A:=Int) (B:=Unit) (_daemon_Net__independent_s1 fuel p0 p1) (fun a18 b19=>[(0,yieldV l12),(1,Value.pointer (some ⟨b11,0,none⟩))]) (fun a18 b19=>[Lp l12 R14 LoopState.ready none,Blk b11 [Value.int .u32 (a18)] 59,Blk b5 [Value.bool (false)] 4,Blk b4 [Value.int .u32 (p1)] 59,Blk b2 [v0] 101,Dfs (List.cons D13 ([]:List Nat))]) (fun a18 b19=>[Sl RU32 v0 p0,Gb 0 (cellsOf EU8 tab0)]) (p1) (()) h SF (SubM.refl _) (LentAll.refl _ _) ?_
   clear h
   intro k20 a18 b19 h
   unfold _daemon_Net__independent_s1 at h
   refine J.seq<|J.seq<|J.region<|J.quiet (Y.loadB 1 rfl rfl rfl rfl rfl) rfl<|J.quiet (Y.neq rfl rfl) rfl<|J.done<|J.thenN ?_
   refine J.condD (by exact rfl) (fun hp21=> ?_) (fun hp21=> ?_)
   ·have h:=ifP hp21 h
    refine J.skip<|J.thenN<|J.seq<|J.block<|J.seq<|J.region<|J.quiet (Y.move rfl) rfl<|J.quiet (Y.loadB 1 rfl rfl rfl rfl rfl) rfl ?_
    have h:=bnd h;obtain⟨r22,hr23,h⟩:=h
    refine J.loud (Loud.callL body161 (t_bits_TrailingZeros32 fuel  r22 hr23) rfl (LentAll.cons (Lent.fact 1 rfl) .nil) (fun _ _=>rfl)) rfl fun x24=>J.yieldR (us:=[Value.int .i64 (r22)]) (i:=0) hR15 rfl rfl rfl rfl rfl rfl<|J.region<|J.quiet (Y.assign rfl) rfl<|J.done<|J.thenN<|J.begin (i:=0) rfl<|J.block<|J.seq ?_
    refine JR.start [0,0,3,7,0,31,63] 5 mixedOrders (by decide +kernel) ?_
    refine JR.open (by exact rfl) ?_
    refine JR.qt rfl (SubM.cons 4 rfl (SubM.nil)) (SubL.nil) (Y.loadB 0 rfl rfl rfl rfl rfl) HistOk.z<|JR.qt rfl (SubM.nil) (SubL.nil) (Y.move rfl) HistOk.z ?_
    have h:=ck_some h;obtain⟨hc25,h⟩:=h
    refine JR.qt rfl (SubM.nil) (SubL.cons (List.mem_of_getElem? (i:=0) rfl) (SubL.nil)) (Y.indexS rfl rfl (Lent.fact 0 rfl) rfl rfl hc25) HistOk.z<|JR.qt rfl (SubM.nil) (SubL.cons (List.mem_of_getElem? (i:=0) rfl) (SubL.nil)) (Y.loadS0 rfl (Lent.fact 0 rfl) rfl rfl rfl RU32c0 hc25) HistOk.z<|JR.qt rfl (SubM.cons 3 rfl (SubM.nil)) (SubL.nil) (Y.loadB 0 rfl rfl rfl rfl rfl) HistOk.z<|JR.tailD 5 rfl rfl<|J.quiet (Y.and rfl rfl) rfl<|J.quiet (Y.neq rfl rfl) rfl<|J.done<|J.thenN ?_
    refine J.condD (by exact rfl) (fun hp26=> ?_) (fun hp26=> ?_)
    ·have h:=ifP hp26 h
     refine J.seq<|J.region<|J.store1 2 rfl rfl rfl rfl rfl rfl<|J.done<|J.thenN<|J.ret<|J.inR<|J.roundR (i:=0) rfl<|J.quiet (Y.not rfl) rfl<|J.done<|J.thenN<|J.condT rfl<|J.ret<|J.inR<|J.thenR<|J.thenR<|J.inR<|J.retFR (i:=0) (.inl rfl) rfl (Res.r0 rfl)<|J.inR<|J.thenR<|J.unmarkAll (i:=5) (Ds:=(List.cons D13 ([]:List Nat))) (.inl rfl) rfl ?_
     obtain rfl:=Option.some.inj h
     exact J.retG1 (()) rfl rfl (RV.cell1 2 rfl rfl rfl rfl) (SubM.nil) LentAll.nil
    ·have h:=ifN hp26 h
     refine J.skip<|J.inN<|J.roundN (i:=0) rfl<|J.quiet (Y.not rfl) rfl<|J.done<|J.thenN<|J.condF rfl<|J.skip<|J.inN<|J.thenN<|J.region<|J.quiet (Y.loadB 1 rfl rfl rfl rfl rfl) rfl<|J.quiet (Y.loadB 1 rfl rfl rfl rfl rfl) rfl<|J.quiet (Y.subW rfl rfl) rfl<|J.quiet (Y.and rfl rfl) rfl<|J.store1 1 rfl rfl rfl rfl rfl rfl<|J.done<|J.thenN ?_
     exact J.againI (bAnd .u32 a18 (wI .u32 (a18 - (1:Int)))) (()) h SF (SubM.refl _) (LentAll.refl _ _)
   ·have h:=ifN hp21 h
    refine J.exit<|J.thenX<|J.thenX<|J.inX<|J.retF (i:=0) (.inr rfl) rfl (Res.r0 rfl)<|J.inN<|J.thenN ?_
    exact J.meetN (()) (List.cons D13 ([]:List Nat)) rfl h SF (SubM.cons 2 rfl (SubM.cons 4 rfl (SubM.nil))) (LentAll.refl _ _)
 ·clear h
  intro a7 b8 h
  unfold _daemon_Net__independent_k1 at h
  refine J.seq<|J.region<|J.store1 0 rfl rfl rfl rfl rfl rfl<|J.done<|J.thenN<|J.ret<|J.unmarkAll (i:=1) (Ds:=(b8)) (.inl rfl) rfl ?_
  obtain rfl:=Option.some.inj h
  exact J.retG1 (()) rfl rfl (RV.cell1 0 rfl rfl rfl rfl) (SubM.nil) LentAll.nil
end Go.Proofs.YtdbcpliafeoghaaGreatDoor
end
section
namespace Go.Proofs.YtdbcpliafeoghaaGreatDoor
open Go.Sx
def _daemon_Net__Permits_k1 (fuel:Nat) (p0:List (Int)) (p1:Int) (p2:Int) (p3:Int) (a2:Bool):Option (Bool):=
 if a2=true then(some (false))else(if p1=(1:Int)then(some (decide ((bAnd .u32 p3 (wI .u32 (p3 - (1:Int))))=(0:Int))))else(if p1=(2:Int)then(Option.bind (m__daemon_Net__independent fuel p0 p3) fun r7=>(some (r7)))else(if p1=(4:Int)then(some (decide (p3=p2)))else(some (true)))))
def m__daemon_Net__Permits (fuel:Nat) (p0:List (Int)) (p1:Int) (p2:Int) (p3:Int):Option (Bool):=
 if p3=(0:Int)then(_daemon_Net__Permits_k1 fuel p0 p1 p2 p3 (true))else(_daemon_Net__Permits_k1 fuel p0 p1 p2 p3 (decide ((bAndNot .u32 p3 p2)≠(0:Int))))
theorem body123:HasBody Tryz.prog 123:=Tryz.call123
theorem t__daemon_Net__Permits (fuel:Nat) {p0:List (Int)} {p1:Int} {p2:Int} {p3:Int} (v0:Value) (r:Bool) (h:m__daemon_Net__Permits fuel p0 p1 p2 p3=some r):
  Meets Tryz.prog 123 #[v0,Value.int .i64 (p1),Value.int .u32 (p2),Value.int .u32 (p3)] [Sl RU32 v0 p0,Gb 0 (cellsOf EU8 tab0)] (fun x:Unit=>Value.bool (r)) (fun x l=>l) (fun _ l=>l):=by
 refine Meets.of (vs:=[v0,Value.int .i64 (p1),Value.int .u32 (p2),Value.int .u32 (p3)]) Tryz.func123 rfl Tryz.ntmps123 rfl fun c=> ?_
 unfold m__daemon_Net__Permits at h
 refine J.seq<|J.region<|J.quiet (Y.assign rfl) rfl<|J.done<|J.thenN<|J.seq<|J.seq<|J.midI (A:=Bool) (B:=Unit) (fun a2=>_daemon_Net__Permits_k1 fuel p0 p1 p2 p3 a2=some r) (fun a2 b3=>[(0,v0),(1,Value.int .i64 (p1)),(2,Value.int .u32 (p2)),(3,Value.int .u32 (p3)),(16,Value.bool (a2))]) (fun a2 b3=>[]) (fun a2 b3=>[Sl RU32 v0 p0,Gb 0 (cellsOf EU8 tab0)]) ?_ ?_
 ·refine J.region<|J.quiet (Y.move rfl) rfl<|J.quiet (Y.eql rfl rfl) rfl<|J.quiet (Y.move rfl) rfl ?_
  refine J.guardD (by exact rfl) (by exact rfl) (fun hp11=> ?_) (fun hp11=> ?_)
  ·have h:=ifP hp11 h
   refine J.guardN rfl rfl rfl<|J.guardN rfl rfl rfl<|J.guardN rfl rfl rfl<|J.guardN rfl rfl rfl<|J.quiet (Y.pickT rfl rfl) rfl<|J.done<|J.thenN ?_
   exact J.meetI (true) (()) h SF (SubM.refl _) (LentAll.refl _ _)
  ·have h:=ifN hp11 h
   refine J.guardY rfl (Y.move rfl) rfl<|J.guardY rfl (Y.move rfl) rfl<|J.guardY rfl (Y.andNot rfl rfl) rfl<|J.guardY rfl (Y.neq rfl rfl) rfl<|J.quiet (Y.pickF rfl rfl) rfl<|J.done<|J.thenN ?_
   exact J.meetI (decide ((bAndNot .u32 p3 p2)≠(0:Int))) (()) h SF (SubM.refl _) (LentAll.refl _ _)
 ·clear h
  intro a2 b3 h
  unfold _daemon_Net__Permits_k1 at h
  refine J.cond (by exact rfl) (fun hp4=> ?_) (fun hp4=> ?_)
  ·have h:=ifP hp4 h
   refine J.seq<|J.region<|J.quiet (Y.assign rfl) rfl<|J.done<|J.thenN<|J.ret<|J.thenR ?_
   obtain rfl:=Option.some.inj h
   exact J.retG1 (()) rfl rfl (RV.tmp rfl) (SubM.refl _) LentAll.nil
  ·have h:=ifBN hp4 h
   refine J.skip<|J.thenN<|J.seq<|J.seq<|J.region<|J.quiet (Y.move rfl) rfl<|J.done<|J.thenN<|J.block<|J.seq<|J.region<|J.quiet (Y.eql rfl rfl) rfl<|J.quiet (Y.assign rfl) rfl<|J.done<|J.thenN ?_
   refine J.condD (by exact rfl) (fun hp5=> ?_) (fun hp5=> ?_)
   ·have h:=ifP hp5 h
    refine J.seq<|J.region<|J.quiet (Y.move rfl) rfl<|J.quiet (Y.move rfl) rfl<|J.quiet (Y.subW rfl rfl) rfl<|J.quiet (Y.and rfl rfl) rfl<|J.quiet (Y.eql rfl rfl) rfl<|J.quiet (Y.assign rfl) rfl<|J.done<|J.thenN<|J.ret<|J.inR<|J.thenR ?_
    obtain rfl:=Option.some.inj h
    exact J.retG1 (()) rfl rfl (RV.tmp rfl) (SubM.refl _) LentAll.nil
   ·have h:=ifN hp5 h
    refine J.seq<|J.region<|J.quiet (Y.eql rfl rfl) rfl<|J.quiet (Y.assign rfl) rfl<|J.done<|J.thenN ?_
    refine J.condD (by exact rfl) (fun hp6=> ?_) (fun hp6=> ?_)
    ·have h:=ifP hp6 h
     refine J.seq<|J.region<|J.quiet (Y.move rfl) rfl<|J.quiet (Y.move rfl) rfl ?_
     have h:=bnd h;obtain⟨r7,hr8,h⟩:=h
     refine J.loud (Loud.callL body155 (t__daemon_Net__independent fuel v0 r7 hr8) rfl (LentAll.cons (Lent.fact 0 rfl) (LentAll.cons (Lent.fact 1 rfl) .nil)) (fun _ _=>rfl)) rfl fun x9=>J.quiet (Y.assign rfl) rfl<|J.done<|J.thenN<|J.ret<|J.inR<|J.thenR ?_
     obtain rfl:=Option.some.inj h
     exact J.retG1 (()) rfl rfl (RV.tmp rfl) (SubM.refl _) LentAll.nil
    ·have h:=ifN hp6 h
     refine J.seq<|J.region<|J.quiet (Y.eql rfl rfl) rfl<|J.quiet (Y.assign rfl) rfl<|J.done<|J.thenN ?_
     refine J.condD (by exact rfl) (fun hp10=> ?_) (fun hp10=> ?_)
     ·have h:=ifP hp10 h
      refine J.seq<|J.region<|J.quiet (Y.move rfl) rfl<|J.quiet (Y.move rfl) rfl<|J.quiet (Y.eql rfl rfl) rfl<|J.quiet (Y.assign rfl) rfl<|J.done<|J.thenN<|J.ret<|J.inR<|J.thenR ?_
      obtain rfl:=Option.some.inj h
      exact J.retG1 (()) rfl rfl (RV.tmp rfl) (SubM.refl _) LentAll.nil
     ·have h:=ifN hp10 h
      refine J.skip<|J.inN<|J.thenN<|J.seq<|J.region<|J.quiet (Y.assign rfl) rfl<|J.done<|J.thenN<|J.ret ?_
      obtain rfl:=Option.some.inj h
      exact J.retG1 (()) rfl rfl (RV.tmp rfl) (SubM.refl _) LentAll.nil
end Go.Proofs.YtdbcpliafeoghaaGreatDoor
end
section
namespace Go.Proofs.YtdbcpliafeoghaaGreatDoor
open Go.Sx
def _daemon_Net__Resolve_k2  (a12:Int):Option (Int):=
 some (a12)
def _daemon_Net__Resolve_k4 (a24:Int×Int) (ag23:(Int×Int)->Option (Int)) (a29:Int):Option (Int):=
 ag23 ((bAnd .u32 a24.1 (wI .u32 (a24.1 - (1:Int)))),a29)
def _daemon_Net__Resolve_s1 (fuel:Nat) (p0:List (Int)) (a24:Int×Int) (ag23:(Int×Int)->Option (Int)):Option (Int):=
 if a24.1≠(0:Int)then(Option.bind (m_bits_TrailingZeros32 fuel a24.1) fun r31=>(ck (0<=r31∧r31<(List.length p0:Int)) (if(bAnd .u32 (at' p0 r31) a24.2)=(0:Int)then(ck (0<=r31) (_daemon_Net__Resolve_k4 a24 ag23 (bOr .u32 a24.2 (bShl .u32 (1:Int) r31))))else(_daemon_Net__Resolve_k4 a24 ag23 (a24.2)))))else(_daemon_Net__Resolve_k2  (a24.2))
def _daemon_Net__Resolve_k3 (fuel:Nat) (p0:List (Int)) (a5:Int) (a15:Unit):Option (Int):=
 iter (_daemon_Net__Resolve_s1 fuel p0) fuel (a5,(0:Int))
def _daemon_Net__Resolve_k1 (fuel:Nat) (p0:List (Int)) (p1:Int) (p2:Int) (a5:Int):Option (Int):=
 if p1=(1:Int)then(some (bAnd .u32 a5 (wI .u32 (0 - a5))))else(if p1=(2:Int)then(_daemon_Net__Resolve_k3 fuel p0 a5 (()))else(if p1=(4:Int)then(some (p2))else(some (a5))))
def m__daemon_Net__Resolve (fuel:Nat) (p0:List (Int)) (p1:Int) (p2:Int) (p3:Int):Option (Int):=
 if(bAnd .u32 p3 p2)=(0:Int)then(_daemon_Net__Resolve_k1 fuel p0 p1 p2 (bAnd .u32 p2 (wI .u32 (0 - p2))))else(_daemon_Net__Resolve_k1 fuel p0 p1 p2 (bAnd .u32 p3 p2))
theorem body92:HasBody Tryz.prog 92:=Tryz.call92
theorem t__daemon_Net__Resolve (fuel:Nat) {p0:List (Int)} {p1:Int} {p2:Int} {p3:Int} (v0:Value) (r:Int) (h:m__daemon_Net__Resolve fuel p0 p1 p2 p3=some r):
  Meets Tryz.prog 92 #[v0,Value.int .i64 (p1),Value.int .u32 (p2),Value.int .u32 (p3)] [Sl RU32 v0 p0,Gb 0 (cellsOf EU8 tab0)] (fun x:Unit=>Value.int .u32 (r)) (fun x l=>l) (fun _ l=>l):=by
 refine Meets.of (vs:=[v0,Value.int .i64 (p1),Value.int .u32 (p2),Value.int .u32 (p3)]) Tryz.func92 rfl Tryz.ntmps92 rfl fun c=> ?_
 unfold m__daemon_Net__Resolve at h
 refine J.stp Stp.dfs0<|J.seq<|J.region<|J.know (Know.one ((Lent.fact 0 rfl))) fun ho3=> ?_
 refine J.loud (Loud.box (cs:=[v0]) rfl (by rw[one_cells ho3])) rfl fun b2=> ?_
 refine J.quiet (Y.assign rfl) rfl<|J.done<|J.thenN<|J.seq<|J.region<|J.quiet (Y.move rfl) rfl<|J.quiet (Y.move rfl) rfl<|J.quiet (Y.and rfl rfl) rfl<|J.quiet (Y.assign rfl) rfl<|J.done<|J.thenN<|J.seq<|J.midN (A:=Int) (B:=Unit) (fun a5 b6=>⟨48,marks ([]:List Nat)⟩) (fun a5=>_daemon_Net__Resolve_k1 fuel p0 p1 p2 a5=some r) (fun a5 b6=>[(1,Value.int .i64 (p1)),(2,Value.int .u32 (p2)),(3,Value.int .u32 (a5)),(4,Value.pointer (some ⟨b2,0,none⟩)),(8,Value.int .u32 (0:Int))]) (fun a5 b6=>[Blk b2 [v0] 101,Dfs ([]:List Nat)]) (fun a5 b6=>[Sl RU32 v0 p0,Gb 0 (cellsOf EU8 tab0)]) ?_ ?_
 ·refine J.seq<|J.region<|J.quiet (Y.move rfl) rfl<|J.quiet (Y.eql rfl rfl) rfl<|J.done<|J.thenN ?_
  refine J.condD (by exact rfl) (fun hp39=> ?_) (fun hp39=> ?_)
  ·have h:=ifP hp39 h
   refine J.region<|J.quiet (Y.move rfl) rfl<|J.quiet (Y.move rfl) rfl<|J.quiet (Y.neg rfl) rfl<|J.quiet (Y.and rfl rfl) rfl<|J.quiet (Y.assign rfl) rfl<|J.done<|J.thenN ?_
   exact J.meetN (bAnd .u32 p2 (wI .u32 (0 - p2))) (()) rfl h SF (SubM.refl _) (LentAll.refl _ _)
  ·have h:=ifN hp39 h
   refine J.skip<|J.thenN ?_
   exact J.meetN (bAnd .u32 p3 p2) (()) rfl h SF (SubM.refl _) (LentAll.refl _ _)
 ·clear h
  intro a5 b6 h
  unfold _daemon_Net__Resolve_k1 at h
  refine J.seq<|J.seq<|J.region<|J.quiet (Y.move rfl) rfl<|J.done<|J.thenN<|J.block<|J.seq<|J.region<|J.quiet (Y.eql rfl rfl) rfl<|J.quiet (Y.assign rfl) rfl<|J.done<|J.thenN ?_
  refine J.condD (by exact rfl) (fun hp7=> ?_) (fun hp7=> ?_)
  ·have h:=ifP hp7 h
   refine J.seq<|J.region<|J.quiet (Y.move rfl) rfl<|J.quiet (Y.move rfl) rfl<|J.quiet (Y.neg rfl) rfl<|J.quiet (Y.and rfl rfl) rfl<|J.quiet (Y.assign rfl) rfl<|J.done<|J.thenN<|J.ret<|J.inR<|J.thenR<|J.unmarkAll (i:=1) (Ds:=([]:List Nat)) (.inl rfl) rfl ?_
   obtain rfl:=Option.some.inj h
   exact J.retG1 (()) rfl rfl (RV.tmp rfl) (SubM.nil) LentAll.nil
  ·have h:=ifN hp7 h
   refine J.seq<|J.region<|J.quiet (Y.eql rfl rfl) rfl<|J.quiet (Y.assign rfl) rfl<|J.done<|J.thenN ?_
   refine J.condD (by exact rfl) (fun hp8=> ?_) (fun hp8=> ?_)
   ·have h:=ifP hp8 h
    refine J.seq<|J.region<|J.loud (Loud.alloc (cs:=[Value.int .u32 (0:Int)]) rfl rfl) rfl fun b9=>J.store1 0 rfl rfl rfl rfl rfl rfl<|J.done<|J.thenN<|J.seq<|J.midN (A:=Int) (B:=List Nat) (fun a12 b13=>⟨48,marks b13⟩) (fun a12=>_daemon_Net__Resolve_k2  a12=some r) (fun a12 b13=>[(9,Value.pointer (some ⟨b9,0,none⟩))]) (fun a12 b13=>[Blk b9 [Value.int .u32 (a12)] 59,Dfs b13]) (fun a12 b13=>[Sl RU32 v0 p0,Gb 0 (cellsOf EU8 tab0)]) ?_ ?_
    ·refine J.seq<|J.region<|J.quiet (Y.move rfl) rfl<|J.inlC (A:=Unit) (B:=Nat) (vs:=[Value.int .u32 (a5)]) (fun a15=>_daemon_Net__Resolve_k3 fuel p0 a5 a15=some r) (fun a15 b16=>Value.func (.func 160) #[] #[Value.pointer (some ⟨b16,0,none⟩)]) (fun a15 b16=>[Blk b16 [Value.int .u32 (a5)] 59,Blk b9 [Value.int .u32 (0:Int)] 59,Blk b2 [v0] 101,Dfs ([]:List Nat)]) (fun a15 b16=>[Sl RU32 v0 p0,Gb 0 (cellsOf EU8 tab0)]) (Enter.fn (show HasBody Tryz.prog 126 from Tryz.call126) rfl) Tryz.func126 rfl Tryz.ntmps126 rfl rfl ?_ ?_
     ·refine J.seq<|J.region<|J.loud (Loud.box (cs:=[Value.int .u32 (a5)]) rfl rfl) rfl fun b37=>J.quiet (Y.assign rfl) rfl<|J.done<|J.thenN<|J.seq<|J.region<|J.quiet (Y.makeFunc (cs:=[.tmp 1]) (vs:=[Value.pointer (some ⟨b37,0,none⟩)]) rfl) rfl<|J.quiet (Y.assign rfl) rfl<|J.done<|J.thenN<|J.ret ?_
      exact J.retM (()) (b37) h (.inl rfl) (Res.r1 rfl (RV.tmp rfl)) rfl (SubM.refl _) (LentAll.refl _ _)
     ·clear h
      intro a15 b16 h
      unfold _daemon_Net__Resolve_k3 at h
      refine J.done<|J.thenN<|J.block<|J.rangeFuncD (i:=3) (cs:=[Value.pointer (some ⟨b16,0,none⟩)]) ([]:List Nat) rfl (show HasBody Tryz.prog 160 from Tryz.call160) rfl Tryz.func160 rfl Tryz.ntmps160 rfl fun l17 D18 R19 hR20=>J.block<|J.loopI (A:=Int×Int) (B:=Unit) (_daemon_Net__Resolve_s1 fuel p0) (fun a24 b25=>[(0,yieldV l17),(1,Value.pointer (some ⟨b16,0,none⟩))]) (fun a24 b25=>[Lp l17 R19 LoopState.ready none,Blk b16 [Value.int .u32 (a24.1)] 59,Blk b9 [Value.int .u32 (a24.2)] 59,Blk b2 [v0] 101,Dfs (List.cons D18 ([]:List Nat))]) (fun a24 b25=>[Sl RU32 v0 p0,Gb 0 (cellsOf EU8 tab0)]) (a5,(0:Int)) (()) h SF (SubM.refl _) (LentAll.refl _ _) ?_
      clear h
      intro k26 a24 b25 h
      unfold _daemon_Net__Resolve_s1 at h
      refine J.seq<|J.seq<|J.region<|J.quiet (Y.loadB 1 rfl rfl rfl rfl rfl) rfl<|J.quiet (Y.neq rfl rfl) rfl<|J.done<|J.thenN ?_
      refine J.condD (by exact rfl) (fun hp27=> ?_) (fun hp27=> ?_)
      ·have h:=ifP hp27 h
       refine J.skip<|J.thenN<|J.seq<|J.midI (A:=Int) (B:=Unit) (fun a29=>_daemon_Net__Resolve_k4 a24 (iter (_daemon_Net__Resolve_s1 fuel p0) k26) a29=some r) (fun a29 b30=>[(0,yieldV l17),(1,Value.pointer (some ⟨b16,0,none⟩))]) (fun a29 b30=>[Lp l17 R19 LoopState.ready none,Blk b16 [Value.int .u32 (a24.1)] 59,Blk b9 [Value.int .u32 (a29)] 59,Blk b2 [v0] 101,Dfs (List.cons D18 ([]:List Nat))]) (fun a29 b30=>[Sl RU32 v0 p0,Gb 0 (cellsOf EU8 tab0)]) ?_ ?_
       ·refine J.block<|J.seq<|J.region<|J.quiet (Y.move rfl) rfl<|J.quiet (Y.loadB 1 rfl rfl rfl rfl rfl) rfl ?_
        have h:=bnd h;obtain⟨r31,hr32,h⟩:=h
        refine J.loud (Loud.callL body161 (t_bits_TrailingZeros32 fuel  r31 hr32) rfl (LentAll.cons (Lent.fact 1 rfl) .nil) (fun _ _=>rfl)) rfl fun x33=>J.yieldR (us:=[Value.int .i64 (r31)]) (i:=0) hR20 rfl rfl rfl rfl rfl rfl<|J.region<|J.quiet (Y.assign rfl) rfl<|J.done<|J.thenN<|J.begin (i:=0) rfl<|J.block<|J.seq ?_
        refine JR.start [0,0,3,7,0,31,63] 5 mixedOrders (by decide +kernel) ?_
        refine JR.open (by exact rfl) ?_
        refine JR.qt rfl (SubM.cons 3 rfl (SubM.nil)) (SubL.nil) (Y.loadB 0 rfl rfl rfl rfl rfl) HistOk.z<|JR.qt rfl (SubM.nil) (SubL.nil) (Y.move rfl) HistOk.z ?_
        have h:=ck_some h;obtain⟨hc34,h⟩:=h
        refine JR.qt rfl (SubM.nil) (SubL.cons (List.mem_of_getElem? (i:=0) rfl) (SubL.nil)) (Y.indexS rfl rfl (Lent.fact 0 rfl) rfl rfl hc34) HistOk.z<|JR.qt rfl (SubM.nil) (SubL.cons (List.mem_of_getElem? (i:=0) rfl) (SubL.nil)) (Y.loadS0 rfl (Lent.fact 0 rfl) rfl rfl rfl RU32c0 hc34) HistOk.z<|JR.qt rfl (SubM.cons 2 rfl (SubM.nil)) (SubL.nil) (Y.loadB 0 rfl rfl rfl rfl rfl) HistOk.z<|JR.tailD 5 rfl rfl<|J.quiet (Y.and rfl rfl) rfl<|J.quiet (Y.eql rfl rfl) rfl<|J.done<|J.thenN ?_
        refine J.condD (by exact rfl) (fun hp35=> ?_) (fun hp35=> ?_)
        ·have h:=ifP hp35 h
         refine JR.start [0,0,2,7,15] 3 mixedOrders (by decide +kernel) ?_
         refine JR.open (by exact rfl) ?_
         refine JR.qt rfl (SubM.cons 2 rfl (SubM.nil)) (SubL.nil) (Y.loadB 0 rfl rfl rfl rfl rfl) HistOk.z<|JR.qt rfl (SubM.nil) (SubL.nil) (Y.move rfl) HistOk.z ?_
         have h:=ck_some h;obtain⟨hc36,h⟩:=h
         refine JR.qt rfl (SubM.nil) (SubL.nil) (Y.shl rfl rfl hc36) HistOk.z<|JR.tailD 3 rfl rfl<|J.quiet (Y.or rfl rfl) rfl<|J.store1 2 rfl rfl rfl rfl rfl rfl<|J.done<|J.inN<|J.roundN (i:=0) rfl<|J.quiet (Y.not rfl) rfl<|J.done<|J.thenN<|J.condF rfl<|J.skip<|J.inN<|J.thenN ?_
         exact J.meetI (bOr .u32 a24.2 (bShl .u32 (1:Int) r31)) (()) h SF (SubM.refl _) (LentAll.refl _ _)
        ·have h:=ifN hp35 h
         refine J.skip<|J.inN<|J.roundN (i:=0) rfl<|J.quiet (Y.not rfl) rfl<|J.done<|J.thenN<|J.condF rfl<|J.skip<|J.inN<|J.thenN ?_
         exact J.meetI (a24.2) (()) h SF (SubM.refl _) (LentAll.refl _ _)
       ·clear h
        intro a29 b30 h
        unfold _daemon_Net__Resolve_k4 at h
        refine J.region<|J.quiet (Y.loadB 1 rfl rfl rfl rfl rfl) rfl<|J.quiet (Y.loadB 1 rfl rfl rfl rfl rfl) rfl<|J.quiet (Y.subW rfl rfl) rfl<|J.quiet (Y.and rfl rfl) rfl<|J.store1 1 rfl rfl rfl rfl rfl rfl<|J.done<|J.thenN ?_
        exact J.againI ((bAnd .u32 a24.1 (wI .u32 (a24.1 - (1:Int)))),a29) (()) h SF (SubM.refl _) (LentAll.refl _ _)
      ·have h:=ifN hp27 h
       refine J.exit<|J.thenX<|J.thenX<|J.inX<|J.retF (i:=0) (.inr rfl) rfl (Res.r0 rfl)<|J.inN<|J.thenN ?_
       exact J.meetN (a24.2) (List.cons D18 ([]:List Nat)) rfl h SF (SubM.cons 2 rfl (SubM.cons 3 rfl (SubM.nil))) (LentAll.refl _ _)
    ·clear h
     intro a12 b13 h
     unfold _daemon_Net__Resolve_k2 at h
     refine J.seq<|J.region<|J.quiet (Y.loadB 0 rfl rfl rfl rfl rfl) rfl<|J.quiet (Y.assign rfl) rfl<|J.done<|J.thenN<|J.ret<|J.inR<|J.thenR<|J.unmarkAll (i:=1) (Ds:=(b13)) (.inl rfl) rfl ?_
     obtain rfl:=Option.some.inj h
     exact J.retG1 (()) rfl rfl (RV.tmp rfl) (SubM.nil) LentAll.nil
   ·have h:=ifN hp8 h
    refine J.seq<|J.region<|J.quiet (Y.eql rfl rfl) rfl<|J.quiet (Y.assign rfl) rfl<|J.done<|J.thenN ?_
    refine J.condD (by exact rfl) (fun hp38=> ?_) (fun hp38=> ?_)
    ·have h:=ifP hp38 h
     refine J.seq<|J.region<|J.quiet (Y.move rfl) rfl<|J.quiet (Y.assign rfl) rfl<|J.done<|J.thenN<|J.ret<|J.inR<|J.thenR<|J.unmarkAll (i:=1) (Ds:=([]:List Nat)) (.inl rfl) rfl ?_
     obtain rfl:=Option.some.inj h
     exact J.retG1 (()) rfl rfl (RV.tmp rfl) (SubM.nil) LentAll.nil
    ·have h:=ifN hp38 h
     refine J.skip<|J.inN<|J.thenN<|J.seq<|J.region<|J.quiet (Y.move rfl) rfl<|J.quiet (Y.assign rfl) rfl<|J.done<|J.thenN<|J.ret<|J.unmarkAll (i:=1) (Ds:=([]:List Nat)) (.inl rfl) rfl ?_
     obtain rfl:=Option.some.inj h
     exact J.retG1 (()) rfl rfl (RV.tmp rfl) (SubM.nil) LentAll.nil
end Go.Proofs.YtdbcpliafeoghaaGreatDoor
end
section
namespace Go.Proofs.YtdbcpliafeoghaaGreatDoor
open Go.Sx
def graph_search_k2  (a10:List (Int)):Option (List (Int)):=
 some (a10)
def graph_search_k3 (a29:Int×List (Int)×List (Int)) (ag28:(Int×List (Int)×List (Int))->Option (List (Int))) (a36:List (Int)×List (Int)):Option (List (Int)):=
 ag28 ((wI .i64 (a29.1+(1:Int))),a36.1,a36.2)
def graph_search_s2 (p0:List (Int)×(List (List (Int×Int)))) (a16:List (Int)×List (Int)) (ag15:(List (Int)×List (Int))->Option (List (Int))) (a29:Int×List (Int)×List (Int)) (ag28:(Int×List (Int)×List (Int))->Option (List (Int))):Option (List (Int)):=
 if a29.1<(List.length (at' p0.2 (at' a16.1 (0:Int))):Int)then(ck (0<=a29.1∧a29.1<(List.length (at' p0.2 (at' a16.1 (0:Int))):Int)) (ck (0<=((at' (at' p0.2 (at' a16.1 (0:Int))) a29.1).1)∧((at' (at' p0.2 (at' a16.1 (0:Int))) a29.1).1)<(List.length a29.2.2:Int)) (if(at' a29.2.2 ((at' (at' p0.2 (at' a16.1 (0:Int))) a29.1).1))<(0:Int)then(ck (0<=(at' a16.1 (0:Int))∧(at' a16.1 (0:Int))<(List.length a29.2.2:Int)) (ck (0<=((at' (at' p0.2 (at' a16.1 (0:Int))) a29.1).1)∧((at' (at' p0.2 (at' a16.1 (0:Int))) a29.1).1)<(List.length a29.2.2:Int)) (ck ((List.length a29.2.1:Int)+(List.length ([((at' (at' p0.2 (at' a16.1 (0:Int))) a29.1).1)]):Int)<=1099511627) (graph_search_k3 a29 ag28 ((a29.2.1++([((at' (at' p0.2 (at' a16.1 (0:Int))) a29.1).1)])),(List.set a29.2.2 (Int.toNat ((at' (at' p0.2 (at' a16.1 (0:Int))) a29.1).1)) (wI .i64 ((at' a29.2.2 (at' a16.1 (0:Int)))+(1:Int)))))))))else(graph_search_k3 a29 ag28 (a29.2.1,a29.2.2)))))else(ag15 (a29.2.1,a29.2.2))
def graph_search_s1 (fuel:Nat) (p0:List (Int)×(List (List (Int×Int)))) (a16:List (Int)×List (Int)) (ag15:(List (Int)×List (Int))->Option (List (Int))):Option (List (Int)):=
 if(0:Int)<(List.length a16.1:Int)then(ck (0<=(0:Int)∧(0:Int)<(List.length a16.1:Int)) (ck (0<=(1:Int)∧(1:Int)<=(List.length a16.1:Int)) (ck (0<=(at' a16.1 (0:Int))∧(at' a16.1 (0:Int))<(List.length p0.2:Int)) (iter (graph_search_s2 p0 a16 ag15) fuel ((0:Int),(List.drop (Int.toNat (1:Int)) a16.1),a16.2)))))else(graph_search_k2  (a16.2))
def graph_search_k1 (fuel:Nat) (p0:List (Int)×(List (List (Int×Int)))) (p1:Int) (a5:List (Int)):Option (List (Int)):=
 ck (0<=p1∧p1<(List.length a5:Int)) (iter (graph_search_s1 fuel p0) fuel (([p1]),(List.set a5 (Int.toNat p1) (0:Int))))
def graph_search_s3 (fuel:Nat) (p0:List (Int)×(List (List (Int×Int)))) (p1:Int) (a50:Int×List (Int)) (ag49:(Int×List (Int))->Option (List (Int))):Option (List (Int)):=
 if a50.1<(List.length (List.replicate (Int.toNat (List.length p0.2:Int)) (0:Int)):Int)then(ck (0<=a50.1∧a50.1<(List.length a50.2:Int)) (ag49 ((wI .i64 (a50.1+(1:Int))),(List.set a50.2 (Int.toNat a50.1) (-1:Int)))))else(graph_search_k1 fuel p0 p1 (a50.2))
def m_graph_search (fuel:Nat) (p0:List (Int)×(List (List (Int×Int)))) (p1:Int):Option (List (Int)):=
 ck (0<=(List.length p0.2:Int)∧(List.length p0.2:Int)<=1099511627) (iter (graph_search_s3 fuel p0 p1) fuel ((0:Int),(List.replicate (Int.toNat (List.length p0.2:Int)) (0:Int))))
theorem body103:HasBody Tryz.prog 103:=Tryz.call103
theorem t_graph_search (fuel:Nat) {p0:List (Int)×(List (List (Int×Int)))} {p1:Int} (v0:Value)  (v1:Value)  (z2:List (Value×List (Int×Int))) (r:List (Int)) (h:m_graph_search fuel p0 p1=some r):
  Meets Tryz.prog 103 #[Value.agg #[v0,v1],Value.int .i64 (p1)] [Sl RI64 v0 p0.1,S2 RI64I64p v1 z2 p0.2] (fun x:Value=>x) (fun x l=>Ar EI64 x r::l) (fun _ l=>l):=by
 refine Meets.of (vs:=[Value.agg #[v0,v1],Value.int .i64 (p1)]) Tryz.func103 rfl Tryz.ntmps103 rfl fun c=> ?_
 unfold m_graph_search at h
 refine J.seq<|J.region<|J.loud (Loud.box (cs:=[v0,v1]) rfl rfl) rfl fun b1=>J.quiet (Y.assign rfl) rfl<|J.done<|J.thenN<|J.seq<|J.region<|J.quiet (Y.fieldB rfl rfl rfl rfl rfl) rfl<|J.quiet (Y.loadB 0 rfl rfl rfl rfl rfl) rfl<|J.quiet (Y.lenN rfl (Lent.fact 1 rfl) rfl) rfl ?_
 have h:=ck_some h;obtain⟨hc2,h⟩:=h
 refine J.loud (Loud.makeS (e:=EI64) (0:Int) rfl rfl rfl rfl hc2 rfl rfl rfl) rfl fun u3=>J.quiet (Y.assign rfl) rfl<|J.done<|J.thenN<|J.seq<|J.midI (A:=List (Int)) (B:=Unit) (fun a5=>graph_search_k1 fuel p0 p1 a5=some r) (fun a5 b6=>[(1,Value.int .i64 (p1)),(2,Value.pointer (some ⟨b1,0,none⟩)),(5,u3)]) (fun a5 b6=>[Ar EI64 u3 a5,Blk b1 [v0,v1] 53]) (fun a5 b6=>[Sl RI64 v0 p0.1,S2 RI64I64p v1 z2 p0.2]) ?_ ?_
 ·refine J.seq<|J.region<|J.quiet (Y.move rfl) rfl<|J.quiet (Y.lenS rfl (Lent.ar (Lent.res 0 rfl) FI64) rfl) rfl<|J.quiet (Y.move rfl) rfl<|J.done<|J.thenN<|J.block<|J.loopI (A:=Int×List (Int)) (B:=Unit) (graph_search_s3 fuel p0 p1) (fun a50 b51=>[(1,Value.int .i64 (p1)),(2,Value.pointer (some ⟨b1,0,none⟩)),(5,u3),(16,Value.int .i64 (List.length (List.replicate (Int.toNat (List.length p0.2:Int)) (0:Int)):Int)),(17,Value.int .i64 (a50.1))]) (fun a50 b51=>[Ar EI64 u3 a50.2,Blk b1 [v0,v1] 53]) (fun a50 b51=>[Sl RI64 v0 p0.1,S2 RI64I64p v1 z2 p0.2]) ((0:Int),(List.replicate (Int.toNat (List.length p0.2:Int)) (0:Int))) (()) h SF (SubM.refl _) (LentAll.refl _ _) ?_
  clear h
  intro k52 a50 b51 h
  unfold graph_search_s3 at h
  refine J.seq<|J.region<|J.quiet (Y.lss rfl rfl) rfl<|J.done<|J.thenN<|J.seq ?_
  refine J.condD (by exact rfl) (fun hp53=> ?_) (fun hp53=> ?_)
  ·have h:=ifP hp53 h
   refine J.skip<|J.thenN<|J.seq<|J.block<|J.seq<|J.region<|J.quiet (Y.move rfl) rfl<|J.quiet (Y.assign rfl) rfl<|J.done<|J.thenN<|J.region<|J.quiet (Y.move rfl) rfl<|J.quiet (Y.move rfl) rfl ?_
   have h:=ck_some h;obtain⟨hc54,h⟩:=h
   refine J.quiet (Y.indexS rfl rfl (Lent.ar (Lent.res 0 rfl) FI64) rfl rfl hc54) rfl<|J.storeS 0 (-1:Int) hc54 rfl rfl rfl rfl rfl rfl rfl<|J.done<|J.inN<|J.thenN<|J.region<|J.quiet (Y.addW rfl rfl) rfl<|J.quiet (Y.move rfl) rfl<|J.done<|J.thenN ?_
   exact J.againI ((wI .i64 (a50.1+(1:Int))),(List.set a50.2 (Int.toNat a50.1) (-1:Int))) (()) h SF (SubM.refl _) (LentAll.refl _ _)
  ·have h:=ifN hp53 h
   refine J.exit<|J.thenX<|J.thenX<|J.inX<|J.thenN ?_
   exact J.meetI (a50.2) (()) h SF (SubM.refl _) (LentAll.refl _ _)
 ·clear h
  intro a5 b6 h
  unfold graph_search_k1 at h
  refine J.seq<|J.region<|J.quiet (Y.move rfl) rfl<|J.quiet (Y.move rfl) rfl ?_
  have h:=ck_some h;obtain⟨hc7,h⟩:=h
  refine J.quiet (Y.indexS rfl rfl (Lent.ar (Lent.res 0 rfl) FI64) rfl rfl hc7) rfl<|J.storeS 0 (0:Int) hc7 rfl rfl rfl rfl rfl rfl rfl<|J.done<|J.thenN<|J.seq<|J.region<|J.quiet (Y.move rfl) rfl<|J.loud (Loud.buildS (e:=EI64) ([p1]) [(0,Value.int .i64 (p1))] rfl rfl rfl rfl (fill_1_1 (Value.int .i64 (p1)) rfl) rfl rfl rfl) rfl fun u8=>J.quiet (Y.assign rfl) rfl<|J.done<|J.thenN<|J.seq<|J.midI (A:=List (Int)) (B:=Unit) (fun a10=>graph_search_k2  a10=some r) (fun a10 b11=>[(5,u3)]) (fun a10 b11=>[Ar EI64 u3 a10]) (fun a10 b11=>[Sl RI64 v0 p0.1,S2 RI64I64p v1 z2 p0.2]) ?_ ?_
  ·refine J.block<|J.loopI (A:=List (Int)×List (Int)) (B:=Value) (graph_search_s1 fuel p0) (fun a16 b17=>[(2,Value.pointer (some ⟨b1,0,none⟩)),(5,u3),(7,b17)]) (fun a16 b17=>[Ar EI64 b17 a16.1,Ar EI64 u3 a16.2,Blk b1 [v0,v1] 53]) (fun a16 b17=>[Sl RI64 v0 p0.1,S2 RI64I64p v1 z2 p0.2]) (([p1]),(List.set a5 (Int.toNat p1) (0:Int))) (u8) h SF (SubM.refl _) (LentAll.refl _ _) ?_
   clear h
   intro k18 a16 b17 h
   unfold graph_search_s1 at h
   refine J.seq<|J.seq<|J.region<|J.quiet (Y.move rfl) rfl<|J.quiet (Y.lenS rfl (Lent.ar (Lent.res 0 rfl) FI64) rfl) rfl<|J.quiet (Y.gtr rfl rfl) rfl<|J.done<|J.thenN ?_
   refine J.condD (by exact rfl) (fun hp19=> ?_) (fun hp19=> ?_)
   ·have h:=ifP hp19 h
    refine J.skip<|J.thenN<|J.block<|J.seq<|J.region<|J.quiet (Y.move rfl) rfl ?_
    have h:=ck_some h;obtain⟨hc20,h⟩:=h
    refine J.quiet (Y.indexS rfl rfl (Lent.ar (Lent.res 0 rfl) FI64) rfl rfl hc20) rfl<|J.quiet (Y.loadS0 rfl (Lent.ar (Lent.res 0 rfl) FI64) rfl rfl rfl RI64c0 hc20) rfl<|J.quiet (Y.assign rfl) rfl<|J.done<|J.thenN<|J.seq<|J.region<|J.quiet (Y.move rfl) rfl ?_
    have h:=ck_some h;obtain⟨hc21,h⟩:=h
    refine J.loud (Loud.sliceA 0 hc21 rfl rfl rfl rfl rfl rfl) rfl fun u22=>J.quiet (Y.assign rfl) rfl<|J.done<|J.thenN<|J.seq<|J.region<|J.quiet (Y.fieldB rfl rfl rfl rfl rfl) rfl<|J.quiet (Y.loadB 2 rfl rfl rfl rfl rfl) rfl<|J.quiet (Y.move rfl) rfl ?_
    have h:=ck_some h;obtain⟨hc23,h⟩:=h
    refine J.quiet (Y.indexN rfl rfl (Lent.fact 1 rfl) rfl rfl hc23) rfl<|J.quiet (Y.loadRow rfl (Lent.fact 1 rfl) rfl rfl hc23) rfl<|J.quiet (Y.lenS rfl (Lent.el (Lent.fact 1 rfl) hc23.1 hc23.2) rfl) rfl<|J.quiet (Y.move rfl) rfl<|J.done<|J.thenN<|J.block<|J.loopI (A:=Int×List (Int)×List (Int)) (B:=Value) (graph_search_s2 p0 a16 (iter (graph_search_s1 fuel p0) k18)) (fun a29 b30=>[(2,Value.pointer (some ⟨b1,0,none⟩)),(5,u3),(7,b30),(8,Value.int .i64 (at' a16.1 (0:Int))),(41,(at' z2 (at' a16.1 (0:Int))).1),(42,Value.int .i64 (List.length (at' p0.2 (at' a16.1 (0:Int))):Int)),(43,Value.int .i64 (a29.1))]) (fun a29 b30=>[Ar EI64 b30 a29.2.1,Ar EI64 u3 a29.2.2,Blk b1 [v0,v1] 53]) (fun a29 b30=>[Sl RI64 v0 p0.1,S2 RI64I64p v1 z2 p0.2]) ((0:Int),(List.drop (Int.toNat (1:Int)) a16.1),a16.2) (u22) h SF (SubM.refl _) (LentAll.refl _ _) ?_
    clear h
    intro k31 a29 b30 h
    unfold graph_search_s2 at h
    refine J.seq<|J.region<|J.quiet (Y.lss rfl rfl) rfl<|J.done<|J.thenN<|J.seq ?_
    refine J.condD (by exact rfl) (fun hp32=> ?_) (fun hp32=> ?_)
    ·have h:=ifP hp32 h
     refine J.skip<|J.thenN<|J.seq<|J.midI (A:=List (Int)×List (Int)) (B:=Value) (fun a36=>graph_search_k3 a29 (iter (graph_search_s2 p0 a16 (iter (graph_search_s1 fuel p0) k18)) k31) a36=some r) (fun a36 b37=>[(2,Value.pointer (some ⟨b1,0,none⟩)),(5,u3),(7,b37),(8,Value.int .i64 (at' a16.1 (0:Int))),(41,(at' z2 (at' a16.1 (0:Int))).1),(42,Value.int .i64 (List.length (at' p0.2 (at' a16.1 (0:Int))):Int)),(43,Value.int .i64 (a29.1))]) (fun a36 b37=>[Ar EI64 b37 a36.1,Ar EI64 u3 a36.2,Blk b1 [v0,v1] 53]) (fun a36 b37=>[Sl RI64 v0 p0.1,S2 RI64I64p v1 z2 p0.2]) ?_ ?_
     ·refine J.block<|J.seq<|J.region ?_
      have h:=ck_some h;obtain⟨hc38,h⟩:=h
      refine J.quiet (Y.indexS rfl rfl (Lent.el (Lent.fact 1 rfl) hc23.1 hc23.2) rfl rfl hc38) rfl<|J.quiet (Y.loadAggS (cs:=[Value.int .i64 ((at' (at' p0.2 (at' a16.1 (0:Int))) a29.1).1),Value.int .i64 ((at' (at' p0.2 (at' a16.1 (0:Int))) a29.1).2)]) rfl (Lent.el (Lent.fact 1 rfl) hc23.1 hc23.2) FI64I64p rfl rfl rfl rfl hc38) rfl<|J.loud (Loud.alloc (cs:=[Value.int .i64 (0:Int),Value.int .i64 (0:Int)]) rfl rfl) rfl fun b39=>J.storeAll 0 (vs:=[Value.int .i64 ((at' (at' p0.2 (at' a16.1 (0:Int))) a29.1).1),Value.int .i64 ((at' (at' p0.2 (at' a16.1 (0:Int))) a29.1).2)]) rfl rfl rfl rfl rfl rfl<|J.done<|J.thenN<|J.seq<|J.region<|J.quiet (Y.move rfl) rfl<|J.quiet (Y.fieldB rfl rfl rfl rfl rfl) rfl<|J.quiet (Y.loadB 0 rfl rfl rfl rfl rfl) rfl ?_
      have h:=ck_some h;obtain⟨hc40,h⟩:=h
      refine J.quiet (Y.indexS rfl rfl (Lent.ar (Lent.res 2 rfl) FI64) rfl rfl hc40) rfl<|J.quiet (Y.loadS0 rfl (Lent.ar (Lent.res 2 rfl) FI64) rfl rfl rfl RI64c0 hc40) rfl<|J.quiet (Y.lss rfl rfl) rfl<|J.done<|J.thenN ?_
      refine J.condD (by exact rfl) (fun hp41=> ?_) (fun hp41=> ?_)
      ·have h:=ifP hp41 h
       refine J.seq ?_
       refine JR.start [0,0,2,0,0,24,56,120,255,511] 8 mixedOrders (by decide +kernel) ?_
       refine JR.open (by exact rfl) ?_
       refine JR.qt rfl (SubM.nil) (SubL.nil) (Y.move rfl) HistOk.z<|JR.qt rfl (SubM.nil) (SubL.nil) (Y.fieldB rfl rfl rfl rfl rfl) HistOk.z<|JR.qt rfl (SubM.cons 0 rfl (SubM.nil)) (SubL.nil) (Y.loadB 0 rfl rfl rfl rfl rfl) HistOk.z<|JR.qt rfl (SubM.nil) (SubL.nil) (Y.move rfl) HistOk.z<|JR.qt rfl (SubM.nil) (SubL.nil) (Y.move rfl) HistOk.z ?_
       have h:=ck_some h;obtain⟨hc42,h⟩:=h
       refine JR.qt rfl (SubM.cons 2 rfl (SubM.nil)) (SubL.nil) (Y.indexS rfl rfl (Lent.ar (Lent.res 0 rfl) FI64) rfl rfl hc42) HistOk.z<|JR.qt rfl (SubM.cons 2 rfl (SubM.nil)) (SubL.nil) (Y.loadS0 rfl (Lent.ar (Lent.res 0 rfl) FI64) rfl rfl rfl RI64c0 hc42) HistOk.z<|JR.qt rfl (SubM.nil) (SubL.nil) (Y.addW rfl rfl) HistOk.z<|JR.tailD 8 rfl rfl ?_
       have h:=ck_some h;obtain⟨hc43,h⟩:=h
       refine J.quiet (Y.indexS rfl rfl (Lent.ar (Lent.res 2 rfl) FI64) rfl rfl hc43) rfl<|J.storeS 2 (wI .i64 ((at' a29.2.2 (at' a16.1 (0:Int)))+(1:Int))) hc43 rfl rfl rfl rfl rfl rfl rfl<|J.done<|J.thenN<|J.region<|J.quiet (Y.move rfl) rfl<|J.quiet (Y.fieldB rfl rfl rfl rfl rfl) rfl<|J.quiet (Y.loadB 0 rfl rfl rfl rfl rfl) rfl<|J.loud (Loud.buildS (e:=EI64) ([((at' (at' p0.2 (at' a16.1 (0:Int))) a29.1).1)]) [(0,Value.int .i64 ((at' (at' p0.2 (at' a16.1 (0:Int))) a29.1).1))] rfl rfl rfl rfl (fill_1_1 (Value.int .i64 ((at' (at' p0.2 (at' a16.1 (0:Int))) a29.1).1)) rfl) rfl rfl rfl) rfl fun u44=> ?_
       have h:=ck_some h;obtain⟨hc46,h⟩:=h
       refine J.loud (Loud.appendL 2 FI64 rfl rfl rfl (Lent.ar (Lent.res 0 rfl) FI64) rfl rfl rfl rfl hc46 rfl) rfl fun u45=>J.quiet (Y.assign rfl) rfl<|J.done<|J.inN<|J.thenN ?_
       exact J.meetI ((a29.2.1++([((at' (at' p0.2 (at' a16.1 (0:Int))) a29.1).1)])),(List.set a29.2.2 (Int.toNat ((at' (at' p0.2 (at' a16.1 (0:Int))) a29.1).1)) (wI .i64 ((at' a29.2.2 (at' a16.1 (0:Int)))+(1:Int))))) (u45) h SF (SubM.cons 2 rfl (SubM.cons 2 rfl (SubM.cons 2 rfl (SubM.nil)))) (LentAll.refl _ _)
      ·have h:=ifN hp41 h
       refine J.skip<|J.inN<|J.thenN ?_
       exact J.meetI (a29.2.1,a29.2.2) (b30) h SF (SubM.cons 1 rfl (SubM.cons 1 rfl (SubM.cons 1 rfl (SubM.nil)))) (LentAll.refl _ _)
     ·clear h
      intro a36 b37 h
      unfold graph_search_k3 at h
      refine J.region<|J.quiet (Y.addW rfl rfl) rfl<|J.quiet (Y.move rfl) rfl<|J.done<|J.thenN ?_
      exact J.againI ((wI .i64 (a29.1+(1:Int))),a36.1,a36.2) (b37) h SF (SubM.refl _) (LentAll.refl _ _)
    ·have h:=ifN hp32 h
     refine J.exit<|J.thenX<|J.thenX<|J.inX<|J.inN<|J.thenN ?_
     exact J.againI (a29.2.1,a29.2.2) (b30) h SF (SubM.refl _) (LentAll.refl _ _)
   ·have h:=ifN hp19 h
    refine J.exit<|J.thenX<|J.thenX<|J.inX<|J.thenN ?_
    exact J.meetI (a16.2) (()) h SF (SubM.cons 1 rfl (SubM.nil)) (LentAll.refl _ _)
  ·clear h
   intro a10 b11 h
   unfold graph_search_k2 at h
   refine J.seq<|J.region<|J.quiet (Y.move rfl) rfl<|J.quiet (Y.assign rfl) rfl<|J.done<|J.thenN<|J.ret ?_
   obtain rfl:=Option.some.inj h
   exact J.retG1 (u3) rfl rfl (RV.tmp rfl) (SubM.refl _) LentAll.nil
end Go.Proofs.YtdbcpliafeoghaaGreatDoor
end
section
namespace Go.Proofs.YtdbcpliafeoghaaGreatDoor
open Go.Sx
def graph_Connected_k1  (a6:Unit):Option (Bool):=
 some (true)
def graph_Connected_s1 (r8:List (Int)) (a13:Int) (ag12:(Int)->Option (Bool)):Option (Bool):=
 if a13<(List.length r8:Int)then(ck (0<=a13∧a13<(List.length r8:Int)) (if(at' r8 a13)<(0:Int)then(some (false))else(ag12 (wI .i64 (a13+(1:Int))))))else(graph_Connected_k1  (()))
def m_graph_Connected (fuel:Nat) (p0:List (Int)×(List (List (Int×Int)))):Option (Bool):=
 Option.bind (m_graph_Valid fuel ((p0.1,p0.2))) fun r2=>(if(!r2)=true then(some (false))else(Option.bind (m_graph_search fuel ((p0.1,p0.2)) (0:Int)) fun r8=>(iter (graph_Connected_s1 r8) fuel (0:Int))))
theorem body101:HasBody Tryz.prog 101:=Tryz.call101
theorem t_graph_Connected (fuel:Nat) {p0:List (Int)×(List (List (Int×Int)))} (v0:Value)  (v1:Value)  (z2:List (Value×List (Int×Int))) (r:Bool) (h:m_graph_Connected fuel p0=some r):
  Meets Tryz.prog 101 #[Value.agg #[v0,v1]] [Sl RI64 v0 p0.1,S2 RI64I64p v1 z2 p0.2] (fun x:Unit=>Value.bool (r)) (fun x l=>l) (fun _ l=>l):=by
 refine Meets.of (vs:=[Value.agg #[v0,v1]]) Tryz.func101 rfl Tryz.ntmps101 rfl fun c=> ?_
 unfold m_graph_Connected at h
 refine J.seq<|J.region<|J.loud (Loud.box (cs:=[v0,v1]) rfl rfl) rfl fun b1=>J.quiet (Y.assign rfl) rfl<|J.done<|J.thenN<|J.seq<|J.seq<|J.region<|J.quiet (Y.loadBAll 0 rfl rfl rfl rfl) rfl ?_
 have h:=bnd h;obtain⟨r2,hr3,h⟩:=h
 refine J.loud (Loud.callL body128 (t_graph_Valid fuel v0 v1 z2 r2 hr3) rfl (LentAll.cons (Lent.fact 0 rfl) (LentAll.cons (Lent.fact 1 rfl) .nil)) (fun _ _=>rfl)) rfl fun x4=>J.quiet (Y.not rfl) rfl<|J.done<|J.thenN ?_
 refine J.cond (by exact rfl) (fun hp5=> ?_) (fun hp5=> ?_)
 ·have h:=ifP hp5 h
  refine J.seq<|J.region<|J.quiet (Y.assign rfl) rfl<|J.done<|J.thenN<|J.ret<|J.thenR ?_
  obtain rfl:=Option.some.inj h
  exact J.retG1 (()) rfl rfl (RV.tmp rfl) (SubM.nil) LentAll.nil
 ·have h:=ifBN hp5 h
  refine J.skip<|J.thenN<|J.seq<|J.midI (A:=Unit) (B:=Unit) (fun a6=>graph_Connected_k1  a6=some r) (fun a6 b7=>[]) (fun a6 b7=>[]) (fun a6 b7=>[Sl RI64 v0 p0.1,S2 RI64I64p v1 z2 p0.2]) ?_ ?_
  ·refine J.seq<|J.region<|J.quiet (Y.loadBAll 0 rfl rfl rfl rfl) rfl ?_
   have h:=bnd h;obtain⟨r8,hr9,h⟩:=h
   refine J.loud (Loud.callL body103 (t_graph_search fuel v0 v1 z2 r8 hr9) rfl (LentAll.cons (Lent.fact 0 rfl) (LentAll.cons (Lent.fact 1 rfl) .nil)) (fun _ _=>rfl)) rfl fun x10=>J.quiet (Y.lenS rfl (Lent.ar (Lent.res 0 rfl) FI64) rfl) rfl<|J.quiet (Y.move rfl) rfl<|J.done<|J.thenN<|J.block<|J.loopI (A:=Int) (B:=Unit) (graph_Connected_s1 r8) (fun a13 b14=>[(9,x10),(10,Value.int .i64 (List.length r8:Int)),(11,Value.int .i64 (a13))]) (fun a13 b14=>[Ar EI64 x10 r8]) (fun a13 b14=>[Sl RI64 v0 p0.1,S2 RI64I64p v1 z2 p0.2]) (0:Int) (()) h SF (SubM.cons 0 rfl (SubM.nil)) (LentAll.refl _ _) ?_
   clear h
   intro k15 a13 b14 h
   unfold graph_Connected_s1 at h
   refine J.seq<|J.region<|J.quiet (Y.lss rfl rfl) rfl<|J.done<|J.thenN<|J.seq ?_
   refine J.condD (by exact rfl) (fun hp16=> ?_) (fun hp16=> ?_)
   ·have h:=ifP hp16 h
    refine J.skip<|J.thenN<|J.seq<|J.block<|J.seq<|J.region ?_
    have h:=ck_some h;obtain⟨hc17,h⟩:=h
    refine J.quiet (Y.indexS rfl rfl (Lent.ar (Lent.res 0 rfl) FI64) rfl rfl hc17) rfl<|J.quiet (Y.loadS0 rfl (Lent.ar (Lent.res 0 rfl) FI64) rfl rfl rfl RI64c0 hc17) rfl<|J.quiet (Y.assign rfl) rfl<|J.done<|J.thenN<|J.seq<|J.region<|J.quiet (Y.move rfl) rfl<|J.quiet (Y.lss rfl rfl) rfl<|J.done<|J.thenN ?_
    refine J.condD (by exact rfl) (fun hp18=> ?_) (fun hp18=> ?_)
    ·have h:=ifP hp18 h
     refine J.seq<|J.region<|J.quiet (Y.assign rfl) rfl<|J.done<|J.thenN<|J.ret<|J.inR<|J.thenR<|J.thenR<|J.inR<|J.thenR ?_
     obtain rfl:=Option.some.inj h
     exact J.retG1 (()) rfl rfl (RV.tmp rfl) (SubM.nil) LentAll.nil
    ·have h:=ifN hp18 h
     refine J.skip<|J.inN<|J.thenN<|J.region<|J.quiet (Y.addW rfl rfl) rfl<|J.quiet (Y.move rfl) rfl<|J.done<|J.thenN ?_
     exact J.againI (wI .i64 (a13+(1:Int))) (()) h SF (SubM.refl _) (LentAll.refl _ _)
   ·have h:=ifN hp16 h
    refine J.exit<|J.thenX<|J.thenX<|J.inX<|J.thenN ?_
    exact J.meetI (()) (()) h SF (SubM.nil) (LentAll.refl _ _)
  ·clear h
   intro a6 b7 h
   unfold graph_Connected_k1 at h
   refine J.seq<|J.region<|J.quiet (Y.assign rfl) rfl<|J.done<|J.thenN<|J.ret ?_
   obtain rfl:=Option.some.inj h
   exact J.retG1 (()) rfl rfl (RV.tmp rfl) (SubM.refl _) LentAll.nil
end Go.Proofs.YtdbcpliafeoghaaGreatDoor
end
section
namespace Go.Proofs.YtdbcpliafeoghaaGreatDoor
open Go.Sx
def m_snapshot_Fit (fuel:Nat) (p0:List (Int)×(List (List (Int×Int)))):Option (Bool):=
 Option.bind (m_graph_Connected fuel ((p0.1,p0.2))) fun r2=>(some (r2))
theorem body62:HasBody Tryz.prog 62:=Tryz.call62
theorem t_snapshot_Fit (fuel:Nat) {p0:List (Int)×(List (List (Int×Int)))} (v0:Value)  (v1:Value)  (z2:List (Value×List (Int×Int))) (r:Bool) (h:m_snapshot_Fit fuel p0=some r):
  Meets Tryz.prog 62 #[Value.agg #[v0,v1]] [Sl RI64 v0 p0.1,S2 RI64I64p v1 z2 p0.2] (fun x:Unit=>Value.bool (r)) (fun x l=>l) (fun _ l=>l):=by
 refine Meets.of (vs:=[Value.agg #[v0,v1]]) Tryz.func62 rfl Tryz.ntmps62 rfl fun c=> ?_
 unfold m_snapshot_Fit at h
 refine J.seq<|J.region<|J.loud (Loud.box (cs:=[v0,v1]) rfl rfl) rfl fun b1=>J.quiet (Y.assign rfl) rfl<|J.done<|J.thenN<|J.seq<|J.region<|J.quiet (Y.loadBAll 0 rfl rfl rfl rfl) rfl ?_
 have h:=bnd h;obtain⟨r2,hr3,h⟩:=h
 refine J.loud (Loud.callL body101 (t_graph_Connected fuel v0 v1 z2 r2 hr3) rfl (LentAll.cons (Lent.fact 0 rfl) (LentAll.cons (Lent.fact 1 rfl) .nil)) (fun _ _=>rfl)) rfl fun x4=>J.quiet (Y.assign rfl) rfl<|J.done<|J.thenN<|J.ret ?_
 obtain rfl:=Option.some.inj h
 exact J.retG1 (()) rfl rfl (RV.tmp rfl) (SubM.nil) LentAll.nil
end Go.Proofs.YtdbcpliafeoghaaGreatDoor
end
section
namespace Go.Proofs.YtdbcpliafeoghaaGreatDoor
open Go.Sx
def bfs_Configuration_k1  (a3:Unit):Option (Bool):=
 some (true)
def bfs_Configuration_k2 (a7:Int) (ag6:(Int)->Option (Bool)) (a11:Unit):Option (Bool):=
 ag6 (wI .i64 (a7+(1:Int)))
def bfs_Configuration_k4 (a17:Int) (ag16:(Int)->Option (Bool)) (a28:Bool):Option (Bool):=
 if a28=true then(some (false))else(ag16 (wI .i64 (a17+(1:Int))))
def bfs_Configuration_k3 (p1:List (List (Int))) (a7:Int) (a17:Int) (ag16:(Int)->Option (Bool)) (a25:Int×Int):Option (Bool):=
 if(at' (at' p1 a7) a17)<a25.1 then(bfs_Configuration_k4 a17 ag16 (true))else(bfs_Configuration_k4 a17 ag16 (decide (a25.2<(at' (at' p1 a7) a17))))
def bfs_Configuration_s2 (p0:List (Int)×(List (List (Int×Int)))) (p1:List (List (Int))) (p2:List (Int)) (a7:Int) (ag6:(Int)->Option (Bool)) (a17:Int) (ag16:(Int)->Option (Bool)):Option (Bool):=
 if a17<(List.length (at' p1 a7):Int)then(ck (0<=a17∧a17<(List.length (at' p1 a7):Int)) (ck (0<=a17∧a17<(List.length p2:Int)) (if(at' p2 a17)=(-1:Int)then(ck (0<=a7∧a7<(List.length p0.2:Int)) (bfs_Configuration_k3 p1 a7 a17 ag16 ((-1:Int),(wI .i64 ((List.length (at' p0.2 a7):Int) - (1:Int))))))else(bfs_Configuration_k3 p1 a7 a17 ag16 ((0:Int),(at' p2 a17))))))else(bfs_Configuration_k2 a7 ag6 (()))
def bfs_Configuration_s1 (fuel:Nat) (p0:List (Int)×(List (List (Int×Int)))) (p1:List (List (Int))) (p2:List (Int)) (a7:Int) (ag6:(Int)->Option (Bool)):Option (Bool):=
 if a7<(List.length p1:Int)then(ck (0<=a7∧a7<(List.length p1:Int)) (if(List.length (at' p1 a7):Int)≠(List.length p2:Int)then(some (false))else(iter (bfs_Configuration_s2 p0 p1 p2 a7 ag6) fuel (0:Int))))else(bfs_Configuration_k1  (()))
def m_bfs_Configuration (fuel:Nat) (p0:List (Int)×(List (List (Int×Int)))) (p1:List (List (Int))) (p2:List (Int)):Option (Bool):=
 if(List.length p1:Int)≠(List.length p0.1:Int)then(some (false))else(iter (bfs_Configuration_s1 fuel p0 p1 p2) fuel (0:Int))
theorem body94:HasBody Tryz.prog 94:=Tryz.call94
theorem t_bfs_Configuration (fuel:Nat) {p0:List (Int)×(List (List (Int×Int)))} {p1:List (List (Int))} {p2:List (Int)} (v0:Value)  (v1:Value)  (z2:List (Value×List (Int×Int)))  (v3:Value)  (z4:List (Value×List (Int)))  (v5:Value) (r:Bool) (h:m_bfs_Configuration fuel p0 p1 p2=some r):
  Meets Tryz.prog 94 #[Value.agg #[v0,v1],v3,v5] [Sl RI64 v0 p0.1,S2 RI64I64p v1 z2 p0.2,S2 RI64 v3 z4 p1,Sl RI64 v5 p2] (fun x:Unit=>Value.bool (r)) (fun x l=>l) (fun _ l=>l):=by
 refine Meets.of (vs:=[Value.agg #[v0,v1],v3,v5]) Tryz.func94 rfl Tryz.ntmps94 rfl fun c=> ?_
 unfold m_bfs_Configuration at h
 refine J.seq<|J.region<|J.loud (Loud.box (cs:=[v0,v1]) rfl rfl) rfl fun b1=>J.quiet (Y.assign rfl) rfl<|J.done<|J.thenN<|J.seq<|J.seq<|J.region<|J.quiet (Y.move rfl) rfl<|J.quiet (Y.lenN rfl (Lent.fact 2 rfl) rfl) rfl<|J.quiet (Y.fieldB rfl rfl rfl rfl rfl) rfl<|J.quiet (Y.loadB 0 rfl rfl rfl rfl rfl) rfl<|J.quiet (Y.lenS rfl (Lent.fact 0 rfl) rfl) rfl<|J.quiet (Y.neq rfl rfl) rfl<|J.done<|J.thenN ?_
 refine J.condD (by exact rfl) (fun hp2=> ?_) (fun hp2=> ?_)
 ·have h:=ifP hp2 h
  refine J.seq<|J.region<|J.quiet (Y.assign rfl) rfl<|J.done<|J.thenN<|J.ret<|J.thenR ?_
  obtain rfl:=Option.some.inj h
  exact J.retG1 (()) rfl rfl (RV.tmp rfl) (SubM.nil) LentAll.nil
 ·have h:=ifN hp2 h
  refine J.skip<|J.thenN<|J.seq<|J.midI (A:=Unit) (B:=Unit) (fun a3=>bfs_Configuration_k1  a3=some r) (fun a3 b4=>[]) (fun a3 b4=>[]) (fun a3 b4=>[Sl RI64 v0 p0.1,S2 RI64I64p v1 z2 p0.2,S2 RI64 v3 z4 p1,Sl RI64 v5 p2]) ?_ ?_
  ·refine J.seq<|J.region<|J.quiet (Y.move rfl) rfl<|J.quiet (Y.lenN rfl (Lent.fact 2 rfl) rfl) rfl<|J.quiet (Y.move rfl) rfl<|J.done<|J.thenN<|J.block<|J.loopI (A:=Int) (B:=Unit) (bfs_Configuration_s1 fuel p0 p1 p2) (fun a7 b8=>[(2,v5),(3,Value.pointer (some ⟨b1,0,none⟩)),(19,v3),(20,Value.int .i64 (List.length p1:Int)),(21,Value.int .i64 (a7))]) (fun a7 b8=>[Blk b1 [v0,v1] 53]) (fun a7 b8=>[Sl RI64 v0 p0.1,S2 RI64I64p v1 z2 p0.2,S2 RI64 v3 z4 p1,Sl RI64 v5 p2]) (0:Int) (()) h SF (SubM.refl _) (LentAll.refl _ _) ?_
   clear h
   intro k9 a7 b8 h
   unfold bfs_Configuration_s1 at h
   refine J.seq<|J.region<|J.quiet (Y.lss rfl rfl) rfl<|J.done<|J.thenN<|J.seq ?_
   refine J.condD (by exact rfl) (fun hp10=> ?_) (fun hp10=> ?_)
   ·have h:=ifP hp10 h
    refine J.skip<|J.thenN<|J.seq<|J.midI (A:=Unit) (B:=Unit) (fun a11=>bfs_Configuration_k2 a7 (iter (bfs_Configuration_s1 fuel p0 p1 p2) k9) a11=some r) (fun a11 b12=>[(2,v5),(3,Value.pointer (some ⟨b1,0,none⟩)),(19,v3),(20,Value.int .i64 (List.length p1:Int)),(21,Value.int .i64 (a7))]) (fun a11 b12=>[Blk b1 [v0,v1] 53]) (fun a11 b12=>[Sl RI64 v0 p0.1,S2 RI64I64p v1 z2 p0.2,S2 RI64 v3 z4 p1,Sl RI64 v5 p2]) ?_ ?_
    ·refine J.block<|J.seq<|J.region<|J.quiet (Y.move rfl) rfl ?_
     have h:=ck_some h;obtain⟨hc13,h⟩:=h
     refine J.quiet (Y.indexN rfl rfl (Lent.fact 2 rfl) rfl rfl hc13) rfl<|J.quiet (Y.loadRow rfl (Lent.fact 2 rfl) rfl rfl hc13) rfl<|J.quiet (Y.assign rfl) rfl<|J.quiet (Y.assign rfl) rfl<|J.done<|J.thenN<|J.seq<|J.seq<|J.region<|J.quiet (Y.move rfl) rfl<|J.quiet (Y.lenS rfl (Lent.el (Lent.fact 2 rfl) hc13.1 hc13.2) rfl) rfl<|J.quiet (Y.move rfl) rfl<|J.quiet (Y.lenS rfl (Lent.fact 3 rfl) rfl) rfl<|J.quiet (Y.neq rfl rfl) rfl<|J.done<|J.thenN ?_
     refine J.condD (by exact rfl) (fun hp14=> ?_) (fun hp14=> ?_)
     ·have h:=ifP hp14 h
      refine J.seq<|J.region<|J.quiet (Y.assign rfl) rfl<|J.done<|J.thenN<|J.ret<|J.thenR<|J.inR<|J.thenR<|J.thenR<|J.inR<|J.thenR ?_
      obtain rfl:=Option.some.inj h
      exact J.retG1 (()) rfl rfl (RV.tmp rfl) (SubM.nil) LentAll.nil
     ·have h:=ifN hp14 h
      refine J.skip<|J.thenN<|J.seq<|J.region<|J.quiet (Y.move rfl) rfl<|J.quiet (Y.lenS rfl (Lent.el (Lent.fact 2 rfl) hc13.1 hc13.2) rfl) rfl<|J.quiet (Y.move rfl) rfl<|J.done<|J.thenN<|J.block<|J.loopI (A:=Int) (B:=Unit) (bfs_Configuration_s2 p0 p1 p2 a7 (iter (bfs_Configuration_s1 fuel p0 p1 p2) k9)) (fun a17 b18=>[(2,v5),(3,Value.pointer (some ⟨b1,0,none⟩)),(7,Value.int .i64 (a7)),(19,v3),(20,Value.int .i64 (List.length p1:Int)),(21,Value.int .i64 (a7)),(31,(at' z4 a7).1),(32,Value.int .i64 (List.length (at' p1 a7):Int)),(33,Value.int .i64 (a17))]) (fun a17 b18=>[Blk b1 [v0,v1] 53]) (fun a17 b18=>[Sl RI64 v0 p0.1,S2 RI64I64p v1 z2 p0.2,S2 RI64 v3 z4 p1,Sl RI64 v5 p2]) (0:Int) (()) h SF (SubM.refl _) (LentAll.refl _ _) ?_
      clear h
      intro k19 a17 b18 h
      unfold bfs_Configuration_s2 at h
      refine J.seq<|J.region<|J.quiet (Y.lss rfl rfl) rfl<|J.done<|J.thenN<|J.seq ?_
      refine J.condD (by exact rfl) (fun hp20=> ?_) (fun hp20=> ?_)
      ·have h:=ifP hp20 h
       refine J.skip<|J.thenN<|J.seq<|J.block<|J.seq<|J.region<|J.quiet (Y.move rfl) rfl ?_
       have h:=ck_some h;obtain⟨hc21,h⟩:=h
       refine J.quiet (Y.indexS rfl rfl (Lent.el (Lent.fact 2 rfl) hc13.1 hc13.2) rfl rfl hc21) rfl<|J.quiet (Y.loadS0 rfl (Lent.el (Lent.fact 2 rfl) hc13.1 hc13.2) rfl rfl rfl RI64c0 hc21) rfl<|J.quiet (Y.assign rfl) rfl<|J.quiet (Y.assign rfl) rfl<|J.done<|J.thenN<|J.seq ?_
       refine JR.start [0,0,3,7,0,31] 5 mixedOrders (by decide +kernel) ?_
       refine JR.open (by exact rfl) ?_
       refine JR.qt rfl (SubM.nil) (SubL.nil) (Y.move rfl) HistOk.z<|JR.qt rfl (SubM.nil) (SubL.nil) (Y.move rfl) HistOk.z ?_
       have h:=ck_some h;obtain⟨hc22,h⟩:=h
       refine JR.qt rfl (SubM.nil) (SubL.cons (List.mem_of_getElem? (i:=3) rfl) (SubL.nil)) (Y.indexS rfl rfl (Lent.fact 0 rfl) rfl rfl hc22) HistOk.z<|JR.qt rfl (SubM.nil) (SubL.cons (List.mem_of_getElem? (i:=3) rfl) (SubL.nil)) (Y.loadS0 rfl (Lent.fact 0 rfl) rfl rfl rfl RI64c0 hc22) HistOk.z<|JR.qt rfl (SubM.nil) (SubL.nil) (Y.assign rfl) HistOk.z<|JR.tailD 5 rfl rfl<|J.quiet (Y.assign rfl) rfl<|J.done<|J.thenN<|J.seq<|J.midI (A:=Int×Int) (B:=Unit) (fun a25=>bfs_Configuration_k3 p1 a7 a17 (iter (bfs_Configuration_s2 p0 p1 p2 a7 (iter (bfs_Configuration_s1 fuel p0 p1 p2) k9)) k19) a25=some r) (fun a25 b26=>[(2,v5),(3,Value.pointer (some ⟨b1,0,none⟩)),(7,Value.int .i64 (a7)),(10,Value.int .i64 (at' (at' p1 a7) a17)),(11,Value.int .i64 (a25.1)),(12,Value.int .i64 (a25.2)),(19,v3),(20,Value.int .i64 (List.length p1:Int)),(21,Value.int .i64 (a7)),(31,(at' z4 a7).1),(32,Value.int .i64 (List.length (at' p1 a7):Int)),(33,Value.int .i64 (a17))]) (fun a25 b26=>[Blk b1 [v0,v1] 53]) (fun a25 b26=>[Sl RI64 v0 p0.1,S2 RI64I64p v1 z2 p0.2,S2 RI64 v3 z4 p1,Sl RI64 v5 p2]) ?_ ?_
       ·refine J.seq<|J.region<|J.quiet (Y.move rfl) rfl<|J.quiet (Y.eql rfl rfl) rfl<|J.done<|J.thenN ?_
        refine J.condD (by exact rfl) (fun hp32=> ?_) (fun hp32=> ?_)
        ·have h:=ifP hp32 h
         refine JR.start [0,1,0,7,15,31,63,0,255] 8 mixedOrders (by decide +kernel) ?_
         refine JR.open (by exact rfl) ?_
         refine JR.qt rfl (SubM.nil) (SubL.nil) (Y.fieldB rfl rfl rfl rfl rfl) HistOk.z<|JR.qt rfl (SubM.refl _) (SubL.nil) (Y.loadB 0 rfl rfl rfl rfl rfl) HistOk.z<|JR.qt rfl (SubM.nil) (SubL.nil) (Y.move rfl) HistOk.z ?_
         have h:=ck_some h;obtain⟨hc33,h⟩:=h
         refine JR.qt rfl (SubM.nil) (SubL.cons (List.mem_of_getElem? (i:=1) rfl) (SubL.nil)) (Y.indexN rfl rfl (Lent.fact 0 rfl) rfl rfl hc33) HistOk.z<|JR.qt rfl (SubM.nil) (SubL.cons (List.mem_of_getElem? (i:=1) rfl) (SubL.nil)) (Y.loadRow rfl (Lent.fact 0 rfl) rfl rfl hc33) HistOk.z<|JR.qt rfl (SubM.nil) (SubL.cons (List.mem_of_getElem? (i:=1) rfl) (SubL.nil)) (Y.lenS rfl (Lent.el (Lent.fact 0 rfl) hc33.1 hc33.2) rfl) HistOk.z<|JR.qt rfl (SubM.nil) (SubL.nil) (Y.subW rfl rfl) HistOk.z<|JR.qt rfl (SubM.nil) (SubL.nil) (Y.assign rfl) HistOk.z<|JR.tailD 8 rfl rfl<|J.quiet (Y.assign rfl) rfl<|J.done<|J.thenN ?_
         exact J.meetI ((-1:Int),(wI .i64 ((List.length (at' p0.2 a7):Int) - (1:Int)))) (()) h SF (SubM.refl _) (LentAll.refl _ _)
        ·have h:=ifN hp32 h
         refine J.skip<|J.thenN ?_
         exact J.meetI ((0:Int),(at' p2 a17)) (()) h SF (SubM.refl _) (LentAll.refl _ _)
       ·clear h
        intro a25 b26 h
        unfold bfs_Configuration_k3 at h
        refine J.seq<|J.midI (A:=Bool) (B:=Unit) (fun a28=>bfs_Configuration_k4 a17 (iter (bfs_Configuration_s2 p0 p1 p2 a7 (iter (bfs_Configuration_s1 fuel p0 p1 p2) k9)) k19) a28=some r) (fun a28 b29=>[(2,v5),(3,Value.pointer (some ⟨b1,0,none⟩)),(7,Value.int .i64 (a7)),(19,v3),(20,Value.int .i64 (List.length p1:Int)),(21,Value.int .i64 (a7)),(31,(at' z4 a7).1),(32,Value.int .i64 (List.length (at' p1 a7):Int)),(33,Value.int .i64 (a17)),(58,Value.bool (a28))]) (fun a28 b29=>[Blk b1 [v0,v1] 53]) (fun a28 b29=>[Sl RI64 v0 p0.1,S2 RI64I64p v1 z2 p0.2,S2 RI64 v3 z4 p1,Sl RI64 v5 p2]) ?_ ?_
        ·refine J.region<|J.quiet (Y.move rfl) rfl<|J.quiet (Y.move rfl) rfl<|J.quiet (Y.lss rfl rfl) rfl<|J.quiet (Y.move rfl) rfl ?_
         refine J.guardD (by exact rfl) (by exact rfl) (fun hp31=> ?_) (fun hp31=> ?_)
         ·have h:=ifP hp31 h
          refine J.guardN rfl rfl rfl<|J.guardN rfl rfl rfl<|J.guardN rfl rfl rfl<|J.quiet (Y.pickT rfl rfl) rfl<|J.done<|J.thenN ?_
          exact J.meetI (true) (()) h SF (SubM.refl _) (LentAll.refl _ _)
         ·have h:=ifN hp31 h
          refine J.guardY rfl (Y.move rfl) rfl<|J.guardY rfl (Y.move rfl) rfl<|J.guardY rfl (Y.gtr rfl rfl) rfl<|J.quiet (Y.pickF rfl rfl) rfl<|J.done<|J.thenN ?_
          exact J.meetI (decide (a25.2<(at' (at' p1 a7) a17))) (()) h SF (SubM.refl _) (LentAll.refl _ _)
        ·clear h
         intro a28 b29 h
         unfold bfs_Configuration_k4 at h
         refine J.cond (by exact rfl) (fun hp30=> ?_) (fun hp30=> ?_)
         ·have h:=ifP hp30 h
          refine J.seq<|J.region<|J.quiet (Y.assign rfl) rfl<|J.done<|J.thenN<|J.ret<|J.inR<|J.thenR<|J.thenR<|J.inR<|J.inR<|J.thenR<|J.thenR<|J.inR<|J.thenR ?_
          obtain rfl:=Option.some.inj h
          exact J.retG1 (()) rfl rfl (RV.tmp rfl) (SubM.nil) LentAll.nil
         ·have h:=ifBN hp30 h
          refine J.skip<|J.inN<|J.thenN<|J.region<|J.quiet (Y.addW rfl rfl) rfl<|J.quiet (Y.move rfl) rfl<|J.done<|J.thenN ?_
          exact J.againI (wI .i64 (a17+(1:Int))) (()) h SF (SubM.refl _) (LentAll.refl _ _)
      ·have h:=ifN hp20 h
       refine J.exit<|J.thenX<|J.thenX<|J.inX<|J.inN<|J.thenN ?_
       exact J.meetI (()) (()) h SF (SubM.refl _) (LentAll.refl _ _)
    ·clear h
     intro a11 b12 h
     unfold bfs_Configuration_k2 at h
     refine J.region<|J.quiet (Y.addW rfl rfl) rfl<|J.quiet (Y.move rfl) rfl<|J.done<|J.thenN ?_
     exact J.againI (wI .i64 (a7+(1:Int))) (()) h SF (SubM.refl _) (LentAll.refl _ _)
   ·have h:=ifN hp10 h
    refine J.exit<|J.thenX<|J.thenX<|J.inX<|J.thenN ?_
    exact J.meetI (()) (()) h SF (SubM.nil) (LentAll.refl _ _)
  ·clear h
   intro a3 b4 h
   unfold bfs_Configuration_k1 at h
   refine J.seq<|J.region<|J.quiet (Y.assign rfl) rfl<|J.done<|J.thenN<|J.ret ?_
   obtain rfl:=Option.some.inj h
   exact J.retG1 (()) rfl rfl (RV.tmp rfl) (SubM.refl _) LentAll.nil
end Go.Proofs.YtdbcpliafeoghaaGreatDoor
end
section
namespace Go.Proofs.YtdbcpliafeoghaaGreatDoor
open Go.Sx
def snapshot_configuration_k1  (a3:Bool):Option (Bool):=
 some (a3)
def m_snapshot_configuration (fuel:Nat) (p0:List (Int)×(List (List (Int×Int)))) (p1:List (List (Int))):Option (Bool):=
 Option.bind (m_snapshot_Fit fuel ((p0.1,p0.2))) fun r5=>(if r5=true then(Option.bind (m_bfs_Configuration fuel ((p0.1,p0.2)) p1 ([(List.length p0.1:Int),(-1:Int),(1:Int),(1:Int),(15:Int),(wI .i64 ((15:Int)*(List.length p0.1:Int)))])) fun r10=>(snapshot_configuration_k1  (r10)))else(snapshot_configuration_k1  (false)))
theorem body58:HasBody Tryz.prog 58:=Tryz.call58
theorem t_snapshot_configuration (fuel:Nat) {p0:List (Int)×(List (List (Int×Int)))} {p1:List (List (Int))} (v0:Value)  (v1:Value)  (z2:List (Value×List (Int×Int)))  (v3:Value)  (z4:List (Value×List (Int))) (r:Bool) (h:m_snapshot_configuration fuel p0 p1=some r):
  Meets Tryz.prog 58 #[Value.agg #[v0,v1],v3] [Sl RI64 v0 p0.1,S2 RI64I64p v1 z2 p0.2,S2 RI64 v3 z4 p1] (fun x:Unit=>Value.bool (r)) (fun x l=>l) (fun _ l=>l):=by
 refine Meets.of (vs:=[Value.agg #[v0,v1],v3]) Tryz.func58 rfl Tryz.ntmps58 rfl fun c=> ?_
 unfold m_snapshot_configuration at h
 refine J.seq<|J.region<|J.loud (Loud.box (cs:=[v0,v1]) rfl rfl) rfl fun b1=>J.quiet (Y.assign rfl) rfl<|J.done<|J.thenN<|J.seq<|J.midI (A:=Bool) (B:=Unit) (fun a3=>snapshot_configuration_k1  a3=some r) (fun a3 b4=>[(4,Value.bool (a3))]) (fun a3 b4=>[]) (fun a3 b4=>[Sl RI64 v0 p0.1,S2 RI64I64p v1 z2 p0.2,S2 RI64 v3 z4 p1]) ?_ ?_
 ·refine J.region<|J.quiet (Y.loadBAll 0 rfl rfl rfl rfl) rfl ?_
  have h:=bnd h;obtain⟨r5,hr6,h⟩:=h
  refine J.loud (Loud.callL body62 (t_snapshot_Fit fuel v0 v1 z2 r5 hr6) rfl (LentAll.cons (Lent.fact 0 rfl) (LentAll.cons (Lent.fact 1 rfl) .nil)) (fun _ _=>rfl)) rfl fun x7=>J.quiet (Y.move rfl) rfl ?_
  refine J.guard (by exact rfl) (by exact rfl) (fun hp8=> ?_) (fun hp8=> ?_)
  ·have h:=ifP hp8 h
   refine J.guardY rfl (Y.loadBAll 0 rfl rfl rfl rfl) rfl<|J.guardY rfl (Y.move rfl) rfl<|J.guardY rfl (Y.fieldB rfl rfl rfl rfl rfl) rfl<|J.guardY rfl (Y.loadB 0 rfl rfl rfl rfl rfl) rfl<|J.guardY rfl (Y.lenS rfl (Lent.fact 0 rfl) rfl) rfl<|J.guardY rfl (Y.fieldB rfl rfl rfl rfl rfl) rfl<|J.guardY rfl (Y.loadB 0 rfl rfl rfl rfl rfl) rfl<|J.guardY rfl (Y.lenS rfl (Lent.fact 0 rfl) rfl) rfl<|J.guardY rfl (Y.mulW rfl rfl) rfl<|J.loudG rfl (Loud.buildS (e:=EI64) ([(List.length p0.1:Int),(-1:Int),(1:Int),(1:Int),(15:Int),(wI .i64 ((15:Int)*(List.length p0.1:Int)))]) [(0,Value.int .i64 (List.length p0.1:Int)),(1,Value.int .i64 (-1:Int)),(2,Value.int .i64 (1:Int)),(3,Value.int .i64 (1:Int)),(4,Value.int .i64 (15:Int)),(5,Value.int .i64 (wI .i64 ((15:Int)*(List.length p0.1:Int))))] rfl rfl rfl rfl (fill_6_1 (Value.int .i64 (List.length p0.1:Int)) (Value.int .i64 (-1:Int)) (Value.int .i64 (1:Int)) (Value.int .i64 (1:Int)) (Value.int .i64 (15:Int)) (Value.int .i64 (wI .i64 ((15:Int)*(List.length p0.1:Int)))) rfl rfl rfl rfl rfl rfl) rfl rfl rfl) rfl fun u9=> ?_
   have h:=bnd h;obtain⟨r10,hr11,h⟩:=h
   refine J.loudG rfl (Loud.callL body94 (t_bfs_Configuration fuel v0 v1 z2 v3 z4 u9 r10 hr11) rfl (LentAll.cons (Lent.fact 0 rfl) (LentAll.cons (Lent.fact 1 rfl) (LentAll.cons (Lent.fact 2 rfl) (LentAll.cons (Lent.ar (Lent.res 0 rfl) FI64) .nil)))) (fun _ _=>rfl)) rfl fun x12=>J.quiet (Y.pickT rfl rfl) rfl<|J.quiet (Y.assign rfl) rfl<|J.done<|J.thenN ?_
   exact J.meetI (r10) (()) h SF (SubM.nil) (LentAll.refl _ _)
  ·have h:=ifBN hp8 h
   refine J.guardN rfl rfl rfl<|J.guardN rfl rfl rfl<|J.guardN rfl rfl rfl<|J.guardN rfl rfl rfl<|J.guardN rfl rfl rfl<|J.guardN rfl rfl rfl<|J.guardN rfl rfl rfl<|J.guardN rfl rfl rfl<|J.guardN rfl rfl rfl<|J.guardN rfl rfl rfl<|J.guardN rfl rfl rfl<|J.quiet (Y.pickF rfl rfl) rfl<|J.quiet (Y.assign rfl) rfl<|J.done<|J.thenN ?_
   exact J.meetI (false) (()) h SF (SubM.nil) (LentAll.refl _ _)
 ·clear h
  intro a3 b4 h
  unfold snapshot_configuration_k1 at h
  refine J.ret ?_
  obtain rfl:=Option.some.inj h
  exact J.retG1 (()) rfl rfl (RV.tmp rfl) (SubM.refl _) LentAll.nil
end Go.Proofs.YtdbcpliafeoghaaGreatDoor
end
section
namespace Go.Proofs.YtdbcpliafeoghaaGreatDoor
open Go.Sx
def m_bfs_Fit (fuel:Nat) (p0:List (Int)×(List (List (Int×Int)))):Option (Bool):=
 Option.bind (m_graph_Connected fuel ((p0.1,p0.2))) fun r2=>(some (r2))
theorem body127:HasBody Tryz.prog 127:=Tryz.call127
theorem t_bfs_Fit (fuel:Nat) {p0:List (Int)×(List (List (Int×Int)))} (v0:Value)  (v1:Value)  (z2:List (Value×List (Int×Int))) (r:Bool) (h:m_bfs_Fit fuel p0=some r):
  Meets Tryz.prog 127 #[Value.agg #[v0,v1]] [Sl RI64 v0 p0.1,S2 RI64I64p v1 z2 p0.2] (fun x:Unit=>Value.bool (r)) (fun x l=>l) (fun _ l=>l):=by
 refine Meets.of (vs:=[Value.agg #[v0,v1]]) Tryz.func127 rfl Tryz.ntmps127 rfl fun c=> ?_
 unfold m_bfs_Fit at h
 refine J.seq<|J.region<|J.loud (Loud.box (cs:=[v0,v1]) rfl rfl) rfl fun b1=>J.quiet (Y.assign rfl) rfl<|J.done<|J.thenN<|J.seq<|J.region<|J.quiet (Y.loadBAll 0 rfl rfl rfl rfl) rfl ?_
 have h:=bnd h;obtain⟨r2,hr3,h⟩:=h
 refine J.loud (Loud.callL body101 (t_graph_Connected fuel v0 v1 z2 r2 hr3) rfl (LentAll.cons (Lent.fact 0 rfl) (LentAll.cons (Lent.fact 1 rfl) .nil)) (fun _ _=>rfl)) rfl fun x4=>J.quiet (Y.assign rfl) rfl<|J.done<|J.thenN<|J.ret ?_
 obtain rfl:=Option.some.inj h
 exact J.retG1 (()) rfl rfl (RV.tmp rfl) (SubM.nil) LentAll.nil
end Go.Proofs.YtdbcpliafeoghaaGreatDoor
end
section
namespace Go.Proofs.YtdbcpliafeoghaaGreatDoor
open Go.Sx
def bfs_configuration_k1  (a3:Bool):Option (Bool):=
 some (a3)
def m_bfs_configuration (fuel:Nat) (p0:List (Int)×(List (List (Int×Int)))) (p1:List (List (Int))):Option (Bool):=
 Option.bind (m_bfs_Fit fuel ((p0.1,p0.2))) fun r5=>(if r5=true then(Option.bind (m_bfs_Configuration fuel ((p0.1,p0.2)) p1 ([(List.length p0.1:Int),(-1:Int)])) fun r10=>(bfs_configuration_k1  (r10)))else(bfs_configuration_k1  (false)))
theorem body95:HasBody Tryz.prog 95:=Tryz.call95
theorem t_bfs_configuration (fuel:Nat) {p0:List (Int)×(List (List (Int×Int)))} {p1:List (List (Int))} (v0:Value)  (v1:Value)  (z2:List (Value×List (Int×Int)))  (v3:Value)  (z4:List (Value×List (Int))) (r:Bool) (h:m_bfs_configuration fuel p0 p1=some r):
  Meets Tryz.prog 95 #[Value.agg #[v0,v1],v3] [Sl RI64 v0 p0.1,S2 RI64I64p v1 z2 p0.2,S2 RI64 v3 z4 p1] (fun x:Unit=>Value.bool (r)) (fun x l=>l) (fun _ l=>l):=by
 refine Meets.of (vs:=[Value.agg #[v0,v1],v3]) Tryz.func95 rfl Tryz.ntmps95 rfl fun c=> ?_
 unfold m_bfs_configuration at h
 refine J.seq<|J.region<|J.loud (Loud.box (cs:=[v0,v1]) rfl rfl) rfl fun b1=>J.quiet (Y.assign rfl) rfl<|J.done<|J.thenN<|J.seq<|J.midI (A:=Bool) (B:=Unit) (fun a3=>bfs_configuration_k1  a3=some r) (fun a3 b4=>[(4,Value.bool (a3))]) (fun a3 b4=>[]) (fun a3 b4=>[Sl RI64 v0 p0.1,S2 RI64I64p v1 z2 p0.2,S2 RI64 v3 z4 p1]) ?_ ?_
 ·refine J.region<|J.quiet (Y.loadBAll 0 rfl rfl rfl rfl) rfl ?_
  have h:=bnd h;obtain⟨r5,hr6,h⟩:=h
  refine J.loud (Loud.callL body127 (t_bfs_Fit fuel v0 v1 z2 r5 hr6) rfl (LentAll.cons (Lent.fact 0 rfl) (LentAll.cons (Lent.fact 1 rfl) .nil)) (fun _ _=>rfl)) rfl fun x7=>J.quiet (Y.move rfl) rfl ?_
  refine J.guard (by exact rfl) (by exact rfl) (fun hp8=> ?_) (fun hp8=> ?_)
  ·have h:=ifP hp8 h
   refine J.guardY rfl (Y.loadBAll 0 rfl rfl rfl rfl) rfl<|J.guardY rfl (Y.move rfl) rfl<|J.guardY rfl (Y.fieldB rfl rfl rfl rfl rfl) rfl<|J.guardY rfl (Y.loadB 0 rfl rfl rfl rfl rfl) rfl<|J.guardY rfl (Y.lenS rfl (Lent.fact 0 rfl) rfl) rfl<|J.loudG rfl (Loud.buildS (e:=EI64) ([(List.length p0.1:Int),(-1:Int)]) [(0,Value.int .i64 (List.length p0.1:Int)),(1,Value.int .i64 (-1:Int))] rfl rfl rfl rfl (fill_2_1 (Value.int .i64 (List.length p0.1:Int)) (Value.int .i64 (-1:Int)) rfl rfl) rfl rfl rfl) rfl fun u9=> ?_
   have h:=bnd h;obtain⟨r10,hr11,h⟩:=h
   refine J.loudG rfl (Loud.callL body94 (t_bfs_Configuration fuel v0 v1 z2 v3 z4 u9 r10 hr11) rfl (LentAll.cons (Lent.fact 0 rfl) (LentAll.cons (Lent.fact 1 rfl) (LentAll.cons (Lent.fact 2 rfl) (LentAll.cons (Lent.ar (Lent.res 0 rfl) FI64) .nil)))) (fun _ _=>rfl)) rfl fun x12=>J.quiet (Y.pickT rfl rfl) rfl<|J.quiet (Y.assign rfl) rfl<|J.done<|J.thenN ?_
   exact J.meetI (r10) (()) h SF (SubM.nil) (LentAll.refl _ _)
  ·have h:=ifBN hp8 h
   refine J.guardN rfl rfl rfl<|J.guardN rfl rfl rfl<|J.guardN rfl rfl rfl<|J.guardN rfl rfl rfl<|J.guardN rfl rfl rfl<|J.guardN rfl rfl rfl<|J.guardN rfl rfl rfl<|J.quiet (Y.pickF rfl rfl) rfl<|J.quiet (Y.assign rfl) rfl<|J.done<|J.thenN ?_
   exact J.meetI (false) (()) h SF (SubM.nil) (LentAll.refl _ _)
 ·clear h
  intro a3 b4 h
  unfold bfs_configuration_k1 at h
  refine J.ret ?_
  obtain rfl:=Option.some.inj h
  exact J.retG1 (()) rfl rfl (RV.tmp rfl) (SubM.refl _) LentAll.nil
end Go.Proofs.YtdbcpliafeoghaaGreatDoor
end
section
namespace Go.Proofs.YtdbcpliafeoghaaGreatDoor
open Go.Sx
def graph_Distances_k1 (fuel:Nat) (p0:List (Int)×(List (List (Int×Int)))) (p1:Int) (a3:Bool):Option (List (Int)):=
 if a3=true then(some ([]:List Int))else(Option.bind (m_graph_search fuel ((p0.1,p0.2)) p1) fun r6=>(some (r6)))
def m_graph_Distances (fuel:Nat) (p0:List (Int)×(List (List (Int×Int)))) (p1:Int):Option (List (Int)):=
 Option.bind (m_graph_Valid fuel ((p0.1,p0.2))) fun r9=>(if(!r9)=true then(graph_Distances_k1 fuel p0 p1 (true))else(if p1<(0:Int)then(graph_Distances_k1 fuel p0 p1 (true))else(graph_Distances_k1 fuel p0 p1 (decide ((List.length p0.2:Int)<=p1)))))
theorem body96:HasBody Tryz.prog 96:=Tryz.call96
theorem t_graph_Distances (fuel:Nat) {p0:List (Int)×(List (List (Int×Int)))} {p1:Int} (v0:Value)  (v1:Value)  (z2:List (Value×List (Int×Int))) (r:List (Int)) (h:m_graph_Distances fuel p0 p1=some r):
  Meets Tryz.prog 96 #[Value.agg #[v0,v1],Value.int .i64 (p1)] [Sl RI64 v0 p0.1,S2 RI64I64p v1 z2 p0.2] (fun x:Value=>x) (fun x l=>Ar EI64 x r::l) (fun _ l=>l):=by
 refine Meets.of (vs:=[Value.agg #[v0,v1],Value.int .i64 (p1)]) Tryz.func96 rfl Tryz.ntmps96 rfl fun c=> ?_
 unfold m_graph_Distances at h
 refine J.seq<|J.region<|J.loud (Loud.box (cs:=[v0,v1]) rfl rfl) rfl fun b1=>J.quiet (Y.assign rfl) rfl<|J.done<|J.thenN<|J.seq<|J.seq<|J.midI (A:=Bool) (B:=Unit) (fun a3=>graph_Distances_k1 fuel p0 p1 a3=some r) (fun a3 b4=>[(1,Value.int .i64 (p1)),(2,Value.pointer (some ⟨b1,0,none⟩)),(18,Value.bool (a3))]) (fun a3 b4=>[Blk b1 [v0,v1] 53]) (fun a3 b4=>[Sl RI64 v0 p0.1,S2 RI64I64p v1 z2 p0.2]) ?_ ?_
 ·refine J.region<|J.quiet (Y.loadBAll 0 rfl rfl rfl rfl) rfl ?_
  have h:=bnd h;obtain⟨r9,hr10,h⟩:=h
  refine J.loud (Loud.callL body128 (t_graph_Valid fuel v0 v1 z2 r9 hr10) rfl (LentAll.cons (Lent.fact 0 rfl) (LentAll.cons (Lent.fact 1 rfl) .nil)) (fun _ _=>rfl)) rfl fun x11=>J.quiet (Y.not rfl) rfl<|J.quiet (Y.move rfl) rfl ?_
  refine J.guard (by exact rfl) (by exact rfl) (fun hp12=> ?_) (fun hp12=> ?_)
  ·have h:=ifP hp12 h
   refine J.guardN rfl rfl rfl<|J.guardN rfl rfl rfl<|J.quiet (Y.pickT rfl rfl) rfl<|J.quiet (Y.move rfl) rfl<|J.guardN rfl rfl rfl<|J.guardN rfl rfl rfl<|J.guardN rfl rfl rfl<|J.guardN rfl rfl rfl<|J.guardN rfl rfl rfl<|J.quiet (Y.pickT rfl rfl) rfl<|J.done<|J.thenN ?_
   exact J.meetI (true) (()) h SF (SubM.refl _) (LentAll.refl _ _)
  ·have h:=ifBN hp12 h
   refine J.guardY rfl (Y.move rfl) rfl<|J.guardY rfl (Y.lss rfl rfl) rfl<|J.quiet (Y.pickF rfl rfl) rfl<|J.quiet (Y.move rfl) rfl ?_
   refine J.guardD (by exact rfl) (by exact rfl) (fun hp13=> ?_) (fun hp13=> ?_)
   ·have h:=ifP hp13 h
    refine J.guardN rfl rfl rfl<|J.guardN rfl rfl rfl<|J.guardN rfl rfl rfl<|J.guardN rfl rfl rfl<|J.guardN rfl rfl rfl<|J.quiet (Y.pickT rfl rfl) rfl<|J.done<|J.thenN ?_
    exact J.meetI (true) (()) h SF (SubM.refl _) (LentAll.refl _ _)
   ·have h:=ifN hp13 h
    refine J.guardY rfl (Y.move rfl) rfl<|J.guardY rfl (Y.fieldB rfl rfl rfl rfl rfl) rfl<|J.guardY rfl (Y.loadB 0 rfl rfl rfl rfl rfl) rfl<|J.guardY rfl (Y.lenN rfl (Lent.fact 1 rfl) rfl) rfl<|J.guardY rfl (Y.geq rfl rfl) rfl<|J.quiet (Y.pickF rfl rfl) rfl<|J.done<|J.thenN ?_
    exact J.meetI (decide ((List.length p0.2:Int)<=p1)) (()) h SF (SubM.refl _) (LentAll.refl _ _)
 ·clear h
  intro a3 b4 h
  unfold graph_Distances_k1 at h
  refine J.cond (by exact rfl) (fun hp5=> ?_) (fun hp5=> ?_)
  ·have h:=ifP hp5 h
   refine J.seq<|J.region<|J.quiet (Y.assign rfl) rfl<|J.done<|J.thenN<|J.ret<|J.thenR<|J.stp (Stp.nilAr EI64) ?_
   obtain rfl:=Option.some.inj h
   exact J.retG1 (Value.slice none 0 0) rfl rfl (RV.tmp rfl) (SubM.cons 0 rfl (SubM.nil)) LentAll.nil
  ·have h:=ifBN hp5 h
   refine J.skip<|J.thenN<|J.seq<|J.region<|J.quiet (Y.loadBAll 0 rfl rfl rfl rfl) rfl<|J.quiet (Y.move rfl) rfl ?_
   have h:=bnd h;obtain⟨r6,hr7,h⟩:=h
   refine J.loud (Loud.callL body103 (t_graph_search fuel v0 v1 z2 r6 hr7) rfl (LentAll.cons (Lent.fact 0 rfl) (LentAll.cons (Lent.fact 1 rfl) .nil)) (fun _ _=>rfl)) rfl fun x8=>J.quiet (Y.assign rfl) rfl<|J.done<|J.thenN<|J.ret ?_
   obtain rfl:=Option.some.inj h
   exact J.retG1 (x8) rfl rfl (RV.tmp rfl) (SubM.cons 0 rfl (SubM.nil)) LentAll.nil
end Go.Proofs.YtdbcpliafeoghaaGreatDoor
end
section
namespace Go.Proofs.YtdbcpliafeoghaaGreatDoor
open Go.Sx
def m_bfs_Right_1 (fuel:Nat) (p0:Int×Int) (p1:List (Int)) (p2:Int):Option (Bool):=
 ck (0<=p0.1∧p0.1<(List.length p1:Int)) (ck (0<=p2∧p2<(List.length p1:Int)) (some (decide ((at' p1 p0.1)=(wI .i64 ((at' p1 p2) - (1:Int)))))))
theorem body130:HasBody Tryz.prog 130:=Tryz.call130
theorem t_bfs_Right_1 (fuel:Nat) {p0:Int×Int} {p1:List (Int)} {p2:Int} (bx0:Nat)  (v1:Value)  (bx2:Nat) (r:Bool) (h:m_bfs_Right_1 fuel p0 p1 p2=some r):
  Meets Tryz.prog 130 #[Value.agg #[Value.int .i64 (p0.1),Value.int .i64 (p0.2)],Value.pointer (some ⟨bx0,0,none⟩),Value.pointer (some ⟨bx2,0,none⟩)] [Blk bx0 [v1] 50,Sl RI64 v1 p1,Blk bx2 [Value.int .i64 (p2)] 3] (fun x:Unit=>Value.bool (r)) (fun x l=>l) (fun _ l=>l):=by
 refine Meets.of (vs:=[Value.agg #[Value.int .i64 (p0.1),Value.int .i64 (p0.2)],Value.pointer (some ⟨bx0,0,none⟩),Value.pointer (some ⟨bx2,0,none⟩)]) Tryz.func130 rfl Tryz.ntmps130 rfl fun c=> ?_
 unfold m_bfs_Right_1 at h
 refine J.seq<|J.region<|J.loud (Loud.box (cs:=[Value.int .i64 (p0.1),Value.int .i64 (p0.2)]) rfl rfl) rfl fun b1=>J.quiet (Y.assign rfl) rfl<|J.done<|J.thenN<|J.seq ?_
 refine JR.start [0,0,2,7,15,0,0,96,224,480,1023,2047] 10 mixedOrders (by decide +kernel) ?_
 refine JR.open (by exact rfl) ?_
 refine JR.qt rfl (SubM.nil) (SubL.cons (List.mem_of_getElem? (i:=0) rfl) (SubL.nil)) (Y.loadBS rfl (Lent.fact 0 rfl) rfl rfl rfl) HistOk.z<|JR.qt rfl (SubM.nil) (SubL.nil) (Y.fieldB rfl rfl rfl rfl rfl) HistOk.z<|JR.qt rfl (SubM.refl _) (SubL.nil) (Y.loadB 0 rfl rfl rfl rfl rfl) HistOk.z ?_
 have h:=ck_some h;obtain⟨hc2,h⟩:=h
 refine JR.qt rfl (SubM.nil) (SubL.cons (List.mem_of_getElem? (i:=1) rfl) (SubL.nil)) (Y.indexS rfl rfl (Lent.fact 0 rfl) rfl rfl hc2) HistOk.z<|JR.qt rfl (SubM.nil) (SubL.cons (List.mem_of_getElem? (i:=1) rfl) (SubL.nil)) (Y.loadS0 rfl (Lent.fact 0 rfl) rfl rfl rfl RI64c0 hc2) HistOk.z<|JR.qt rfl (SubM.nil) (SubL.cons (List.mem_of_getElem? (i:=0) rfl) (SubL.nil)) (Y.loadBS rfl (Lent.fact 0 rfl) rfl rfl rfl) HistOk.z<|JR.qt rfl (SubM.nil) (SubL.cons (List.mem_of_getElem? (i:=2) rfl) (SubL.nil)) (Y.loadBS rfl (Lent.fact 0 rfl) rfl rfl rfl) HistOk.z ?_
 have h:=ck_some h;obtain⟨hc3,h⟩:=h
 refine JR.qt rfl (SubM.nil) (SubL.cons (List.mem_of_getElem? (i:=1) rfl) (SubL.nil)) (Y.indexS rfl rfl (Lent.fact 0 rfl) rfl rfl hc3) HistOk.z<|JR.qt rfl (SubM.nil) (SubL.cons (List.mem_of_getElem? (i:=1) rfl) (SubL.nil)) (Y.loadS0 rfl (Lent.fact 0 rfl) rfl rfl rfl RI64c0 hc3) HistOk.z<|JR.qt rfl (SubM.nil) (SubL.nil) (Y.subW rfl rfl) HistOk.z<|JR.tailD 10 rfl rfl<|J.quiet (Y.eql rfl rfl) rfl<|J.quiet (Y.assign rfl) rfl<|J.done<|J.thenN<|J.ret ?_
 obtain rfl:=Option.some.inj h
 exact J.retG1 (()) rfl rfl (RV.tmp rfl) (SubM.nil) LentAll.nil
end Go.Proofs.YtdbcpliafeoghaaGreatDoor
end
section
namespace Go.Proofs.YtdbcpliafeoghaaGreatDoor
open Go.Sx
def slices_Equal_k1  (a2:Unit):Option (Bool):=
 some (true)
def slices_Equal_s1 (p0:List (Int)) (p1:List (Int)) (a6:Int) (ag5:(Int)->Option (Bool)):Option (Bool):=
 if a6<(List.length p0:Int)then(ck (0<=a6∧a6<(List.length p0:Int)) (ck (0<=a6∧a6<(List.length p1:Int)) (if(at' p0 a6)≠(at' p1 a6)then(some (false))else(ag5 (wI .i64 (a6+(1:Int)))))))else(slices_Equal_k1  (()))
def m_slices_Equal (fuel:Nat) (p0:List (Int)) (p1:List (Int)):Option (Bool):=
 if(List.length p0:Int)≠(List.length p1:Int)then(some (false))else(iter (slices_Equal_s1 p0 p1) fuel (0:Int))
theorem body131:HasBody Tryz.prog 131:=Tryz.call131
theorem t_slices_Equal (fuel:Nat) {p0:List (Int)} {p1:List (Int)} (v0:Value)  (v1:Value) (r:Bool) (h:m_slices_Equal fuel p0 p1=some r):
  Meets Tryz.prog 131 #[v0,v1] [Sl RI64 v0 p0,Sl RI64 v1 p1] (fun x:Unit=>Value.bool (r)) (fun x l=>l) (fun _ l=>l):=by
 refine Meets.of (vs:=[v0,v1]) Tryz.func131 rfl Tryz.ntmps131 rfl fun c=> ?_
 unfold m_slices_Equal at h
 refine J.seq<|J.region<|J.quiet (Y.assign rfl) rfl<|J.done<|J.thenN<|J.seq<|J.seq<|J.region<|J.quiet (Y.move rfl) rfl<|J.quiet (Y.lenS rfl (Lent.fact 0 rfl) rfl) rfl<|J.quiet (Y.move rfl) rfl<|J.quiet (Y.lenS rfl (Lent.fact 1 rfl) rfl) rfl<|J.quiet (Y.neq rfl rfl) rfl<|J.done<|J.thenN ?_
 refine J.condD (by exact rfl) (fun hp1=> ?_) (fun hp1=> ?_)
 ·have h:=ifP hp1 h
  refine J.seq<|J.region<|J.quiet (Y.assign rfl) rfl<|J.done<|J.thenN<|J.ret<|J.thenR ?_
  obtain rfl:=Option.some.inj h
  exact J.retG1 (()) rfl rfl (RV.tmp rfl) (SubM.refl _) LentAll.nil
 ·have h:=ifN hp1 h
  refine J.skip<|J.thenN<|J.seq<|J.midI (A:=Unit) (B:=Unit) (fun a2=>slices_Equal_k1  a2=some r) (fun a2 b3=>[]) (fun a2 b3=>[]) (fun a2 b3=>[Sl RI64 v0 p0,Sl RI64 v1 p1]) ?_ ?_
  ·refine J.seq<|J.region<|J.quiet (Y.move rfl) rfl<|J.quiet (Y.lenS rfl (Lent.fact 0 rfl) rfl) rfl<|J.quiet (Y.move rfl) rfl<|J.done<|J.thenN<|J.block<|J.loopI (A:=Int) (B:=Unit) (slices_Equal_s1 p0 p1) (fun a6 b7=>[(0,v0),(1,v1),(12,Value.int .i64 (List.length p0:Int)),(13,Value.int .i64 (a6))]) (fun a6 b7=>[]) (fun a6 b7=>[Sl RI64 v0 p0,Sl RI64 v1 p1]) (0:Int) (()) h SF (SubM.refl _) (LentAll.refl _ _) ?_
   clear h
   intro k8 a6 b7 h
   unfold slices_Equal_s1 at h
   refine J.seq<|J.region<|J.quiet (Y.lss rfl rfl) rfl<|J.done<|J.thenN<|J.seq ?_
   refine J.condD (by exact rfl) (fun hp9=> ?_) (fun hp9=> ?_)
   ·have h:=ifP hp9 h
    refine J.skip<|J.thenN<|J.seq<|J.block<|J.seq<|J.region<|J.quiet (Y.move rfl) rfl<|J.quiet (Y.assign rfl) rfl<|J.done<|J.thenN<|J.seq ?_
    refine JR.start [0,0,3,7,0,0,48,112,255] 8 mixedOrders (by decide +kernel) ?_
    refine JR.open (by exact rfl) ?_
    refine JR.qt rfl (SubM.refl _) (SubL.nil) (Y.move rfl) HistOk.z<|JR.qt rfl (SubM.refl _) (SubL.nil) (Y.move rfl) HistOk.z ?_
    have h:=ck_some h;obtain⟨hc10,h⟩:=h
    refine JR.qt rfl (SubM.refl _) (SubL.cons (List.mem_of_getElem? (i:=0) rfl) (SubL.nil)) (Y.indexS rfl rfl (Lent.fact 0 rfl) rfl rfl hc10) HistOk.z<|JR.qt rfl (SubM.refl _) (SubL.cons (List.mem_of_getElem? (i:=0) rfl) (SubL.nil)) (Y.loadS0 rfl (Lent.fact 0 rfl) rfl rfl rfl RI64c0 hc10) HistOk.z<|JR.qt rfl (SubM.refl _) (SubL.nil) (Y.move rfl) HistOk.z<|JR.qt rfl (SubM.refl _) (SubL.nil) (Y.move rfl) HistOk.z ?_
    have h:=ck_some h;obtain⟨hc11,h⟩:=h
    refine JR.qt rfl (SubM.refl _) (SubL.cons (List.mem_of_getElem? (i:=1) rfl) (SubL.nil)) (Y.indexS rfl rfl (Lent.fact 0 rfl) rfl rfl hc11) HistOk.z<|JR.qt rfl (SubM.refl _) (SubL.cons (List.mem_of_getElem? (i:=1) rfl) (SubL.nil)) (Y.loadS0 rfl (Lent.fact 0 rfl) rfl rfl rfl RI64c0 hc11) HistOk.z<|JR.tailD 8 rfl rfl<|J.quiet (Y.neq rfl rfl) rfl<|J.done<|J.thenN ?_
    refine J.condD (by exact rfl) (fun hp12=> ?_) (fun hp12=> ?_)
    ·have h:=ifP hp12 h
     refine J.seq<|J.region<|J.quiet (Y.assign rfl) rfl<|J.done<|J.thenN<|J.ret<|J.inR<|J.thenR<|J.thenR<|J.inR<|J.thenR ?_
     obtain rfl:=Option.some.inj h
     exact J.retG1 (()) rfl rfl (RV.tmp rfl) (SubM.refl _) LentAll.nil
    ·have h:=ifN hp12 h
     refine J.skip<|J.inN<|J.thenN<|J.region<|J.quiet (Y.addW rfl rfl) rfl<|J.quiet (Y.move rfl) rfl<|J.done<|J.thenN ?_
     exact J.againI (wI .i64 (a6+(1:Int))) (()) h SF (SubM.refl _) (LentAll.refl _ _)
   ·have h:=ifN hp9 h
    refine J.exit<|J.thenX<|J.thenX<|J.inX<|J.thenN ?_
    exact J.meetI (()) (()) h SF (SubM.refl _) (LentAll.refl _ _)
  ·clear h
   intro a2 b3 h
   unfold slices_Equal_k1 at h
   refine J.seq<|J.region<|J.quiet (Y.assign rfl) rfl<|J.done<|J.thenN<|J.ret ?_
   obtain rfl:=Option.some.inj h
   exact J.retG1 (()) rfl rfl (RV.tmp rfl) (SubM.refl _) LentAll.nil
end Go.Proofs.YtdbcpliafeoghaaGreatDoor
end
section
namespace Go.Proofs.YtdbcpliafeoghaaGreatDoor
open Go.Sx
def bfs_Right_k1 (fuel:Nat) (p1:Int) (p2:List (Int)) (p3:List (Int)) (a6:Int):Option (Bool):=
 ck (0<=p1∧p1<(List.length p2:Int)) (Option.bind (m_slices_Equal fuel p3 ([(at' p2 p1),a6])) fun r10=>(some (r10)))
def bfs_Right_k2 (fuel:Nat) (p1:Int) (p2:List (Int)) (p3:List (Int)) (a14:Unit):Option (Bool):=
 bfs_Right_k1 fuel p1 p2 p3 (-1:Int)
def bfs_Right_s1 (fuel:Nat) (p0:List (Int)×(List (List (Int×Int)))) (p1:Int) (p2:List (Int)) (p3:List (Int)) (a19:Int) (ag18:(Int)->Option (Bool)):Option (Bool):=
 if a19<(List.length (at' p0.2 p1):Int)then(ck (0<=a19∧a19<(List.length (at' p0.2 p1):Int)) (Option.bind (m_bfs_Right_1 fuel ((((at' (at' p0.2 p1) a19).1),((at' (at' p0.2 p1) a19).2))) p2 p1) fun r25=>(if r25=true then(bfs_Right_k1 fuel p1 p2 p3 (a19))else(ag18 (wI .i64 (a19+(1:Int)))))))else(bfs_Right_k2 fuel p1 p2 p3 (()))
def m_bfs_Right (fuel:Nat) (p0:List (Int)×(List (List (Int×Int)))) (p1:Int) (p2:List (Int)) (p3:List (Int)):Option (Bool):=
 ck (0<=p1∧p1<(List.length p0.2:Int)) (iter (bfs_Right_s1 fuel p0 p1 p2 p3) fuel (0:Int))
theorem body97:HasBody Tryz.prog 97:=Tryz.call97
theorem t_bfs_Right (fuel:Nat) {p0:List (Int)×(List (List (Int×Int)))} {p1:Int} {p2:List (Int)} {p3:List (Int)} (v0:Value)  (v1:Value)  (z2:List (Value×List (Int×Int)))  (v3:Value)  (v4:Value) (r:Bool) (h:m_bfs_Right fuel p0 p1 p2 p3=some r):
  Meets Tryz.prog 97 #[Value.agg #[v0,v1],Value.int .i64 (p1),v3,v4] [Sl RI64 v0 p0.1,S2 RI64I64p v1 z2 p0.2,Sl RI64 v3 p2,Sl RI64 v4 p3] (fun x:Unit=>Value.bool (r)) (fun x l=>l) (fun _ l=>l):=by
 refine Meets.of (vs:=[Value.agg #[v0,v1],Value.int .i64 (p1),v3,v4]) Tryz.func97 rfl Tryz.ntmps97 rfl fun c=> ?_
 unfold m_bfs_Right at h
 refine J.seq<|J.region<|J.loud (Loud.box (cs:=[v0,v1]) rfl rfl) rfl fun b1=>J.loud (Loud.box (cs:=[Value.int .i64 (p1)]) rfl rfl) rfl fun b2=>J.know (Know.one ((Lent.fact 2 rfl))) fun ho4=> ?_
 refine J.loud (Loud.box (cs:=[v3]) rfl (by rw[one_cells ho4])) rfl fun b3=> ?_
 refine J.quiet (Y.assign rfl) rfl<|J.done<|J.thenN<|J.seq<|J.region<|J.quiet (Y.loadBAll 2 rfl rfl rfl rfl) rfl<|J.quiet (Y.loadB 1 rfl rfl rfl rfl rfl) rfl<|J.quiet (Y.makeFunc (cs:=[.tmp 6,.tmp 5]) (vs:=[Value.pointer (some ⟨b3,0,none⟩),Value.pointer (some ⟨b2,0,none⟩)]) rfl) rfl<|J.inlC (A:=Int) (B:=Unit) (vs:=[Value.agg #[v0,v1],Value.int .i64 (p1),Value.func (.func 130) #[] #[Value.pointer (some ⟨b3,0,none⟩),Value.pointer (some ⟨b2,0,none⟩)]]) (fun a6=>bfs_Right_k1 fuel p1 p2 p3 a6=some r) (fun a6 b7=>Value.int .i64 (a6)) (fun a6 b7=>[Blk b3 [v3] 50,Blk b2 [Value.int .i64 (p1)] 3]) (fun a6 b7=>[Sl RI64 v0 p0.1,S2 RI64I64p v1 z2 p0.2,Sl RI64 v3 p2,Sl RI64 v4 p3]) (Enter.fn (show HasBody Tryz.prog 129 from Tryz.call129) rfl) Tryz.func129 rfl Tryz.ntmps129 rfl rfl ?_ ?_
 ·refine J.seq<|J.region<|J.loud (Loud.box (cs:=[v0,v1]) rfl rfl) rfl fun b13=>J.quiet (Y.assign rfl) rfl<|J.done<|J.thenN<|J.seq<|J.midI (A:=Unit) (B:=Unit) (fun a14=>bfs_Right_k2 fuel p1 p2 p3 a14=some r) (fun a14 b15=>[]) (fun a14 b15=>[Blk b3 [v3] 50,Blk b2 [Value.int .i64 (p1)] 3]) (fun a14 b15=>[Sl RI64 v0 p0.1,S2 RI64I64p v1 z2 p0.2,Sl RI64 v3 p2,Sl RI64 v4 p3]) ?_ ?_
  ·refine J.seq<|J.region<|J.quiet (Y.fieldB rfl rfl rfl rfl rfl) rfl<|J.quiet (Y.loadB 0 rfl rfl rfl rfl rfl) rfl<|J.quiet (Y.move rfl) rfl ?_
   have h:=ck_some h;obtain⟨hc16,h⟩:=h
   refine J.quiet (Y.indexN rfl rfl (Lent.fact 1 rfl) rfl rfl hc16) rfl<|J.quiet (Y.loadRow rfl (Lent.fact 1 rfl) rfl rfl hc16) rfl<|J.quiet (Y.lenS rfl (Lent.el (Lent.fact 1 rfl) hc16.1 hc16.2) rfl) rfl<|J.quiet (Y.move rfl) rfl<|J.done<|J.thenN<|J.block<|J.loopI (A:=Int) (B:=Unit) (bfs_Right_s1 fuel p0 p1 p2 p3) (fun a19 b20=>[(2,Value.func (.func 130) #[] #[Value.pointer (some ⟨b3,0,none⟩),Value.pointer (some ⟨b2,0,none⟩)]),(13,(at' z2 p1).1),(14,Value.int .i64 (List.length (at' p0.2 p1):Int)),(15,Value.int .i64 (a19))]) (fun a19 b20=>[Blk b3 [v3] 50,Blk b2 [Value.int .i64 (p1)] 3]) (fun a19 b20=>[Sl RI64 v0 p0.1,S2 RI64I64p v1 z2 p0.2,Sl RI64 v3 p2,Sl RI64 v4 p3]) (0:Int) (()) h SF (SubM.cons 1 rfl (SubM.cons 1 rfl (SubM.nil))) (LentAll.refl _ _) ?_
   clear h
   intro k21 a19 b20 h
   unfold bfs_Right_s1 at h
   refine J.seq<|J.region<|J.quiet (Y.lss rfl rfl) rfl<|J.done<|J.thenN<|J.seq ?_
   refine J.condD (by exact rfl) (fun hp22=> ?_) (fun hp22=> ?_)
   ·have h:=ifP hp22 h
    refine J.skip<|J.thenN<|J.seq<|J.block<|J.seq<|J.region<|J.quiet (Y.move rfl) rfl ?_
    have h:=ck_some h;obtain⟨hc23,h⟩:=h
    refine J.quiet (Y.indexS rfl rfl (Lent.el (Lent.fact 1 rfl) hc16.1 hc16.2) rfl rfl hc23) rfl<|J.quiet (Y.loadAggS (cs:=[Value.int .i64 ((at' (at' p0.2 p1) a19).1),Value.int .i64 ((at' (at' p0.2 p1) a19).2)]) rfl (Lent.el (Lent.fact 1 rfl) hc16.1 hc16.2) FI64I64p rfl rfl rfl rfl hc23) rfl<|J.loud (Loud.alloc (cs:=[Value.int .i64 (0:Int),Value.int .i64 (0:Int)]) rfl rfl) rfl fun b24=>J.quiet (Y.assign rfl) rfl<|J.storeAll 0 (vs:=[Value.int .i64 ((at' (at' p0.2 p1) a19).1),Value.int .i64 ((at' (at' p0.2 p1) a19).2)]) rfl rfl rfl rfl rfl rfl<|J.done<|J.thenN<|J.seq<|J.region<|J.quiet (Y.move rfl) rfl<|J.quiet (Y.loadBAll 0 rfl rfl rfl rfl) rfl ?_
    have h:=bnd h;obtain⟨r25,hr26,h⟩:=h
    refine J.loud (Loud.callVL (vs:=[Value.agg #[Value.int .i64 ((at' (at' p0.2 p1) a19).1),Value.int .i64 ((at' (at' p0.2 p1) a19).2)]]) (cs:=[Value.pointer (some ⟨b3,0,none⟩),Value.pointer (some ⟨b2,0,none⟩)]) body130 rfl (t_bfs_Right_1 fuel b3 v3 b2 r25 hr26) rfl (LentAll.cons (Lent.res 1 rfl) (LentAll.cons (Lent.fact 2 rfl) (LentAll.cons (Lent.res 2 rfl) .nil))) (fun _ _=>rfl)) rfl fun x27=>J.done<|J.thenN ?_
    refine J.cond (by exact rfl) (fun hp28=> ?_) (fun hp28=> ?_)
    ·have h:=ifP hp28 h
     refine J.seq<|J.region<|J.quiet (Y.move rfl) rfl<|J.quiet (Y.assign rfl) rfl<|J.done<|J.thenN<|J.ret<|J.inR<|J.thenR<|J.thenR<|J.inR<|J.thenR ?_
     exact J.retM (a19) (()) h (.inl rfl) (Res.r1 rfl (RV.tmp rfl)) rfl (SubM.cons 1 rfl (SubM.cons 1 rfl (SubM.nil))) (LentAll.refl _ _)
    ·have h:=ifBN hp28 h
     refine J.skip<|J.inN<|J.thenN<|J.region<|J.quiet (Y.addW rfl rfl) rfl<|J.quiet (Y.move rfl) rfl<|J.done<|J.thenN ?_
     exact J.againI (wI .i64 (a19+(1:Int))) (()) h SF (SubM.cons 1 rfl (SubM.cons 1 rfl (SubM.nil))) (LentAll.refl _ _)
   ·have h:=ifN hp22 h
    refine J.exit<|J.thenX<|J.thenX<|J.inX<|J.thenN ?_
    exact J.meetI (()) (()) h SF (SubM.refl _) (LentAll.refl _ _)
  ·clear h
   intro a14 b15 h
   unfold bfs_Right_k2 at h
   refine J.seq<|J.region<|J.quiet (Y.assign rfl) rfl<|J.done<|J.thenN<|J.ret ?_
   exact J.retM (-1:Int) (()) h (.inl rfl) (Res.r1 rfl (RV.tmp rfl)) rfl (SubM.refl _) (LentAll.refl _ _)
 ·clear h
  intro a6 b7 h
  unfold bfs_Right_k1 at h
  refine J.quiet (Y.assign rfl) rfl<|J.done<|J.thenN<|J.seq<|J.region<|J.quiet (Y.move rfl) rfl<|J.quiet (Y.loadB 0 rfl rfl rfl rfl rfl) rfl<|J.quiet (Y.loadB 1 rfl rfl rfl rfl rfl) rfl ?_
  have h:=ck_some h;obtain⟨hc8,h⟩:=h
  refine J.quiet (Y.indexS rfl rfl (Lent.fact 2 rfl) rfl rfl hc8) rfl<|J.quiet (Y.loadS0 rfl (Lent.fact 2 rfl) rfl rfl rfl RI64c0 hc8) rfl<|J.quiet (Y.move rfl) rfl<|J.loud (Loud.buildS (e:=EI64) ([(at' p2 p1),a6]) [(0,Value.int .i64 (at' p2 p1)),(1,Value.int .i64 (a6))] rfl rfl rfl rfl (fill_2_1 (Value.int .i64 (at' p2 p1)) (Value.int .i64 (a6)) rfl rfl) rfl rfl rfl) rfl fun u9=> ?_
  have h:=bnd h;obtain⟨r10,hr11,h⟩:=h
  refine J.loud (Loud.callL body131 (t_slices_Equal fuel v4 u9 r10 hr11) rfl (LentAll.cons (Lent.fact 3 rfl) (LentAll.cons (Lent.ar (Lent.res 0 rfl) FI64) .nil)) (fun _ _=>rfl)) rfl fun x12=>J.quiet (Y.assign rfl) rfl<|J.done<|J.thenN<|J.ret ?_
  obtain rfl:=Option.some.inj h
  exact J.retG1 (()) rfl rfl (RV.tmp rfl) (SubM.nil) LentAll.nil
end Go.Proofs.YtdbcpliafeoghaaGreatDoor
end
section
namespace Go.Proofs.YtdbcpliafeoghaaGreatDoor
open Go.Sx
def bfs_Legit_k1  (a9:Unit):Option (Bool):=
 some (true)
def bfs_Legit_s1 (fuel:Nat) (p0:List (Int)×(List (List (Int×Int)))) (p1:List (List (Int))) (r6:List (Int)) (a13:Int) (ag12:(Int)->Option (Bool)):Option (Bool):=
 if a13<(List.length p1:Int)then(ck (0<=a13∧a13<(List.length p1:Int)) (Option.bind (m_bfs_Right fuel ((p0.1,p0.2)) a13 r6 (at' p1 a13)) fun r18=>(if(!r18)=true then(some (false))else(ag12 (wI .i64 (a13+(1:Int)))))))else(bfs_Legit_k1  (()))
def m_bfs_Legit (fuel:Nat) (p0:List (Int)×(List (List (Int×Int)))) (p1:List (List (Int))):Option (Bool):=
 Option.bind (m_bfs_configuration fuel ((p0.1,p0.2)) p1) fun r2=>(if(!r2)=true then(some (false))else(Option.bind (m_graph_Distances fuel ((p0.1,p0.2)) (0:Int)) fun r6=>(iter (bfs_Legit_s1 fuel p0 p1 r6) fuel (0:Int))))
theorem body56:HasBody Tryz.prog 56:=Tryz.call56
theorem t_bfs_Legit (fuel:Nat) {p0:List (Int)×(List (List (Int×Int)))} {p1:List (List (Int))} (v0:Value)  (v1:Value)  (z2:List (Value×List (Int×Int)))  (v3:Value)  (z4:List (Value×List (Int))) (r:Bool) (h:m_bfs_Legit fuel p0 p1=some r):
  Meets Tryz.prog 56 #[Value.agg #[v0,v1],v3] [Sl RI64 v0 p0.1,S2 RI64I64p v1 z2 p0.2,S2 RI64 v3 z4 p1] (fun x:Unit=>Value.bool (r)) (fun x l=>l) (fun _ l=>l):=by
 refine Meets.of (vs:=[Value.agg #[v0,v1],v3]) Tryz.func56 rfl Tryz.ntmps56 rfl fun c=> ?_
 unfold m_bfs_Legit at h
 refine J.seq<|J.region<|J.loud (Loud.box (cs:=[v0,v1]) rfl rfl) rfl fun b1=>J.quiet (Y.assign rfl) rfl<|J.done<|J.thenN<|J.seq<|J.seq<|J.region<|J.quiet (Y.loadBAll 0 rfl rfl rfl rfl) rfl<|J.quiet (Y.move rfl) rfl ?_
 have h:=bnd h;obtain⟨r2,hr3,h⟩:=h
 refine J.loud (Loud.callL body95 (t_bfs_configuration fuel v0 v1 z2 v3 z4 r2 hr3) rfl (LentAll.cons (Lent.fact 0 rfl) (LentAll.cons (Lent.fact 1 rfl) (LentAll.cons (Lent.fact 2 rfl) .nil))) (fun _ _=>rfl)) rfl fun x4=>J.quiet (Y.not rfl) rfl<|J.done<|J.thenN ?_
 refine J.cond (by exact rfl) (fun hp5=> ?_) (fun hp5=> ?_)
 ·have h:=ifP hp5 h
  refine J.seq<|J.region<|J.quiet (Y.assign rfl) rfl<|J.done<|J.thenN<|J.ret<|J.thenR ?_
  obtain rfl:=Option.some.inj h
  exact J.retG1 (()) rfl rfl (RV.tmp rfl) (SubM.nil) LentAll.nil
 ·have h:=ifBN hp5 h
  refine J.skip<|J.thenN<|J.seq<|J.region<|J.quiet (Y.loadBAll 0 rfl rfl rfl rfl) rfl ?_
  have h:=bnd h;obtain⟨r6,hr7,h⟩:=h
  refine J.loud (Loud.callL body96 (t_graph_Distances fuel v0 v1 z2 r6 hr7) rfl (LentAll.cons (Lent.fact 0 rfl) (LentAll.cons (Lent.fact 1 rfl) .nil)) (fun _ _=>rfl)) rfl fun x8=>J.quiet (Y.assign rfl) rfl<|J.done<|J.thenN<|J.seq<|J.midI (A:=Unit) (B:=Unit) (fun a9=>bfs_Legit_k1  a9=some r) (fun a9 b10=>[]) (fun a9 b10=>[]) (fun a9 b10=>[Sl RI64 v0 p0.1,S2 RI64I64p v1 z2 p0.2,S2 RI64 v3 z4 p1]) ?_ ?_
  ·refine J.seq<|J.region<|J.quiet (Y.move rfl) rfl<|J.quiet (Y.lenN rfl (Lent.fact 2 rfl) rfl) rfl<|J.quiet (Y.move rfl) rfl<|J.done<|J.thenN<|J.block<|J.loopI (A:=Int) (B:=Unit) (bfs_Legit_s1 fuel p0 p1 r6) (fun a13 b14=>[(2,Value.pointer (some ⟨b1,0,none⟩)),(5,x8),(14,v3),(15,Value.int .i64 (List.length p1:Int)),(16,Value.int .i64 (a13))]) (fun a13 b14=>[Ar EI64 x8 r6,Blk b1 [v0,v1] 53]) (fun a13 b14=>[Sl RI64 v0 p0.1,S2 RI64I64p v1 z2 p0.2,S2 RI64 v3 z4 p1]) (0:Int) (()) h SF (SubM.refl _) (LentAll.refl _ _) ?_
   clear h
   intro k15 a13 b14 h
   unfold bfs_Legit_s1 at h
   refine J.seq<|J.region<|J.quiet (Y.lss rfl rfl) rfl<|J.done<|J.thenN<|J.seq ?_
   refine J.condD (by exact rfl) (fun hp16=> ?_) (fun hp16=> ?_)
   ·have h:=ifP hp16 h
    refine J.skip<|J.thenN<|J.seq<|J.block<|J.seq<|J.region<|J.quiet (Y.move rfl) rfl ?_
    have h:=ck_some h;obtain⟨hc17,h⟩:=h
    refine J.quiet (Y.indexN rfl rfl (Lent.fact 2 rfl) rfl rfl hc17) rfl<|J.quiet (Y.loadRow rfl (Lent.fact 2 rfl) rfl rfl hc17) rfl<|J.quiet (Y.assign rfl) rfl<|J.quiet (Y.assign rfl) rfl<|J.done<|J.thenN<|J.seq<|J.region<|J.quiet (Y.loadBAll 1 rfl rfl rfl rfl) rfl<|J.quiet (Y.move rfl) rfl<|J.quiet (Y.move rfl) rfl<|J.quiet (Y.move rfl) rfl ?_
    have h:=bnd h;obtain⟨r18,hr19,h⟩:=h
    refine J.loud (Loud.callL body97 (t_bfs_Right fuel v0 v1 z2 x8 ((at' z4 a13).1) r18 hr19) rfl (LentAll.cons (Lent.fact 0 rfl) (LentAll.cons (Lent.fact 1 rfl) (LentAll.cons (Lent.ar (Lent.res 0 rfl) FI64) (LentAll.cons (Lent.el (Lent.fact 2 rfl) hc17.1 hc17.2) .nil)))) (fun _ _=>rfl)) rfl fun x20=>J.quiet (Y.not rfl) rfl<|J.done<|J.thenN ?_
    refine J.cond (by exact rfl) (fun hp21=> ?_) (fun hp21=> ?_)
    ·have h:=ifP hp21 h
     refine J.seq<|J.region<|J.quiet (Y.assign rfl) rfl<|J.done<|J.thenN<|J.ret<|J.inR<|J.thenR<|J.thenR<|J.inR<|J.thenR ?_
     obtain rfl:=Option.some.inj h
     exact J.retG1 (()) rfl rfl (RV.tmp rfl) (SubM.nil) LentAll.nil
    ·have h:=ifBN hp21 h
     refine J.skip<|J.inN<|J.thenN<|J.region<|J.quiet (Y.addW rfl rfl) rfl<|J.quiet (Y.move rfl) rfl<|J.done<|J.thenN ?_
     exact J.againI (wI .i64 (a13+(1:Int))) (()) h SF (SubM.refl _) (LentAll.refl _ _)
   ·have h:=ifN hp16 h
    refine J.exit<|J.thenX<|J.thenX<|J.inX<|J.thenN ?_
    exact J.meetI (()) (()) h SF (SubM.nil) (LentAll.refl _ _)
  ·clear h
   intro a9 b10 h
   unfold bfs_Legit_k1 at h
   refine J.seq<|J.region<|J.quiet (Y.assign rfl) rfl<|J.done<|J.thenN<|J.ret ?_
   obtain rfl:=Option.some.inj h
   exact J.retG1 (()) rfl rfl (RV.tmp rfl) (SubM.refl _) LentAll.nil
end Go.Proofs.YtdbcpliafeoghaaGreatDoor
end
section
namespace Go.Proofs.YtdbcpliafeoghaaGreatDoor
open Go.Sx
def m_wave_Fit (fuel:Nat) (p0:List (Int)×(List (List (Int×Int)))):Option (Bool):=
 Option.bind (m_graph_Connected fuel ((p0.1,p0.2))) fun r2=>(some (r2))
theorem body132:HasBody Tryz.prog 132:=Tryz.call132
theorem t_wave_Fit (fuel:Nat) {p0:List (Int)×(List (List (Int×Int)))} (v0:Value)  (v1:Value)  (z2:List (Value×List (Int×Int))) (r:Bool) (h:m_wave_Fit fuel p0=some r):
  Meets Tryz.prog 132 #[Value.agg #[v0,v1]] [Sl RI64 v0 p0.1,S2 RI64I64p v1 z2 p0.2] (fun x:Unit=>Value.bool (r)) (fun x l=>l) (fun _ l=>l):=by
 refine Meets.of (vs:=[Value.agg #[v0,v1]]) Tryz.func132 rfl Tryz.ntmps132 rfl fun c=> ?_
 unfold m_wave_Fit at h
 refine J.seq<|J.region<|J.loud (Loud.box (cs:=[v0,v1]) rfl rfl) rfl fun b1=>J.quiet (Y.assign rfl) rfl<|J.done<|J.thenN<|J.seq<|J.region<|J.quiet (Y.loadBAll 0 rfl rfl rfl rfl) rfl ?_
 have h:=bnd h;obtain⟨r2,hr3,h⟩:=h
 refine J.loud (Loud.callL body101 (t_graph_Connected fuel v0 v1 z2 r2 hr3) rfl (LentAll.cons (Lent.fact 0 rfl) (LentAll.cons (Lent.fact 1 rfl) .nil)) (fun _ _=>rfl)) rfl fun x4=>J.quiet (Y.assign rfl) rfl<|J.done<|J.thenN<|J.ret ?_
 obtain rfl:=Option.some.inj h
 exact J.retG1 (()) rfl rfl (RV.tmp rfl) (SubM.nil) LentAll.nil
end Go.Proofs.YtdbcpliafeoghaaGreatDoor
end
section
namespace Go.Proofs.YtdbcpliafeoghaaGreatDoor
open Go.Sx
def wave_configuration_k1  (a3:Bool):Option (Bool):=
 some (a3)
def m_wave_configuration (fuel:Nat) (p0:List (Int)×(List (List (Int×Int)))) (p1:List (List (Int))):Option (Bool):=
 Option.bind (m_wave_Fit fuel ((p0.1,p0.2))) fun r5=>(if r5=true then(Option.bind (m_bfs_Configuration fuel ((p0.1,p0.2)) p1 ([(List.length p0.1:Int),(-1:Int),(1:Int),(1:Int)])) fun r10=>(wave_configuration_k1  (r10)))else(wave_configuration_k1  (false)))
theorem body98:HasBody Tryz.prog 98:=Tryz.call98
theorem t_wave_configuration (fuel:Nat) {p0:List (Int)×(List (List (Int×Int)))} {p1:List (List (Int))} (v0:Value)  (v1:Value)  (z2:List (Value×List (Int×Int)))  (v3:Value)  (z4:List (Value×List (Int))) (r:Bool) (h:m_wave_configuration fuel p0 p1=some r):
  Meets Tryz.prog 98 #[Value.agg #[v0,v1],v3] [Sl RI64 v0 p0.1,S2 RI64I64p v1 z2 p0.2,S2 RI64 v3 z4 p1] (fun x:Unit=>Value.bool (r)) (fun x l=>l) (fun _ l=>l):=by
 refine Meets.of (vs:=[Value.agg #[v0,v1],v3]) Tryz.func98 rfl Tryz.ntmps98 rfl fun c=> ?_
 unfold m_wave_configuration at h
 refine J.seq<|J.region<|J.loud (Loud.box (cs:=[v0,v1]) rfl rfl) rfl fun b1=>J.quiet (Y.assign rfl) rfl<|J.done<|J.thenN<|J.seq<|J.midI (A:=Bool) (B:=Unit) (fun a3=>wave_configuration_k1  a3=some r) (fun a3 b4=>[(4,Value.bool (a3))]) (fun a3 b4=>[]) (fun a3 b4=>[Sl RI64 v0 p0.1,S2 RI64I64p v1 z2 p0.2,S2 RI64 v3 z4 p1]) ?_ ?_
 ·refine J.region<|J.quiet (Y.loadBAll 0 rfl rfl rfl rfl) rfl ?_
  have h:=bnd h;obtain⟨r5,hr6,h⟩:=h
  refine J.loud (Loud.callL body132 (t_wave_Fit fuel v0 v1 z2 r5 hr6) rfl (LentAll.cons (Lent.fact 0 rfl) (LentAll.cons (Lent.fact 1 rfl) .nil)) (fun _ _=>rfl)) rfl fun x7=>J.quiet (Y.move rfl) rfl ?_
  refine J.guard (by exact rfl) (by exact rfl) (fun hp8=> ?_) (fun hp8=> ?_)
  ·have h:=ifP hp8 h
   refine J.guardY rfl (Y.loadBAll 0 rfl rfl rfl rfl) rfl<|J.guardY rfl (Y.move rfl) rfl<|J.guardY rfl (Y.fieldB rfl rfl rfl rfl rfl) rfl<|J.guardY rfl (Y.loadB 0 rfl rfl rfl rfl rfl) rfl<|J.guardY rfl (Y.lenS rfl (Lent.fact 0 rfl) rfl) rfl<|J.loudG rfl (Loud.buildS (e:=EI64) ([(List.length p0.1:Int),(-1:Int),(1:Int),(1:Int)]) [(0,Value.int .i64 (List.length p0.1:Int)),(1,Value.int .i64 (-1:Int)),(2,Value.int .i64 (1:Int)),(3,Value.int .i64 (1:Int))] rfl rfl rfl rfl (fill_4_1 (Value.int .i64 (List.length p0.1:Int)) (Value.int .i64 (-1:Int)) (Value.int .i64 (1:Int)) (Value.int .i64 (1:Int)) rfl rfl rfl rfl) rfl rfl rfl) rfl fun u9=> ?_
   have h:=bnd h;obtain⟨r10,hr11,h⟩:=h
   refine J.loudG rfl (Loud.callL body94 (t_bfs_Configuration fuel v0 v1 z2 v3 z4 u9 r10 hr11) rfl (LentAll.cons (Lent.fact 0 rfl) (LentAll.cons (Lent.fact 1 rfl) (LentAll.cons (Lent.fact 2 rfl) (LentAll.cons (Lent.ar (Lent.res 0 rfl) FI64) .nil)))) (fun _ _=>rfl)) rfl fun x12=>J.quiet (Y.pickT rfl rfl) rfl<|J.quiet (Y.assign rfl) rfl<|J.done<|J.thenN ?_
   exact J.meetI (r10) (()) h SF (SubM.nil) (LentAll.refl _ _)
  ·have h:=ifBN hp8 h
   refine J.guardN rfl rfl rfl<|J.guardN rfl rfl rfl<|J.guardN rfl rfl rfl<|J.guardN rfl rfl rfl<|J.guardN rfl rfl rfl<|J.guardN rfl rfl rfl<|J.guardN rfl rfl rfl<|J.quiet (Y.pickF rfl rfl) rfl<|J.quiet (Y.assign rfl) rfl<|J.done<|J.thenN ?_
   exact J.meetI (false) (()) h SF (SubM.nil) (LentAll.refl _ _)
 ·clear h
  intro a3 b4 h
  unfold wave_configuration_k1 at h
  refine J.ret ?_
  obtain rfl:=Option.some.inj h
  exact J.retG1 (()) rfl rfl (RV.tmp rfl) (SubM.refl _) LentAll.nil
end Go.Proofs.YtdbcpliafeoghaaGreatDoor
end
section
namespace Go.Proofs.YtdbcpliafeoghaaGreatDoor
open Go.Sx
def bfs_Towards_k1  (a5:List (Int)):Option (List (Int)):=
 some (a5)
def bfs_Towards_k2 (a10:Int×List (Int)) (ag9:(Int×List (Int))->Option (List (Int))) (a15:List (Int)):Option (List (Int)):=
 ag9 ((wI .i64 (a10.1+(1:Int))),a15)
def bfs_Towards_s1 (p0:List (Int)×(List (List (Int×Int)))) (p1:List (List (Int))) (p2:Int) (a10:Int×List (Int)) (ag9:(Int×List (Int))->Option (List (Int))):Option (List (Int)):=
 if a10.1<(List.length p1:Int)then(ck (0<=a10.1∧a10.1<(List.length p1:Int)) (ck (0<=a10.1∧a10.1<(List.length a10.2:Int)) (ck (0<=p2∧p2<(List.length (at' p1 a10.1):Int)) (if(0:Int)<=(at' (at' p1 a10.1) p2)then(ck (0<=a10.1∧a10.1<(List.length p0.2:Int)) (ck (0<=p2∧p2<(List.length (at' p1 a10.1):Int)) (ck (0<=(at' (at' p1 a10.1) p2)∧(at' (at' p1 a10.1) p2)<(List.length (at' p0.2 a10.1):Int)) (ck (0<=a10.1∧a10.1<(List.length (List.set a10.2 (Int.toNat a10.1) (-1:Int)):Int)) (bfs_Towards_k2 a10 ag9 (List.set (List.set a10.2 (Int.toNat a10.1) (-1:Int)) (Int.toNat a10.1) ((at' (at' p0.2 a10.1) (at' (at' p1 a10.1) p2)).1)))))))else(bfs_Towards_k2 a10 ag9 (List.set a10.2 (Int.toNat a10.1) (-1:Int)))))))else(bfs_Towards_k1  (a10.2))
def m_bfs_Towards (fuel:Nat) (p0:List (Int)×(List (List (Int×Int)))) (p1:List (List (Int))) (p2:Int):Option (List (Int)):=
 ck (0<=(List.length p1:Int)∧(List.length p1:Int)<=1099511627) (iter (bfs_Towards_s1 p0 p1 p2) fuel ((0:Int),(List.replicate (Int.toNat (List.length p1:Int)) (0:Int))))
theorem body100:HasBody Tryz.prog 100:=Tryz.call100
theorem t_bfs_Towards (fuel:Nat) {p0:List (Int)×(List (List (Int×Int)))} {p1:List (List (Int))} {p2:Int} (v0:Value)  (v1:Value)  (z2:List (Value×List (Int×Int)))  (v3:Value)  (z4:List (Value×List (Int))) (r:List (Int)) (h:m_bfs_Towards fuel p0 p1 p2=some r):
  Meets Tryz.prog 100 #[Value.agg #[v0,v1],v3,Value.int .i64 (p2)] [Sl RI64 v0 p0.1,S2 RI64I64p v1 z2 p0.2,S2 RI64 v3 z4 p1] (fun x:Value=>x) (fun x l=>Ar EI64 x r::l) (fun _ l=>l):=by
 refine Meets.of (vs:=[Value.agg #[v0,v1],v3,Value.int .i64 (p2)]) Tryz.func100 rfl Tryz.ntmps100 rfl fun c=> ?_
 unfold m_bfs_Towards at h
 refine J.seq<|J.region<|J.loud (Loud.box (cs:=[v0,v1]) rfl rfl) rfl fun b1=>J.quiet (Y.assign rfl) rfl<|J.done<|J.thenN<|J.seq<|J.region<|J.quiet (Y.move rfl) rfl<|J.quiet (Y.lenN rfl (Lent.fact 2 rfl) rfl) rfl ?_
 have h:=ck_some h;obtain⟨hc2,h⟩:=h
 refine J.loud (Loud.makeS (e:=EI64) (0:Int) rfl rfl rfl rfl hc2 rfl rfl rfl) rfl fun u3=>J.quiet (Y.assign rfl) rfl<|J.done<|J.thenN<|J.seq<|J.midI (A:=List (Int)) (B:=Unit) (fun a5=>bfs_Towards_k1  a5=some r) (fun a5 b6=>[(7,u3)]) (fun a5 b6=>[Ar EI64 u3 a5]) (fun a5 b6=>[Sl RI64 v0 p0.1,S2 RI64I64p v1 z2 p0.2,S2 RI64 v3 z4 p1]) ?_ ?_
 ·refine J.seq<|J.region<|J.quiet (Y.move rfl) rfl<|J.quiet (Y.lenN rfl (Lent.fact 2 rfl) rfl) rfl<|J.quiet (Y.move rfl) rfl<|J.done<|J.thenN<|J.block<|J.loopI (A:=Int×List (Int)) (B:=Unit) (bfs_Towards_s1 p0 p1 p2) (fun a10 b11=>[(2,Value.int .i64 (p2)),(3,Value.pointer (some ⟨b1,0,none⟩)),(7,u3),(13,v3),(14,Value.int .i64 (List.length p1:Int)),(15,Value.int .i64 (a10.1))]) (fun a10 b11=>[Ar EI64 u3 a10.2,Blk b1 [v0,v1] 53]) (fun a10 b11=>[Sl RI64 v0 p0.1,S2 RI64I64p v1 z2 p0.2,S2 RI64 v3 z4 p1]) ((0:Int),(List.replicate (Int.toNat (List.length p1:Int)) (0:Int))) (()) h SF (SubM.refl _) (LentAll.refl _ _) ?_
  clear h
  intro k12 a10 b11 h
  unfold bfs_Towards_s1 at h
  refine J.seq<|J.region<|J.quiet (Y.lss rfl rfl) rfl<|J.done<|J.thenN<|J.seq ?_
  refine J.condD (by exact rfl) (fun hp13=> ?_) (fun hp13=> ?_)
  ·have h:=ifP hp13 h
   refine J.skip<|J.thenN<|J.seq<|J.midI (A:=List (Int)) (B:=Unit) (fun a15=>bfs_Towards_k2 a10 (iter (bfs_Towards_s1 p0 p1 p2) k12) a15=some r) (fun a15 b16=>[(2,Value.int .i64 (p2)),(3,Value.pointer (some ⟨b1,0,none⟩)),(7,u3),(13,v3),(14,Value.int .i64 (List.length p1:Int)),(15,Value.int .i64 (a10.1))]) (fun a15 b16=>[Ar EI64 u3 a15,Blk b1 [v0,v1] 53]) (fun a15 b16=>[Sl RI64 v0 p0.1,S2 RI64I64p v1 z2 p0.2,S2 RI64 v3 z4 p1]) ?_ ?_
   ·refine J.block<|J.seq<|J.region<|J.quiet (Y.move rfl) rfl ?_
    have h:=ck_some h;obtain⟨hc17,h⟩:=h
    refine J.quiet (Y.indexN rfl rfl (Lent.fact 2 rfl) rfl rfl hc17) rfl<|J.quiet (Y.loadRow rfl (Lent.fact 2 rfl) rfl rfl hc17) rfl<|J.quiet (Y.assign rfl) rfl<|J.quiet (Y.assign rfl) rfl<|J.done<|J.thenN<|J.seq<|J.region<|J.quiet (Y.move rfl) rfl<|J.quiet (Y.move rfl) rfl ?_
    have h:=ck_some h;obtain⟨hc18,h⟩:=h
    refine J.quiet (Y.indexS rfl rfl (Lent.ar (Lent.res 0 rfl) FI64) rfl rfl hc18) rfl<|J.storeS 0 (-1:Int) hc18 rfl rfl rfl rfl rfl rfl rfl<|J.done<|J.thenN<|J.seq<|J.region<|J.quiet (Y.move rfl) rfl<|J.quiet (Y.move rfl) rfl ?_
    have h:=ck_some h;obtain⟨hc19,h⟩:=h
    refine J.quiet (Y.indexS rfl rfl (Lent.el (Lent.fact 2 rfl) hc17.1 hc17.2) rfl rfl hc19) rfl<|J.quiet (Y.loadS0 rfl (Lent.el (Lent.fact 2 rfl) hc17.1 hc17.2) rfl rfl rfl RI64c0 hc19) rfl<|J.quiet (Y.geq rfl rfl) rfl<|J.done<|J.thenN ?_
    refine J.condD (by exact rfl) (fun hp20=> ?_) (fun hp20=> ?_)
    ·have h:=ifP hp20 h
     refine JR.start [0,0,0,4,0,28,60,0,0,384,896,2044,4092,8188,16383,32767] 14 mixedOrders (by decide +kernel) ?_
     refine JR.open (by exact rfl) ?_
     refine JR.qt rfl (SubM.nil) (SubL.nil) (Y.move rfl) HistOk.z<|JR.qt rfl (SubM.nil) (SubL.nil) (Y.move rfl) HistOk.z<|JR.qt rfl (SubM.nil) (SubL.nil) (Y.fieldB rfl rfl rfl rfl rfl) HistOk.z<|JR.qt rfl (SubM.cons 1 rfl (SubM.nil)) (SubL.nil) (Y.loadB 0 rfl rfl rfl rfl rfl) HistOk.z<|JR.qt rfl (SubM.nil) (SubL.nil) (Y.move rfl) HistOk.z ?_
     have h:=ck_some h;obtain⟨hc21,h⟩:=h
     refine JR.qt rfl (SubM.nil) (SubL.cons (List.mem_of_getElem? (i:=1) rfl) (SubL.nil)) (Y.indexN rfl rfl (Lent.fact 0 rfl) rfl rfl hc21) HistOk.z<|JR.qt rfl (SubM.nil) (SubL.cons (List.mem_of_getElem? (i:=1) rfl) (SubL.nil)) (Y.loadRow rfl (Lent.fact 0 rfl) rfl rfl hc21) HistOk.z<|JR.qt rfl (SubM.nil) (SubL.nil) (Y.move rfl) HistOk.z<|JR.qt rfl (SubM.nil) (SubL.nil) (Y.move rfl) HistOk.z ?_
     have h:=ck_some h;obtain⟨hc22,h⟩:=h
     refine JR.qt rfl (SubM.nil) (SubL.cons (List.mem_of_getElem? (i:=2) rfl) (SubL.nil)) (Y.indexS rfl rfl (Lent.el (Lent.fact 0 rfl) hc17.1 hc17.2) rfl rfl hc22) HistOk.z<|JR.qt rfl (SubM.nil) (SubL.cons (List.mem_of_getElem? (i:=2) rfl) (SubL.nil)) (Y.loadS0 rfl (Lent.el (Lent.fact 0 rfl) hc17.1 hc17.2) rfl rfl rfl RI64c0 hc22) HistOk.z ?_
     have h:=ck_some h;obtain⟨hc23,h⟩:=h
     refine JR.qt rfl (SubM.nil) (SubL.cons (List.mem_of_getElem? (i:=1) rfl) (SubL.nil)) (Y.indexS rfl rfl (Lent.el (Lent.fact 0 rfl) hc21.1 hc21.2) rfl rfl hc23) HistOk.z<|JR.qt rfl (SubM.nil) (SubL.nil) (Y.fieldEl rfl rfl rfl rfl rfl) HistOk.z<|JR.qt rfl (SubM.nil) (SubL.cons (List.mem_of_getElem? (i:=1) rfl) (SubL.nil)) (Y.loadS rfl (Lent.el (Lent.fact 0 rfl) hc21.1 hc21.2) rfl rfl rfl RI64I64pc0 hc23) HistOk.z<|JR.tailD 14 rfl rfl ?_
     have h:=ck_some h;obtain⟨hc24,h⟩:=h
     refine J.quiet (Y.indexS rfl rfl (Lent.ar (Lent.res 0 rfl) FI64) rfl rfl hc24) rfl<|J.storeS 0 ((at' (at' p0.2 a10.1) (at' (at' p1 a10.1) p2)).1) hc24 rfl rfl rfl rfl rfl rfl rfl<|J.done<|J.inN<|J.thenN ?_
     exact J.meetI (List.set (List.set a10.2 (Int.toNat a10.1) (-1:Int)) (Int.toNat a10.1) ((at' (at' p0.2 a10.1) (at' (at' p1 a10.1) p2)).1)) (()) h SF (SubM.refl _) (LentAll.refl _ _)
    ·have h:=ifN hp20 h
     refine J.skip<|J.inN<|J.thenN ?_
     exact J.meetI (List.set a10.2 (Int.toNat a10.1) (-1:Int)) (()) h SF (SubM.refl _) (LentAll.refl _ _)
   ·clear h
    intro a15 b16 h
    unfold bfs_Towards_k2 at h
    refine J.region<|J.quiet (Y.addW rfl rfl) rfl<|J.quiet (Y.move rfl) rfl<|J.done<|J.thenN ?_
    exact J.againI ((wI .i64 (a10.1+(1:Int))),a15) (()) h SF (SubM.refl _) (LentAll.refl _ _)
  ·have h:=ifN hp13 h
   refine J.exit<|J.thenX<|J.thenX<|J.inX<|J.thenN ?_
   exact J.meetI (a10.2) (()) h SF (SubM.cons 0 rfl (SubM.nil)) (LentAll.refl _ _)
 ·clear h
  intro a5 b6 h
  unfold bfs_Towards_k1 at h
  refine J.seq<|J.region<|J.quiet (Y.move rfl) rfl<|J.quiet (Y.assign rfl) rfl<|J.done<|J.thenN<|J.ret ?_
  obtain rfl:=Option.some.inj h
  exact J.retG1 (u3) rfl rfl (RV.tmp rfl) (SubM.refl _) LentAll.nil
end Go.Proofs.YtdbcpliafeoghaaGreatDoor
end
section
namespace Go.Proofs.YtdbcpliafeoghaaGreatDoor
open Go.Sx
def wave_Legit_k2  (a6:Unit):Option (Bool):=
 some (true)
def wave_Legit_k3 (a13:Int) (ag12:(Int)->Option (Bool)) (a17:Unit):Option (Bool):=
 ag12 (wI .i64 (a13+(1:Int)))
def wave_Legit_k5 (a13:Int) (ag12:(Int)->Option (Bool)) (a25:Bool):Option (Bool):=
 if a25=true then(some (false))else(wave_Legit_k3 a13 ag12 (()))
def wave_Legit_k4 (p1:List (List (Int))) (r8:List (Int)) (a13:Int) (ag12:(Int)->Option (Bool)) (a21:Bool):Option (Bool):=
 if a21=true then(wave_Legit_k3 a13 ag12 (()))else(ck (0<=a13∧a13<(List.length p1:Int)) (ck (0<=(2:Int)∧(2:Int)<(List.length (at' p1 a13):Int)) (ck (0<=(at' r8 a13)∧(at' r8 a13)<(List.length p1:Int)) (ck (0<=(2:Int)∧(2:Int)<(List.length (at' p1 (at' r8 a13)):Int)) (if(at' (at' p1 a13) (2:Int))≠(at' (at' p1 (at' r8 a13)) (2:Int))then(wave_Legit_k5 a13 ag12 (true))else(ck (0<=a13∧a13<(List.length p1:Int)) (ck (0<=(3:Int)∧(3:Int)<(List.length (at' p1 a13):Int)) (ck (0<=(at' r8 a13)∧(at' r8 a13)<(List.length p1:Int)) (ck (0<=(3:Int)∧(3:Int)<(List.length (at' p1 (at' r8 a13)):Int)) (wave_Legit_k5 a13 ag12 (decide ((at' (at' p1 a13) (3:Int))≠(at' (at' p1 (at' r8 a13)) (3:Int))))))))))))))
def wave_Legit_s1 (p1:List (List (Int))) (r8:List (Int)) (a13:Int) (ag12:(Int)->Option (Bool)):Option (Bool):=
 if a13<(List.length r8:Int)then(ck (0<=a13∧a13<(List.length r8:Int)) (if(at' r8 a13)<(0:Int)then(wave_Legit_k4 p1 r8 a13 ag12 (true))else(ck (0<=(at' r8 a13)∧(at' r8 a13)<(List.length p1:Int)) (ck (0<=(2:Int)∧(2:Int)<(List.length (at' p1 (at' r8 a13)):Int)) (wave_Legit_k4 p1 r8 a13 ag12 (decide ((at' (at' p1 (at' r8 a13)) (2:Int))=(1:Int))))))))else(wave_Legit_k2  (()))
def wave_Legit_k1 (fuel:Nat) (p0:List (Int)×(List (List (Int×Int)))) (p1:List (List (Int))) (a3:Bool):Option (Bool):=
 if a3=true then(some (false))else(Option.bind (m_bfs_Towards fuel ((p0.1,p0.2)) p1 (1:Int)) fun r8=>(iter (wave_Legit_s1 p1 r8) fuel (0:Int)))
def wave_Legit_k6 (fuel:Nat) (p0:List (Int)×(List (List (Int×Int)))) (p1:List (List (Int))) (a47:List (List (Int))):Option (Bool):=
 Option.bind (m_bfs_Legit fuel ((p0.1,p0.2)) a47) fun r49=>(wave_Legit_k1 fuel p0 p1 ((!r49)))
def wave_Legit_k7 (fuel:Nat) (p0:List (Int)×(List (List (Int×Int)))) (p1:List (List (Int))) (a56:List (List (Int))):Option (Bool):=
 wave_Legit_k6 fuel p0 p1 (a56)
def wave_Legit_s2 (fuel:Nat) (p0:List (Int)×(List (List (Int×Int)))) (p1:List (List (Int))) (a62:Int×List (List (Int))) (ag61:(Int×List (List (Int)))->Option (Bool)):Option (Bool):=
 if a62.1<(List.length p1:Int)then(ck (0<=a62.1∧a62.1<(List.length p1:Int)) (ck (0<=(0:Int)∧(0:Int)<=(2:Int)∧(2:Int)<=(2:Int)∧(2:Int)<=(List.length (at' p1 a62.1):Int)) (ck (0<=a62.1∧a62.1<(List.length a62.2:Int)) (ag61 ((wI .i64 (a62.1+(1:Int))),(List.set a62.2 (Int.toNat a62.1) (List.drop (Int.toNat (0:Int)) (List.take (Int.toNat (2:Int)) (at' p1 a62.1)))))))))else(wave_Legit_k7 fuel p0 p1 (a62.2))
def m_wave_Legit (fuel:Nat) (p0:List (Int)×(List (List (Int×Int)))) (p1:List (List (Int))):Option (Bool):=
 Option.bind (m_wave_configuration fuel ((p0.1,p0.2)) p1) fun r40=>(if(!r40)=true then(wave_Legit_k1 fuel p0 p1 (true))else(ck (0<=(List.length p1:Int)∧(List.length p1:Int)<=1099511627) (iter (wave_Legit_s2 fuel p0 p1) fuel ((0:Int),(List.replicate (Int.toNat (List.length p1:Int)) ([]:List Int))))))
theorem body59:HasBody Tryz.prog 59:=Tryz.call59
theorem t_wave_Legit (fuel:Nat) {p0:List (Int)×(List (List (Int×Int)))} {p1:List (List (Int))} (v0:Value)  (v1:Value)  (z2:List (Value×List (Int×Int)))  (v3:Value)  (z4:List (Value×List (Int))) (r:Bool) (h:m_wave_Legit fuel p0 p1=some r):
  Meets Tryz.prog 59 #[Value.agg #[v0,v1],v3] [Sl RI64 v0 p0.1,S2 RI64I64p v1 z2 p0.2,S2 RI64 v3 z4 p1] (fun x:Unit=>Value.bool (r)) (fun x l=>l) (fun _ l=>l):=by
 refine Meets.of (vs:=[Value.agg #[v0,v1],v3]) Tryz.func59 rfl Tryz.ntmps59 rfl fun c=> ?_
 unfold m_wave_Legit at h
 refine J.seq<|J.region<|J.loud (Loud.box (cs:=[v0,v1]) rfl rfl) rfl fun b1=>J.quiet (Y.assign rfl) rfl<|J.done<|J.thenN<|J.seq<|J.seq<|J.midI (A:=Bool) (B:=Unit) (fun a3=>wave_Legit_k1 fuel p0 p1 a3=some r) (fun a3 b4=>[(1,v3),(2,Value.pointer (some ⟨b1,0,none⟩)),(17,Value.bool (a3))]) (fun a3 b4=>[Blk b1 [v0,v1] 53]) (fun a3 b4=>[Sl RI64 v0 p0.1,S2 RI64I64p v1 z2 p0.2,S2 RI64 v3 z4 p1]) ?_ ?_
 ·refine JR.start [0,0,3,7,15,31,31,95,255,511,1023] 8 mixedOrders (by decide +kernel) ?_
  refine JR.open (by exact rfl) ?_
  refine JR.qt rfl (SubM.refl _) (SubL.nil) (Y.loadBAll 0 rfl rfl rfl rfl) HistOk.z<|JR.qt rfl (SubM.nil) (SubL.nil) (Y.move rfl) HistOk.z ?_
  have h:=bnd h;obtain⟨r40,hr41,h⟩:=h
  refine JR.loud rfl rfl rfl (Loud.callL body98 (t_wave_configuration fuel v0 v1 z2 v3 z4 r40 hr41) rfl (LentAll.cons (Lent.fact 0 rfl) (LentAll.cons (Lent.fact 1 rfl) (LentAll.cons (Lent.fact 2 rfl) .nil))) (fun _ _=>rfl)) rfl (fun x42=>(BsOk.b rfl (BsOk.b rfl BsOk.z))) fun x42=>JR.qt rfl (SubM.nil) (SubL.nil) (Y.not rfl) (HistOk.b rfl HistOk.z)<|JR.qt rfl (SubM.nil) (SubL.nil) (Y.move rfl) (HistOk.b rfl HistOk.z) ?_
  refine JR.guard (by exact rfl) (by exact rfl) (by exact rfl) (fun hp43=> ?_) (fun hp43=> ?_)
  ·have h:=ifP hp43 h
   refine JR.guardN rfl rfl rfl rfl<|JR.guardN rfl rfl rfl rfl<|JR.guardN rfl rfl rfl rfl<|JR.tailD 8 rfl rfl<|J.guardN rfl rfl rfl<|J.guardN rfl rfl rfl<|J.quiet (Y.pickT rfl rfl) rfl<|J.done<|J.thenN ?_
   exact J.meetI (true) (()) h SF (SubM.refl _) (LentAll.refl _ _)
  ·have h:=ifBN hp43 h
   refine JR.qtG rfl (SubM.refl _) (SubL.nil) (Y.loadBAll 0 rfl rfl rfl rfl) (HistOk.b rfl HistOk.z)<|JR.qtG rfl (SubM.nil) (SubL.nil) (Y.move rfl) (HistOk.b rfl HistOk.z)<|JR.inlCG (A:=List (List (Int))) (B:=Value×List Value) (vs:=[v3]) (fun a47=>wave_Legit_k6 fuel p0 p1 a47=some r) (fun a47 b48=>b48.1) (fun a47 b48=>[Ar Enc.raw b48.1 b48.2,Blk b1 [v0,v1] 53]) (fun a47 b48=>[Rlf RI64 b48.2 a47,Sl RI64 v0 p0.1,S2 RI64I64p v1 z2 p0.2,S2 RI64 v3 z4 p1]) rfl rfl rfl rfl (Enter.fn (show HasBody Tryz.prog 99 from Tryz.call99) rfl) Tryz.func99 rfl Tryz.ntmps99 rfl rfl (fun _ _=>(BsOk.b rfl (BsOk.h (SubM.cons 1 rfl (SubM.nil)) (SubL.nil) (BsOk.b rfl (BsOk.b rfl (BsOk.b rfl (BsOk.b rfl BsOk.z))))))) ?_ ?_
   ·refine J.seq<|J.region<|J.quiet (Y.assign rfl) rfl<|J.done<|J.thenN<|J.seq<|J.region<|J.quiet (Y.move rfl) rfl<|J.quiet (Y.lenN rfl (Lent.fact 2 rfl) rfl) rfl ?_
    have h:=ck_some h;obtain⟨hc52,h⟩:=h
    refine J.addRl RI64 (Int.toNat (List.length p1:Int))<|J.loud (Loud.makeS (e:=Enc.raw) (Value.slice none 0 0) rfl rfl rfl rfl hc52 rfl rfl rfl) rfl fun u53=>J.quiet (Y.assign rfl) rfl<|J.done<|J.thenN<|J.seq<|J.midI (A:=List (List (Int))) (B:=List Value) (fun a56=>wave_Legit_k7 fuel p0 p1 a56=some r) (fun a56 b57=>[(3,u53)]) (fun a56 b57=>[Ar Enc.raw u53 b57,Blk b1 [v0,v1] 53]) (fun a56 b57=>[Rlf RI64 b57 a56,Sl RI64 v0 p0.1,S2 RI64I64p v1 z2 p0.2,S2 RI64 v3 z4 p1]) ?_ ?_
    ·refine J.seq<|J.region<|J.quiet (Y.move rfl) rfl<|J.quiet (Y.lenN rfl (Lent.fact 3 rfl) rfl) rfl<|J.quiet (Y.move rfl) rfl<|J.done<|J.thenN<|J.block<|J.loopI (A:=Int×List (List (Int))) (B:=List Value) (wave_Legit_s2 fuel p0 p1) (fun a62 b63=>[(3,u53),(9,v3),(10,Value.int .i64 (List.length p1:Int)),(11,Value.int .i64 (a62.1))]) (fun a62 b63=>[Ar Enc.raw u53 b63,Blk b1 [v0,v1] 53]) (fun a62 b63=>[Rlf RI64 b63 a62.2,Sl RI64 v0 p0.1,S2 RI64I64p v1 z2 p0.2,S2 RI64 v3 z4 p1]) ((0:Int),(List.replicate (Int.toNat (List.length p1:Int)) ([]:List Int))) (List.replicate (Int.toNat (List.length p1:Int)) (Value.slice none 0 0)) h SF (SubM.refl _) (LentAll.refl _ _) ?_
     clear h
     intro k64 a62 b63 h
     unfold wave_Legit_s2 at h
     refine J.seq<|J.region<|J.quiet (Y.lss rfl rfl) rfl<|J.done<|J.thenN<|J.seq ?_
     refine J.condD (by exact rfl) (fun hp65=> ?_) (fun hp65=> ?_)
     ·have h:=ifP hp65 h
      refine J.skip<|J.thenN<|J.seq<|J.block<|J.seq<|J.region<|J.quiet (Y.move rfl) rfl ?_
      have h:=ck_some h;obtain⟨hc66,h⟩:=h
      refine J.quiet (Y.indexN rfl rfl (Lent.fact 3 rfl) rfl rfl hc66) rfl<|J.quiet (Y.loadRow rfl (Lent.fact 3 rfl) rfl rfl hc66) rfl<|J.quiet (Y.assign rfl) rfl<|J.quiet (Y.assign rfl) rfl<|J.done<|J.thenN<|J.region<|J.quiet (Y.move rfl) rfl<|J.quiet (Y.move rfl) rfl<|J.quiet (Y.move rfl) rfl ?_
      have h:=ck_some h;obtain⟨hc67,h⟩:=h
      refine J.quiet (Y.slice3R rfl rfl rfl rfl (Lent.el (Lent.fact 3 rfl) hc66.1 hc66.2) rfl rfl hc67) rfl ?_
      have h:=ck_some h;obtain⟨hc68,h⟩:=h
      refine J.quiet (Y.indexN rfl rfl (Lent.rowsL (i:=0) (j:=0) rfl rfl) rfl rfl hc68) rfl<|J.know (Know.one ((Lent.part3 (Lent.el (Lent.fact 3 rfl) hc66.1 hc66.2) rfl hc67))) fun ho69=>J.storeRl 0 0 hc68 rfl rfl rfl rfl ho69 rfl<|J.rlset (k:=Int.toNat a62.1) 0 (vs:=b63) rfl (Lent.part3 (Lent.el (Lent.fact 3 rfl) hc66.1 hc66.2) rfl hc67)<|J.done<|J.inN<|J.thenN<|J.region<|J.quiet (Y.addW rfl rfl) rfl<|J.quiet (Y.move rfl) rfl<|J.done<|J.thenN ?_
      exact J.againI ((wI .i64 (a62.1+(1:Int))),(List.set a62.2 (Int.toNat a62.1) (List.drop (Int.toNat (0:Int)) (List.take (Int.toNat (2:Int)) (at' p1 a62.1))))) (List.set b63 (Int.toNat a62.1) (sl3 ((at' z4 a62.1).1) (Int.toNat (0:Int)) (Int.toNat (2:Int)) (Int.toNat (2:Int)) 1)) h SF (SubM.refl _) (LentAll.refl _ _)
     ·have h:=ifN hp65 h
      refine J.exit<|J.thenX<|J.thenX<|J.inX<|J.thenN ?_
      exact J.meetI (a62.2) (b63) h SF (SubM.refl _) (LentAll.refl _ _)
    ·clear h
     intro a56 b57 h
     unfold wave_Legit_k7 at h
     refine J.seq<|J.region<|J.quiet (Y.move rfl) rfl<|J.quiet (Y.assign rfl) rfl<|J.done<|J.thenN<|J.ret ?_
     exact J.retM (a56) (u53,b57) h (.inl rfl) (Res.r1 rfl (RV.tmp rfl)) rfl (SubM.refl _) (LentAll.refl _ _)
   ·clear h
    intro a47 b48 h
    unfold wave_Legit_k6 at h
    refine JR.tailD 8 rfl rfl ?_
    have h:=bnd h;obtain⟨r49,hr50,h⟩:=h
    refine J.loudG rfl (Loud.callL body56 (t_bfs_Legit fuel v0 v1 z2 b48.1 (List.zip b48.2 a47) r49 hr50) rfl (LentAll.cons (Lent.fact 1 rfl) (LentAll.cons (Lent.fact 2 rfl) (LentAll.cons (Lent.rowsL (i:=0) (j:=0) rfl rfl) .nil))) (fun _ _=>rfl)) rfl fun x51=>J.guardY rfl (Y.not rfl) rfl<|J.quiet (Y.pickF rfl rfl) rfl<|J.done<|J.thenN ?_
    exact J.meetI ((!r49)) (()) h SF (SubM.cons 1 rfl (SubM.nil)) (LentAll.cons (Lent.fact 1 rfl) (LentAll.cons (Lent.fact 2 rfl) (LentAll.cons (Lent.fact 3 rfl) .nil)))
 ·clear h
  intro a3 b4 h
  unfold wave_Legit_k1 at h
  refine J.cond (by exact rfl) (fun hp5=> ?_) (fun hp5=> ?_)
  ·have h:=ifP hp5 h
   refine J.seq<|J.region<|J.quiet (Y.assign rfl) rfl<|J.done<|J.thenN<|J.ret<|J.thenR ?_
   obtain rfl:=Option.some.inj h
   exact J.retG1 (()) rfl rfl (RV.tmp rfl) (SubM.nil) LentAll.nil
  ·have h:=ifBN hp5 h
   refine J.skip<|J.thenN<|J.seq<|J.midI (A:=Unit) (B:=Unit) (fun a6=>wave_Legit_k2  a6=some r) (fun a6 b7=>[]) (fun a6 b7=>[]) (fun a6 b7=>[Sl RI64 v0 p0.1,S2 RI64I64p v1 z2 p0.2,S2 RI64 v3 z4 p1]) ?_ ?_
   ·refine J.seq<|J.region<|J.quiet (Y.loadBAll 0 rfl rfl rfl rfl) rfl<|J.quiet (Y.move rfl) rfl ?_
    have h:=bnd h;obtain⟨r8,hr9,h⟩:=h
    refine J.loud (Loud.callL body100 (t_bfs_Towards fuel v0 v1 z2 v3 z4 r8 hr9) rfl (LentAll.cons (Lent.fact 0 rfl) (LentAll.cons (Lent.fact 1 rfl) (LentAll.cons (Lent.fact 2 rfl) .nil))) (fun _ _=>rfl)) rfl fun x10=>J.quiet (Y.lenS rfl (Lent.ar (Lent.res 0 rfl) FI64) rfl) rfl<|J.quiet (Y.move rfl) rfl<|J.done<|J.thenN<|J.block<|J.loopI (A:=Int) (B:=Unit) (wave_Legit_s1 p1 r8) (fun a13 b14=>[(1,v3),(20,x10),(21,Value.int .i64 (List.length r8:Int)),(22,Value.int .i64 (a13))]) (fun a13 b14=>[Ar EI64 x10 r8]) (fun a13 b14=>[Sl RI64 v0 p0.1,S2 RI64I64p v1 z2 p0.2,S2 RI64 v3 z4 p1]) (0:Int) (()) h SF (SubM.cons 0 rfl (SubM.nil)) (LentAll.refl _ _) ?_
    clear h
    intro k15 a13 b14 h
    unfold wave_Legit_s1 at h
    refine J.seq<|J.region<|J.quiet (Y.lss rfl rfl) rfl<|J.done<|J.thenN<|J.seq ?_
    refine J.condD (by exact rfl) (fun hp16=> ?_) (fun hp16=> ?_)
    ·have h:=ifP hp16 h
     refine J.skip<|J.thenN<|J.seq<|J.midI (A:=Unit) (B:=Unit) (fun a17=>wave_Legit_k3 a13 (iter (wave_Legit_s1 p1 r8) k15) a17=some r) (fun a17 b18=>[(1,v3),(20,x10),(21,Value.int .i64 (List.length r8:Int)),(22,Value.int .i64 (a13))]) (fun a17 b18=>[Ar EI64 x10 r8]) (fun a17 b18=>[Sl RI64 v0 p0.1,S2 RI64I64p v1 z2 p0.2,S2 RI64 v3 z4 p1]) ?_ ?_
     ·refine J.block<|J.seq<|J.region<|J.quiet (Y.move rfl) rfl ?_
      have h:=ck_some h;obtain⟨hc19,h⟩:=h
      refine J.quiet (Y.indexS rfl rfl (Lent.ar (Lent.res 0 rfl) FI64) rfl rfl hc19) rfl<|J.quiet (Y.loadS0 rfl (Lent.ar (Lent.res 0 rfl) FI64) rfl rfl rfl RI64c0 hc19) rfl<|J.quiet (Y.assign rfl) rfl<|J.quiet (Y.assign rfl) rfl<|J.done<|J.thenN<|J.seq<|J.seq<|J.midI (A:=Bool) (B:=Unit) (fun a21=>wave_Legit_k4 p1 r8 a13 (iter (wave_Legit_s1 p1 r8) k15) a21=some r) (fun a21 b22=>[(1,v3),(5,Value.int .i64 (a13)),(6,Value.int .i64 (at' r8 a13)),(20,x10),(21,Value.int .i64 (List.length r8:Int)),(22,Value.int .i64 (a13)),(37,Value.bool (a21))]) (fun a21 b22=>[Ar EI64 x10 r8]) (fun a21 b22=>[Sl RI64 v0 p0.1,S2 RI64I64p v1 z2 p0.2,S2 RI64 v3 z4 p1]) ?_ ?_
      ·refine J.region<|J.quiet (Y.move rfl) rfl<|J.quiet (Y.lss rfl rfl) rfl<|J.quiet (Y.move rfl) rfl ?_
       refine J.guardD (by exact rfl) (by exact rfl) (fun hp37=> ?_) (fun hp37=> ?_)
       ·have h:=ifP hp37 h
        refine J.guardN rfl rfl rfl<|J.guardN rfl rfl rfl<|J.guardN rfl rfl rfl<|J.guardN rfl rfl rfl<|J.guardN rfl rfl rfl<|J.guardN rfl rfl rfl<|J.guardN rfl rfl rfl<|J.quiet (Y.pickT rfl rfl) rfl<|J.done<|J.thenN ?_
        exact J.meetI (true) (()) h SF (SubM.refl _) (LentAll.refl _ _)
       ·have h:=ifN hp37 h
        refine J.guardY rfl (Y.move rfl) rfl<|J.guardY rfl (Y.move rfl) rfl ?_
        have h:=ck_some h;obtain⟨hc38,h⟩:=h
        refine J.guardY rfl (Y.indexN rfl rfl (Lent.fact 2 rfl) rfl rfl hc38) rfl<|J.guardY rfl (Y.loadRow rfl (Lent.fact 2 rfl) rfl rfl hc38) rfl ?_
        have h:=ck_some h;obtain⟨hc39,h⟩:=h
        refine J.guardY rfl (Y.indexS rfl rfl (Lent.el (Lent.fact 2 rfl) hc38.1 hc38.2) rfl rfl hc39) rfl<|J.guardY rfl (Y.loadS0 rfl (Lent.el (Lent.fact 2 rfl) hc38.1 hc38.2) rfl rfl rfl RI64c0 hc39) rfl<|J.guardY rfl (Y.eql rfl rfl) rfl<|J.quiet (Y.pickF rfl rfl) rfl<|J.done<|J.thenN ?_
        exact J.meetI (decide ((at' (at' p1 (at' r8 a13)) (2:Int))=(1:Int))) (()) h SF (SubM.refl _) (LentAll.refl _ _)
      ·clear h
       intro a21 b22 h
       unfold wave_Legit_k4 at h
       refine J.cond (by exact rfl) (fun hp23=> ?_) (fun hp23=> ?_)
       ·have h:=ifP hp23 h
        refine J.exit<|J.thenX<|J.inX<|J.thenN ?_
        exact J.meetI (()) (()) h SF (SubM.refl _) (LentAll.refl _ _)
       ·have h:=ifBN hp23 h
        refine J.skip<|J.thenN<|J.seq<|J.midI (A:=Bool) (B:=Unit) (fun a25=>wave_Legit_k5 a13 (iter (wave_Legit_s1 p1 r8) k15) a25=some r) (fun a25 b26=>[(1,v3),(20,x10),(21,Value.int .i64 (List.length r8:Int)),(22,Value.int .i64 (a13)),(65,Value.bool (a25))]) (fun a25 b26=>[Ar EI64 x10 r8]) (fun a25 b26=>[Sl RI64 v0 p0.1,S2 RI64I64p v1 z2 p0.2,S2 RI64 v3 z4 p1]) ?_ ?_
        ·refine JR.start [0,0,3,7,15,31,0,0,192,448,960,1984,4095,8191,16383,16383,65535,131071,262143,524287,16383,16383,3162111,7356415,15745023,32522239,67108863,134217727] 26 mixedOrders (by decide +kernel) ?_
         refine JR.open (by exact rfl) ?_
         refine JR.qt rfl (SubM.nil) (SubL.nil) (Y.move rfl) HistOk.z<|JR.qt rfl (SubM.nil) (SubL.nil) (Y.move rfl) HistOk.z ?_
         have h:=ck_some h;obtain⟨hc28,h⟩:=h
         refine JR.qt rfl (SubM.nil) (SubL.cons (List.mem_of_getElem? (i:=2) rfl) (SubL.nil)) (Y.indexN rfl rfl (Lent.fact 0 rfl) rfl rfl hc28) HistOk.z<|JR.qt rfl (SubM.nil) (SubL.cons (List.mem_of_getElem? (i:=2) rfl) (SubL.nil)) (Y.loadRow rfl (Lent.fact 0 rfl) rfl rfl hc28) HistOk.z ?_
         have h:=ck_some h;obtain⟨hc29,h⟩:=h
         refine JR.qt rfl (SubM.nil) (SubL.cons (List.mem_of_getElem? (i:=2) rfl) (SubL.nil)) (Y.indexS rfl rfl (Lent.el (Lent.fact 0 rfl) hc28.1 hc28.2) rfl rfl hc29) HistOk.z<|JR.qt rfl (SubM.nil) (SubL.cons (List.mem_of_getElem? (i:=2) rfl) (SubL.nil)) (Y.loadS0 rfl (Lent.el (Lent.fact 0 rfl) hc28.1 hc28.2) rfl rfl rfl RI64c0 hc29) HistOk.z<|JR.qt rfl (SubM.nil) (SubL.nil) (Y.move rfl) HistOk.z<|JR.qt rfl (SubM.nil) (SubL.nil) (Y.move rfl) HistOk.z ?_
         have h:=ck_some h;obtain⟨hc30,h⟩:=h
         refine JR.qt rfl (SubM.nil) (SubL.cons (List.mem_of_getElem? (i:=2) rfl) (SubL.nil)) (Y.indexN rfl rfl (Lent.fact 0 rfl) rfl rfl hc30) HistOk.z<|JR.qt rfl (SubM.nil) (SubL.cons (List.mem_of_getElem? (i:=2) rfl) (SubL.nil)) (Y.loadRow rfl (Lent.fact 0 rfl) rfl rfl hc30) HistOk.z ?_
         have h:=ck_some h;obtain⟨hc31,h⟩:=h
         refine JR.qt rfl (SubM.nil) (SubL.cons (List.mem_of_getElem? (i:=2) rfl) (SubL.nil)) (Y.indexS rfl rfl (Lent.el (Lent.fact 0 rfl) hc30.1 hc30.2) rfl rfl hc31) HistOk.z<|JR.qt rfl (SubM.nil) (SubL.cons (List.mem_of_getElem? (i:=2) rfl) (SubL.nil)) (Y.loadS0 rfl (Lent.el (Lent.fact 0 rfl) hc30.1 hc30.2) rfl rfl rfl RI64c0 hc31) HistOk.z<|JR.qt rfl (SubM.nil) (SubL.nil) (Y.neq rfl rfl) HistOk.z<|JR.qt rfl (SubM.nil) (SubL.nil) (Y.move rfl) HistOk.z ?_
         refine JR.guardD (by exact rfl) (by exact rfl) (by exact rfl) (fun hp32=> ?_) (fun hp32=> ?_)
         ·have h:=ifP hp32 h
          refine JR.guardN rfl rfl rfl rfl<|JR.guardN rfl rfl rfl rfl<|JR.guardN rfl rfl rfl rfl<|JR.guardN rfl rfl rfl rfl<|JR.guardN rfl rfl rfl rfl<|JR.guardN rfl rfl rfl rfl<|JR.guardN rfl rfl rfl rfl<|JR.guardN rfl rfl rfl rfl<|JR.guardN rfl rfl rfl rfl<|JR.guardN rfl rfl rfl rfl<|JR.guardN rfl rfl rfl rfl<|JR.guardN rfl rfl rfl rfl<|JR.tailD 26 rfl rfl<|J.guardN rfl rfl rfl<|J.quiet (Y.pickT rfl rfl) rfl<|J.done<|J.thenN ?_
          exact J.meetI (true) (()) h SF (SubM.refl _) (LentAll.refl _ _)
         ·have h:=ifN hp32 h
          refine JR.qtG rfl (SubM.nil) (SubL.nil) (Y.move rfl) HistOk.z<|JR.qtG rfl (SubM.nil) (SubL.nil) (Y.move rfl) HistOk.z ?_
          have h:=ck_some h;obtain⟨hc33,h⟩:=h
          refine JR.qtG rfl (SubM.nil) (SubL.cons (List.mem_of_getElem? (i:=2) rfl) (SubL.nil)) (Y.indexN rfl rfl (Lent.fact 0 rfl) rfl rfl hc33) HistOk.z<|JR.qtG rfl (SubM.nil) (SubL.cons (List.mem_of_getElem? (i:=2) rfl) (SubL.nil)) (Y.loadRow rfl (Lent.fact 0 rfl) rfl rfl hc33) HistOk.z ?_
          have h:=ck_some h;obtain⟨hc34,h⟩:=h
          refine JR.qtG rfl (SubM.nil) (SubL.cons (List.mem_of_getElem? (i:=2) rfl) (SubL.nil)) (Y.indexS rfl rfl (Lent.el (Lent.fact 0 rfl) hc33.1 hc33.2) rfl rfl hc34) HistOk.z<|JR.qtG rfl (SubM.nil) (SubL.cons (List.mem_of_getElem? (i:=2) rfl) (SubL.nil)) (Y.loadS0 rfl (Lent.el (Lent.fact 0 rfl) hc33.1 hc33.2) rfl rfl rfl RI64c0 hc34) HistOk.z<|JR.qtG rfl (SubM.nil) (SubL.nil) (Y.move rfl) HistOk.z<|JR.qtG rfl (SubM.nil) (SubL.nil) (Y.move rfl) HistOk.z ?_
          have h:=ck_some h;obtain⟨hc35,h⟩:=h
          refine JR.qtG rfl (SubM.nil) (SubL.cons (List.mem_of_getElem? (i:=2) rfl) (SubL.nil)) (Y.indexN rfl rfl (Lent.fact 0 rfl) rfl rfl hc35) HistOk.z<|JR.qtG rfl (SubM.nil) (SubL.cons (List.mem_of_getElem? (i:=2) rfl) (SubL.nil)) (Y.loadRow rfl (Lent.fact 0 rfl) rfl rfl hc35) HistOk.z ?_
          have h:=ck_some h;obtain⟨hc36,h⟩:=h
          refine JR.qtG rfl (SubM.nil) (SubL.cons (List.mem_of_getElem? (i:=2) rfl) (SubL.nil)) (Y.indexS rfl rfl (Lent.el (Lent.fact 0 rfl) hc35.1 hc35.2) rfl rfl hc36) HistOk.z<|JR.qtG rfl (SubM.nil) (SubL.cons (List.mem_of_getElem? (i:=2) rfl) (SubL.nil)) (Y.loadS0 rfl (Lent.el (Lent.fact 0 rfl) hc35.1 hc35.2) rfl rfl rfl RI64c0 hc36) HistOk.z<|JR.tailD 26 rfl rfl<|J.guardY rfl (Y.neq rfl rfl) rfl<|J.quiet (Y.pickF rfl rfl) rfl<|J.done<|J.thenN ?_
          exact J.meetI (decide ((at' (at' p1 a13) (3:Int))≠(at' (at' p1 (at' r8 a13)) (3:Int)))) (()) h SF (SubM.refl _) (LentAll.refl _ _)
        ·clear h
         intro a25 b26 h
         unfold wave_Legit_k5 at h
         refine J.cond (by exact rfl) (fun hp27=> ?_) (fun hp27=> ?_)
         ·have h:=ifP hp27 h
          refine J.seq<|J.region<|J.quiet (Y.assign rfl) rfl<|J.done<|J.thenN<|J.ret<|J.inR<|J.thenR<|J.thenR<|J.inR<|J.thenR ?_
          obtain rfl:=Option.some.inj h
          exact J.retG1 (()) rfl rfl (RV.tmp rfl) (SubM.nil) LentAll.nil
         ·have h:=ifBN hp27 h
          refine J.skip<|J.inN<|J.thenN ?_
          exact J.meetI (()) (()) h SF (SubM.refl _) (LentAll.refl _ _)
     ·clear h
      intro a17 b18 h
      unfold wave_Legit_k3 at h
      refine J.region<|J.quiet (Y.addW rfl rfl) rfl<|J.quiet (Y.move rfl) rfl<|J.done<|J.thenN ?_
      exact J.againI (wI .i64 (a13+(1:Int))) (()) h SF (SubM.refl _) (LentAll.refl _ _)
    ·have h:=ifN hp16 h
     refine J.exit<|J.thenX<|J.thenX<|J.inX<|J.thenN ?_
     exact J.meetI (()) (()) h SF (SubM.nil) (LentAll.refl _ _)
   ·clear h
    intro a6 b7 h
    unfold wave_Legit_k2 at h
    refine J.seq<|J.region<|J.quiet (Y.assign rfl) rfl<|J.done<|J.thenN<|J.ret ?_
    obtain rfl:=Option.some.inj h
    exact J.retG1 (()) rfl rfl (RV.tmp rfl) (SubM.refl _) LentAll.nil
end Go.Proofs.YtdbcpliafeoghaaGreatDoor
end
section
namespace Go.Proofs.YtdbcpliafeoghaaGreatDoor
open Go.Sx
def snapshot_sums_k1  (a8:List (Int)):Option (List (Int)):=
 some (a8)
def snapshot_sums_k2 (a13:Int×List (Int)) (ag12:(Int×List (Int))->Option (List (Int))) (a18:List (Int)):Option (List (Int)):=
 ag12 ((wI .i64 (a13.1+(1:Int))),a18)
def snapshot_sums_s2 (p1:List (List (Int))) (r2:List (Int)) (a13:Int×List (Int)) (ag12:(Int×List (Int))->Option (List (Int))) (a23:Int×List (Int)) (ag22:(Int×List (Int))->Option (List (Int))):Option (List (Int)):=
 if(0:Int)<=a23.1 then(ck (0<=a23.1∧a23.1<(List.length a23.2:Int)) (ck (0<=a13.1∧a13.1<(List.length p1:Int)) (ck (0<=(4:Int)∧(4:Int)<(List.length (at' p1 a13.1):Int)) (ck (0<=a23.1∧a23.1<(List.length a23.2:Int)) (ck (0<=a23.1∧a23.1<(List.length r2:Int)) (ag22 ((at' r2 a23.1),(List.set a23.2 (Int.toNat a23.1) (wI .i64 ((at' a23.2 a23.1)+(at' (at' p1 a13.1) (4:Int))))))))))))else(snapshot_sums_k2 a13 ag12 (a23.2))
def snapshot_sums_s1 (fuel:Nat) (p1:List (List (Int))) (r2:List (Int)) (a13:Int×List (Int)) (ag12:(Int×List (Int))->Option (List (Int))):Option (List (Int)):=
 if a13.1<(List.length p1:Int)then(iter (snapshot_sums_s2 p1 r2 a13 ag12) fuel (a13.1,a13.2))else(snapshot_sums_k1  (a13.2))
def m_snapshot_sums (fuel:Nat) (p0:List (Int)×(List (List (Int×Int)))) (p1:List (List (Int))):Option (List (Int)):=
 Option.bind (m_bfs_Towards fuel ((p0.1,p0.2)) p1 (1:Int)) fun r2=>(ck (0<=(List.length p1:Int)∧(List.length p1:Int)<=1099511627) (iter (snapshot_sums_s1 fuel p1 r2) fuel ((0:Int),(List.replicate (Int.toNat (List.length p1:Int)) (0:Int)))))
theorem body61:HasBody Tryz.prog 61:=Tryz.call61
theorem t_snapshot_sums (fuel:Nat) {p0:List (Int)×(List (List (Int×Int)))} {p1:List (List (Int))} (v0:Value)  (v1:Value)  (z2:List (Value×List (Int×Int)))  (v3:Value)  (z4:List (Value×List (Int))) (r:List (Int)) (h:m_snapshot_sums fuel p0 p1=some r):
  Meets Tryz.prog 61 #[Value.agg #[v0,v1],v3] [Sl RI64 v0 p0.1,S2 RI64I64p v1 z2 p0.2,S2 RI64 v3 z4 p1] (fun x:Value=>x) (fun x l=>Ar EI64 x r::l) (fun _ l=>l):=by
 refine Meets.of (vs:=[Value.agg #[v0,v1],v3]) Tryz.func61 rfl Tryz.ntmps61 rfl fun c=> ?_
 unfold m_snapshot_sums at h
 refine J.seq<|J.region<|J.loud (Loud.box (cs:=[v0,v1]) rfl rfl) rfl fun b1=>J.quiet (Y.assign rfl) rfl<|J.done<|J.thenN<|J.seq<|J.region<|J.quiet (Y.loadBAll 0 rfl rfl rfl rfl) rfl<|J.quiet (Y.move rfl) rfl ?_
 have h:=bnd h;obtain⟨r2,hr3,h⟩:=h
 refine J.loud (Loud.callL body100 (t_bfs_Towards fuel v0 v1 z2 v3 z4 r2 hr3) rfl (LentAll.cons (Lent.fact 0 rfl) (LentAll.cons (Lent.fact 1 rfl) (LentAll.cons (Lent.fact 2 rfl) .nil))) (fun _ _=>rfl)) rfl fun x4=>J.quiet (Y.assign rfl) rfl<|J.done<|J.thenN<|J.seq<|J.region<|J.quiet (Y.move rfl) rfl<|J.quiet (Y.lenN rfl (Lent.fact 2 rfl) rfl) rfl ?_
 have h:=ck_some h;obtain⟨hc5,h⟩:=h
 refine J.loud (Loud.makeS (e:=EI64) (0:Int) rfl rfl rfl rfl hc5 rfl rfl rfl) rfl fun u6=>J.quiet (Y.assign rfl) rfl<|J.done<|J.thenN<|J.seq<|J.midI (A:=List (Int)) (B:=Unit) (fun a8=>snapshot_sums_k1  a8=some r) (fun a8 b9=>[(6,u6)]) (fun a8 b9=>[Ar EI64 u6 a8]) (fun a8 b9=>[Sl RI64 v0 p0.1,S2 RI64I64p v1 z2 p0.2,S2 RI64 v3 z4 p1]) ?_ ?_
 ·refine J.seq<|J.region<|J.quiet (Y.move rfl) rfl<|J.quiet (Y.lenN rfl (Lent.fact 2 rfl) rfl) rfl<|J.quiet (Y.move rfl) rfl<|J.done<|J.thenN<|J.block<|J.loopI (A:=Int×List (Int)) (B:=Unit) (snapshot_sums_s1 fuel p1 r2) (fun a13 b14=>[(1,v3),(5,x4),(6,u6),(16,Value.int .i64 (List.length p1:Int)),(17,Value.int .i64 (a13.1))]) (fun a13 b14=>[Ar EI64 u6 a13.2,Ar EI64 x4 r2]) (fun a13 b14=>[Sl RI64 v0 p0.1,S2 RI64I64p v1 z2 p0.2,S2 RI64 v3 z4 p1]) ((0:Int),(List.replicate (Int.toNat (List.length p1:Int)) (0:Int))) (()) h SF (SubM.cons 0 rfl (SubM.cons 0 rfl (SubM.nil))) (LentAll.refl _ _) ?_
  clear h
  intro k15 a13 b14 h
  unfold snapshot_sums_s1 at h
  refine J.seq<|J.region<|J.quiet (Y.lss rfl rfl) rfl<|J.done<|J.thenN<|J.seq ?_
  refine J.condD (by exact rfl) (fun hp16=> ?_) (fun hp16=> ?_)
  ·have h:=ifP hp16 h
   refine J.skip<|J.thenN<|J.seq<|J.midI (A:=List (Int)) (B:=Unit) (fun a18=>snapshot_sums_k2 a13 (iter (snapshot_sums_s1 fuel p1 r2) k15) a18=some r) (fun a18 b19=>[(1,v3),(5,x4),(6,u6),(16,Value.int .i64 (List.length p1:Int)),(17,Value.int .i64 (a13.1))]) (fun a18 b19=>[Ar EI64 u6 a18,Ar EI64 x4 r2]) (fun a18 b19=>[Sl RI64 v0 p0.1,S2 RI64I64p v1 z2 p0.2,S2 RI64 v3 z4 p1]) ?_ ?_
   ·refine J.block<|J.seq<|J.region<|J.quiet (Y.move rfl) rfl<|J.quiet (Y.assign rfl) rfl<|J.done<|J.thenN<|J.seq<|J.region<|J.quiet (Y.move rfl) rfl<|J.quiet (Y.assign rfl) rfl<|J.done<|J.thenN<|J.block<|J.loopI (A:=Int×List (Int)) (B:=Unit) (snapshot_sums_s2 p1 r2 a13 (iter (snapshot_sums_s1 fuel p1 r2) k15)) (fun a23 b24=>[(1,v3),(5,x4),(6,u6),(7,Value.int .i64 (a13.1)),(8,Value.int .i64 (a23.1)),(16,Value.int .i64 (List.length p1:Int)),(17,Value.int .i64 (a13.1))]) (fun a23 b24=>[Ar EI64 u6 a23.2,Ar EI64 x4 r2]) (fun a23 b24=>[Sl RI64 v0 p0.1,S2 RI64I64p v1 z2 p0.2,S2 RI64 v3 z4 p1]) (a13.1,a13.2) (()) h SF (SubM.refl _) (LentAll.refl _ _) ?_
    clear h
    intro k25 a23 b24 h
    unfold snapshot_sums_s2 at h
    refine J.seq<|J.seq<|J.region<|J.quiet (Y.move rfl) rfl<|J.quiet (Y.geq rfl rfl) rfl<|J.done<|J.thenN ?_
    refine J.condD (by exact rfl) (fun hp26=> ?_) (fun hp26=> ?_)
    ·have h:=ifP hp26 h
     refine J.skip<|J.thenN<|J.seq<|J.block ?_
     refine JR.start [0,0,3,7,0,0,48,112,240,496,1023,2047,4095] 10 mixedOrders (by decide +kernel) ?_
     refine JR.open (by exact rfl) ?_
     refine JR.qt rfl (SubM.nil) (SubL.nil) (Y.move rfl) HistOk.z<|JR.qt rfl (SubM.nil) (SubL.nil) (Y.move rfl) HistOk.z ?_
     have h:=ck_some h;obtain⟨hc27,h⟩:=h
     refine JR.qt rfl (SubM.cons 0 rfl (SubM.nil)) (SubL.nil) (Y.indexS rfl rfl (Lent.ar (Lent.res 0 rfl) FI64) rfl rfl hc27) HistOk.z<|JR.qt rfl (SubM.cons 0 rfl (SubM.nil)) (SubL.nil) (Y.loadS0 rfl (Lent.ar (Lent.res 0 rfl) FI64) rfl rfl rfl RI64c0 hc27) HistOk.z<|JR.qt rfl (SubM.nil) (SubL.nil) (Y.move rfl) HistOk.z<|JR.qt rfl (SubM.nil) (SubL.nil) (Y.move rfl) HistOk.z ?_
     have h:=ck_some h;obtain⟨hc28,h⟩:=h
     refine JR.qt rfl (SubM.nil) (SubL.cons (List.mem_of_getElem? (i:=2) rfl) (SubL.nil)) (Y.indexN rfl rfl (Lent.fact 0 rfl) rfl rfl hc28) HistOk.z<|JR.qt rfl (SubM.nil) (SubL.cons (List.mem_of_getElem? (i:=2) rfl) (SubL.nil)) (Y.loadRow rfl (Lent.fact 0 rfl) rfl rfl hc28) HistOk.z ?_
     have h:=ck_some h;obtain⟨hc29,h⟩:=h
     refine JR.qt rfl (SubM.nil) (SubL.cons (List.mem_of_getElem? (i:=2) rfl) (SubL.nil)) (Y.indexS rfl rfl (Lent.el (Lent.fact 0 rfl) hc28.1 hc28.2) rfl rfl hc29) HistOk.z<|JR.qt rfl (SubM.nil) (SubL.cons (List.mem_of_getElem? (i:=2) rfl) (SubL.nil)) (Y.loadS0 rfl (Lent.el (Lent.fact 0 rfl) hc28.1 hc28.2) rfl rfl rfl RI64c0 hc29) HistOk.z<|JR.tailD 10 rfl rfl<|J.quiet (Y.addW rfl rfl) rfl ?_
     have h:=ck_some h;obtain⟨hc30,h⟩:=h
     refine J.quiet (Y.indexS rfl rfl (Lent.ar (Lent.res 0 rfl) FI64) rfl rfl hc30) rfl<|J.storeS 0 (wI .i64 ((at' a23.2 a23.1)+(at' (at' p1 a13.1) (4:Int)))) hc30 rfl rfl rfl rfl rfl rfl rfl<|J.done<|J.inN<|J.thenN<|J.region<|J.quiet (Y.move rfl) rfl<|J.quiet (Y.move rfl) rfl ?_
     have h:=ck_some h;obtain⟨hc31,h⟩:=h
     refine J.quiet (Y.indexS rfl rfl (Lent.ar (Lent.res 1 rfl) FI64) rfl rfl hc31) rfl<|J.quiet (Y.loadS0 rfl (Lent.ar (Lent.res 1 rfl) FI64) rfl rfl rfl RI64c0 hc31) rfl<|J.quiet (Y.assign rfl) rfl<|J.done<|J.thenN ?_
     exact J.againI ((at' r2 a23.1),(List.set a23.2 (Int.toNat a23.1) (wI .i64 ((at' a23.2 a23.1)+(at' (at' p1 a13.1) (4:Int)))))) (()) h SF (SubM.refl _) (LentAll.refl _ _)
    ·have h:=ifN hp26 h
     refine J.exit<|J.thenX<|J.thenX<|J.inX<|J.inN<|J.thenN ?_
     exact J.meetI (a23.2) (()) h SF (SubM.refl _) (LentAll.refl _ _)
   ·clear h
    intro a18 b19 h
    unfold snapshot_sums_k2 at h
    refine J.region<|J.quiet (Y.addW rfl rfl) rfl<|J.quiet (Y.move rfl) rfl<|J.done<|J.thenN ?_
    exact J.againI ((wI .i64 (a13.1+(1:Int))),a18) (()) h SF (SubM.refl _) (LentAll.refl _ _)
  ·have h:=ifN hp16 h
   refine J.exit<|J.thenX<|J.thenX<|J.inX<|J.thenN ?_
   exact J.meetI (a13.2) (()) h SF (SubM.cons 0 rfl (SubM.nil)) (LentAll.refl _ _)
 ·clear h
  intro a8 b9 h
  unfold snapshot_sums_k1 at h
  refine J.seq<|J.region<|J.quiet (Y.move rfl) rfl<|J.quiet (Y.assign rfl) rfl<|J.done<|J.thenN<|J.ret ?_
  obtain rfl:=Option.some.inj h
  exact J.retG1 (u6) rfl rfl (RV.tmp rfl) (SubM.refl _) LentAll.nil
end Go.Proofs.YtdbcpliafeoghaaGreatDoor
end
