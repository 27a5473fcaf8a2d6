/- Models of functions with their proofs, by program (gen/xt.py), and plain laws, in one text. Conditions: none. -/
import Derived.Test.YtfimaabbclepbaaGreatZCMa3
import Derived.Test.YtfimaabbclepbaaGreatZCMa2
import Derived.Lib.Strings
set_option linter.unusedVariables false
set_option linter.unusedSimpArgs false
set_option maxHeartbeats 4000000
set_option maxRecDepth 20000
section
namespace Go.Proofs.YtfimaabbclepbaaGreat
open Go Go.Sx
def memb (c:List (List Int)) (v:Nat):Bool:=decide (val c v 0=1)
def nbr (g:GR) (s:Nat) (v i:Nat):Bool:=s.testBit (lnk (row g v) i).1.toNat
def IndOk (g:GR) (c:List (List Int)) (d:Nat):Prop:=VG g∧Cf g c [1]∧∀v,v<g.2.length->d.testBit v=false->((∃i,i<(row g v).length∧memb c (lnk (row g v) i).1.toNat=true)↔memb c v=false)
theorem mem01 {g:GR} {c:List (List Int)} (hC:Cf g c [1]) {v:Nat} (hv:v<g.2.length):0<=at' (at' c (v:Int)) 0∧at' (at' c (v:Int)) 0<=1:=by
 have h:=hC.ok v hv 0 (by simp)
 have e:at' [(1:Int)] ((0:Nat):Int)=1:=rfl
 unfold InTop at h
 rw[e,if_neg (by omega)]at h
 exact h
theorem true_eq {g:GR} {c:List (List Int)} (hV:VG g) (hC:Cf g c [1]):m_independent_True 1000 c 0=some ((maskN (memb c) g.2.length:Nat):Int):=by
 have h24:=hV.n24
 have hcl:=hC.len
 have hrow:∀u:Nat,u<g.2.length->(at' c (u:Int)).length=1:=fun u hu=>hC.row u hu
 unfold m_independent_True
 refine iter_for (F:=fun v:Nat=>(((maskN (memb c) v:Nat):Int),(v:Int))) g.2.length (fun v ag hv=> ?_) (fun ag=> ?_) 1000 (by omega)
 ·have h1:=hrow v hv
  have h01:=mem01 hC hv
  unfold independent_True_s1
  simp only
  rw[if_pos (by omega),ckT (by omega),ckT (by omega),ckT (by omega),wInc (by omega)]
  have hm:=maskN32 (memb c) (k:=v) (by omega)
  have hmb:memb c v=decide (at' (at' c (v:Int)) 0=1):=rfl
  have hcase:at' (at' c (v:Int)) 0=0∨at' (at' c (v:Int)) 0=1:=by omega
  rcases hcase with h|h
  ·rw[h,show wI .u32 (0:Int)=0 from rfl,show bShl .u32 (0:Int) (v:Int)=0 by
    show IntKind.u32.wrap (0*_)=0
    rw[Int.zero_mul];rfl,show(0:Int)=((0:Nat):Int)from rfl,bOrN hm (by omega),Nat.or_zero]
   rw[h]at hmb
   simp[maskN,hmb]
  ·rw[h,show wI .u32 (1:Int)=1 from rfl,bOrBit hm (by omega)]
   rw[h]at hmb
   simp[maskN,hmb]
 ·unfold independent_True_s1 independent_True_k1
  simp only
  rw[if_neg (by omega)]
theorem ones_eq {g:GR} {c:List (List Int)} (hV:VG g) (hC:Cf g c [1]):m_ref31_Ones 1000 c 0=some ((maskN (memb c) g.2.length:Nat):Int):=by
 have h24:=hV.n24
 have hcl:=hC.len
 have hrow:∀u:Nat,u<g.2.length->(at' c (u:Int)).length=1:=fun u hu=>hC.row u hu
 unfold m_ref31_Ones
 refine iter_for (F:=fun v:Nat=>(((maskN (memb c) v:Nat):Int),(v:Int))) g.2.length (fun v ag hv=> ?_) (fun ag=> ?_) 1000 (by omega)
 ·have h1:=hrow v hv
  have hm:=maskN32 (memb c) (k:=v) (by omega)
  have hmb:memb c v=decide (at' (at' c (v:Int)) 0=1):=rfl
  unfold ref31_Ones_s1 ref31_Ones_k2
  simp only
  rw[if_pos (by omega),ckT (by omega),ckT (by omega),wU64 (by omega),wInc (by omega)]
  by_cases h:at' (at' c (v:Int)) 0=1
  ·rw[if_pos h,ckT (by omega),bOrBit hm (by omega)]
   simp[maskN,hmb,h]
  ·rw[if_neg h]
   simp[maskN,hmb,h]
 ·unfold ref31_Ones_s1 ref31_Ones_k1
  simp only
  rw[if_neg (by omega)]
theorem neighbours_eq {g:GR} (hV:VG g) {s:Nat} (hs:s<4294967296):m_ref01_Neighbours 1000 g (s:Int)=some ((maskN (fun v=>anyN (nbr g s v) (row g v).length) g.2.length:Nat):Int):=by
 have h24:=hV.n24
 unfold m_ref01_Neighbours
 rw[(refValid_gen g).1 hV,bindS rfl,if_neg (by simp)]
 refine iter_for (F:=fun v:Nat=>(((maskN (fun v=>anyN (nbr g s v) (row g v).length) v:Nat):Int),(v:Int))) g.2.length (fun v ag hv=> ?_) (fun ag=> ?_) 1000 (by omega)
 ·unfold ref01_Neighbours_s1
  simp only
  rw[if_pos (by omega)]
  have hdeg:(at' g.2 (v:Int)).length<g.2.length:=(hV.node v hv).deg
  have hm:=maskN32 (fun v=>anyN (nbr g s v) (row g v).length) (k:=v) (by omega)
  have key:=iter_for (step:=ref01_Neighbours_s2 1000 g (s:Int) (((maskN (fun v=>anyN (nbr g s v) (row g v).length) v:Nat):Int),(v:Int)) ag) (K:=ag (((addB (anyN (nbr g s v) (row g v).length) (maskN (fun v=>anyN (nbr g s v) (row g v).length) v) v:Nat):Int),(v:Int)+1)) (F:=fun i:Nat=>(((addB (anyN (nbr g s v) i) (maskN (fun v=>anyN (nbr g s v) (row g v).length) v) v:Nat):Int),(i:Int))) (row g v).length (fun i ag2 hi=> ?_) (fun ag2=> ?_) 1000 (by show(at' g.2 (v:Int)).length<1000;omega)
  ·exact key
  ·obtain⟨u,hu,hue⟩:=hV.to hv hi
   have hue':(at' (at' g.2 (v:Int)) (i:Int)).1=(u:Int):=hue
   have hi':i<(at' g.2 (v:Int)).length:=hi
   unfold ref01_Neighbours_s2 ref01_Neighbours_k3
   simp only
   rw[ckT (by omega),if_pos (by omega),ckT (by omega),ckT (by omega),hue',has_eq hs (by omega),bindS rfl,wU64 (by omega),wInc (by omega)]
   have hnb:nbr g s v i=s.testBit u:=by unfold nbr;rw[hue];rfl
   have ha:=addB_lt (q:=anyN (nbr g s v) i) hm (show v<32 by omega)
   by_cases hq:s.testBit u=true
   ·rw[if_pos hq,ckT (by omega),bOrBit ha (by omega)]
    have:anyN (nbr g s v) (i+1)=true:=by simp[anyN,hnb,hq]
    have e:addB (anyN (nbr g s v) i) (maskN (fun v=>anyN (nbr g s v) (row g v).length) v) v ||| 2^v=addB true (maskN (fun v=>anyN (nbr g s v) (row g v).length) v) v:=by
     unfold addB
     split
     ·exact or_idem _ _
     ·rfl
    rw[this,e];rfl
   ·rw[if_neg hq]
    have:anyN (nbr g s v) (i+1)=anyN (nbr g s v) i:=by simp[anyN,hnb,hq]
    simp only[this]
    rfl
  ·unfold ref01_Neighbours_s2 ref01_Neighbours_k2
   simp only
   rw[ckT (by omega),if_neg (by show¬(((row g v).length:Nat):Int)<((row g v).length:Int);omega),wInc (by omega)]
 ·unfold ref01_Neighbours_s1 ref01_Neighbours_k1
  simp only
  rw[if_neg (by omega)]
abbrev covN (g:GR) (c:List (List Int)):Nat:=maskN (fun v=>anyN (nbr g (maskN (memb c) g.2.length) v) (row g v).length) g.2.length
theorem covN_bit {g:GR} {c:List (List Int)} (hV:VG g) {v:Nat} (hv:v<g.2.length):(covN g c).testBit v=true↔∃i,i<(row g v).length∧memb c (lnk (row g v) i).1.toNat=true:=by
 rw[maskN_bit]
 simp only[hv,decide_true,Bool.true_and]
 rw[anyN_iff]
 constructor
 ·rintro⟨i,hi,h⟩
  unfold nbr at h
  rw[maskN_bit]at h
  simp only[Bool.and_eq_true]at h
  exact⟨i,hi,h.2⟩
 ·rintro⟨i,hi,h⟩
  obtain⟨u,hu,hue⟩:=hV.to hv hi
  refine⟨i,hi,?_⟩
  unfold nbr
  rw[maskN_bit,h,hue]
  simpa using hu
theorem covered_eq {g:GR} {c:List (List Int)} (hV:VG g) (d:Int):crash_Independent_k3 1000 g d ((maskN (memb c) g.2.length:Nat):Int) ()=crash_Independent_k2 1000 g d ((maskN (memb c) g.2.length:Nat):Int) ((covN g c:Nat):Int):=by
 have h24:=hV.n24
 have hs:=maskN32 (memb c) (k:=g.2.length) (by omega)
 unfold crash_Independent_k3 covN
 generalize hS:maskN (memb c) g.2.length=s at hs
 refine iter_for (F:=fun v:Nat=>((v:Int),((maskN (fun v=>anyN (nbr g s v) (row g v).length) v:Nat):Int))) g.2.length (fun v ag hv=> ?_) (fun ag=> ?_) 1000 (by omega)
 ·unfold crash_Independent_s1
  simp only
  rw[if_pos (by omega),ckT (by omega)]
  have hdeg:(at' g.2 (v:Int)).length<g.2.length:=(hV.node v hv).deg
  have hm:=maskN32 (fun v=>anyN (nbr g s v) (row g v).length) (k:=v) (by omega)
  have key:=iter_for (step:=crash_Independent_s2 g (s:Int) ((v:Int),((maskN (fun v=>anyN (nbr g s v) (row g v).length) v:Nat):Int)) ag) (K:=ag ((v:Int)+1,((addB (anyN (nbr g s v) (row g v).length) (maskN (fun v=>anyN (nbr g s v) (row g v).length) v) v:Nat):Int))) (F:=fun i:Nat=>((i:Int),((addB (anyN (nbr g s v) i) (maskN (fun v=>anyN (nbr g s v) (row g v).length) v) v:Nat):Int))) (row g v).length (fun i ag2 hi=> ?_) (fun ag2=> ?_) 1000 (by show(at' g.2 (v:Int)).length<1000;omega)
  ·exact key
  ·obtain⟨u,hu,hue⟩:=hV.to hv hi
   have hue':(at' (at' g.2 (v:Int)) (i:Int)).1=(u:Int):=hue
   have hi':i<(at' g.2 (v:Int)).length:=hi
   unfold crash_Independent_s2 crash_Independent_k5
   simp only
   rw[if_pos (by omega),ckT (by omega),hue',ckT (by omega),wInc (by omega)]
   have hnb:nbr g s v i=s.testBit u:=by unfold nbr;rw[hue];rfl
   have ha:=addB_lt (q:=anyN (nbr g s v) i) hm (show v<32 by omega)
   by_cases hq:s.testBit u=true
   ·rw[if_pos ((hasBit (by omega) hs).2 hq),ckT (by omega),bOrBit ha (by omega)]
    have:anyN (nbr g s v) (i+1)=true:=by simp[anyN,hnb,hq]
    have e:addB (anyN (nbr g s v) i) (maskN (fun v=>anyN (nbr g s v) (row g v).length) v) v ||| 2^v=addB true (maskN (fun v=>anyN (nbr g s v) (row g v).length) v) v:=by
     unfold addB
     split
     ·exact or_idem _ _
     ·rfl
    rw[this,e];rfl
   ·rw[if_neg fun h=>hq ((hasBit (by omega) hs).1 h)]
    have:anyN (nbr g s v) (i+1)=anyN (nbr g s v) i:=by simp[anyN,hnb,hq]
    simp only[this]
    rfl
  ·unfold crash_Independent_s2 crash_Independent_k4
   simp only
   rw[if_neg (by show¬(((row g v).length:Nat):Int)<((row g v).length:Int);omega),wInc (by omega)]
 ·unfold crash_Independent_s1
  simp only
  rw[if_neg (by omega)]
theorem all_bit {n i:Nat}:(2^n - 1).testBit i=decide (i<n):=Nat.testBit_two_pow_sub_one n i
theorem independent_eq (g:GR) (c:List (List Int)) {d:Nat} (hd:d<4294967296):(IndOk g c d->m_crash_Independent 1000 g c (d:Int)=some true)∧(¬IndOk g c d->m_crash_Independent 1000 g c (d:Int)=some false):=by
 unfold m_crash_Independent
 by_cases hV:VG g
 rotate_left
 ·rw[(valid_gen g).2 hV,bindS rfl,if_pos (by simp)]
  exact⟨fun h=>absurd h.1 hV,fun _=>rfl⟩
 rw[(valid_gen g).1 hV,bindS rfl,if_neg (by simp)]
 have h24:=hV.n24
 have hcf:=configuration_eq hV c [1] (by simp)
 by_cases hC:Cf g c [1]
 rotate_left
 ·rw[hcf.2 hC,bindS rfl]
  exact⟨fun h=>absurd h.2.1 hC,fun _=>rfl⟩
 rw[hcf.1 hC,bindS rfl]
 unfold crash_Independent_k1
 rw[if_neg (by simp),true_eq hV hC,bindS rfl,covered_eq hV]
 unfold crash_Independent_k2
 rw[all_eq hV,bindS rfl]
 have hp:=pow32 (show g.2.length<32 by omega)
 have hm:=maskN32 (memb c) (k:=g.2.length) (by omega)
 have hc:=maskN32 (fun v=>anyN (nbr g (maskN (memb c) g.2.length) v) (row g v).length) (k:=g.2.length) (by omega)
 have ha:2^g.2.length - 1<4294967296:=by omega
 rw[bAndNotN,bAndN hc (diffN_lt _ _),bAndNotN]
 have key:(((covN g c &&& diffN (2^g.2.length - 1) d:Nat):Int)=((diffN (diffN (2^g.2.length - 1) d) (maskN (memb c) g.2.length):Nat):Int))↔IndOk g c d:=by
  constructor
  ·intro h
   have h:covN g c &&& diffN (2^g.2.length - 1) d=diffN (diffN (2^g.2.length - 1) d) (maskN (memb c) g.2.length):=Int.ofNat.inj h
   refine⟨hV,hC,fun v hv hb=> ?_⟩
   have hb2:=congrArg (fun a=>Nat.testBit a v) h
   simp only[Nat.testBit_and,diffN_bit ha hd,diffN_bit (diffN_lt _ _) hm,all_bit,hv,hb,maskN_bit (memb c),decide_true,Bool.true_and,Bool.not_false,Bool.and_true]at hb2
   rw[<-covN_bit hV hv,hb2]
   cases memb c v<;>simp
  ·rintro⟨_,_,h⟩
   congr 1
   refine nat_ext fun v=> ?_
   simp only[Nat.testBit_and,diffN_bit ha hd,diffN_bit (diffN_lt _ _) hm,all_bit,maskN_bit (memb c)]
   by_cases hv:v<g.2.length
   ·cases hb:d.testBit v with
    |true=>simp
    | false =>
     have h1:=h v hv hb
     rw[<-covN_bit hV hv]at h1
     simp only[hv,decide_true,Bool.true_and,Bool.not_false,Bool.and_true]
     cases hmv:memb c v with
     |true=>
      rw[hmv]at h1
      cases hcv:(covN g c).testBit v with
      |true=>have:=h1.1 hcv;cases this
      |false=>rfl
     |false=>rw[h1.2 hmv];rfl
   ·simp[hv]
 exact⟨fun h=>by rw[decide_eq_true (key.2 h)],fun h=>by rw[decide_eq_false fun h'=>h (key.1 h')]⟩

def varM:List Var:=[(ByteArray.mk #[109],2,0,0,0,0)]
theorem vars31:m_ref31_Vars 1000=some varM:=rfl
theorem small31:∀x,x<varM.length->VarSmall (at' varM (x:Int)):=by
 intro x hx
 obtain rfl:x=0:=by simp[varM]at hx;exact hx
 exact⟨by decide,by decide,by decide⟩
theorem rcf31 {g:GR} {c:List (List Int)}:RCf g c varM↔Cf g c [1]:=by
 refine rcf_iff rfl fun v x hv hx a=> ?_
 obtain rfl:x=0:=by simp at hx;exact hx
 have e1:at' varM ((0:Nat):Int)=(ByteArray.mk #[109],2,0,0,0,0):=rfl
 have e2:at' [(1:Int)] ((0:Nat):Int)=1:=rfl
 rw[e1,e2]
 unfold lo hi InTop
 simp
theorem refIndependent_eq (g:GR) (c:List (List Int)) {d:Nat} (hd:d<4294967296):(IndOk g c d->m_ref44_Independent 1000 g c (d:Int)=some true)∧(¬IndOk g c d->m_ref44_Independent 1000 g c (d:Int)=some false):=by
 unfold m_ref44_Independent
 rw[vars31,bindS rfl]
 by_cases hVC:VG g∧RCf g c varM
 rotate_left
 ·rw[(refConfig_eq g c varM (by decide) small31).2 hVC,bindS rfl]
  exact⟨fun h=>absurd ⟨h.1,rcf31.2 h.2.1⟩ hVC,fun _=>rfl⟩
 obtain⟨hV,hC⟩:=hVC
 have hC:=rcf31.1 hC
 have h24:=hV.n24
 have hcl:=hC.len
 have hm:=maskN32 (memb c) (k:=g.2.length) (by omega)
 have hc:=maskN32 (fun v=>anyN (nbr g (maskN (memb c) g.2.length) v) (row g v).length) (k:=g.2.length) (by omega)
 rw[(refConfig_eq g c varM (by decide) small31).1 ⟨hV,rcf31.2 hC⟩,bindS rfl,if_neg (by simp),ones_eq hV hC,bindS rfl,neighbours_eq hV hm,bindS rfl,bAndN hm hc,hcl]
 obtain⟨_,hra,ma,rfl,hma,hab⟩:=refAll_ok (n:=g.2.length) h24
 have key1:(bAndNot .u32 ((maskN (memb c) g.2.length &&& covN g c:Nat):Int) (d:Int)=0)↔∀v,v<g.2.length->d.testBit v=false->¬((covN g c).testBit v=true∧memb c v=true):=by
  rw[bAndNot0,N32_nat (and_lt hm),N32_nat hd]
  constructor
  ·rintro h v hv hb ⟨h1,h2⟩
   have:=h v (by rw[Nat.testBit_and,maskN_bit (memb c),h1,h2];simp[hv])
   rw[hb]at this;cases this
  ·intro h v hv
   rw[Nat.testBit_and,maskN_bit (memb c)]at hv
   simp only[Bool.and_eq_true,decide_eq_true_eq]at hv
   cases hb:d.testBit v with
   |true=>rfl
   |false=>exact absurd ⟨hv.2,hv.1.2⟩ (h v hv.1.1 hb)
 have key2:(bAnd .u32 (bOr .u32 (bOr .u32 ((maskN (memb c) g.2.length:Nat):Int) ((covN g c:Nat):Int)) (d:Int)) (ma:Int)=(ma:Int))↔∀v,v<g.2.length->d.testBit v=false->(covN g c).testBit v=true∨memb c v=true:=by
  rw[bOrN hm hc,bOrN (or_lt hm hc) hd,bAndN (or_lt (or_lt hm hc) hd) hma]
  constructor
  ·intro h v hv hb
   have h:=Int.ofNat.inj h
   have hb2:=congrArg (fun a=>Nat.testBit a v) h
   simp only[Nat.testBit_and,Nat.testBit_or,maskN_bit (memb c),hv,hb,(hab v).2 hv,decide_true,Bool.true_and,Bool.and_true,Bool.or_false,Bool.or_eq_true]at hb2
   exact hb2.symm
  ·intro h
   congr 1
   refine nat_ext fun v=> ?_
   simp only[Nat.testBit_and,Nat.testBit_or,maskN_bit (memb c)]
   by_cases hv:v<g.2.length
   ·rw[(hab v).2 hv]
    cases hb:d.testBit v with
    |true=>simp
    |false=>
     rcases h v hv hb with h|h<;>simp[h,hv]
   ·have:ma.testBit v=false:=by
     cases hq:ma.testBit v with
     |false=>rfl
     |true=>exact absurd ((hab v).1 hq) hv
    simp[this]
 have iff:IndOk g c d↔(∀v,v<g.2.length->d.testBit v=false->¬((covN g c).testBit v=true∧memb c v=true))∧∀v,v<g.2.length->d.testBit v=false->(covN g c).testBit v=true∨memb c v=true:=by
  constructor
  ·rintro⟨_,_,h⟩
   refine⟨fun v hv hb ⟨h1,h2⟩=> ?_,fun v hv hb=> ?_⟩
   ·have:=(h v hv hb).1 ((covN_bit hV hv).1 h1)
    rw[h2]at this;cases this
   ·cases hmv:memb c v with
    |true=>exact .inr rfl
    |false=>exact .inl ((covN_bit hV hv).2 ((h v hv hb).2 hmv))
  ·rintro⟨h1,h2⟩
   refine⟨hV,hC,fun v hv hb=> ?_⟩
   rw[<-covN_bit hV hv]
   constructor
   ·intro h
    cases hmv:memb c v with
    |false=>rfl
    |true=>exact absurd ⟨h,hmv⟩ (h1 v hv hb)
   ·intro h
    rcases h2 v hv hb with h'|h'
    ·exact h'
    ·rw[h]at h';cases h'
 rw[iff]
 unfold ref44_Independent_k1
 by_cases q1:∀v,v<g.2.length->d.testBit v=false->¬((covN g c).testBit v=true∧memb c v=true)
 ·rw[if_pos (key1.2 q1),hra,bindS rfl,bindS rfl]
  exact⟨fun h=>by rw[decide_eq_true (key2.2 h.2)],fun h=>by rw[decide_eq_false fun h'=>h ⟨q1,key2.1 h'⟩]⟩
 ·rw[if_neg fun h=>q1 (key1.1 h)]
  exact⟨fun h=>absurd h.1 q1,fun _=>rfl⟩
end Go.Proofs.YtfimaabbclepbaaGreat
end
section
namespace Go.Proofs.YtfimaabbclepbaaGreat
open Go.Sx
def m_bfs_Fit (fuel:Nat) (p0:List (Int)×(List (List (Int×Int)))):Option (Bool):=
 Option.bind (m_graph_Connected fuel ((p0.1,p0.2))) fun r2=>(some (r2))
theorem body32:HasBody Tryz.prog 32:=Tryz.call32
theorem t_bfs_Fit (fuel:Nat) {p0:List (Int)×(List (List (Int×Int)))} (v0:Value)  (v1:Value)  (z2:List (Value×List (Int×Int))) (r:Bool) (h:m_bfs_Fit fuel p0=some r):
  Meets Tryz.prog 32 #[Value.agg #[v0,v1]] [Sl RI64 v0 p0.1,S2 RI64I64p v1 z2 p0.2] (fun x:Unit=>Value.bool (r)) (fun x l=>l) (fun _ l=>l):=by
 refine Meets.of (vs:=[Value.agg #[v0,v1]]) Tryz.func32 rfl Tryz.ntmps32 rfl fun c=> ?_
 unfold m_bfs_Fit at h
 refine J.seq<|J.region<|J.loud (Loud.box (cs:=[v0,v1]) rfl rfl) rfl fun b1=>J.quiet (Y.assign rfl) rfl<|J.done<|J.thenN<|J.seq<|J.region<|J.quiet (Y.loadBAll 0 rfl rfl rfl rfl) rfl ?_
 have h:=bnd h;obtain⟨r2,hr3,h⟩:=h
 refine J.loud (Loud.callL body53 (t_graph_Connected fuel v0 v1 z2 r2 hr3) rfl (LentAll.cons (Lent.fact 0 rfl) (LentAll.cons (Lent.fact 1 rfl) .nil)) (fun _ _=>rfl)) rfl fun x4=>J.quiet (Y.assign rfl) rfl<|J.done<|J.thenN<|J.ret ?_
 obtain rfl:=Option.some.inj h
 exact J.retG1 (()) rfl rfl (RV.tmp rfl) (SubM.nil) LentAll.nil
end Go.Proofs.YtfimaabbclepbaaGreat
end
section
namespace Go.Proofs.YtfimaabbclepbaaGreat
open Go.Sx
def crash_Distances_k3  (a17:List (Int)):Option (List (Int)):=
 some (a17)
def crash_Distances_k4 (a23:Int×List (Int)) (ag22:(Int×List (Int))->Option (List (Int))) (a29:List (Int)):Option (List (Int)):=
 ag22 ((wI .i64 (a23.1+(1:Int))),a29)
def crash_Distances_k6 (a41:Int×List (Int)) (ag40:(Int×List (Int))->Option (List (Int))) (a46:List (Int)):Option (List (Int)):=
 ag40 ((wI .i64 (a41.1+(1:Int))),a46)
def crash_Distances_k7 (a52:Int×List (Int)) (ag51:(Int×List (Int))->Option (List (Int))) (a57:List (Int)):Option (List (Int)):=
 ag51 ((wI .i64 (a52.1+(1:Int))),a57)
def crash_Distances_s3 (p0:List (Int)×(List (List (Int×Int)))) (p2:Int) (a41:Int×List (Int)) (ag40:(Int×List (Int))->Option (List (Int))) (a52:Int×List (Int)) (ag51:(Int×List (Int))->Option (List (Int))):Option (List (Int)):=
 if a52.1<(List.length (at' p0.2 a41.1):Int)then(ck (0<=a52.1∧a52.1<(List.length (at' p0.2 a41.1):Int)) (ck (0<=a41.1) (if(bAnd .u32 (bShr .u32 p2 a41.1) (1:Int))=(0:Int)then(ck (0<=a41.1∧a41.1<(List.length a52.2:Int)) (ck (0<=((at' (at' p0.2 a41.1) a52.1).1)∧((at' (at' p0.2 a41.1) a52.1).1)<(List.length a52.2:Int)) (ck (0<=a41.1∧a41.1<(List.length a52.2:Int)) (crash_Distances_k7 a52 ag51 (List.set a52.2 (Int.toNat a41.1) (min (at' a52.2 a41.1) (wI .i64 ((at' a52.2 ((at' (at' p0.2 a41.1) a52.1).1))+(1:Int)))))))))else(crash_Distances_k7 a52 ag51 (a52.2)))))else(crash_Distances_k6 a41 ag40 (a52.2))
def crash_Distances_s2 (fuel:Nat) (p0:List (Int)×(List (List (Int×Int)))) (p2:Int) (a23:Int×List (Int)) (ag22:(Int×List (Int))->Option (List (Int))) (a41:Int×List (Int)) (ag40:(Int×List (Int))->Option (List (Int))):Option (List (Int)):=
 if a41.1<(List.length p0.2:Int)then(ck (0<=a41.1∧a41.1<(List.length p0.2:Int)) (iter (crash_Distances_s3 p0 p2 a41 ag40) fuel ((0:Int),a41.2)))else(crash_Distances_k4 a23 ag22 (a41.2))
def crash_Distances_k5 (fuel:Nat) (p0:List (Int)×(List (List (Int×Int)))) (p2:Int) (a23:Int×List (Int)) (ag22:(Int×List (Int))->Option (List (Int))) (a32:Unit):Option (List (Int)):=
 iter (crash_Distances_s2 fuel p0 p2 a23 ag22) fuel ((0:Int),a23.2)
def crash_Distances_s1 (fuel:Nat) (p0:List (Int)×(List (List (Int×Int)))) (p2:Int) (a23:Int×List (Int)) (ag22:(Int×List (Int))->Option (List (Int))):Option (List (Int)):=
 if a23.1<(List.length p0.1:Int)then(crash_Distances_k5 fuel p0 p2 a23 ag22 (()))else(crash_Distances_k3  (a23.2))
def crash_Distances_k2 (fuel:Nat) (p0:List (Int)×(List (List (Int×Int)))) (p2:Int) (a13:List (Int)):Option (List (Int)):=
 iter (crash_Distances_s1 fuel p0 p2) fuel ((0:Int),a13)
def crash_Distances_k8 (a71:Int×List (Int)) (ag70:(Int×List (Int))->Option (List (Int))) (a76:List (Int)):Option (List (Int)):=
 ag70 ((wI .i64 (a71.1+(1:Int))),a76)
def crash_Distances_s4 (fuel:Nat) (p0:List (Int)×(List (List (Int×Int)))) (p1:List (List (Int))) (p2:Int) (a71:Int×List (Int)) (ag70:(Int×List (Int))->Option (List (Int))):Option (List (Int)):=
 if a71.1<(List.length (List.replicate (Int.toNat (List.length p0.1:Int)) (0:Int)):Int)then(ck (0<=a71.1) (if(bAnd .u32 (bShr .u32 p2 a71.1) (1:Int))=(1:Int)then(ck (0<=a71.1∧a71.1<(List.length p1:Int)) (ck (0<=(0:Int)∧(0:Int)<(List.length (at' p1 a71.1):Int)) (ck (0<=a71.1∧a71.1<(List.length a71.2:Int)) (crash_Distances_k8 a71 ag70 (List.set a71.2 (Int.toNat a71.1) (at' (at' p1 a71.1) (0:Int)))))))else(if(0:Int)<a71.1 then(ck (0<=a71.1∧a71.1<(List.length a71.2:Int)) (crash_Distances_k8 a71 ag70 (List.set a71.2 (Int.toNat a71.1) (List.length p0.1:Int))))else(crash_Distances_k8 a71 ag70 (a71.2)))))else(crash_Distances_k2 fuel p0 p2 (a71.2))
def crash_Distances_k1 (fuel:Nat) (p0:List (Int)×(List (List (Int×Int)))) (p1:List (List (Int))) (p2:Int) (a5:Bool):Option (List (Int)):=
 if a5=true then(some ([]:List Int))else(ck (0<=(List.length p0.1:Int)∧(List.length p0.1:Int)<=1099511627) (iter (crash_Distances_s4 fuel p0 p1 p2) fuel ((0:Int),(List.replicate (Int.toNat (List.length p0.1:Int)) (0:Int)))))
def m_crash_Distances (fuel:Nat) (p0:List (Int)×(List (List (Int×Int)))) (p1:List (List (Int))) (p2:Int):Option (List (Int)):=
 Option.bind (m_bfs_Fit fuel ((p0.1,p0.2))) fun r85=>(if(!r85)=true then(crash_Distances_k1 fuel p0 p1 p2 (true))else(Option.bind (m_bfs_Configuration fuel ((p0.1,p0.2)) p1 ([(List.length p0.1:Int),(-1:Int)])) fun r90=>(crash_Distances_k1 fuel p0 p1 p2 ((!r90)))))
theorem body11:HasBody Tryz.prog 11:=Tryz.call11
theorem t_crash_Distances (fuel:Nat) {p0:List (Int)×(List (List (Int×Int)))} {p1:List (List (Int))} {p2:Int} (v0:Value)  (v1:Value)  (z2:List (Value×List (Int×Int)))  (v3:Value)  (z4:List (Value×List (Int))) (r:List (Int)) (h:m_crash_Distances fuel p0 p1 p2=some r):
  Meets Tryz.prog 11 #[Value.agg #[v0,v1],v3,Value.int .u32 (p2)] [Sl RI64 v0 p0.1,S2 RI64I64p v1 z2 p0.2,S2 RI64 v3 z4 p1] (fun x:Value=>x) (fun x l=>Ar EI64 x r::l) (fun _ l=>l):=by
 refine Meets.of (vs:=[Value.agg #[v0,v1],v3,Value.int .u32 (p2)]) Tryz.func11 rfl Tryz.ntmps11 rfl fun c=> ?_
 unfold m_crash_Distances at h
 refine J.stp Stp.dfs0<|J.seq<|J.region<|J.loud (Loud.box (cs:=[v0,v1]) rfl rfl) rfl fun b2=>J.loud (Loud.box (cs:=[Value.int .u32 (p2)]) rfl rfl) rfl fun b3=>J.quiet (Y.assign rfl) rfl<|J.done<|J.thenN<|J.seq<|J.region<|J.quiet (Y.fieldB rfl rfl rfl rfl rfl) rfl<|J.quiet (Y.loadB 1 rfl rfl rfl rfl rfl) rfl<|J.quiet (Y.lenS rfl (Lent.fact 0 rfl) rfl) rfl<|J.quiet (Y.assign rfl) rfl<|J.done<|J.thenN<|J.seq<|J.seq<|J.midN (A:=Bool) (B:=Unit) (fun a5 b6=>⟨84,marks ([]:List Nat)⟩) (fun a5=>crash_Distances_k1 fuel p0 p1 p2 a5=some r) (fun a5 b6=>[(1,v3),(3,Value.pointer (some ⟨b2,0,none⟩)),(5,Value.pointer (some ⟨b3,0,none⟩)),(6,Value.slice none 0 0),(7,Value.int .i64 (List.length p0.1:Int)),(25,Value.bool (a5))]) (fun a5 b6=>[Blk b3 [Value.int .u32 (p2)] 27,Blk b2 [v0,v1] 25,Dfs ([]:List Nat)]) (fun a5 b6=>[Sl RI64 v0 p0.1,S2 RI64I64p v1 z2 p0.2,S2 RI64 v3 z4 p1]) ?_ ?_
 ·refine J.region<|J.quiet (Y.loadBAll 1 rfl rfl rfl rfl) rfl ?_
  have h:=bnd h;obtain⟨r85,hr86,h⟩:=h
  refine J.loud (Loud.callL body32 (t_bfs_Fit fuel v0 v1 z2 r85 hr86) rfl (LentAll.cons (Lent.fact 0 rfl) (LentAll.cons (Lent.fact 1 rfl) .nil)) (fun _ _=>rfl)) rfl fun x87=>J.quiet (Y.not rfl) rfl<|J.quiet (Y.move rfl) rfl ?_
  refine J.guard (by exact rfl) (by exact rfl) (fun hp88=> ?_) (fun hp88=> ?_)
  ·have h:=ifP hp88 h
   refine J.guardN rfl rfl rfl<|J.guardN rfl rfl rfl<|J.guardN rfl rfl rfl<|J.guardN rfl rfl rfl<|J.guardN rfl rfl rfl<|J.guardN rfl rfl rfl<|J.quiet (Y.pickT rfl rfl) rfl<|J.done<|J.thenN ?_
   exact J.meetN (true) (()) rfl h SF (SubM.refl _) (LentAll.refl _ _)
  ·have h:=ifBN hp88 h
   refine J.guardY rfl (Y.loadBAll 1 rfl rfl rfl rfl) rfl<|J.guardY rfl (Y.move rfl) rfl<|J.guardY rfl (Y.move rfl) rfl<|J.loudG rfl (Loud.buildS (e:=EI64) ([(List.length p0.1:Int),(-1:Int)]) [(0,Value.int .i64 (List.length p0.1:Int)),(1,Value.int .i64 (-1:Int))] rfl rfl rfl rfl (fill_2_1 (Value.int .i64 (List.length p0.1:Int)) (Value.int .i64 (-1:Int)) rfl rfl) rfl rfl rfl) rfl fun u89=> ?_
   have h:=bnd h;obtain⟨r90,hr91,h⟩:=h
   refine J.loudG rfl (Loud.callL body23 (t_bfs_Configuration fuel v0 v1 z2 v3 z4 u89 r90 hr91) rfl (LentAll.cons (Lent.fact 0 rfl) (LentAll.cons (Lent.fact 1 rfl) (LentAll.cons (Lent.fact 2 rfl) (LentAll.cons (Lent.ar (Lent.res 0 rfl) FI64) .nil)))) (fun _ _=>rfl)) rfl fun x92=>J.guardY rfl (Y.not rfl) rfl<|J.quiet (Y.pickF rfl rfl) rfl<|J.done<|J.thenN ?_
   exact J.meetN ((!r90)) (()) rfl h SF (SubM.cons 1 rfl (SubM.cons 1 rfl (SubM.cons 1 rfl (SubM.nil)))) (LentAll.refl _ _)
 ·clear h
  intro a5 b6 h
  unfold crash_Distances_k1 at h
  refine J.cond (by exact rfl) (fun hp7=> ?_) (fun hp7=> ?_)
  ·have h:=ifP hp7 h
   refine J.seq<|J.region<|J.quiet (Y.assign rfl) rfl<|J.done<|J.thenN<|J.ret<|J.thenR<|J.unmarkAll (i:=2) (Ds:=([]:List Nat)) (.inl rfl) rfl<|J.stp (Stp.nilAr EI64) ?_
   obtain rfl:=Option.some.inj h
   exact J.retG1 (Value.slice none 0 0) rfl rfl (RV.tmp rfl) (SubM.cons 0 rfl (SubM.nil)) LentAll.nil
  ·have h:=ifBN hp7 h
   refine J.skip<|J.thenN<|J.seq<|J.region<|J.quiet (Y.move rfl) rfl ?_
   have h:=ck_some h;obtain⟨hc8,h⟩:=h
   refine J.loud (Loud.makeS (e:=EI64) (0:Int) rfl rfl rfl rfl hc8 rfl rfl rfl) rfl fun u9=>J.loud (Loud.alloc (cs:=[Value.slice none 0 0]) rfl rfl) rfl fun b10=>J.know (Know.one ((Lent.ar (Lent.res 1 rfl) FI64))) fun ho11=>J.store1 0 rfl rfl ho11 rfl rfl rfl<|J.done<|J.thenN<|J.seq<|J.midN (A:=List (Int)) (B:=Unit) (fun a13 b14=>⟨84,marks ([]:List Nat)⟩) (fun a13=>crash_Distances_k2 fuel p0 p2 a13=some r) (fun a13 b14=>[(3,Value.pointer (some ⟨b2,0,none⟩)),(5,Value.pointer (some ⟨b3,0,none⟩)),(6,Value.slice none 0 0),(7,Value.int .i64 (List.length p0.1:Int)),(8,Value.pointer (some ⟨b10,0,none⟩))]) (fun a13 b14=>[Blk b10 [u9] 22,Ar EI64 u9 a13,Blk b3 [Value.int .u32 (p2)] 27,Blk b2 [v0,v1] 25,Dfs ([]:List Nat)]) (fun a13 b14=>[Sl RI64 v0 p0.1,S2 RI64I64p v1 z2 p0.2,S2 RI64 v3 z4 p1]) ?_ ?_
   ·refine J.seq<|J.region<|J.quiet (Y.loadB 0 rfl rfl rfl rfl rfl) rfl<|J.quiet (Y.lenS rfl (Lent.ar (Lent.res 1 rfl) FI64) rfl) rfl<|J.quiet (Y.move rfl) rfl<|J.done<|J.thenN<|J.block<|J.loopN (A:=Int×List (Int)) (B:=Unit) (fun a71 b72=>⟨84,marks ([]:List Nat)⟩) (crash_Distances_s4 fuel p0 p1 p2) (fun a71 b72=>[(1,v3),(3,Value.pointer (some ⟨b2,0,none⟩)),(5,Value.pointer (some ⟨b3,0,none⟩)),(6,Value.slice none 0 0),(7,Value.int .i64 (List.length p0.1:Int)),(8,Value.pointer (some ⟨b10,0,none⟩)),(29,Value.int .i64 (List.length (List.replicate (Int.toNat (List.length p0.1:Int)) (0:Int)):Int)),(30,Value.int .i64 (a71.1))]) (fun a71 b72=>[Blk b10 [u9] 22,Ar EI64 u9 a71.2,Blk b3 [Value.int .u32 (p2)] 27,Blk b2 [v0,v1] 25,Dfs ([]:List Nat)]) (fun a71 b72=>[Sl RI64 v0 p0.1,S2 RI64I64p v1 z2 p0.2,S2 RI64 v3 z4 p1]) ((0:Int),(List.replicate (Int.toNat (List.length p0.1:Int)) (0:Int))) (()) rfl h SF (SubM.refl _) (LentAll.refl _ _) ?_
    clear h
    intro k73 a71 b72 h
    unfold crash_Distances_s4 at h
    refine J.seq<|J.region<|J.quiet (Y.lss rfl rfl) rfl<|J.done<|J.thenN<|J.seq ?_
    refine J.condD (by exact rfl) (fun hp74=> ?_) (fun hp74=> ?_)
    ·have h:=ifP hp74 h
     refine J.skip<|J.thenN<|J.seq<|J.midN (A:=List (Int)) (B:=Unit) (fun a76 b77=>⟨84,marks ([]:List Nat)⟩) (fun a76=>crash_Distances_k8 a71 (iter (crash_Distances_s4 fuel p0 p1 p2) k73) a76=some r) (fun a76 b77=>[(1,v3),(3,Value.pointer (some ⟨b2,0,none⟩)),(5,Value.pointer (some ⟨b3,0,none⟩)),(6,Value.slice none 0 0),(7,Value.int .i64 (List.length p0.1:Int)),(8,Value.pointer (some ⟨b10,0,none⟩)),(29,Value.int .i64 (List.length (List.replicate (Int.toNat (List.length p0.1:Int)) (0:Int)):Int)),(30,Value.int .i64 (a71.1))]) (fun a76 b77=>[Blk b10 [u9] 22,Ar EI64 u9 a76,Blk b3 [Value.int .u32 (p2)] 27,Blk b2 [v0,v1] 25,Dfs ([]:List Nat)]) (fun a76 b77=>[Sl RI64 v0 p0.1,S2 RI64I64p v1 z2 p0.2,S2 RI64 v3 z4 p1]) ?_ ?_
     ·refine J.block<|J.seq<|J.region<|J.quiet (Y.move rfl) rfl<|J.quiet (Y.assign rfl) rfl<|J.done<|J.thenN<|J.block<|J.seq<|J.region<|J.quiet (Y.loadB 2 rfl rfl rfl rfl rfl) rfl<|J.quiet (Y.move rfl) rfl ?_
      have h:=ck_some h;obtain⟨hc78,h⟩:=h
      refine J.quiet (Y.shr rfl rfl hc78) rfl<|J.quiet (Y.and rfl rfl) rfl<|J.quiet (Y.eql rfl rfl) rfl<|J.quiet (Y.assign rfl) rfl<|J.done<|J.thenN ?_
      refine J.condD (by exact rfl) (fun hp79=> ?_) (fun hp79=> ?_)
      ·have h:=ifP hp79 h
       refine JR.start [0,0,0,0,12,28,60,124,255,511] 8 mixedOrders (by decide +kernel) ?_
       refine JR.open (by exact rfl) ?_
       refine JR.qt rfl (SubM.cons 0 rfl (SubM.nil)) (SubL.nil) (Y.loadB 0 rfl rfl rfl rfl rfl) HistOk.z<|JR.qt rfl (SubM.nil) (SubL.nil) (Y.move rfl) HistOk.z<|JR.qt rfl (SubM.nil) (SubL.nil) (Y.move rfl) HistOk.z<|JR.qt rfl (SubM.nil) (SubL.nil) (Y.move rfl) HistOk.z ?_
       have h:=ck_some h;obtain⟨hc80,h⟩:=h
       refine JR.qt rfl (SubM.nil) (SubL.cons (List.mem_of_getElem? (i:=2) rfl) (SubL.nil)) (Y.indexN rfl rfl (Lent.fact 0 rfl) rfl rfl hc80) HistOk.z<|JR.qt rfl (SubM.nil) (SubL.cons (List.mem_of_getElem? (i:=2) rfl) (SubL.nil)) (Y.loadRow rfl (Lent.fact 0 rfl) rfl rfl hc80) HistOk.z ?_
       have h:=ck_some h;obtain⟨hc81,h⟩:=h
       refine JR.qt rfl (SubM.nil) (SubL.cons (List.mem_of_getElem? (i:=2) rfl) (SubL.nil)) (Y.indexS rfl rfl (Lent.el (Lent.fact 0 rfl) hc80.1 hc80.2) rfl rfl hc81) HistOk.z<|JR.qt rfl (SubM.nil) (SubL.cons (List.mem_of_getElem? (i:=2) rfl) (SubL.nil)) (Y.loadS0 rfl (Lent.el (Lent.fact 0 rfl) hc80.1 hc80.2) rfl rfl rfl RI64c0 hc81) HistOk.z<|JR.tailD 8 rfl rfl ?_
       have h:=ck_some h;obtain⟨hc82,h⟩:=h
       refine J.quiet (Y.indexS rfl rfl (Lent.ar (Lent.res 1 rfl) FI64) rfl rfl hc82) rfl<|J.storeS 1 (at' (at' p1 a71.1) (0:Int)) hc82 rfl rfl rfl rfl rfl rfl rfl<|J.done<|J.inN<|J.inN<|J.thenN ?_
       exact J.meetN (List.set a71.2 (Int.toNat a71.1) (at' (at' p1 a71.1) (0:Int))) (()) rfl h SF (SubM.refl _) (LentAll.refl _ _)
      ·have h:=ifN hp79 h
       refine J.seq<|J.region<|J.quiet (Y.move rfl) rfl<|J.quiet (Y.gtr rfl rfl) rfl<|J.quiet (Y.assign rfl) rfl<|J.done<|J.thenN ?_
       refine J.condD (by exact rfl) (fun hp83=> ?_) (fun hp83=> ?_)
       ·have h:=ifP hp83 h
        refine J.region<|J.quiet (Y.loadB 0 rfl rfl rfl rfl rfl) rfl<|J.quiet (Y.move rfl) rfl<|J.quiet (Y.move rfl) rfl ?_
        have h:=ck_some h;obtain⟨hc84,h⟩:=h
        refine J.quiet (Y.indexS rfl rfl (Lent.ar (Lent.res 1 rfl) FI64) rfl rfl hc84) rfl<|J.storeS 1 (List.length p0.1:Int) hc84 rfl rfl rfl rfl rfl rfl rfl<|J.done<|J.inN<|J.inN<|J.thenN ?_
        exact J.meetN (List.set a71.2 (Int.toNat a71.1) (List.length p0.1:Int)) (()) rfl h SF (SubM.refl _) (LentAll.refl _ _)
       ·have h:=ifN hp83 h
        refine J.skip<|J.inN<|J.inN<|J.thenN ?_
        exact J.meetN (a71.2) (()) rfl h SF (SubM.refl _) (LentAll.refl _ _)
     ·clear h
      intro a76 b77 h
      unfold crash_Distances_k8 at h
      refine J.region<|J.quiet (Y.addW rfl rfl) rfl<|J.quiet (Y.move rfl) rfl<|J.done<|J.thenN ?_
      exact J.againN ((wI .i64 (a71.1+(1:Int))),a76) (()) rfl h SF (SubM.refl _) (LentAll.refl _ _)
    ·have h:=ifN hp74 h
     refine J.exit<|J.thenX<|J.thenX<|J.inX<|J.thenN ?_
     exact J.meetN (a71.2) (()) rfl h SF (SubM.refl _) (LentAll.refl _ _)
   ·clear h
    intro a13 b14 h
    unfold crash_Distances_k2 at h
    refine J.seq<|J.midN (A:=List (Int)) (B:=List Nat) (fun a17 b18=>⟨84,marks b18⟩) (fun a17=>crash_Distances_k3  a17=some r) (fun a17 b18=>[(8,Value.pointer (some ⟨b10,0,none⟩))]) (fun a17 b18=>[Blk b10 [u9] 22,Ar EI64 u9 a17,Dfs b18]) (fun a17 b18=>[Sl RI64 v0 p0.1,S2 RI64I64p v1 z2 p0.2,S2 RI64 v3 z4 p1]) ?_ ?_
    ·refine J.seq<|J.region<|J.quiet (Y.move rfl) rfl<|J.quiet (Y.move rfl) rfl<|J.done<|J.thenN<|J.block<|J.loopN (A:=Int×List (Int)) (B:=List Nat) (fun a23 b24=>⟨84,marks b24⟩) (crash_Distances_s1 fuel p0 p2) (fun a23 b24=>[(3,Value.pointer (some ⟨b2,0,none⟩)),(5,Value.pointer (some ⟨b3,0,none⟩)),(6,Value.slice none 0 0),(8,Value.pointer (some ⟨b10,0,none⟩)),(56,Value.int .i64 (List.length p0.1:Int)),(57,Value.int .i64 (a23.1))]) (fun a23 b24=>[Blk b10 [u9] 22,Ar EI64 u9 a23.2,Blk b3 [Value.int .u32 (p2)] 27,Blk b2 [v0,v1] 25,Dfs b24]) (fun a23 b24=>[Sl RI64 v0 p0.1,S2 RI64I64p v1 z2 p0.2,S2 RI64 v3 z4 p1]) ((0:Int),a13) ([]:List Nat) rfl h SF (SubM.refl _) (LentAll.refl _ _) ?_
     clear h
     intro k25 a23 b24 h
     unfold crash_Distances_s1 at h
     refine J.seq<|J.region<|J.quiet (Y.lss rfl rfl) rfl<|J.done<|J.thenN<|J.seq ?_
     refine J.condD (by exact rfl) (fun hp26=> ?_) (fun hp26=> ?_)
     ·have h:=ifP hp26 h
      refine J.skip<|J.thenN<|J.seq<|J.midN (A:=List (Int)) (B:=List Nat) (fun a29 b30=>⟨84,marks b30⟩) (fun a29=>crash_Distances_k4 a23 (iter (crash_Distances_s1 fuel p0 p2) k25) a29=some r) (fun a29 b30=>[(3,Value.pointer (some ⟨b2,0,none⟩)),(5,Value.pointer (some ⟨b3,0,none⟩)),(6,Value.slice none 0 0),(8,Value.pointer (some ⟨b10,0,none⟩)),(56,Value.int .i64 (List.length p0.1:Int)),(57,Value.int .i64 (a23.1))]) (fun a29 b30=>[Blk b10 [u9] 22,Ar EI64 u9 a29,Blk b3 [Value.int .u32 (p2)] 27,Blk b2 [v0,v1] 25,Dfs b30]) (fun a29 b30=>[Sl RI64 v0 p0.1,S2 RI64I64p v1 z2 p0.2,S2 RI64 v3 z4 p1]) ?_ ?_
      ·refine J.block<|J.seq<|J.region<|J.quiet (Y.loadBAll 3 rfl rfl rfl rfl) rfl<|J.inlC (A:=Unit) (B:=Nat) (vs:=[Value.agg #[v0,v1]]) (fun a32=>crash_Distances_k5 fuel p0 p2 a23 (iter (crash_Distances_s1 fuel p0 p2) k25) a32=some r) (fun a32 b33=>Value.func (.func 48) #[] #[Value.pointer (some ⟨b33,0,none⟩)]) (fun a32 b33=>[Blk b33 [v0,v1] 25,Blk b10 [u9] 22,Ar EI64 u9 a23.2,Blk b3 [Value.int .u32 (p2)] 27,Blk b2 [v0,v1] 25,Dfs b24]) (fun a32 b33=>[Sl RI64 v0 p0.1,S2 RI64I64p v1 z2 p0.2,S2 RI64 v3 z4 p1]) (Enter.fn (show HasBody Tryz.prog 24 from Tryz.call24) rfl) Tryz.func24 rfl Tryz.ntmps24 rfl rfl ?_ ?_
       ·refine J.seq<|J.region<|J.loud (Loud.box (cs:=[v0,v1]) rfl rfl) rfl fun b67=>J.quiet (Y.assign rfl) rfl<|J.done<|J.thenN<|J.seq<|J.region<|J.quiet (Y.makeFunc (cs:=[.tmp 1]) (vs:=[Value.pointer (some ⟨b67,0,none⟩)]) rfl) rfl<|J.quiet (Y.assign rfl) rfl<|J.done<|J.thenN<|J.ret ?_
        exact J.retM (()) (b67) h (.inl rfl) (Res.r1 rfl (RV.tmp rfl)) rfl (SubM.refl _) (LentAll.refl _ _)
       ·clear h
        intro a32 b33 h
        unfold crash_Distances_k5 at h
        refine J.done<|J.thenN<|J.block<|J.rangeFuncD (i:=5) (cs:=[Value.pointer (some ⟨b33,0,none⟩)]) b24 rfl (show HasBody Tryz.prog 48 from Tryz.call48) rfl Tryz.func48 rfl Tryz.ntmps48 rfl fun l34 D35 R36 hR37=>J.seq<|J.region<|J.quiet (Y.fieldB rfl rfl rfl rfl rfl) rfl<|J.quiet (Y.loadB 1 rfl rfl rfl rfl rfl) rfl<|J.quiet (Y.lenN rfl (Lent.fact 1 rfl) rfl) rfl<|J.quiet (Y.move rfl) rfl<|J.done<|J.thenN<|J.block<|J.loopI (A:=Int×List (Int)) (B:=Unit) (crash_Distances_s2 fuel p0 p2 a23 (iter (crash_Distances_s1 fuel p0 p2) k25)) (fun a41 b42=>[(0,yieldV l34),(8,v1),(9,Value.int .i64 (List.length p0.2:Int)),(10,Value.int .i64 (a41.1))]) (fun a41 b42=>[Lp l34 R36 LoopState.ready none,Blk b33 [v0,v1] 25,Blk b10 [u9] 22,Ar EI64 u9 a41.2,Blk b3 [Value.int .u32 (p2)] 27,Blk b2 [v0,v1] 25,Dfs (List.cons D35 b24)]) (fun a41 b42=>[Sl RI64 v0 p0.1,S2 RI64I64p v1 z2 p0.2,S2 RI64 v3 z4 p1]) ((0:Int),a23.2) (()) h SF (SubM.refl _) (LentAll.refl _ _) ?_
        clear h
        intro k43 a41 b42 h
        unfold crash_Distances_s2 at h
        refine J.seq<|J.region<|J.quiet (Y.lss rfl rfl) rfl<|J.done<|J.thenN<|J.seq ?_
        refine J.condD (by exact rfl) (fun hp44=> ?_) (fun hp44=> ?_)
        ·have h:=ifP hp44 h
         refine J.skip<|J.thenN<|J.seq<|J.midI (A:=List (Int)) (B:=Unit) (fun a46=>crash_Distances_k6 a41 (iter (crash_Distances_s2 fuel p0 p2 a23 (iter (crash_Distances_s1 fuel p0 p2) k25)) k43) a46=some r) (fun a46 b47=>[(0,yieldV l34),(8,v1),(9,Value.int .i64 (List.length p0.2:Int)),(10,Value.int .i64 (a41.1))]) (fun a46 b47=>[Lp l34 R36 LoopState.ready none,Blk b33 [v0,v1] 25,Blk b10 [u9] 22,Ar EI64 u9 a46,Blk b3 [Value.int .u32 (p2)] 27,Blk b2 [v0,v1] 25,Dfs (List.cons D35 b24)]) (fun a46 b47=>[Sl RI64 v0 p0.1,S2 RI64I64p v1 z2 p0.2,S2 RI64 v3 z4 p1]) ?_ ?_
         ·refine J.block<|J.seq<|J.region<|J.quiet (Y.move rfl) rfl ?_
          have h:=ck_some h;obtain⟨hc48,h⟩:=h
          refine J.quiet (Y.indexN rfl rfl (Lent.fact 1 rfl) rfl rfl hc48) rfl<|J.quiet (Y.loadRow rfl (Lent.fact 1 rfl) rfl rfl hc48) rfl<|J.quiet (Y.assign rfl) rfl<|J.quiet (Y.assign rfl) rfl<|J.done<|J.thenN<|J.seq<|J.region<|J.quiet (Y.move rfl) rfl<|J.quiet (Y.lenS rfl (Lent.el (Lent.fact 1 rfl) hc48.1 hc48.2) rfl) rfl<|J.quiet (Y.move rfl) rfl<|J.done<|J.thenN<|J.block<|J.loopI (A:=Int×List (Int)) (B:=Unit) (crash_Distances_s3 p0 p2 a41 (iter (crash_Distances_s2 fuel p0 p2 a23 (iter (crash_Distances_s1 fuel p0 p2) k25)) k43)) (fun a52 b53=>[(0,yieldV l34),(3,Value.int .i64 (a41.1)),(8,v1),(9,Value.int .i64 (List.length p0.2:Int)),(10,Value.int .i64 (a41.1)),(15,(at' z2 a41.1).1),(16,Value.int .i64 (List.length (at' p0.2 a41.1):Int)),(17,Value.int .i64 (a52.1))]) (fun a52 b53=>[Lp l34 R36 LoopState.ready none,Blk b33 [v0,v1] 25,Blk b10 [u9] 22,Ar EI64 u9 a52.2,Blk b3 [Value.int .u32 (p2)] 27,Blk b2 [v0,v1] 25,Dfs (List.cons D35 b24)]) (fun a52 b53=>[Sl RI64 v0 p0.1,S2 RI64I64p v1 z2 p0.2,S2 RI64 v3 z4 p1]) ((0:Int),a41.2) (()) h SF (SubM.refl _) (LentAll.refl _ _) ?_
          clear h
          intro k54 a52 b53 h
          unfold crash_Distances_s3 at h
          refine J.seq<|J.region<|J.quiet (Y.lss rfl rfl) rfl<|J.done<|J.thenN<|J.seq ?_
          refine J.condD (by exact rfl) (fun hp55=> ?_) (fun hp55=> ?_)
          ·have h:=ifP hp55 h
           refine J.skip<|J.thenN<|J.seq<|J.midI (A:=List (Int)) (B:=Unit) (fun a57=>crash_Distances_k7 a52 (iter (crash_Distances_s3 p0 p2 a41 (iter (crash_Distances_s2 fuel p0 p2 a23 (iter (crash_Distances_s1 fuel p0 p2) k25)) k43)) k54) a57=some r) (fun a57 b58=>[(0,yieldV l34),(3,Value.int .i64 (a41.1)),(8,v1),(9,Value.int .i64 (List.length p0.2:Int)),(10,Value.int .i64 (a41.1)),(15,(at' z2 a41.1).1),(16,Value.int .i64 (List.length (at' p0.2 a41.1):Int)),(17,Value.int .i64 (a52.1))]) (fun a57 b58=>[Lp l34 R36 LoopState.ready none,Blk b33 [v0,v1] 25,Blk b10 [u9] 22,Ar EI64 u9 a57,Blk b3 [Value.int .u32 (p2)] 27,Blk b2 [v0,v1] 25,Dfs (List.cons D35 b24)]) (fun a57 b58=>[Sl RI64 v0 p0.1,S2 RI64I64p v1 z2 p0.2,S2 RI64 v3 z4 p1]) ?_ ?_
           ·refine J.block<|J.seq<|J.region ?_
            have h:=ck_some h;obtain⟨hc59,h⟩:=h
            refine J.quiet (Y.indexS rfl rfl (Lent.el (Lent.fact 1 rfl) hc48.1 hc48.2) rfl rfl hc59) rfl<|J.quiet (Y.loadAggS (cs:=[Value.int .i64 ((at' (at' p0.2 a41.1) a52.1).1),Value.int .i64 ((at' (at' p0.2 a41.1) a52.1).2)]) rfl (Lent.el (Lent.fact 1 rfl) hc48.1 hc48.2) FI64I64p rfl rfl rfl rfl hc59) rfl<|J.loud (Loud.alloc (cs:=[Value.int .i64 (0:Int),Value.int .i64 (0:Int)]) rfl rfl) rfl fun b60=>J.storeAll 0 (vs:=[Value.int .i64 ((at' (at' p0.2 a41.1) a52.1).1),Value.int .i64 ((at' (at' p0.2 a41.1) a52.1).2)]) rfl rfl rfl rfl rfl rfl<|J.done<|J.thenN<|J.seq<|J.region<|J.quiet (Y.move rfl) rfl<|J.quiet (Y.move rfl) rfl<|J.quiet (Y.loadBAll 0 rfl rfl rfl rfl) rfl<|J.yieldR (us:=[Value.int .i64 (a41.1),Value.agg #[Value.int .i64 ((at' (at' p0.2 a41.1) a52.1).1),Value.int .i64 ((at' (at' p0.2 a41.1) a52.1).2)]]) (i:=1) hR37 rfl rfl rfl rfl rfl rfl<|J.seq<|J.region<|J.quiet (Y.assign rfl) rfl<|J.done<|J.thenN<|J.region<|J.loud (Loud.alloc (cs:=[Value.int .i64 (0:Int),Value.int .i64 (0:Int)]) rfl rfl) rfl fun b61=>J.storeAll 0 (vs:=[Value.int .i64 ((at' (at' p0.2 a41.1) a52.1).1),Value.int .i64 ((at' (at' p0.2 a41.1) a52.1).2)]) rfl rfl rfl rfl rfl rfl<|J.done<|J.thenN<|J.begin (i:=2) rfl<|J.block<|J.seq<|J.region<|J.quiet (Y.loadB 6 rfl rfl rfl rfl rfl) rfl<|J.quiet (Y.move rfl) rfl ?_
            have h:=ck_some h;obtain⟨hc62,h⟩:=h
            refine J.quiet (Y.shr rfl rfl hc62) rfl<|J.quiet (Y.and rfl rfl) rfl<|J.quiet (Y.eql rfl rfl) rfl<|J.done<|J.thenN ?_
            refine J.condD (by exact rfl) (fun hp63=> ?_) (fun hp63=> ?_)
            ·have h:=ifP hp63 h
             refine JR.start [0,0,0,0,12,28,0,0,128,448,960,1984,4092,8191,16383] 13 mixedOrders (by decide +kernel) ?_
             refine JR.open (by exact rfl) ?_
             refine JR.qt rfl (SubM.cons 4 rfl (SubM.nil)) (SubL.nil) (Y.loadB 0 rfl rfl rfl rfl rfl) HistOk.z<|JR.qt rfl (SubM.nil) (SubL.nil) (Y.move rfl) HistOk.z<|JR.qt rfl (SubM.cons 4 rfl (SubM.nil)) (SubL.nil) (Y.loadB 0 rfl rfl rfl rfl rfl) HistOk.z<|JR.qt rfl (SubM.nil) (SubL.nil) (Y.move rfl) HistOk.z ?_
             have h:=ck_some h;obtain⟨hc64,h⟩:=h
             refine JR.qt rfl (SubM.cons 5 rfl (SubM.nil)) (SubL.nil) (Y.indexS rfl rfl (Lent.ar (Lent.res 0 rfl) FI64) rfl rfl hc64) HistOk.z<|JR.qt rfl (SubM.cons 5 rfl (SubM.nil)) (SubL.nil) (Y.loadS0 rfl (Lent.ar (Lent.res 0 rfl) FI64) rfl rfl rfl RI64c0 hc64) HistOk.z<|JR.qt rfl (SubM.cons 4 rfl (SubM.nil)) (SubL.nil) (Y.loadB 0 rfl rfl rfl rfl rfl) HistOk.z<|JR.qt rfl (SubM.nil) (SubL.nil) (Y.fieldB rfl rfl rfl rfl rfl) HistOk.z<|JR.qt rfl (SubM.cons 0 rfl (SubM.nil)) (SubL.nil) (Y.loadB 0 rfl rfl rfl rfl rfl) HistOk.z ?_
             have h:=ck_some h;obtain⟨hc65,h⟩:=h
             refine JR.qt rfl (SubM.cons 5 rfl (SubM.nil)) (SubL.nil) (Y.indexS rfl rfl (Lent.ar (Lent.res 0 rfl) FI64) rfl rfl hc65) HistOk.z<|JR.qt rfl (SubM.cons 5 rfl (SubM.nil)) (SubL.nil) (Y.loadS0 rfl (Lent.ar (Lent.res 0 rfl) FI64) rfl rfl rfl RI64c0 hc65) HistOk.z<|JR.qt rfl (SubM.nil) (SubL.nil) (Y.addW rfl rfl) HistOk.z<|JR.qt rfl (SubM.nil) (SubL.nil) (Y.min rfl rfl) HistOk.z<|JR.tailD 13 rfl rfl ?_
             have h:=ck_some h;obtain⟨hc66,h⟩:=h
             refine J.quiet (Y.indexS rfl rfl (Lent.ar (Lent.res 5 rfl) FI64) rfl rfl hc66) rfl<|J.storeS 5 (min (at' a52.2 a41.1) (wI .i64 ((at' a52.2 ((at' (at' p0.2 a41.1) a52.1).1))+(1:Int)))) hc66 rfl rfl rfl rfl rfl rfl rfl<|J.done<|J.inN<|J.roundN (i:=2) rfl<|J.quiet (Y.not rfl) rfl<|J.done<|J.thenN<|J.condF rfl<|J.skip<|J.inN<|J.thenN ?_
             exact J.meetI (List.set a52.2 (Int.toNat a41.1) (min (at' a52.2 a41.1) (wI .i64 ((at' a52.2 ((at' (at' p0.2 a41.1) a52.1).1))+(1:Int))))) (()) h SF (SubM.cons 2 rfl (SubM.cons 2 rfl (SubM.cons 2 rfl (SubM.cons 2 rfl (SubM.cons 2 rfl (SubM.cons 2 rfl (SubM.cons 2 rfl (SubM.nil)))))))) (LentAll.refl _ _)
            ·have h:=ifN hp63 h
             refine J.skip<|J.inN<|J.roundN (i:=2) rfl<|J.quiet (Y.not rfl) rfl<|J.done<|J.thenN<|J.condF rfl<|J.skip<|J.inN<|J.thenN ?_
             exact J.meetI (a52.2) (()) h SF (SubM.cons 2 rfl (SubM.cons 2 rfl (SubM.cons 2 rfl (SubM.cons 2 rfl (SubM.cons 2 rfl (SubM.cons 2 rfl (SubM.cons 2 rfl (SubM.nil)))))))) (LentAll.refl _ _)
           ·clear h
            intro a57 b58 h
            unfold crash_Distances_k7 at h
            refine J.region<|J.quiet (Y.addW rfl rfl) rfl<|J.quiet (Y.move rfl) rfl<|J.done<|J.thenN ?_
            exact J.againI ((wI .i64 (a52.1+(1:Int))),a57) (()) h SF (SubM.refl _) (LentAll.refl _ _)
          ·have h:=ifN hp55 h
           refine J.exit<|J.thenX<|J.thenX<|J.inX<|J.inN<|J.thenN ?_
           exact J.meetI (a52.2) (()) h SF (SubM.refl _) (LentAll.refl _ _)
         ·clear h
          intro a46 b47 h
          unfold crash_Distances_k6 at h
          refine J.region<|J.quiet (Y.addW rfl rfl) rfl<|J.quiet (Y.move rfl) rfl<|J.done<|J.thenN ?_
          exact J.againI ((wI .i64 (a41.1+(1:Int))),a46) (()) h SF (SubM.refl _) (LentAll.refl _ _)
        ·have h:=ifN hp44 h
         refine J.exit<|J.thenX<|J.thenX<|J.inX<|J.retF (i:=0) (.inr rfl) rfl (Res.r0 rfl)<|J.inN<|J.inN<|J.thenN ?_
         exact J.meetN (a41.2) (List.cons D35 b24) rfl h SF (SubM.cons 2 rfl (SubM.cons 2 rfl (SubM.cons 2 rfl (SubM.cons 2 rfl (SubM.cons 2 rfl (SubM.nil)))))) (LentAll.refl _ _)
      ·clear h
       intro a29 b30 h
       unfold crash_Distances_k4 at h
       refine J.region<|J.quiet (Y.addW rfl rfl) rfl<|J.quiet (Y.move rfl) rfl<|J.done<|J.thenN ?_
       exact J.againN ((wI .i64 (a23.1+(1:Int))),a29) (b30) rfl h SF (SubM.refl _) (LentAll.refl _ _)
     ·have h:=ifN hp26 h
      refine J.exit<|J.thenX<|J.thenX<|J.inX<|J.thenN ?_
      exact J.meetN (a23.2) (b24) rfl h SF (SubM.cons 0 rfl (SubM.cons 0 rfl (SubM.cons 2 rfl (SubM.nil)))) (LentAll.refl _ _)
    ·clear h
     intro a17 b18 h
     unfold crash_Distances_k3 at h
     refine J.seq<|J.region<|J.quiet (Y.loadB 0 rfl rfl rfl rfl rfl) rfl<|J.quiet (Y.assign rfl) rfl<|J.done<|J.thenN<|J.ret<|J.unmarkAll (i:=2) (Ds:=(b18)) (.inl rfl) rfl ?_
     obtain rfl:=Option.some.inj h
     exact J.retG1 (u9) rfl rfl (RV.tmp rfl) (SubM.cons 1 rfl (SubM.nil)) LentAll.nil
end Go.Proofs.YtfimaabbclepbaaGreat
end
section
namespace Go.Proofs.YtfimaabbclepbaaGreat
open Go.Sx
def m_ref23_Pointer (fuel:Nat) (p0:ByteArray):Option ((ByteArray×Int×Int×Int×Int×Int)):=
 some ((p0,(3:Int),(0:Int),(0:Int),(0:Int),(0:Int)))
theorem body42:HasBody Tryz.prog 42:=Tryz.call42
theorem t_ref23_Pointer (fuel:Nat) {p0:ByteArray} (r:(ByteArray×Int×Int×Int×Int×Int)) (h:m_ref23_Pointer fuel p0=some r):
  Meets Tryz.prog 42 #[Value.string (p0)] [] (fun x:Unit=>Value.agg #[Value.string (r.1),Value.int .i64 (r.2.1),Value.int .i64 (r.2.2.1),Value.int .i64 (r.2.2.2.1),Value.int .i64 (r.2.2.2.2.1),Value.int .i64 (r.2.2.2.2.2)]) (fun x l=>l) (fun _ l=>l):=by
 refine Meets.of (vs:=[Value.string (p0)]) Tryz.func42 rfl Tryz.ntmps42 rfl fun c=> ?_
 unfold m_ref23_Pointer at h
 refine J.seq<|J.region<|J.loud (Loud.alloc (cs:=[Value.string (ByteArray.mk #[]),Value.int .i64 (0:Int),Value.int .i64 (0:Int),Value.int .i64 (0:Int),Value.int .i64 (0:Int),Value.int .i64 (0:Int)]) rfl rfl) rfl fun b1=>J.done<|J.thenN<|J.seq<|J.region<|J.quiet (Y.move rfl) rfl ?_
 refine J.quiet (Y.bld2 (r:=Value.agg #[Value.string (p0),Value.int .i64 (3:Int),Value.int .i64 (0:Int),Value.int .i64 (0:Int),Value.int .i64 (0:Int),Value.int .i64 (0:Int)]) rfl rfl (by intro w;simp[Instr.build,Instr.fill,cells_intV,cells_boolV,cells_sliceV,cells_ptrV,cells_strV,cells_funcV,cells_agg])) rfl ?_
 refine J.storeAll 0 (vs:=[Value.string (p0),Value.int .i64 (3:Int),Value.int .i64 (0:Int),Value.int .i64 (0:Int),Value.int .i64 (0:Int),Value.int .i64 (0:Int)]) rfl rfl rfl rfl rfl rfl<|J.done<|J.thenN<|J.ret ?_
 obtain rfl:=Option.some.inj h
 exact J.retG1 (()) rfl rfl (RV.cell 0 rfl rfl rfl rfl) (SubM.nil) LentAll.nil
end Go.Proofs.YtfimaabbclepbaaGreat
end
section
namespace Go.Proofs.YtfimaabbclepbaaGreat
open Go.Sx
def m_ref23_Vars (fuel:Nat)  : Option ((List (ByteArray×Int×Int×Int×Int×Int))):=
 Option.bind (m_ref23_Number fuel (ByteArray.mk #[100]) (0:Int) (1:Int) (0:Int)) fun r1=>(Option.bind (m_ref23_Pointer fuel (ByteArray.mk #[112])) fun r4=>(some ([(r1.1,r1.2.1,r1.2.2.1,r1.2.2.2.1,r1.2.2.2.2.1,r1.2.2.2.2.2),(r4.1,r4.2.1,r4.2.2.1,r4.2.2.2.1,r4.2.2.2.2.1,r4.2.2.2.2.2)])))
theorem body17:HasBody Tryz.prog 17:=Tryz.call17
theorem t_ref23_Vars (fuel:Nat)  (r:(List (ByteArray×Int×Int×Int×Int×Int))) (h:m_ref23_Vars fuel  = some r):
  Meets Tryz.prog 17 #[] [] (fun x:Value=>x) (fun x l=>Ar EStI64I64I64I64I64p x r::l) (fun _ l=>l):=by
 refine Meets.of (vs:=[]) Tryz.func17 rfl Tryz.ntmps17 rfl fun c=> ?_
 unfold m_ref23_Vars at h
 refine J.seq<|J.region<|J.quiet (Y.assign rfl) rfl<|J.done<|J.thenN<|J.seq<|J.region ?_
 have h:=bnd h;obtain⟨r1,hr2,h⟩:=h
 refine J.loud (Loud.callL body40 (t_ref23_Number fuel  r1 hr2) rfl .nil (fun _ _=>rfl)) rfl fun x3=> ?_
 have h:=bnd h;obtain⟨r4,hr5,h⟩:=h
 refine J.loud (Loud.callL body42 (t_ref23_Pointer fuel  r4 hr5) rfl .nil (fun _ _=>rfl)) rfl fun x6=>J.loud (Loud.buildS (e:=EStI64I64I64I64I64p) ([((r1.1,r1.2.1,r1.2.2.1,r1.2.2.2.1,r1.2.2.2.2.1,r1.2.2.2.2.2)),((r4.1,r4.2.1,r4.2.2.1,r4.2.2.2.1,r4.2.2.2.2.1,r4.2.2.2.2.2))]) [(0,Value.agg #[Value.string (r1.1),Value.int .i64 (r1.2.1),Value.int .i64 (r1.2.2.1),Value.int .i64 (r1.2.2.2.1),Value.int .i64 (r1.2.2.2.2.1),Value.int .i64 (r1.2.2.2.2.2)]),(1,Value.agg #[Value.string (r4.1),Value.int .i64 (r4.2.1),Value.int .i64 (r4.2.2.1),Value.int .i64 (r4.2.2.2.1),Value.int .i64 (r4.2.2.2.2.1),Value.int .i64 (r4.2.2.2.2.2)])] rfl rfl rfl rfl (fill_2_6 (Value.string (r1.1)) (Value.int .i64 (r1.2.1)) (Value.int .i64 (r1.2.2.1)) (Value.int .i64 (r1.2.2.2.1)) (Value.int .i64 (r1.2.2.2.2.1)) (Value.int .i64 (r1.2.2.2.2.2)) (Value.string (r4.1)) (Value.int .i64 (r4.2.1)) (Value.int .i64 (r4.2.2.1)) (Value.int .i64 (r4.2.2.2.1)) (Value.int .i64 (r4.2.2.2.2.1)) (Value.int .i64 (r4.2.2.2.2.2))) rfl rfl rfl) rfl fun u7=>J.quiet (Y.assign rfl) rfl<|J.done<|J.thenN<|J.ret ?_
 obtain rfl:=Option.some.inj h
 exact J.retG1 (u7) rfl rfl (RV.tmp rfl) (SubM.refl _) LentAll.nil
end Go.Proofs.YtfimaabbclepbaaGreat
end
section
namespace Go.Proofs.YtfimaabbclepbaaGreat
open Go.Sx
def m_ref01_Connected (fuel:Nat) (p0:List (Int)×(List (List (Int×Int)))):Option (Bool):=
 Option.bind (m_ref01_Distances fuel ((p0.1,p0.2)) (0:Int)) fun r2=>(Option.bind (m_ref01_greatest fuel r2) fun r5=>(some (decide ((0:Int)<=r5))))
theorem body54:HasBody Tryz.prog 54:=Tryz.call54
theorem t_ref01_Connected (fuel:Nat) {p0:List (Int)×(List (List (Int×Int)))} (v0:Value)  (v1:Value)  (z2:List (Value×List (Int×Int))) (r:Bool) (h:m_ref01_Connected fuel p0=some r):
  Meets Tryz.prog 54 #[Value.agg #[v0,v1]] [Sl RI64 v0 p0.1,S2 RI64I64p v1 z2 p0.2] (fun x:Unit=>Value.bool (r)) (fun x l=>l) (fun _ l=>l):=by
 refine Meets.of (vs:=[Value.agg #[v0,v1]]) Tryz.func54 rfl Tryz.ntmps54 rfl fun c=> ?_
 unfold m_ref01_Connected at h
 refine J.seq<|J.region<|J.loud (Loud.box (cs:=[v0,v1]) rfl rfl) rfl fun b1=>J.quiet (Y.assign rfl) rfl<|J.done<|J.thenN<|J.seq<|J.region<|J.quiet (Y.loadBAll 0 rfl rfl rfl rfl) rfl ?_
 have h:=bnd h;obtain⟨r2,hr3,h⟩:=h
 refine J.loud (Loud.callL body67 (t_ref01_Distances fuel v0 v1 z2 r2 hr3) rfl (LentAll.cons (Lent.fact 0 rfl) (LentAll.cons (Lent.fact 1 rfl) .nil)) (fun _ _=>rfl)) rfl fun x4=> ?_
 have h:=bnd h;obtain⟨r5,hr6,h⟩:=h
 refine J.loud (Loud.callL body66 (t_ref01_greatest fuel x4 r5 hr6) rfl (LentAll.cons (Lent.ar (Lent.res 0 rfl) FI64) .nil) (fun _ _=>rfl)) rfl fun x7=>J.quiet (Y.geq rfl rfl) rfl<|J.quiet (Y.assign rfl) rfl<|J.done<|J.thenN<|J.ret ?_
 obtain rfl:=Option.some.inj h
 exact J.retG1 (()) rfl rfl (RV.tmp rfl) (SubM.nil) LentAll.nil
end Go.Proofs.YtfimaabbclepbaaGreat
end
section
namespace Go.Proofs.YtfimaabbclepbaaGreat
open Go.Sx
def m_ref23_Fit (fuel:Nat) (p0:List (Int)×(List (List (Int×Int)))):Option (Bool):=
 Option.bind (m_ref01_Connected fuel ((p0.1,p0.2))) fun r2=>(some (r2))
theorem body33:HasBody Tryz.prog 33:=Tryz.call33
theorem t_ref23_Fit (fuel:Nat) {p0:List (Int)×(List (List (Int×Int)))} (v0:Value)  (v1:Value)  (z2:List (Value×List (Int×Int))) (r:Bool) (h:m_ref23_Fit fuel p0=some r):
  Meets Tryz.prog 33 #[Value.agg #[v0,v1]] [Sl RI64 v0 p0.1,S2 RI64I64p v1 z2 p0.2] (fun x:Unit=>Value.bool (r)) (fun x l=>l) (fun _ l=>l):=by
 refine Meets.of (vs:=[Value.agg #[v0,v1]]) Tryz.func33 rfl Tryz.ntmps33 rfl fun c=> ?_
 unfold m_ref23_Fit at h
 refine J.seq<|J.region<|J.loud (Loud.box (cs:=[v0,v1]) rfl rfl) rfl fun b1=>J.quiet (Y.assign rfl) rfl<|J.done<|J.thenN<|J.seq<|J.region<|J.quiet (Y.loadBAll 0 rfl rfl rfl rfl) rfl ?_
 have h:=bnd h;obtain⟨r2,hr3,h⟩:=h
 refine J.loud (Loud.callL body54 (t_ref01_Connected fuel v0 v1 z2 r2 hr3) rfl (LentAll.cons (Lent.fact 0 rfl) (LentAll.cons (Lent.fact 1 rfl) .nil)) (fun _ _=>rfl)) rfl fun x4=>J.quiet (Y.assign rfl) rfl<|J.done<|J.thenN<|J.ret ?_
 obtain rfl:=Option.some.inj h
 exact J.retG1 (()) rfl rfl (RV.tmp rfl) (SubM.nil) LentAll.nil
end Go.Proofs.YtfimaabbclepbaaGreat
end
section
namespace Go.Proofs.YtfimaabbclepbaaGreat
open Go.Sx
def ref44_Distances_k3  (a11:List (Int)):Option (List (Int)):=
 some (a11)
def ref44_Distances_k4 (a16:Int×List (Int)) (ag15:(Int×List (Int))->Option (List (Int))) (a21:List (Int)):Option (List (Int)):=
 ag15 ((wI .i64 (a16.1+(1:Int))),a21)
def ref44_Distances_k5 (a26:Int×List (Int)) (ag25:(Int×List (Int))->Option (List (Int))) (a31:List (Int)):Option (List (Int)):=
 ag25 ((wI .i64 (a26.1+(1:Int))),a31)
def ref44_Distances_k6 (p0:List (Int)×(List (List (Int×Int)))) (a26:Int×List (Int)) (ag25:(Int×List (Int))->Option (List (Int))) (a36:Int×List (Int)) (ag35:(Int×List (Int))->Option (List (Int))) (a40:Bool):Option (List (Int)):=
 if a40=true then(ck (0<=a26.1∧a26.1<(List.length a36.2:Int)) (ck (0<=a26.1∧a26.1<(List.length p0.2:Int)) (ck (0<=a36.1∧a36.1<(List.length (at' p0.2 a26.1):Int)) (ck (0<=((at' (at' p0.2 a26.1) a36.1).1)∧((at' (at' p0.2 a26.1) a36.1).1)<(List.length a36.2:Int)) (ck (0<=a26.1∧a26.1<(List.length a36.2:Int)) (ag35 ((wI .i64 (a36.1+(1:Int))),(List.set a36.2 (Int.toNat a26.1) (min (at' a36.2 a26.1) (wI .i64 ((at' a36.2 ((at' (at' p0.2 a26.1) a36.1).1))+(1:Int))))))))))))else(ref44_Distances_k5 a26 ag25 (a36.2))
def ref44_Distances_s3 (fuel:Nat) (p0:List (Int)×(List (List (Int×Int)))) (p2:Int) (a26:Int×List (Int)) (ag25:(Int×List (Int))->Option (List (Int))) (a36:Int×List (Int)) (ag35:(Int×List (Int))->Option (List (Int))):Option (List (Int)):=
 ck (0<=a26.1∧a26.1<(List.length p0.2:Int)) (if a36.1<(List.length (at' p0.2 a26.1):Int)then(Option.bind (m_ref01_Has fuel p2 a26.1) fun r50=>(ref44_Distances_k6 p0 a26 ag25 a36 ag35 ((!r50))))else(ref44_Distances_k6 p0 a26 ag25 a36 ag35 (false)))
def ref44_Distances_s2 (fuel:Nat) (p0:List (Int)×(List (List (Int×Int)))) (p1:List (List (Int))) (p2:Int) (a16:Int×List (Int)) (ag15:(Int×List (Int))->Option (List (Int))) (a26:Int×List (Int)) (ag25:(Int×List (Int))->Option (List (Int))):Option (List (Int)):=
 if a26.1<(List.length p1:Int)then(iter (ref44_Distances_s3 fuel p0 p2 a26 ag25) fuel ((0:Int),a26.2))else(ref44_Distances_k4 a16 ag15 (a26.2))
def ref44_Distances_s1 (fuel:Nat) (p0:List (Int)×(List (List (Int×Int)))) (p1:List (List (Int))) (p2:Int) (a16:Int×List (Int)) (ag15:(Int×List (Int))->Option (List (Int))):Option (List (Int)):=
 if a16.1<=(List.length p1:Int)then(iter (ref44_Distances_s2 fuel p0 p1 p2 a16 ag15) fuel ((1:Int),a16.2))else(ref44_Distances_k3  (a16.2))
def ref44_Distances_k2 (fuel:Nat) (p0:List (Int)×(List (List (Int×Int)))) (p1:List (List (Int))) (p2:Int) (a8:List (Int)):Option (List (Int)):=
 iter (ref44_Distances_s1 fuel p0 p1 p2) fuel ((0:Int),a8)
def ref44_Distances_k7 (a57:List (Int)×Int) (ag56:(List (Int)×Int)->Option (List (Int))) (a63:List (Int)):Option (List (Int)):=
 ag56 (a63,(wI .i64 (a57.2+(1:Int))))
def ref44_Distances_s4 (fuel:Nat) (p0:List (Int)×(List (List (Int×Int)))) (p1:List (List (Int))) (p2:Int) (a57:List (Int)×Int) (ag56:(List (Int)×Int)->Option (List (Int))):Option (List (Int)):=
 if a57.2<(List.length p1:Int)then(Option.bind (m_ref01_Has fuel p2 a57.2) fun r65=>(if r65=true then(ck (0<=a57.2∧a57.2<(List.length p1:Int)) (ck (0<=(0:Int)∧(0:Int)<(List.length (at' p1 a57.2):Int)) (ck ((List.length a57.1:Int)+(List.length ([(at' (at' p1 a57.2) (0:Int))]):Int)<=1099511627) (ref44_Distances_k7 a57 ag56 (a57.1++([(at' (at' p1 a57.2) (0:Int))]))))))else(if a57.2=(0:Int)then(ck ((List.length a57.1:Int)+(List.length ([(0:Int)]):Int)<=1099511627) (ref44_Distances_k7 a57 ag56 (a57.1++([(0:Int)]))))else(ck ((List.length a57.1:Int)+(List.length ([(List.length p1:Int)]):Int)<=1099511627) (ref44_Distances_k7 a57 ag56 (a57.1++([(List.length p1:Int)])))))))else(ref44_Distances_k2 fuel p0 p1 p2 (a57.1))
def ref44_Distances_k1 (fuel:Nat) (p0:List (Int)×(List (List (Int×Int)))) (p1:List (List (Int))) (p2:Int) (a3:Bool):Option (List (Int)):=
 if a3=true then(some ([]:List Int))else(iter (ref44_Distances_s4 fuel p0 p1 p2) fuel (([]:List Int),(0:Int)))
def m_ref44_Distances (fuel:Nat) (p0:List (Int)×(List (List (Int×Int)))) (p1:List (List (Int))) (p2:Int):Option (List (Int)):=
 Option.bind (m_ref23_Fit fuel ((p0.1,p0.2))) fun r81=>(if(!r81)=true then(ref44_Distances_k1 fuel p0 p1 p2 (true))else(Option.bind (m_ref23_Vars fuel) fun r85=>(Option.bind (m_ref23_Config fuel ((p0.1,p0.2)) p1 r85) fun r88=>(ref44_Distances_k1 fuel p0 p1 p2 ((!r88))))))
theorem body12:HasBody Tryz.prog 12:=Tryz.call12
theorem t_ref44_Distances (fuel:Nat) {p0:List (Int)×(List (List (Int×Int)))} {p1:List (List (Int))} {p2:Int} (v0:Value)  (v1:Value)  (z2:List (Value×List (Int×Int)))  (v3:Value)  (z4:List (Value×List (Int))) (r:List (Int)) (h:m_ref44_Distances fuel p0 p1 p2=some r):
  Meets Tryz.prog 12 #[Value.agg #[v0,v1],v3,Value.int .u32 (p2)] [Sl RI64 v0 p0.1,S2 RI64I64p v1 z2 p0.2,S2 RI64 v3 z4 p1] (fun x:Value=>x) (fun x l=>Ar EI64 x r::l) (fun _ l=>l):=by
 refine Meets.of (vs:=[Value.agg #[v0,v1],v3,Value.int .u32 (p2)]) Tryz.func12 rfl Tryz.ntmps12 rfl fun c=> ?_
 unfold m_ref44_Distances at h
 refine J.seq<|J.region<|J.loud (Loud.box (cs:=[v0,v1]) rfl rfl) rfl fun b1=>J.quiet (Y.assign rfl) rfl<|J.done<|J.thenN<|J.seq<|J.seq<|J.midI (A:=Bool) (B:=Unit) (fun a3=>ref44_Distances_k1 fuel p0 p1 p2 a3=some r) (fun a3 b4=>[(1,v3),(2,Value.int .u32 (p2)),(3,Value.pointer (some ⟨b1,0,none⟩)),(22,Value.bool (a3))]) (fun a3 b4=>[Blk b1 [v0,v1] 25]) (fun a3 b4=>[Sl RI64 v0 p0.1,S2 RI64I64p v1 z2 p0.2,S2 RI64 v3 z4 p1]) ?_ ?_
 ·refine JR.start [0,1,3,7,15,15,15,127,255,511] 7 mixedOrders (by decide +kernel) ?_
  refine JR.open (by exact rfl) ?_
  refine JR.qt rfl (SubM.refl _) (SubL.nil) (Y.loadBAll 0 rfl rfl rfl rfl) HistOk.z ?_
  have h:=bnd h;obtain⟨r81,hr82,h⟩:=h
  refine JR.loud rfl rfl rfl (Loud.callL body33 (t_ref23_Fit fuel v0 v1 z2 r81 hr82) rfl (LentAll.cons (Lent.fact 0 rfl) (LentAll.cons (Lent.fact 1 rfl) .nil)) (fun _ _=>rfl)) rfl (fun x83=>(BsOk.b rfl BsOk.z)) fun x83=>JR.qt rfl (SubM.nil) (SubL.nil) (Y.not rfl) (HistOk.b rfl HistOk.z)<|JR.qt rfl (SubM.nil) (SubL.nil) (Y.move rfl) (HistOk.b rfl HistOk.z) ?_
  refine JR.guard (by exact rfl) (by exact rfl) (by exact rfl) (fun hp84=> ?_) (fun hp84=> ?_)
  ·have h:=ifP hp84 h
   refine JR.guardN rfl rfl rfl rfl<|JR.guardN rfl rfl rfl rfl<|JR.guardN rfl rfl rfl rfl<|JR.tailD 7 rfl rfl<|J.guardN rfl rfl rfl<|J.guardN rfl rfl rfl<|J.quiet (Y.pickT rfl rfl) rfl<|J.done<|J.thenN ?_
   exact J.meetI (true) (()) h SF (SubM.refl _) (LentAll.refl _ _)
  ·have h:=ifBN hp84 h
   refine JR.qtG rfl (SubM.refl _) (SubL.nil) (Y.loadBAll 0 rfl rfl rfl rfl) (HistOk.b rfl HistOk.z)<|JR.qtG rfl (SubM.nil) (SubL.nil) (Y.move rfl) (HistOk.b rfl HistOk.z) ?_
   have h:=bnd h;obtain⟨r85,hr86,h⟩:=h
   refine JR.loudG rfl rfl rfl rfl (Loud.callL body17 (t_ref23_Vars fuel  r85 hr86) rfl .nil (fun _ _=>rfl)) rfl (fun x87=>(BsOk.h (SubM.nil) (SubL.nil) (BsOk.h (SubM.cons 1 rfl (SubM.nil)) (SubL.nil) (BsOk.b rfl (BsOk.b rfl (BsOk.b rfl BsOk.z)))))) fun x87=>JR.tailD 7 rfl rfl ?_
   have h:=bnd h;obtain⟨r88,hr89,h⟩:=h
   refine J.loudG rfl (Loud.callL body25 (t_ref23_Config fuel v0 v1 z2 v3 z4 x87 r88 hr89) rfl (LentAll.cons (Lent.fact 0 rfl) (LentAll.cons (Lent.fact 1 rfl) (LentAll.cons (Lent.fact 2 rfl) (LentAll.cons (Lent.ar (Lent.res 0 rfl) FStI64I64I64I64I64p) .nil)))) (fun _ _=>rfl)) rfl fun x90=>J.guardY rfl (Y.not rfl) rfl<|J.quiet (Y.pickF rfl rfl) rfl<|J.done<|J.thenN ?_
   exact J.meetI ((!r88)) (()) h SF (SubM.cons 1 rfl (SubM.nil)) (LentAll.refl _ _)
 ·clear h
  intro a3 b4 h
  unfold ref44_Distances_k1 at h
  refine J.cond (by exact rfl) (fun hp5=> ?_) (fun hp5=> ?_)
  ·have h:=ifP hp5 h
   refine J.seq<|J.region<|J.quiet (Y.assign rfl) rfl<|J.done<|J.thenN<|J.ret<|J.thenR<|J.stp (Stp.nilAr EI64) ?_
   obtain rfl:=Option.some.inj h
   exact J.retG1 (Value.slice none 0 0) rfl rfl (RV.tmp rfl) (SubM.cons 0 rfl (SubM.nil)) LentAll.nil
  ·have h:=ifBN hp5 h
   refine J.skip<|J.thenN<|J.seq<|J.region<|J.quiet (Y.move rfl) rfl<|J.quiet (Y.lenN rfl (Lent.fact 2 rfl) rfl) rfl<|J.quiet (Y.assign rfl) rfl<|J.done<|J.thenN<|J.seq<|J.region<|J.quiet (Y.assign rfl) rfl<|J.done<|J.thenN<|J.seq<|J.midI (A:=List (Int)) (B:=Value) (fun a8=>ref44_Distances_k2 fuel p0 p1 p2 a8=some r) (fun a8 b9=>[(2,Value.int .u32 (p2)),(3,Value.pointer (some ⟨b1,0,none⟩)),(7,Value.int .i64 (List.length p1:Int)),(8,b9)]) (fun a8 b9=>[Blk b1 [v0,v1] 25,Ar EI64 b9 a8]) (fun a8 b9=>[Sl RI64 v0 p0.1,S2 RI64I64p v1 z2 p0.2,S2 RI64 v3 z4 p1]) ?_ ?_
   ·refine J.seq<|J.region<|J.quiet (Y.assign rfl) rfl<|J.done<|J.thenN<|J.block<|J.stp (Stp.nilAr EI64)<|J.loopI (A:=List (Int)×Int) (B:=Value) (ref44_Distances_s4 fuel p0 p1 p2) (fun a57 b58=>[(1,v3),(2,Value.int .u32 (p2)),(3,Value.pointer (some ⟨b1,0,none⟩)),(7,Value.int .i64 (List.length p1:Int)),(8,b58),(9,Value.int .i64 (a57.2))]) (fun a57 b58=>[Blk b1 [v0,v1] 25,Ar EI64 b58 a57.1]) (fun a57 b58=>[Sl RI64 v0 p0.1,S2 RI64I64p v1 z2 p0.2,S2 RI64 v3 z4 p1]) (([]:List Int),(0:Int)) (Value.slice none 0 0) h SF (SubM.cons 1 rfl (SubM.cons 0 rfl (SubM.nil))) (LentAll.refl _ _) ?_
    clear h
    intro k59 a57 b58 h
    unfold ref44_Distances_s4 at h
    refine J.seq<|J.seq<|J.region<|J.quiet (Y.move rfl) rfl<|J.quiet (Y.move rfl) rfl<|J.quiet (Y.lss rfl rfl) rfl<|J.done<|J.thenN ?_
    refine J.condD (by exact rfl) (fun hp60=> ?_) (fun hp60=> ?_)
    ·have h:=ifP hp60 h
     refine J.skip<|J.thenN<|J.seq<|J.midI (A:=List (Int)) (B:=Value) (fun a63=>ref44_Distances_k7 a57 (iter (ref44_Distances_s4 fuel p0 p1 p2) k59) a63=some r) (fun a63 b64=>[(1,v3),(2,Value.int .u32 (p2)),(3,Value.pointer (some ⟨b1,0,none⟩)),(7,Value.int .i64 (List.length p1:Int)),(8,b64),(9,Value.int .i64 (a57.2))]) (fun a63 b64=>[Blk b1 [v0,v1] 25,Ar EI64 b64 a63]) (fun a63 b64=>[Sl RI64 v0 p0.1,S2 RI64I64p v1 z2 p0.2,S2 RI64 v3 z4 p1]) ?_ ?_
     ·refine J.block<|J.block<|J.seq<|J.region<|J.quiet (Y.move rfl) rfl<|J.quiet (Y.move rfl) rfl ?_
      have h:=bnd h;obtain⟨r65,hr66,h⟩:=h
      refine J.loud (Loud.callL body34 (t_ref01_Has fuel  r65 hr66) rfl .nil (fun _ _=>rfl)) rfl fun x67=>J.quiet (Y.assign rfl) rfl<|J.done<|J.thenN ?_
      refine J.cond (by exact rfl) (fun hp68=> ?_) (fun hp68=> ?_)
      ·have h:=ifP hp68 h
       refine J.region<|J.quiet (Y.move rfl) rfl<|J.quiet (Y.move rfl) rfl<|J.quiet (Y.move rfl) rfl ?_
       have h:=ck_some h;obtain⟨hc69,h⟩:=h
       refine J.quiet (Y.indexN rfl rfl (Lent.fact 2 rfl) rfl rfl hc69) rfl<|J.quiet (Y.loadRow rfl (Lent.fact 2 rfl) rfl rfl hc69) rfl ?_
       have h:=ck_some h;obtain⟨hc70,h⟩:=h
       refine J.quiet (Y.indexS rfl rfl (Lent.el (Lent.fact 2 rfl) hc69.1 hc69.2) rfl rfl hc70) rfl<|J.quiet (Y.loadS0 rfl (Lent.el (Lent.fact 2 rfl) hc69.1 hc69.2) rfl rfl rfl RI64c0 hc70) rfl<|J.loud (Loud.buildS (e:=EI64) ([(at' (at' p1 a57.2) (0:Int))]) [(0,Value.int .i64 (at' (at' p1 a57.2) (0:Int)))] rfl rfl rfl rfl (fill_1_1 (Value.int .i64 (at' (at' p1 a57.2) (0:Int))) rfl) rfl rfl rfl) rfl fun u71=> ?_
       have h:=ck_some h;obtain⟨hc73,h⟩:=h
       refine J.loud (Loud.appendL 2 FI64 rfl rfl rfl (Lent.ar (Lent.res 0 rfl) FI64) rfl rfl rfl rfl hc73 rfl) rfl fun u72=>J.quiet (Y.assign rfl) rfl<|J.done<|J.inN<|J.inN<|J.thenN ?_
       exact J.meetI (a57.1++([(at' (at' p1 a57.2) (0:Int))])) (u72) h SF (SubM.cons 1 rfl (SubM.cons 1 rfl (SubM.nil))) (LentAll.refl _ _)
      ·have h:=ifBN hp68 h
       refine J.seq<|J.region<|J.quiet (Y.move rfl) rfl<|J.quiet (Y.eql rfl rfl) rfl<|J.quiet (Y.assign rfl) rfl<|J.done<|J.thenN ?_
       refine J.condD (by exact rfl) (fun hp74=> ?_) (fun hp74=> ?_)
       ·have h:=ifP hp74 h
        refine J.region<|J.quiet (Y.move rfl) rfl<|J.loud (Loud.buildS (e:=EI64) ([(0:Int)]) [(0,Value.int .i64 (0:Int))] rfl rfl rfl rfl (fill_1_1 (Value.int .i64 (0:Int)) rfl) rfl rfl rfl) rfl fun u75=> ?_
        have h:=ck_some h;obtain⟨hc77,h⟩:=h
        refine J.loud (Loud.appendL 2 FI64 rfl rfl rfl (Lent.ar (Lent.res 0 rfl) FI64) rfl rfl rfl rfl hc77 rfl) rfl fun u76=>J.quiet (Y.assign rfl) rfl<|J.done<|J.inN<|J.inN<|J.thenN ?_
        exact J.meetI (a57.1++([(0:Int)])) (u76) h SF (SubM.cons 1 rfl (SubM.cons 1 rfl (SubM.nil))) (LentAll.refl _ _)
       ·have h:=ifN hp74 h
        refine J.region<|J.quiet (Y.move rfl) rfl<|J.quiet (Y.move rfl) rfl<|J.loud (Loud.buildS (e:=EI64) ([(List.length p1:Int)]) [(0,Value.int .i64 (List.length p1:Int))] rfl rfl rfl rfl (fill_1_1 (Value.int .i64 (List.length p1:Int)) rfl) rfl rfl rfl) rfl fun u78=> ?_
        have h:=ck_some h;obtain⟨hc80,h⟩:=h
        refine J.loud (Loud.appendL 2 FI64 rfl rfl rfl (Lent.ar (Lent.res 0 rfl) FI64) rfl rfl rfl rfl hc80 rfl) rfl fun u79=>J.quiet (Y.assign rfl) rfl<|J.done<|J.inN<|J.inN<|J.thenN ?_
        exact J.meetI (a57.1++([(List.length p1:Int)])) (u79) h SF (SubM.cons 1 rfl (SubM.cons 1 rfl (SubM.nil))) (LentAll.refl _ _)
     ·clear h
      intro a63 b64 h
      unfold ref44_Distances_k7 at h
      refine J.region<|J.quiet (Y.move rfl) rfl<|J.quiet (Y.addW rfl rfl) rfl<|J.quiet (Y.assign rfl) rfl<|J.done<|J.thenN ?_
      exact J.againI (a63,(wI .i64 (a57.2+(1:Int)))) (b64) h SF (SubM.refl _) (LentAll.refl _ _)
    ·have h:=ifN hp60 h
     refine J.exit<|J.thenX<|J.thenX<|J.inX<|J.thenN ?_
     exact J.meetI (a57.1) (b58) h SF (SubM.refl _) (LentAll.refl _ _)
   ·clear h
    intro a8 b9 h
    unfold ref44_Distances_k2 at h
    refine J.seq<|J.midI (A:=List (Int)) (B:=Unit) (fun a11=>ref44_Distances_k3  a11=some r) (fun a11 b12=>[(8,b9)]) (fun a11 b12=>[Ar EI64 b9 a11]) (fun a11 b12=>[Sl RI64 v0 p0.1,S2 RI64I64p v1 z2 p0.2,S2 RI64 v3 z4 p1]) ?_ ?_
    ·refine J.seq<|J.region<|J.quiet (Y.assign rfl) rfl<|J.done<|J.thenN<|J.block<|J.loopI (A:=Int×List (Int)) (B:=Unit) (ref44_Distances_s1 fuel p0 p1 p2) (fun a16 b17=>[(2,Value.int .u32 (p2)),(3,Value.pointer (some ⟨b1,0,none⟩)),(7,Value.int .i64 (List.length p1:Int)),(8,b9),(10,Value.int .i64 (a16.1))]) (fun a16 b17=>[Blk b1 [v0,v1] 25,Ar EI64 b9 a16.2]) (fun a16 b17=>[Sl RI64 v0 p0.1,S2 RI64I64p v1 z2 p0.2,S2 RI64 v3 z4 p1]) ((0:Int),a8) (()) h SF (SubM.refl _) (LentAll.refl _ _) ?_
     clear h
     intro k18 a16 b17 h
     unfold ref44_Distances_s1 at h
     refine J.seq<|J.seq<|J.region<|J.quiet (Y.move rfl) rfl<|J.quiet (Y.move rfl) rfl<|J.quiet (Y.leq rfl rfl) rfl<|J.done<|J.thenN ?_
     refine J.condD (by exact rfl) (fun hp19=> ?_) (fun hp19=> ?_)
     ·have h:=ifP hp19 h
      refine J.skip<|J.thenN<|J.seq<|J.midI (A:=List (Int)) (B:=Unit) (fun a21=>ref44_Distances_k4 a16 (iter (ref44_Distances_s1 fuel p0 p1 p2) k18) a21=some r) (fun a21 b22=>[(2,Value.int .u32 (p2)),(3,Value.pointer (some ⟨b1,0,none⟩)),(7,Value.int .i64 (List.length p1:Int)),(8,b9),(10,Value.int .i64 (a16.1))]) (fun a21 b22=>[Blk b1 [v0,v1] 25,Ar EI64 b9 a21]) (fun a21 b22=>[Sl RI64 v0 p0.1,S2 RI64I64p v1 z2 p0.2,S2 RI64 v3 z4 p1]) ?_ ?_
      ·refine J.block<|J.seq<|J.region<|J.quiet (Y.assign rfl) rfl<|J.done<|J.thenN<|J.block<|J.loopI (A:=Int×List (Int)) (B:=Unit) (ref44_Distances_s2 fuel p0 p1 p2 a16 (iter (ref44_Distances_s1 fuel p0 p1 p2) k18)) (fun a26 b27=>[(2,Value.int .u32 (p2)),(3,Value.pointer (some ⟨b1,0,none⟩)),(7,Value.int .i64 (List.length p1:Int)),(8,b9),(10,Value.int .i64 (a16.1)),(11,Value.int .i64 (a26.1))]) (fun a26 b27=>[Blk b1 [v0,v1] 25,Ar EI64 b9 a26.2]) (fun a26 b27=>[Sl RI64 v0 p0.1,S2 RI64I64p v1 z2 p0.2,S2 RI64 v3 z4 p1]) ((1:Int),a16.2) (()) h SF (SubM.refl _) (LentAll.refl _ _) ?_
       clear h
       intro k28 a26 b27 h
       unfold ref44_Distances_s2 at h
       refine J.seq<|J.seq<|J.region<|J.quiet (Y.move rfl) rfl<|J.quiet (Y.move rfl) rfl<|J.quiet (Y.lss rfl rfl) rfl<|J.done<|J.thenN ?_
       refine J.condD (by exact rfl) (fun hp29=> ?_) (fun hp29=> ?_)
       ·have h:=ifP hp29 h
        refine J.skip<|J.thenN<|J.seq<|J.midI (A:=List (Int)) (B:=Unit) (fun a31=>ref44_Distances_k5 a26 (iter (ref44_Distances_s2 fuel p0 p1 p2 a16 (iter (ref44_Distances_s1 fuel p0 p1 p2) k18)) k28) a31=some r) (fun a31 b32=>[(2,Value.int .u32 (p2)),(3,Value.pointer (some ⟨b1,0,none⟩)),(7,Value.int .i64 (List.length p1:Int)),(8,b9),(10,Value.int .i64 (a16.1)),(11,Value.int .i64 (a26.1))]) (fun a31 b32=>[Blk b1 [v0,v1] 25,Ar EI64 b9 a31]) (fun a31 b32=>[Sl RI64 v0 p0.1,S2 RI64I64p v1 z2 p0.2,S2 RI64 v3 z4 p1]) ?_ ?_
        ·refine J.block<|J.seq<|J.region<|J.quiet (Y.assign rfl) rfl<|J.done<|J.thenN<|J.block<|J.loopI (A:=Int×List (Int)) (B:=Unit) (ref44_Distances_s3 fuel p0 p2 a26 (iter (ref44_Distances_s2 fuel p0 p1 p2 a16 (iter (ref44_Distances_s1 fuel p0 p1 p2) k18)) k28)) (fun a36 b37=>[(2,Value.int .u32 (p2)),(3,Value.pointer (some ⟨b1,0,none⟩)),(7,Value.int .i64 (List.length p1:Int)),(8,b9),(10,Value.int .i64 (a16.1)),(11,Value.int .i64 (a26.1)),(12,Value.int .i64 (a36.1))]) (fun a36 b37=>[Blk b1 [v0,v1] 25,Ar EI64 b9 a36.2]) (fun a36 b37=>[Sl RI64 v0 p0.1,S2 RI64I64p v1 z2 p0.2,S2 RI64 v3 z4 p1]) ((0:Int),a26.2) (()) h SF (SubM.refl _) (LentAll.refl _ _) ?_
         clear h
         intro k38 a36 b37 h
         unfold ref44_Distances_s3 at h
         refine J.seq<|J.seq<|J.midI (A:=Bool) (B:=Unit) (fun a40=>ref44_Distances_k6 p0 a26 (iter (ref44_Distances_s2 fuel p0 p1 p2 a16 (iter (ref44_Distances_s1 fuel p0 p1 p2) k18)) k28) a36 (iter (ref44_Distances_s3 fuel p0 p2 a26 (iter (ref44_Distances_s2 fuel p0 p1 p2 a16 (iter (ref44_Distances_s1 fuel p0 p1 p2) k18)) k28)) k38) a40=some r) (fun a40 b41=>[(2,Value.int .u32 (p2)),(3,Value.pointer (some ⟨b1,0,none⟩)),(7,Value.int .i64 (List.length p1:Int)),(8,b9),(10,Value.int .i64 (a16.1)),(11,Value.int .i64 (a26.1)),(12,Value.int .i64 (a36.1)),(76,Value.bool (a40))]) (fun a40 b41=>[Blk b1 [v0,v1] 25,Ar EI64 b9 a36.2]) (fun a40 b41=>[Sl RI64 v0 p0.1,S2 RI64I64p v1 z2 p0.2,S2 RI64 v3 z4 p1]) ?_ ?_
         ·refine J.region<|J.quiet (Y.move rfl) rfl<|J.quiet (Y.fieldB rfl rfl rfl rfl rfl) rfl<|J.quiet (Y.loadB 0 rfl rfl rfl rfl rfl) rfl<|J.quiet (Y.move rfl) rfl ?_
          have h:=ck_some h;obtain⟨hc48,h⟩:=h
          refine J.quiet (Y.indexN rfl rfl (Lent.fact 1 rfl) rfl rfl hc48) rfl<|J.quiet (Y.loadRow rfl (Lent.fact 1 rfl) rfl rfl hc48) rfl<|J.quiet (Y.lenS rfl (Lent.el (Lent.fact 1 rfl) hc48.1 hc48.2) rfl) rfl<|J.quiet (Y.lss rfl rfl) rfl<|J.quiet (Y.move rfl) rfl ?_
          refine J.guardD (by exact rfl) (by exact rfl) (fun hp49=> ?_) (fun hp49=> ?_)
          ·have h:=ifP hp49 h
           refine J.guardY rfl (Y.move rfl) rfl<|J.guardY rfl (Y.move rfl) rfl ?_
           have h:=bnd h;obtain⟨r50,hr51,h⟩:=h
           refine J.loudG rfl (Loud.callL body34 (t_ref01_Has fuel  r50 hr51) rfl .nil (fun _ _=>rfl)) rfl fun x52=>J.guardY rfl (Y.not rfl) rfl<|J.quiet (Y.pickT rfl rfl) rfl<|J.done<|J.thenN ?_
           exact J.meetI ((!r50)) (()) h SF (SubM.refl _) (LentAll.refl _ _)
          ·have h:=ifN hp49 h
           refine J.guardN rfl rfl rfl<|J.guardN rfl rfl rfl<|J.guardN rfl rfl rfl<|J.guardN rfl rfl rfl<|J.quiet (Y.pickF rfl rfl) rfl<|J.done<|J.thenN ?_
           exact J.meetI (false) (()) h SF (SubM.refl _) (LentAll.refl _ _)
         ·clear h
          intro a40 b41 h
          unfold ref44_Distances_k6 at h
          refine J.cond (by exact rfl) (fun hp42=> ?_) (fun hp42=> ?_)
          ·have h:=ifP hp42 h
           refine J.skip<|J.thenN<|J.seq<|J.block ?_
           refine JR.start [0,0,0,0,12,28,0,0,128,0,896,1920,0,8064,16256,32640,65472,131008,262080,524284,1048575,2097151] 20 mixedOrders (by decide +kernel) ?_
           refine JR.open (by exact rfl) ?_
           refine JR.qt rfl (SubM.nil) (SubL.nil) (Y.move rfl) HistOk.z<|JR.qt rfl (SubM.nil) (SubL.nil) (Y.move rfl) HistOk.z<|JR.qt rfl (SubM.nil) (SubL.nil) (Y.move rfl) HistOk.z<|JR.qt rfl (SubM.nil) (SubL.nil) (Y.move rfl) HistOk.z ?_
           have h:=ck_some h;obtain⟨hc43,h⟩:=h
           refine JR.qt rfl (SubM.cons 1 rfl (SubM.nil)) (SubL.nil) (Y.indexS rfl rfl (Lent.ar (Lent.res 0 rfl) FI64) rfl rfl hc43) HistOk.z<|JR.qt rfl (SubM.cons 1 rfl (SubM.nil)) (SubL.nil) (Y.loadS0 rfl (Lent.ar (Lent.res 0 rfl) FI64) rfl rfl rfl RI64c0 hc43) HistOk.z<|JR.qt rfl (SubM.nil) (SubL.nil) (Y.move rfl) HistOk.z<|JR.qt rfl (SubM.nil) (SubL.nil) (Y.fieldB rfl rfl rfl rfl rfl) HistOk.z<|JR.qt rfl (SubM.cons 0 rfl (SubM.nil)) (SubL.nil) (Y.loadB 0 rfl rfl rfl rfl rfl) HistOk.z<|JR.qt rfl (SubM.nil) (SubL.nil) (Y.move rfl) HistOk.z ?_
           have h:=ck_some h;obtain⟨hc44,h⟩:=h
           refine JR.qt rfl (SubM.nil) (SubL.cons (List.mem_of_getElem? (i:=1) rfl) (SubL.nil)) (Y.indexN rfl rfl (Lent.fact 0 rfl) rfl rfl hc44) HistOk.z<|JR.qt rfl (SubM.nil) (SubL.cons (List.mem_of_getElem? (i:=1) rfl) (SubL.nil)) (Y.loadRow rfl (Lent.fact 0 rfl) rfl rfl hc44) HistOk.z<|JR.qt rfl (SubM.nil) (SubL.nil) (Y.move rfl) HistOk.z ?_
           have h:=ck_some h;obtain⟨hc45,h⟩:=h
           refine JR.qt rfl (SubM.nil) (SubL.cons (List.mem_of_getElem? (i:=1) rfl) (SubL.nil)) (Y.indexS rfl rfl (Lent.el (Lent.fact 0 rfl) hc44.1 hc44.2) rfl rfl hc45) HistOk.z<|JR.qt rfl (SubM.nil) (SubL.nil) (Y.fieldEl rfl rfl rfl rfl rfl) HistOk.z<|JR.qt rfl (SubM.nil) (SubL.cons (List.mem_of_getElem? (i:=1) rfl) (SubL.nil)) (Y.loadS rfl (Lent.el (Lent.fact 0 rfl) hc44.1 hc44.2) rfl rfl rfl RI64I64pc0 hc45) HistOk.z ?_
           have h:=ck_some h;obtain⟨hc46,h⟩:=h
           refine JR.qt rfl (SubM.cons 1 rfl (SubM.nil)) (SubL.nil) (Y.indexS rfl rfl (Lent.ar (Lent.res 0 rfl) FI64) rfl rfl hc46) HistOk.z<|JR.qt rfl (SubM.cons 1 rfl (SubM.nil)) (SubL.nil) (Y.loadS0 rfl (Lent.ar (Lent.res 0 rfl) FI64) rfl rfl rfl RI64c0 hc46) HistOk.z<|JR.qt rfl (SubM.nil) (SubL.nil) (Y.addW rfl rfl) HistOk.z<|JR.qt rfl (SubM.nil) (SubL.nil) (Y.min rfl rfl) HistOk.z<|JR.tailD 20 rfl rfl ?_
           have h:=ck_some h;obtain⟨hc47,h⟩:=h
           refine J.quiet (Y.indexS rfl rfl (Lent.ar (Lent.res 1 rfl) FI64) rfl rfl hc47) rfl<|J.storeS 1 (min (at' a36.2 a26.1) (wI .i64 ((at' a36.2 ((at' (at' p0.2 a26.1) a36.1).1))+(1:Int)))) hc47 rfl rfl rfl rfl rfl rfl rfl<|J.done<|J.inN<|J.thenN<|J.region<|J.quiet (Y.move rfl) rfl<|J.quiet (Y.addW rfl rfl) rfl<|J.quiet (Y.assign rfl) rfl<|J.done<|J.thenN ?_
           exact J.againI ((wI .i64 (a36.1+(1:Int))),(List.set a36.2 (Int.toNat a26.1) (min (at' a36.2 a26.1) (wI .i64 ((at' a36.2 ((at' (at' p0.2 a26.1) a36.1).1))+(1:Int)))))) (()) h SF (SubM.refl _) (LentAll.refl _ _)
          ·have h:=ifBN hp42 h
           refine J.exit<|J.thenX<|J.thenX<|J.inX<|J.inN<|J.thenN ?_
           exact J.meetI (a36.2) (()) h SF (SubM.refl _) (LentAll.refl _ _)
        ·clear h
         intro a31 b32 h
         unfold ref44_Distances_k5 at h
         refine J.region<|J.quiet (Y.move rfl) rfl<|J.quiet (Y.addW rfl rfl) rfl<|J.quiet (Y.assign rfl) rfl<|J.done<|J.thenN ?_
         exact J.againI ((wI .i64 (a26.1+(1:Int))),a31) (()) h SF (SubM.refl _) (LentAll.refl _ _)
       ·have h:=ifN hp29 h
        refine J.exit<|J.thenX<|J.thenX<|J.inX<|J.inN<|J.thenN ?_
        exact J.meetI (a26.2) (()) h SF (SubM.refl _) (LentAll.refl _ _)
      ·clear h
       intro a21 b22 h
       unfold ref44_Distances_k4 at h
       refine J.region<|J.quiet (Y.move rfl) rfl<|J.quiet (Y.addW rfl rfl) rfl<|J.quiet (Y.assign rfl) rfl<|J.done<|J.thenN ?_
       exact J.againI ((wI .i64 (a16.1+(1:Int))),a21) (()) h SF (SubM.refl _) (LentAll.refl _ _)
     ·have h:=ifN hp19 h
      refine J.exit<|J.thenX<|J.thenX<|J.inX<|J.thenN ?_
      exact J.meetI (a16.2) (()) h SF (SubM.cons 1 rfl (SubM.nil)) (LentAll.refl _ _)
    ·clear h
     intro a11 b12 h
     unfold ref44_Distances_k3 at h
     refine J.seq<|J.region<|J.quiet (Y.move rfl) rfl<|J.quiet (Y.assign rfl) rfl<|J.done<|J.thenN<|J.ret ?_
     obtain rfl:=Option.some.inj h
     exact J.retG1 (b9) rfl rfl (RV.tmp rfl) (SubM.refl _) LentAll.nil
end Go.Proofs.YtfimaabbclepbaaGreat
end
section
namespace Go.Proofs.YtfimaabbclepbaaGreat
open Go Go.Sx

def Fit (g:GR):Prop:=VG g∧Conn g
theorem fit_eq (g:GR):(Fit g->m_bfs_Fit 1000 g=some true)∧(¬Fit g->m_bfs_Fit 1000 g=some false):=by
 unfold m_bfs_Fit
 by_cases hV:VG g
 ·refine⟨fun h=> ?_,fun h=> ?_⟩
  ·rw[(connected_eq hV).1 h.2];rfl
  ·rw[(connected_eq hV).2 fun hc=>h ⟨hV,hc⟩];rfl
 ·refine⟨fun h=>absurd h.1 hV,fun _=> ?_⟩
  unfold m_graph_Connected
  rw[(valid_gen g).2 hV];rfl
theorem refFit_eq (g:GR):(Fit g->m_ref23_Fit 1000 g=some true)∧(¬Fit g->m_ref23_Fit 1000 g=some false):=by
 unfold m_ref23_Fit m_ref01_Connected
 by_cases hV:VG g
 ·have hn:=hV.n1
  have h24:=hV.n24
  obtain⟨d,_,hD⟩:=search_ok hV (s:=0) (by omega)
  have hl:=hD.len
  have e:m_ref01_Distances 1000 g 0=some d:=refDistances_eq hV (s:=0) (by omega) hD
  obtain⟨r,hr,h1,h2⟩:=refGreatest_ok d (by omega)
  have hc:=conn_iff hV (s:=0) (by omega) hD
  rw[show m_ref01_Distances 1000 (g.1,g.2) 0=some d from e,bindS rfl,hr,bindS rfl,bindS rfl]
  refine⟨fun h=> ?_,fun h=> ?_⟩
  ·obtain⟨a1,a2,_⟩:=h2 (hc.2 h.2)
   have h0:=a2 0 (by omega)
   have:=(hD.zero 0 (by omega)).2 rfl
   rw[decide_eq_true (by omega)]
  ·rw[h1 fun h'=>h ⟨hV,hc.1 h'⟩];rfl
 ·refine⟨fun h=>absurd h.1 hV,fun _=> ?_⟩
  unfold m_ref01_Distances
  rw[show m_ref01_Valid 1000 (g.1,g.2)=some false from(refValid_gen g).2 hV];rfl

structure DG (g:GR) (c:List (List Int)):Prop where
 v:VG g
 c:Cf g c [(g.2.length:Int),-1]
theorem DG.len {g:GR} {c:List (List Int)} (h:DG g c):c.length=g.2.length:=h.c.len
theorem DG.row {g:GR} {c:List (List Int)} (h:DG g c) {v:Nat} (hv:v<g.2.length):(at' c (v:Int)).length=2:=h.c.row v hv
theorem DG.val0 {g:GR} {c:List (List Int)} (h:DG g c) {v:Nat} (hv:v<g.2.length):0<=at' (at' c (v:Int)) 0∧at' (at' c (v:Int)) 0<=g.2.length:=by
 have h:=h.c.ok v hv 0 (by simp)
 have e:at' [(g.2.length:Int),-1] ((0:Nat):Int)=g.2.length:=rfl
 unfold InTop at h
 rw[e,if_neg (by omega)]at h
 exact h
inductive Wk (g:GR) (c:List (List Int)) (d:Nat):Nat->Nat->Int->Prop
 |dead {v:Nat} (hv:v<g.2.length) (hd:d.testBit v=true):Wk g c d 0 v (at' (at' c (v:Int)) 0)
 |root (hd:d.testBit 0=false):Wk g c d 0 0 0
 |init {v:Nat} (h0:0<v) (hv:v<g.2.length) (hd:d.testBit v=false):Wk g c d 0 v (g.2.length:Int)
 |step {v i u k:Nat} {m:Int} (h0:0<v) (hv:v<g.2.length) (hd:d.testBit v=false) (hi:i<(row g v).length) (hu:(lnk (row g v) i).1=(u:Int)) (h:Wk g c d k u m):Wk g c d (k+1) v (m+1)
theorem Wk.ge {g:GR} {c:List (List Int)} {d:Nat} (hG:DG g c) {k v:Nat} {m:Int} (h:Wk g c d k v m):(k:Int)<=m:=by
 induction h with
 |dead hv hd=>have:=hG.val0 hv;omega
 |root hd=>omega
 |init h0 hv hd=>omega
 |step h0 hv hd hi hu h ih=>omega
structure Snd (g:GR) (c:List (List Int)) (d:Nat) (l:List Int):Prop where
 len:l.length=g.2.length
 ok:∀v,v<g.2.length->∃k,Wk g c d k v (D l v)
def Cmp (g:GR) (c:List (List Int)) (d:Nat) (k:Nat) (l:List Int):Prop:=∀j v m,j<=k->Wk g c d j v m->D l v<=m
theorem Wk.lt {g:GR} {c:List (List Int)} {d:Nat} (hn:0<g.2.length) {k v:Nat} {m:Int} (h:Wk g c d k v m):v<g.2.length:=by
 cases h with
 |dead hv hd=>exact hv
 |root hd=>exact hn
 |init h0 hv hd=>exact hv
 |step h0 hv hd hi hu h=>exact hv
theorem Cmp.all {g:GR} {c:List (List Int)} {d:Nat} (hG:DG g c) {k:Nat} {l:List Int} (hk:g.2.length<=k) (h:Cmp g c d k l) {j v:Nat} {m:Int} (hw:Wk g c d j v m):D l v<=m:=by
 rcases Nat.lt_or_ge k j with hj|hj
 ·have hge:=hw.ge hG
  cases hw with
  |dead hv hd=>omega
  |root hd=>omega
  |init h0 hv hd=>omega
  |step h0 hv hd hi hu hs=>
   have:=h 0 v _ (Nat.zero_le _) (.init h0 hv hd)
   omega
 ·exact h j v m hj hw
theorem snd_unique {g:GR} {c:List (List Int)} {d:Nat} (hG:DG g c) {k k':Nat} {l l':List Int} (hk:g.2.length<=k) (hk':g.2.length<=k') (s:Snd g c d l) (s':Snd g c d l') (h:Cmp g c d k l) (h':Cmp g c d k' l'):l=l':=by
 refine list_ext (by rw[s.len,s'.len]) fun v hv=> ?_
 rw[s.len]at hv
 obtain⟨j,hw⟩:=s.ok v hv
 obtain⟨j',hw'⟩:=s'.ok v hv
 have:=h.all hG hk hw'
 have:=h'.all hG hk' hw
 omega

def d0 (g:GR) (c:List (List Int)) (d v:Nat):Int:=if d.testBit v=true then at' (at' c (v:Int)) 0 else if v=0 then 0 else(g.2.length:Int)
def start (g:GR) (c:List (List Int)) (d:Nat):List Int:=(List.range g.2.length).map (d0 g c d)
theorem start_at {g:GR} {c:List (List Int)} {d v:Nat} (hv:v<g.2.length):D (start g c d) v=d0 g c d v:=by
 have h:v<(start g c d).length:=by simp[start,hv]
 rw[D_getElem h];simp[start]
theorem start_snd {g:GR} {c:List (List Int)} {d:Nat}:Snd g c d (start g c d):=by
 refine⟨by simp[start],fun v hv=> ?_⟩
 rw[start_at hv]
 unfold d0
 by_cases hd:d.testBit v=true
 ·rw[if_pos hd];exact⟨0,.dead hv hd⟩
 ·have hd':d.testBit v=false:=by simpa using hd
  rw[if_neg hd]
  by_cases h0:v=0
  ·subst h0;rw[if_pos rfl];exact⟨0,.root hd'⟩
  ·rw[if_neg h0];exact⟨0,.init (by omega) hv hd'⟩
theorem start_cmp {g:GR} {c:List (List Int)} {d:Nat} (hn:0<g.2.length):Cmp g c d 0 (start g c d):=by
 intro j v m hj hw
 obtain rfl:j=0:=by omega
 rw[start_at (hw.lt hn)]
 unfold d0
 cases hw with
 |dead hv hd=>rw[if_pos hd];exact Int.le_refl _
 |root hd=>rw[if_neg (by rw[hd];simp),if_pos rfl];exact Int.le_refl _
 |init h0 hv hd=>rw[if_neg (by rw[hd];simp),if_neg (by omega)];exact Int.le_refl _

structure Rnd (g:GR) (c:List (List Int)) (d:Nat) (l0:List Int) (v i:Nat) (l:List Int):Prop where
 snd:Snd g c d l
 le:∀w,w<g.2.length->D l w<=D l0 w
 done:∀w j u:Nat,0<w->w<g.2.length->d.testBit w=false->j<(row g w).length->(lnk (row g w) j).1=(u:Int)->(w<v∨(w=v∧j<i))->D l w<=D l0 u+1
theorem Snd.zero {g:GR} {c:List (List Int)} {d:Nat} (hG:DG g c) {l:List Int} (s:Snd g c d l) {v:Nat} (hv:v<g.2.length):0<=D l v:=by
 obtain⟨k,hw⟩:=s.ok v hv
 have:=hw.ge hG
 omega
theorem Snd.root {g:GR} {c:List (List Int)} {d:Nat} (hG:DG g c) {l:List Int} (s:Snd g c d l) (hd:d.testBit 0=false):D l 0=0:=by
 obtain⟨k,hw⟩:=s.ok 0 (by have:=hG.v.n1;omega)
 generalize hm:D l 0=m at hw
 cases hw with
 |dead hv hd'=>rw[hd]at hd';cases hd'
 |root hd=>rfl
 |init h0 hv hd=>omega
 |step h0=>omega
theorem Rnd.relax {g:GR} {c:List (List Int)} {d:Nat} (hG:DG g c) {l0 l:List Int} {v i u:Nat} (h:Rnd g c d l0 v i l) (hv:v<g.2.length) (hd:d.testBit v=false) (hi:i<(row g v).length) (hu:(lnk (row g v) i).1=(u:Int)) (hun:u<g.2.length):
  Rnd g c d l0 v (i+1) (l.set v (min (D l v) (D l u+1))):=by
 have hl:=h.snd.len
 have hat:∀w,D (l.set v (min (D l v) (D l u+1))) w=if w=v then min (D l v) (D l u+1)else D l w:=fun w=>at_set l v w _ (by omega)
 have hle:∀w,w<g.2.length->D (l.set v (min (D l v) (D l u+1))) w<=D l w:=fun w hw=>by
  rw[hat w]
  by_cases e:w=v
  ·subst e;rw[if_pos rfl];omega
  ·rw[if_neg e];exact Int.le_refl _
 refine⟨⟨by simp[hl],fun w hw=> ?_⟩,fun w hw=>Int.le_trans (hle w hw) (h.le w hw),fun w j x h0 hw hdw hj hx hp=> ?_⟩
 ·rw[hat w]
  by_cases e:w=v
  ·subst e
   rw[if_pos rfl]
   obtain⟨k,hk⟩:=h.snd.ok w hw
   obtain⟨k',hk'⟩:=h.snd.ok u hun
   by_cases hm:D l w<=D l u+1
   ·rw[Int.min_eq_left hm];exact⟨k,hk⟩
   ·by_cases h0:w=0
    ·subst h0
     have:=h.snd.root hG hd
     have:=h.snd.zero hG hun
     omega
    ·rw[Int.min_eq_right (by omega)]
     exact⟨k'+1,.step (by omega) hw hd hi hu hk'⟩
  ·rw[if_neg e];exact h.snd.ok w hw
 ·by_cases e:w=v∧j=i
  ·obtain⟨rfl,rfl⟩:=e
   rw[hat w,if_pos rfl]
   rw[hu]at hx
   have hx':u=x:=by omega
   subst hx'
   have:=h.le u hun
   omega
  ·have:=h.done w j x h0 hw hdw hj hx (by omega)
   have:=hle w hw
   omega
theorem Rnd.skip {g:GR} {c:List (List Int)} {d:Nat} {l0 l:List Int} {v i:Nat} (h:Rnd g c d l0 v i l) (hd:d.testBit v=true):Rnd g c d l0 v (i+1) l:=
 ⟨h.snd,h.le,fun w j x h0 hw hdw hj hx hp=>by
  by_cases e:w=v
  ·subst e;rw[hd]at hdw;cases hdw
  ·exact h.done w j x h0 hw hdw hj hx (by omega)⟩
theorem Rnd.next {g:GR} {c:List (List Int)} {d:Nat} {l0 l:List Int} {v:Nat} (h:Rnd g c d l0 v (row g v).length l):Rnd g c d l0 (v+1) 0 l:=
 ⟨h.snd,h.le,fun w j x h0 hw hdw hj hx hp=>by
  by_cases e:w=v
  ·subst e;exact h.done w j x h0 hw hdw hj hx (.inr ⟨rfl,hj⟩)
  ·exact h.done w j x h0 hw hdw hj hx (by omega)⟩
theorem Rnd.first {g:GR} {c:List (List Int)} {d:Nat} {l0:List Int} (s:Snd g c d l0) {v:Nat} (hv:v<=1):Rnd g c d l0 v 0 l0:=
 ⟨s,fun w hw=>Int.le_refl _,fun w j x h0 hw hdw hj hx hp=>by omega⟩
theorem Rnd.last {g:GR} {c:List (List Int)} {d:Nat} {l0 l:List Int} (hn:0<g.2.length) {k:Nat} (h:Rnd g c d l0 g.2.length 0 l) (hc:Cmp g c d k l0):Cmp g c d (k+1) l:=by
 intro j v m hj hw
 cases hw with
 |dead hv hd=>exact Int.le_trans (h.le _ hv) (hc 0 _ _ (Nat.zero_le _) (.dead hv hd))
 |root hd=>exact Int.le_trans (h.le _ hn) (hc 0 _ _ (Nat.zero_le _) (.root hd))
 |init h0 hv hd=>exact Int.le_trans (h.le _ hv) (hc 0 _ _ (Nat.zero_le _) (.init h0 hv hd))
 |step h0 hv hd hi hu hs=>
  have h1:=h.done _ _ _ h0 hv hd hi hu (.inl hv)
  have h2:=hc _ _ _ (by omega) hs
  omega
theorem snd_small {g:GR} {c:List (List Int)} {d:Nat} (hG:DG g c) {l0 l:List Int} {v i:Nat} (h:Rnd g c d l0 v i l) (h0:∀w,w<g.2.length->D l0 w<=1000) {w:Nat} (hw:w<g.2.length):0<=D l w∧D l w<=1000:=
 ⟨h.snd.zero hG hw,Int.le_trans (h.le w hw) (h0 w hw)⟩

theorem round_eq {g:GR} {c:List (List Int)} {d:Nat} (hd:d<4294967296) (hG:DG g c) {l0:List Int} (s:Snd g c d l0) (h0:∀w,w<g.2.length->D l0 w<=1000) (r:Nat) (ag:Int×List Int->Option (List Int)) (hr:r<100):
  ∃l,Rnd g c d l0 g.2.length 0 l∧crash_Distances_k5 1000 g (d:Int) ((r:Int),l0) ag ()=ag ((r:Int)+1,l):=by
 have hV:=hG.v
 have h24:=hV.n24
 unfold crash_Distances_k5
 have key2:=iter_inv (step:=crash_Distances_s2 1000 g (d:Int) ((r:Int),l0) ag) (K:=fun x=>ag ((r:Int)+1,x.2)) g.2.length (fun v x=>∃l,x=((v:Int),l)∧Rnd g c d l0 v 0 l) (fun v x ag2 hv hI=> ?_) (fun x ag2 hI=> ?_) 1000 ((0:Int),l0) ⟨l0,rfl,.first s (by omega)⟩ (by omega)
 ·obtain⟨x,⟨l,rfl,hl⟩,he⟩:=key2
  exact⟨l,hl,he⟩
 ·obtain⟨l,rfl,hl⟩:=hI
  have hdeg:(at' g.2 (v:Int)).length<g.2.length:=(hV.node v hv).deg
  unfold crash_Distances_s2
  simp only
  rw[if_pos (by omega),ckT (by omega)]
  have key4:=iter_inv (step:=crash_Distances_s3 g (d:Int) ((v:Int),l) ag2) (K:=fun y=>ag2 ((v:Int)+1,y.2)) (row g v).length (fun i y=>∃l,y=((i:Int),l)∧Rnd g c d l0 v i l) (fun i y ag3 hi hI=> ?_) (fun y ag3 hI=> ?_) 1000 ((0:Int),l) ⟨l,rfl,hl⟩ (by show(at' g.2 (v:Int)).length<1000;omega)
  ·obtain⟨y,⟨l2,rfl,hl2⟩,he2⟩:=key4
   exact⟨_,⟨l2,rfl,hl2.next⟩,he2⟩
  ·obtain⟨l3,rfl,hl3⟩:=hI
   obtain⟨u,hu,hue⟩:=hV.to hv hi
   have hue':(at' (at' g.2 (v:Int)) (i:Int)).1=(u:Int):=hue
   have hi':i<(at' g.2 (v:Int)).length:=hi
   have hlen:=hl3.snd.len
   have hb:=snd_small hG hl3 h0 hu
   unfold crash_Distances_s3 crash_Distances_k7
   simp only
   rw[if_pos (by omega),ckT (by omega),ckT (by omega),wInc (by omega),hue']
   cases hq:d.testBit v with
   |false=>
    rw[if_pos ((noBit (by omega) hd).2 hq),ckT (by omega),ckT (by omega),ckT (by omega)]
    have hu2:0<=at' l3 (u:Int)∧at' l3 (u:Int)<=1000:=hb
    rw[wr (by omega) (by omega),Int.toNat_natCast]
    exact⟨_,⟨_,rfl,hl3.relax hG hv hq hi hue hu⟩,rfl⟩
   |true=>
    rw[if_neg fun h=>by rw[(noBit (by omega) hd).1 h]at hq;cases hq]
    exact⟨_,⟨_,rfl,hl3.skip hq⟩,rfl⟩
  ·obtain⟨l3,rfl,hl3⟩:=hI
   unfold crash_Distances_s3 crash_Distances_k6
   simp only
   rw[if_neg (by show¬(((row g v).length:Nat):Int)<((row g v).length:Int);omega),wInc (by omega)]
 ·obtain⟨l,rfl,hl⟩:=hI
  unfold crash_Distances_s2 crash_Distances_k4
  simp only
  rw[if_neg (by omega),wInc (by omega)]
theorem start_le {g:GR} {c:List (List Int)} {d:Nat} (hG:DG g c) {w:Nat} (hw:w<g.2.length):D (start g c d) w<=(g.2.length:Int):=by
 rw[start_at hw]
 unfold d0
 have:=hG.val0 hw
 split
 ·omega
 ·split<;>omega
theorem rounds_eq {g:GR} {c:List (List Int)} {d:Nat} (hd:d<4294967296) (hG:DG g c):∃l,Snd g c d l∧Cmp g c d g.2.length l∧crash_Distances_k2 1000 g (d:Int) (start g c d)=some l:=by
 have hV:=hG.v
 have h24:=hV.n24
 have h1:=hV.n1
 have hlen:=hV.len
 unfold crash_Distances_k2
 have key2:=iter_inv (step:=crash_Distances_s1 1000 g (d:Int)) (K:=fun x=>some x.2) g.2.length (fun r x=>∃l,x=((r:Int),l)∧Snd g c d l∧Cmp g c d r l∧∀w,w<g.2.length->D l w<=1000) (fun r x ag hr hI=> ?_) (fun x ag hI=> ?_) 1000 ((0:Int),start g c d) ⟨_,rfl,start_snd,start_cmp (by omega),fun w hw=>by have:=start_le hG (d:=d) hw;omega⟩ (by omega)
 ·obtain⟨x,⟨l,rfl,hl,hc,hs⟩,he⟩:=key2
  exact⟨l,hl,hc,he⟩
 ·obtain⟨l,rfl,hl,hc,hs⟩:=hI
  unfold crash_Distances_s1
  simp only
  rw[if_pos (by omega)]
  obtain⟨l2,h2,he⟩:=round_eq hd hG hl hs r ag (by omega)
  exact⟨_,⟨l2,rfl,h2.snd,h2.last (by omega) hc,fun w hw=>Int.le_trans (h2.le w hw) (hs w hw)⟩,he⟩
 ·obtain⟨l,rfl,hl,hc,hs⟩:=hI
  unfold crash_Distances_s1 crash_Distances_k3
  simp only
  rw[if_neg (by omega)]
theorem take_start {g:GR} {c:List (List Int)} {d k:Nat} (hk:k<g.2.length):(start g c d).take k++[d0 g c d k]=(start g c d).take (k+1):=by
 have h:k<(start g c d).length:=by simp[start,hk]
 rw[List.take_succ_eq_append_getElem h]
 congr 2
 simp[start]
theorem distances_eq' {g:GR} {c:List (List Int)} {d:Nat} (hd:d<4294967296) (hF:Fit g) (hC:Cf g c [(g.2.length:Int),-1]):∃l,Snd g c d l∧Cmp g c d g.2.length l∧m_crash_Distances 1000 g c (d:Int)=some l:=by
 have hV:=hF.1
 have hG:DG g c:=⟨hV,hC⟩
 have h24:=hV.n24
 have hlen:=hV.len
 have hcl:=hG.len
 obtain⟨l,h1,h2,h3⟩:=rounds_eq hd hG
 refine⟨l,h1,h2,?_⟩
 unfold m_crash_Distances
 rw[(fit_eq g).1 hF,bindS rfl,if_neg (by simp),hlen,(configuration_eq hV c _ (by simp)).1 hC,bindS rfl]
 unfold crash_Distances_k1
 rw[if_neg (by simp),hlen,ckT (by omega),<-h3,Int.toNat_natCast]
 have hrep:(List.replicate g.2.length (0:Int)).length=g.2.length:=List.length_replicate
 have key:=iter_for (step:=crash_Distances_s4 1000 g c (d:Int)) (K:=crash_Distances_k2 1000 g (d:Int) (start g c d)) (F:=fun v:Nat=>((v:Int),(start g c d).take v++List.replicate (g.2.length - v) (0:Int))) g.2.length (fun v ag hv=> ?_) (fun ag=> ?_) 1000 (by omega)
 ·exact key
 ·have hsl:(start g c d).length=g.2.length:=by simp[start]
  have htl:((start g c d).take v).length=v:=by rw[List.length_take];omega
  have hrow:=hG.row hv
  unfold crash_Distances_s4 crash_Distances_k8
  simp only
  rw[hlen,Int.toNat_natCast,hrep,if_pos (by omega),ckT (by omega),wInc (by omega)]
  have hset:∀y:Int,((start g c d).take v++List.replicate (g.2.length - v) (0:Int)).set v y=(start g c d).take v++y::List.replicate (g.2.length - (v+1)) (0:Int):=fun y=>by
   rw[show g.2.length - v=(g.2.length - (v+1))+1 by omega,List.replicate_succ]
   exact set_at _ _ _ _ _ htl
  have hl:((start g c d).take v++List.replicate (g.2.length - v) (0:Int)).length=g.2.length:=by simp[hsl];omega
  have hfin:∀y:Int,y=d0 g c d v->(start g c d).take v++y::List.replicate (g.2.length - (v+1)) (0:Int)=(start g c d).take (v+1)++List.replicate (g.2.length - (v+1)) (0:Int):=fun y hy=>by
   rw[hy,<-take_start hv];simp
  cases hq:d.testBit v with
  |true=>
   rw[if_pos ((hasBit (by omega) hd).2 hq),ckT (by omega),ckT (by omega),ckT (by omega),Int.toNat_natCast,hset,hfin _ (by unfold d0;rw[if_pos hq])]
   rfl
  | false =>
   rw[if_neg fun h=>by rw[(hasBit (by omega) hd).1 h]at hq;cases hq]
   by_cases h0:v=0
   ·subst h0
    rw[if_neg (by omega)]
    have:List.take 0 (start g c d)++List.replicate (g.2.length - 0) (0:Int)=List.take (0+1) (start g c d)++List.replicate (g.2.length - (0+1)) 0:=by
     rw[<-hfin 0 (by unfold d0;rw[if_neg (by rw[hq];simp),if_pos rfl])]
     rw[show g.2.length - 0=(g.2.length - (0+1))+1 by omega,List.replicate_succ]
    rw[this];rfl
   ·rw[if_pos (by omega),ckT (by omega),Int.toNat_natCast,hset,hfin _ (by unfold d0;rw[if_neg (by rw[hq];simp),if_neg h0])]
    rfl
 ·unfold crash_Distances_s4
  simp only
  rw[hlen,Int.toNat_natCast,hrep,if_neg (by omega)]
  congr 1
  have hsl:(start g c d).length=g.2.length:=by simp[start]
  rw[Nat.sub_self,List.replicate_zero,List.append_nil,List.take_of_length_le (by omega)]
theorem distances_no {g:GR} {c:List (List Int)} {d:Int} (h:¬(Fit g∧Cf g c [(g.2.length:Int),-1])):m_crash_Distances 1000 g c d=some []:=by
 unfold m_crash_Distances
 by_cases hF:Fit g
 ·rw[(fit_eq g).1 hF,bindS rfl,if_neg (by simp),hF.1.len,(configuration_eq hF.1 c _ (by simp)).2 fun hC=>h ⟨hF,hC⟩]
  rfl
 ·rw[(fit_eq g).2 hF];rfl

theorem refRound_eq {g:GR} {c:List (List Int)} {d:Nat} (hd:d<4294967296) (hG:DG g c) {l0:List Int} (s:Snd g c d l0) (h0:∀w,w<g.2.length->D l0 w<=1000) (r:Nat) (ag:Int×List Int->Option (List Int)) (hr:r<100):
  ∃l,Rnd g c d l0 g.2.length 0 l∧iter (ref44_Distances_s2 1000 g c (d:Int) ((r:Int),l0) ag) 1000 ((1:Int),l0)=ag ((r:Int)+1,l):=by
 have hV:=hG.v
 have h24:=hV.n24
 have h1:=hV.n1
 have hcl:=hG.len
 have key2:=iter_inv (step:=ref44_Distances_s2 1000 g c (d:Int) ((r:Int),l0) ag) (K:=fun x=>ag ((r:Int)+1,x.2)) (g.2.length - 1) (fun v x=>∃l,x=(((v+1:Nat):Int),l)∧Rnd g c d l0 (v+1) 0 l) (fun v x ag2 hv hI=> ?_) (fun x ag2 hI=> ?_) 1000 ((1:Int),l0) ⟨l0,rfl,.first s (by omega)⟩ (by omega)
 ·obtain⟨x,⟨l,rfl,hl⟩,he⟩:=key2
  rw[show g.2.length - 1+1=g.2.length by omega]at hl
  exact⟨l,hl,he⟩
 ·obtain⟨l,rfl,hl⟩:=hI
  generalize hw:v+1=w at *
  have hv:w<g.2.length:=by omega
  have hdeg:(at' g.2 (w:Int)).length<g.2.length:=(hV.node w hv).deg
  unfold ref44_Distances_s2
  simp only
  rw[if_pos (by omega)]
  have hwe:((v+1+1:Nat):Int)=(w:Int)+1:=by omega
  have key4:=iter_inv (step:=ref44_Distances_s3 1000 g (d:Int) ((w:Int),l) ag2) (K:=fun y=>ag2 ((w:Int)+1,y.2)) (if d.testBit w=true then 0 else(row g w).length) (fun i y=>∃l,y=((i:Int),l)∧Rnd g c d l0 w i l) (fun i y ag3 hi hI=> ?_) (fun y ag3 hI=> ?_) 1000 ((0:Int),l) ⟨l,rfl,hl⟩ (by split;omega;show(at' g.2 (w:Int)).length<1000;omega)
  ·obtain⟨y,⟨l2,rfl,hl2⟩,he2⟩:=key4
   refine⟨_,⟨l2,rfl,?_⟩,by rw[he2,show((w+1:Nat):Int)=(w:Int)+1 by omega]⟩
   refine Rnd.next ?_
   cases hq:d.testBit w with
   |false=>rw[hq]at hl2;exact hl2
   | true => exact ⟨hl2.snd, hl2.le, fun w' j x h0 hw' hdw hj hx hp => by
     by_cases e:w'=w
     ·subst e;rw[hq]at hdw;cases hdw
     ·exact hl2.done w' j x h0 hw' hdw hj hx (by omega)⟩
  ·obtain⟨l3,rfl,hl3⟩:=hI
   cases hq:d.testBit w with
   |true=>rw[hq]at hi;simp at hi
   |false=>
   have hi:i<(row g w).length:=by rw[hq]at hi;simpa using hi
   obtain⟨u,hu,hue⟩:=hV.to hv hi
   have hue':(at' (at' g.2 (w:Int)) (i:Int)).1=(u:Int):=hue
   have hi':i<(at' g.2 (w:Int)).length:=hi
   have hlen:=hl3.snd.len
   have hb:=snd_small hG hl3 h0 hu
   unfold ref44_Distances_s3 ref44_Distances_k6
   simp only
   have hu2:0<=at' l3 (u:Int)∧at' l3 (u:Int)<=1000:=hb
   rw[ckT (by omega),if_pos (by omega),has_eq hd (by omega),hq,bindS rfl,if_pos (by simp),ckT (by omega),ckT (by omega),ckT (by omega),hue',ckT (by omega),ckT (by omega),wInc (by omega),wr (by omega) (by omega),Int.toNat_natCast]
   exact⟨_,⟨_,rfl,hl3.relax hG hv hq hi hue hu⟩,rfl⟩
  ·obtain⟨l3,rfl,hl3⟩:=hI
   unfold ref44_Distances_s3 ref44_Distances_k6 ref44_Distances_k5
   simp only
   rw[ckT (by omega)]
   cases hq:d.testBit w with
   |true=>
    simp only[if_true]
    by_cases hz:(0:Nat)<(at' g.2 (w:Int)).length
    ·rw[if_pos (show((0:Nat):Int)<((at' g.2 (w:Int)).length:Int) by omega),has_eq hd (by omega),hq,bindS rfl,if_neg (by simp),wInc (by omega)]
    ·rw[if_neg (show¬((0:Nat):Int)<((at' g.2 (w:Int)).length:Int) by omega),if_neg (by simp),wInc (by omega)]
   |false=>
    simp only[Bool.false_eq_true,if_false]
    rw[if_neg (by show¬(((row g w).length:Nat):Int)<((row g w).length:Int);omega),wInc (by omega)]
 ·obtain⟨l,rfl,hl⟩:=hI
  unfold ref44_Distances_s2 ref44_Distances_k4
  simp only
  rw[if_neg (by omega),wInc (by omega)]
theorem refRounds_eq {g:GR} {c:List (List Int)} {d:Nat} (hd:d<4294967296) (hG:DG g c):∃l,Snd g c d l∧Cmp g c d (g.2.length+1) l∧ref44_Distances_k2 1000 g c (d:Int) (start g c d)=some l:=by
 have hV:=hG.v
 have h24:=hV.n24
 have h1:=hV.n1
 have hcl:=hG.len
 unfold ref44_Distances_k2
 have key2:=iter_inv (step:=ref44_Distances_s1 1000 g c (d:Int)) (K:=fun x=>some x.2) (g.2.length+1) (fun r x=>∃l,x=((r:Int),l)∧Snd g c d l∧Cmp g c d r l∧∀w,w<g.2.length->D l w<=1000) (fun r x ag hr hI=> ?_) (fun x ag hI=> ?_) 1000 ((0:Int),start g c d) ⟨_,rfl,start_snd,start_cmp (by omega),fun w hw=>by have:=start_le hG (d:=d) hw;omega⟩ (by omega)
 ·obtain⟨x,⟨l,rfl,hl,hc,hs⟩,he⟩:=key2
  exact⟨l,hl,hc,he⟩
 ·obtain⟨l,rfl,hl,hc,hs⟩:=hI
  unfold ref44_Distances_s1
  simp only
  rw[if_pos (by omega)]
  obtain⟨l2,h2,he⟩:=refRound_eq hd hG hl hs r ag (by omega)
  exact⟨_,⟨l2,rfl,h2.snd,h2.last (by omega) hc,fun w hw=>Int.le_trans (h2.le w hw) (hs w hw)⟩,he⟩
 ·obtain⟨l,rfl,hl,hc,hs⟩:=hI
  unfold ref44_Distances_s1 ref44_Distances_k3
  simp only
  rw[if_neg (by omega)]
def varD:List Var:=[(ByteArray.mk #[100],1,0,0,1,0),(ByteArray.mk #[112],3,0,0,0,0)]
theorem vars23:m_ref23_Vars 1000=some varD:=rfl
theorem small23:∀x,x<varD.length->VarSmall (at' varD (x:Int)):=by
 intro x hx
 have hx:x<2:=hx
 match x,hx with
 |0,_=>exact⟨by decide,by decide,by decide⟩
 |1,_=>exact⟨by decide,by decide,by decide⟩
theorem rcf23 {g:GR} (hV:VG g) {c:List (List Int)}:RCf g c varD↔Cf g c [(g.2.length:Int),-1]:=by
 refine rcf_iff rfl fun v x hv hx a=> ?_
 have hx:x<2:=hx
 match x,hx with
 |0,_=>
  have e1:at' varD ((0:Nat):Int)=(ByteArray.mk #[100],1,0,0,1,0):=rfl
  have e2:at' [(g.2.length:Int),-1] ((0:Nat):Int)=(g.2.length:Int):=rfl
  rw[e1,e2]
  unfold lo hi InTop
  simp only[show¬((1:Int)=2) by decide,show¬((1:Int)=3) by decide,if_false]
  rw[if_neg (by omega)]
  omega
 |1,_=>
  have e1:at' varD ((1:Nat):Int)=(ByteArray.mk #[112],3,0,0,0,0):=rfl
  have e2:at' [(g.2.length:Int),-1] ((1:Nat):Int) = -1:=rfl
  rw[e1,e2]
  unfold lo hi InTop
  simp
theorem refDistances_eq' {g:GR} {c:List (List Int)} {d:Nat} (hd:d<4294967296) (hF:Fit g) (hC:Cf g c [(g.2.length:Int),-1]):∃l,Snd g c d l∧Cmp g c d (g.2.length+1) l∧m_ref44_Distances 1000 g c (d:Int)=some l:=by
 have hV:=hF.1
 have hG:DG g c:=⟨hV,hC⟩
 have h24:=hV.n24
 have hcl:=hG.len
 obtain⟨l,h1,h2,h3⟩:=refRounds_eq hd hG
 refine⟨l,h1,h2,?_⟩
 unfold m_ref44_Distances
 rw[(refFit_eq g).1 hF,bindS rfl,if_neg (by simp),vars23,bindS rfl,(refConfig_eq g c varD (by decide) small23).1 ⟨hV,(rcf23 hV).2 hC⟩,bindS rfl]
 unfold ref44_Distances_k1
 rw[if_neg (by simp),<-h3]
 have hsl:(start g c d).length=g.2.length:=by simp[start]
 refine iter_for (F:=fun v:Nat=>((start g c d).take v,(v:Int))) g.2.length (fun v ag hv=> ?_) (fun ag=> ?_) 1000 (by omega)
 ·have htl:((start g c d).take v).length=v:=by rw[List.length_take];omega
  have hrow:=hG.row hv
  unfold ref44_Distances_s4 ref44_Distances_k7
  simp only
  rw[if_pos (by omega),has_eq hd (by omega),bindS rfl,wInc (by omega),<-take_start hv]
  cases hq:d.testBit v with
  |true=>
   rw[if_pos rfl,ckT (by omega),ckT (by omega),ckT (by simp;omega)]
   unfold d0
   rw[if_pos hq];rfl
  | false =>
   rw[if_neg (by simp)]
   by_cases h0:v=0
   ·subst h0
    rw[if_pos (show((0:Nat):Int)=0 from rfl),ckT (by simp)]
    unfold d0
    rw[if_neg (by rw[hq];simp),if_pos rfl];rfl
   ·rw[if_neg (by omega),ckT (by simp;omega)]
    unfold d0
    rw[if_neg (by rw[hq];simp),if_neg h0,hcl];rfl
 ·unfold ref44_Distances_s4
  simp only
  rw[if_neg (by omega),List.take_of_length_le (by omega)]
theorem refDistances_no {g:GR} {c:List (List Int)} {d:Int} (h:¬(Fit g∧Cf g c [(g.2.length:Int),-1])):m_ref44_Distances 1000 g c d=some []:=by
 unfold m_ref44_Distances
 by_cases hF:Fit g
 ·rw[(refFit_eq g).1 hF,bindS rfl,if_neg (by simp),vars23,bindS rfl,(refConfig_eq g c varD (by decide) small23).2 fun hC=>h ⟨hF,(rcf23 hF.1).1 hC.2⟩]
  rfl
 ·rw[(refFit_eq g).2 hF];rfl
theorem distances_same {g:GR} {c:List (List Int)} {d:Nat} (hd:d<4294967296):∃l,m_crash_Distances 1000 g c (d:Int)=some l∧m_ref44_Distances 1000 g c (d:Int)=some l∧l.length<=30:=by
 by_cases h:Fit g∧Cf g c [(g.2.length:Int),-1]
 ·obtain⟨l,h1,h2,h3⟩:=distances_eq' hd h.1 h.2
  obtain⟨l',h1',h2',h3'⟩:=refDistances_eq' hd h.1 h.2
  have:=snd_unique ⟨h.1.1,h.2⟩ (Nat.le_refl _) (Nat.le_succ _) h1 h1' h2 h2'
  subst this
  have:=h.1.1.n24
  have:=h1.len
  exact⟨l,h3,h3',by omega⟩
 ·exact⟨[],distances_no h,refDistances_no h,by simp⟩
end Go.Proofs.YtfimaabbclepbaaGreat
end
section
namespace Go.Gx
open Go Go.Sx
noncomputable section
inductive GV where
 |int (k:IntKind) (n:Int)
 |bool (b:Bool)
 |str (n len:Nat)
 |ptr (h off:Nat)
 |pnil
 |sl (h off len sz:Nat)
 |snil
 |map (h:Nat)
 |fn (f:FuncId) (first caps:List GV)
 |fnil
 |inil
 |agg (cs:List GV)
 |tup (vs:List GV)
 |un
 |bad
inductive GO where
 |cells (cs:List GV)
 |mp (es:List (GV×GV))
inductive Tr (α:Type) where
 |lf
 |nd (a:Option α) (l r:Tr α)
def ob {α β:Type} (o:Option α) (f:α->Option β):Option β:=Option.casesOn (motive:=fun _=>Option β) o none f
def Tr.get {α:Type} (t:Tr α):Nat->Option α:=Tr.rec (motive:=fun _=>Nat->Option α) (fun _=>none) (fun a _ _ gl gr n=>Bool.casesOn (motive:=fun _=>Option α) (Nat.beq n 0) (Bool.casesOn (motive:=fun _=>Option α) (Nat.beq (Nat.mod n 2) 1) (gr (Nat.sub (Nat.div n 2) 1)) (gl (Nat.div n 2))) a) t
def Tr.setN {α:Type} (x:Option α) (f:Nat):Nat->Tr α:=Nat.rec (motive:=fun _=>Nat->Tr α) (fun _=> .lf) (fun _ ih n=>bif Nat.beq n 0 then .nd x .lf .lf else bif Nat.beq (Nat.mod n 2) 1 then .nd none (ih (Nat.div n 2)) .lf else .nd none .lf (ih (Nat.sub (Nat.div n 2) 1))) f
def Tr.set {α:Type} (x:Option α) (t:Tr α):Nat->Tr α:=Tr.rec (motive:=fun _=>Nat->Tr α) (fun n=>Tr.setN x (Nat.succ n) n) (fun a l r sl sr n=>Bool.casesOn (motive:=fun _=>Tr α) (Nat.beq n 0) (Bool.casesOn (motive:=fun _=>Tr α) (Nat.beq (Nat.mod n 2) 1) (.nd a l (sr (Nat.sub (Nat.div n 2) 1))) (.nd a (sl (Nat.div n 2)) r)) (.nd x l r)) t
def Tr.setNK {α R:Type} (x:Option α) (f:Nat):Nat->(Tr α->R)->R:=Nat.rec (motive:=fun _=>Nat->(Tr α->R)->R) (fun _ k=>k .lf) (fun _ ih n k=>Bool.casesOn (motive:=fun _=>R) (Nat.beq n 0) (Bool.casesOn (motive:=fun _=>R) (Nat.beq (Nat.mod n 2) 1) (ih (Nat.sub (Nat.div n 2) 1) fun t=>k (.nd none .lf t)) (ih (Nat.div n 2) fun t=>k (.nd none t .lf))) (k (.nd x .lf .lf))) f
def Tr.setK {α R:Type} (x:Option α) (t:Tr α):Nat->(Tr α->R)->R:=Tr.rec (motive:=fun _=>Nat->(Tr α->R)->R) (fun n k=>Tr.setNK x (Nat.succ n) n k) (fun a l r sl sr n k=>Bool.casesOn (motive:=fun _=>R) (Nat.beq n 0) (Bool.casesOn (motive:=fun _=>R) (Nat.beq (Nat.mod n 2) 1) (sr (Nat.sub (Nat.div n 2) 1) fun t=>k (.nd a l t)) (sl (Nat.div n 2) fun t=>k (.nd a t r))) (k (.nd x l r))) t
def sn {α:Type} (n:Nat) (f:Nat->α):α:=Nat.rec (motive:=fun _=>α) (f 0) (fun m _=>f (Nat.succ m)) n
def fi {α:Type} (z:Int) (f:Int->α):α:=Int.casesOn (motive:=fun _=>α) z (fun a=>sn a fun a=>f (.ofNat a)) (fun a=>sn a fun a=>f (.negSucc a))
def fb (b:Bool):Option GV:=Bool.casesOn (motive:=fun _=>Option GV) b (some (.bool false)) (some (.bool true))
structure GH where
 n:Nat
 t:Tr (Nat×GO)
def GH.get (H:GH) (h:Nat):Option GO:=ob (H.t.get h) fun p=>some p.2
def GH.ver (H:GH) (h:Nat):Option Nat:=ob (H.t.get h) fun p=>some p.1
def GH.set (H:GH) (h:Nat) (o:GO):GH:=⟨Nat.succ H.n,H.t.set (some (H.n,o)) h⟩
def GH.del (H:GH) (h:Nat):GH:=⟨H.n,H.t.set none h⟩
def GH.newK {α:Type} (H:GH) (o:GO) (f:Nat->GH->α):α:=sn H.n fun n=>H.t.setK (some (n,o)) n fun t=>sn (Nat.succ n) fun m=>f n ⟨m,t⟩
def GH.setK {α:Type} (H:GH) (h:Nat) (o:GO) (f:GH->α):α:=sn H.n fun n=>H.t.setK (some (n,o)) h fun t=>sn (Nat.succ n) fun m=>f ⟨m,t⟩
def GH.delK {α:Type} (H:GH) (h:Nat) (f:GH->α):α:=H.t.setK none h fun t=>f ⟨H.n,t⟩
def GO.asC (o:GO):Option (List GV):=GO.casesOn (motive:=fun _=>Option (List GV)) o (fun cs=>some cs) (fun _=>none)
def GO.asM (o:GO):Option (List (GV×GV)):=GO.casesOn (motive:=fun _=>Option (List (GV×GV))) o (fun _=>none) (fun es=>some es)
def GH.cells (H:GH) (h:Nat):Option (List GV):=ob (H.get h) GO.asC
abbrev GF:=List (Nat×GV)
def glk (σ:GF) (t:Nat):Option GV:=List.rec (motive:=fun _=>Option GV) none (fun p _ ih=>Bool.casesOn (motive:=fun _=>Option GV) (Nat.beq t p.1) ih (some p.2)) σ
def ltI (a b:Int):Bool:=Int.casesOn (motive:=fun _=>Bool) a (fun a=>Int.casesOn (motive:=fun _=>Bool) b (fun b=>Nat.blt a b) (fun _=>false)) (fun a=>Int.casesOn (motive:=fun _=>Bool) b (fun _=>true) (fun b=>Nat.blt b a))
def eqI (a b:Int):Bool:=Int.casesOn (motive:=fun _=>Bool) a (fun a=>Int.casesOn (motive:=fun _=>Bool) b (fun b=>Nat.beq a b) (fun _=>false)) (fun a=>Int.casesOn (motive:=fun _=>Bool) b (fun _=>false) (fun b=>Nat.beq a b))
def asN (a:Int):Option Nat:=Int.casesOn (motive:=fun _=>Option Nat) a (fun a=>some a) (fun _=>none)
def eqS (a b:Nat×Nat):Bool:=bif Nat.beq a.2 b.2 then Nat.beq a.1 b.1 else false
def eqB (a b:Bool):Bool:=Bool.casesOn (motive:=fun _=>Bool) a (Bool.casesOn (motive:=fun _=>Bool) b true false) b
def nth {α:Type} (l:List α):Nat->Option α:=List.rec (motive:=fun _=>Nat->Option α) (fun _=>none) (fun x _ ih n=>Nat.casesOn (motive:=fun _=>Option α) n (some x) ih) l
def lset {α:Type} (v:α) (l:List α):Nat->Option (List α):=List.rec (motive:=fun _=>Nat->Option (List α)) (fun _=>none) (fun x r ih n=>Nat.casesOn (motive:=fun _=>Option (List α)) n (some (v::r)) (fun n=>ob (ih n) fun r'=>some (x::r'))) l
def gput (vs:List GV):Nat->List GV->Option (List GV):=List.rec (motive:=fun _=>Nat->List GV->Option (List GV)) (fun _ cs=>some cs) (fun v _ ih o cs=>ob (lset v cs o) fun cs'=>sn (Nat.succ o) fun o'=>ih o' cs') vs
def tk {α:Type} (l:List α):Nat->Option (List α):=List.rec (motive:=fun _=>Nat->Option (List α)) (fun n=>Nat.casesOn (motive:=fun _=>Option (List α)) n (some []) (fun _=>none)) (fun x _ ih n=>Nat.casesOn (motive:=fun _=>Option (List α)) n (some []) (fun n=>ob (ih n) fun r=>some (x::r))) l
def dp {α:Type} (l:List α):Nat->Option (List α):=List.rec (motive:=fun _=>Nat->Option (List α)) (fun n=>Nat.casesOn (motive:=fun _=>Option (List α)) n (some []) (fun _=>none)) (fun x r ih n=>Nat.casesOn (motive:=fun _=>Option (List α)) n (some (x::r)) ih) l
def slc {α:Type} (l:List α) (o n:Nat):Option (List α):=ob (dp l o) fun r=>tk r n
def encB (l:List UInt8):Nat:=List.rec (motive:=fun _=>Nat) 0 (fun b _ ih=>Nat.add b.toNat (Nat.mul 256 ih)) l
def bytesOfV (s:ByteArray):List UInt8:=s.data.toList
def GV.asI (v:GV):Option (IntKind×Int):=GV.casesOn (motive_1:=fun _=>Option (IntKind×Int)) v (fun a0 a1=>some (a0,a1)) (fun _=>none) (fun _ _=>none) (fun _ _=>none) none (fun _ _ _ _=>none) none (fun _=>none) (fun _ _ _=>none) none none (fun _=>none) (fun _=>none) none none
def GV.asB (v:GV):Option (Bool):=GV.casesOn (motive_1:=fun _=>Option (Bool)) v (fun _ _=>none) (fun a0=>some a0) (fun _ _=>none) (fun _ _=>none) none (fun _ _ _ _=>none) none (fun _=>none) (fun _ _ _=>none) none none (fun _=>none) (fun _=>none) none none
def GV.asP (v:GV):Option (Nat×Nat):=GV.casesOn (motive_1:=fun _=>Option (Nat×Nat)) v (fun _ _=>none) (fun _=>none) (fun _ _=>none) (fun a0 a1=>some (a0,a1)) none (fun _ _ _ _=>none) none (fun _=>none) (fun _ _ _=>none) none none (fun _=>none) (fun _=>none) none none
def GV.asS (v:GV):Option (Nat×Nat×Nat×Nat):=GV.casesOn (motive_1:=fun _=>Option (Nat×Nat×Nat×Nat)) v (fun _ _=>none) (fun _=>none) (fun _ _=>none) (fun _ _=>none) none (fun a0 a1 a2 a3=>some (a0,a1,a2,a3)) none (fun _=>none) (fun _ _ _=>none) none none (fun _=>none) (fun _=>none) none none
def GV.asF (v:GV):Option (Nat×List GV×List GV):=GV.casesOn (motive_1:=fun _=>Option (Nat×List GV×List GV)) v (fun _ _=>none) (fun _=>none) (fun _ _=>none) (fun _ _=>none) none (fun _ _ _ _=>none) none (fun _=>none) (fun a0 a1 a2=>some (a0,a1,a2)) none none (fun _=>none) (fun _=>none) none none
def GV.asT (v:GV):Option (List GV):=GV.casesOn (motive_1:=fun _=>Option (List GV)) v (fun _ _=>none) (fun _=>none) (fun _ _=>none) (fun _ _=>none) none (fun _ _ _ _=>none) none (fun _=>none) (fun _ _ _=>none) none none (fun _=>none) (fun a0=>some a0) none none
def GV.asStr (v:GV):Option (Nat×Nat):=GV.casesOn (motive_1:=fun _=>Option (Nat×Nat)) v (fun _ _=>none) (fun _=>none) (fun a0 a1=>some (a0,a1)) (fun _ _=>none) none (fun _ _ _ _=>none) none (fun _=>none) (fun _ _ _=>none) none none (fun _=>none) (fun _=>none) none none
def GV.asM (v:GV):Option (Nat):=GV.casesOn (motive_1:=fun _=>Option (Nat)) v (fun _ _=>none) (fun _=>none) (fun _ _=>none) (fun _ _=>none) none (fun _ _ _ _=>none) none (fun a0=>some a0) (fun _ _ _=>none) none none (fun _=>none) (fun _=>none) none none
def GV.asA (v:GV):Option (List GV):=GV.casesOn (motive_1:=fun _=>Option (List GV)) v (fun _ _=>none) (fun _=>none) (fun _ _=>none) (fun _ _=>none) none (fun _ _ _ _=>none) none (fun _=>none) (fun _ _ _=>none) none none (fun a0=>some a0) (fun _=>none) none none
def GV.cells (v:GV):Option (List GV):=GV.casesOn (motive_1:=fun _=>Option (List GV)) v (fun a0 a1=>some [GV.int a0 a1]) (fun a0=>some [GV.bool a0]) (fun a0 a1=>some [GV.str a0 a1]) (fun a0 a1=>some [GV.ptr a0 a1]) (some [GV.pnil]) (fun a0 a1 a2 a3=>some [GV.sl a0 a1 a2 a3]) (some [GV.snil]) (fun a0=>some [GV.map a0]) (fun a0 a1 a2=>some [GV.fn a0 a1 a2]) (some [GV.fnil]) (some [GV.inil]) (fun a0=>some a0) (fun a0=>none) (none) (none)
def GV.isSnil (v:GV):Bool:=GV.casesOn (motive_1:=fun _=>Bool) v (fun _ _=>false) (fun _=>false) (fun _ _=>false) (fun _ _=>false) (false) (fun _ _ _ _=>false) (true) (fun _=>false) (fun _ _ _=>false) (false) (false) (fun _=>false) (fun _=>false) (false) (false)
def GV.isInil (v:GV):Bool:=GV.casesOn (motive_1:=fun _=>Bool) v (fun _ _=>false) (fun _=>false) (fun _ _=>false) (fun _ _=>false) (false) (fun _ _ _ _=>false) (false) (fun _=>false) (fun _ _ _=>false) (false) (true) (fun _=>false) (fun _=>false) (false) (false)
def GV.nilck (v:GV):Option GV:=GV.casesOn (motive_1:=fun _=>Option GV) v (fun a0 a1=>none) (fun a0=>none) (fun a0 a1=>none) (fun a0 a1=>some (GV.ptr a0 a1)) (none) (fun a0 a1 a2 a3=>none) (none) (fun a0=>none) (fun a0 a1 a2=>some (GV.fn a0 a1 a2)) (none) (none) (fun a0=>none) (fun a0=>none) (none) (none)
def tdE (d:TypeDesc):Bool:=TypeDesc.casesOn (motive:=fun _=>Bool) d false false (fun _=>false) (fun _=>false) (fun _=>false) false false (fun _=>false) (fun _=>false) (fun _ _=>false) (fun _ _=>false) (fun _ _=>false) (fun _=>false) (fun _ _ _=>false) (fun a0=>Nat.beq (Array.size a0) 0) (fun _=>false) (fun _ _=>false)
def tdS (d:TypeDesc):Option TypeId:=TypeDesc.casesOn (motive:=fun _=>Option TypeId) d none none (fun _=>none) (fun _=>none) (fun _=>none) none none (fun _=>none) (fun a0=>some a0) (fun _ _=>none) (fun _ _=>none) (fun _ _=>none) (fun _=>none) (fun _ _ _=>none) (fun _=>none) (fun _=>none) (fun _ _=>none)
def tdA (d:TypeDesc):Option (Nat×TypeId):=TypeDesc.casesOn (motive:=fun _=>Option (Nat×TypeId)) d none none (fun _=>none) (fun _=>none) (fun _=>none) none none (fun _=>none) (fun _=>none) (fun a0 a1=>some (a0,a1)) (fun _ _=>none) (fun _ _=>none) (fun _=>none) (fun _ _ _=>none) (fun _=>none) (fun _=>none) (fun _ _=>none)
def tdF (d:TypeDesc):Option (Array Field):=TypeDesc.casesOn (motive:=fun _=>Option (Array Field)) d none none (fun _=>none) (fun _=>none) (fun _=>none) none none (fun _=>none) (fun _=>none) (fun _ _=>none) (fun _ _=>none) (fun _ _=>none) (fun a0=>some a0) (fun _ _ _=>none) (fun _=>none) (fun _=>none) (fun _ _=>none)
def tdI (d:TypeDesc):Option IntKind:=TypeDesc.casesOn (motive:=fun _=>Option IntKind) d none none (fun a0=>some a0) (fun _=>none) (fun _=>none) none none (fun _=>none) (fun _=>none) (fun _ _=>none) (fun _ _=>none) (fun _ _=>none) (fun _=>none) (fun _ _ _=>none) (fun _=>none) (fun _=>none) (fun _ _=>none)
def tdStr (d:TypeDesc):Bool:=TypeDesc.casesOn (motive:=fun _=>Bool) d false false (fun _=>false) (fun _=>false) (fun _=>false) (true) false (fun _=>false) (fun _=>false) (fun _ _=>false) (fun _ _=>false) (fun _ _=>false) (fun _=>false) (fun _ _ _=>false) (fun _=>false) (fun _=>false) (fun _ _=>false)
def tdB (d:TypeDesc):Bool:=TypeDesc.casesOn (motive:=fun _=>Bool) d false (true) (fun _=>false) (fun _=>false) (fun _=>false) false false (fun _=>false) (fun _=>false) (fun _ _=>false) (fun _ _=>false) (fun _ _=>false) (fun _=>false) (fun _ _ _=>false) (fun _=>false) (fun _=>false) (fun _ _=>false)
def tdM (d:TypeDesc):Option (TypeId×TypeId):=TypeDesc.casesOn (motive:=fun _=>Option (TypeId×TypeId)) d none none (fun _=>none) (fun _=>none) (fun _=>none) none none (fun _=>none) (fun _=>none) (fun _ _=>none) (fun a0 a1=>some (a0,a1)) (fun _ _=>none) (fun _=>none) (fun _ _ _=>none) (fun _=>none) (fun _=>none) (fun _ _=>none)
def ofV1:Value->Option GV
 | .int k n=>some (.int k n)
 | .bool b=>some (.bool b)
 | .slice none 0 0=>some .snil
 | .pointer none=>some .pnil
 | .nilFunc=>some .fnil
 | .nilIface=>some .inil
 | .string s=>sn (encB (bytesOfV s)) fun n=>sn (bytesOfV s).length fun l=>some (.str n l)
 |_=>none
def ofVs:List Value->Option (List GV)
 | []=>some []
 |v::vs=>ob (ofV1 v) fun x=>ob (ofVs vs) fun xs=>some (x::xs)
def ofV:Value->Option GV
 | .agg cs=>ob (ofVs cs.toList) fun xs=>some (.agg xs)
 |v=>ofV1 v
def semV (s:Sem Value):Option GV:=match s with
 | .pure v=>ofV1 v
 |_=>none
def i64in (z:Int):Bool:=Int.casesOn (motive:=fun _=>Bool) z (fun a=>Nat.blt a 9223372036854775808) (fun a=>Nat.blt a 9223372036854775808)
def isI64 (k:IntKind):Bool:=IntKind.casesOn (motive:=fun _=>Bool) k false false false true false false false false
def gw (k:IntKind) (z:Int):Option GV:=fi z fun z=>bif isI64 k then(bif i64in z then some (.int k z)else none)else fi (k.wrap z) fun z=>some (.int k z)
def eqK (a b:IntKind):Bool:=decide (a=b)
def binI (op:BinOp) (k:IntKind) (a b:Int):Option GV:=BinOp.casesOn (motive:=fun _=>Option GV) op (gw k (a+b)) (gw k (a - b)) (semV (binOp .mul 0 (.int k a) (.int k b))) (semV (binOp .quo 0 (.int k a) (.int k b))) (semV (binOp .rem 0 (.int k a) (.int k b))) (semV (binOp .and 0 (.int k a) (.int k b))) (semV (binOp .or 0 (.int k a) (.int k b))) (semV (binOp .xor 0 (.int k a) (.int k b))) (semV (binOp .shl 0 (.int k a) (.int k b))) (semV (binOp .shr 0 (.int k a) (.int k b))) (semV (binOp .andNot 0 (.int k a) (.int k b))) (fb (eqI a b)) (fb (!eqI a b)) (fb (ltI a b)) (fb (!ltI b a)) (fb (ltI b a)) (fb (!ltI a b))
def isShift (op:BinOp):Bool:=BinOp.casesOn (motive:=fun _=>Bool) op false false false false false false false false true true false false false false false false false
def binS (op:BinOp) (a b:Nat×Nat):Option GV:=BinOp.casesOn (motive:=fun _=>Option GV) op none none none none none none none none none none none (fb (eqS a b)) (fb (!eqS a b)) none none none none
def binN (op:BinOp):Option GV:=BinOp.casesOn (motive:=fun _=>Option GV) op none none none none none none none none none none none (some (.bool true)) (some (.bool false)) none none none none
def binB (op:BinOp) (a b:Bool):Option GV:=BinOp.casesOn (motive:=fun _=>Option GV) op none none none none none none none none none none none (fb (eqB a b)) (fb (!eqB a b)) none none none none
def gev (σ:GF) (o:Operand):Option GV:=Operand.casesOn (motive:=fun _=>Option GV) o (fun t=>glk σ t) ofV (fun _=>none) (fun f=>some (.fn f [] []))
def gevs (σ:GF) (l:List Operand):Option (List GV):=List.rec (motive:=fun _=>Option (List GV)) (some []) (fun x _ ih=>ob (gev σ x) fun v=>ob ih fun vs=>some (v::vs)) l
def gparts (σ:GF) (l:List (Nat×Operand)):Option (List (Nat×GV)):=List.rec (motive:=fun _=>Option (List (Nat×GV))) (some []) (fun p _ ih=>ob (gev σ p.2) fun v=>ob ih fun vs=>some ((p.1,v)::vs)) l
abbrev TB:=Nat->Option Ty
def elemOf (tb:TB) (T:TypeId):Option (TypeId×Ty):=ob (tb T) fun t=>ob (tdS t.desc) fun e=>ob (tb e) fun te=>some (e,te)
def sizesOf (tb:TB) (l:List Field):Option (List (Nat×Nat)):=List.rec (motive:=fun _=>Option (List (Nat×Nat))) (some []) (fun f _ ih=>ob (tb f.type) fun t=>ob ih fun r=>some ((f.offset,t.size)::r)) l
def fieldsOf (tb:TB) (T:TypeId):Option (List Field):=ob (tb T) fun t=>ob (tdF t.desc) fun fs=>some fs.toList
def placesOf (tb:TB) (T:TypeId):Option (List (Nat×Nat)):=ob (fieldsOf tb T) fun fs=>sizesOf tb fs

abbrev OR:=Option (GV×GH)
def vPick (c a b:GV):Option GV:=ob c.asB fun q=>Bool.casesOn (motive:=fun _=>Option GV) q (some b) (some a)
def vBin (tb:TB) (op:BinOp) (T:TypeId) (v u:GV):Option GV:=
 Option.casesOn (motive:=fun _=>Option GV) v.asI
  (Option.casesOn (motive:=fun _=>Option GV) v.asStr (Option.casesOn (motive:=fun _=>Option GV) v.asB (bif v.isInil then(bif u.isInil then ob (tb T) fun t=>bif tdE t.desc then binN op else none else none)else none) fun a=>ob u.asB fun b=>ob (tb T) fun t=>bif tdB t.desc then binB op a b else none) fun a=>ob u.asStr fun b=>binS op a b)
  fun a=>ob u.asI fun b=>bif isShift op then semV (binOp op 0 (.int a.1 a.2) (.int b.1 b.2))else bif eqK a.1 b.1 then binI op a.1 a.2 b.2 else none
def vUn (op:UnOp) (v:GV):Option GV:=UnOp.casesOn (motive:=fun _=>Option GV) op (ob v.asI fun a=>gw a.1 (0 - a.2)) none (ob v.asB fun b=>fb (!b)) none
def vConv (tb:TB) (S D:TypeId) (v:GV):Option GV:=ob v.asI fun a=>ob (tb S) fun s=>ob (tdI s.desc) fun _=>ob (tb D) fun t=>ob (tdI t.desc) fun k=>fi (k.wrap a.2) fun z=>some (.int k z)
def vB (o:Option GV) (d:Nat):Option Nat:=Option.casesOn (motive:=fun _=>Option Nat) o (some d) fun v=>ob v.asI fun a=>asN a.2
def vSliceS (s:Nat×Nat) (l h:Nat):Option GV:=bif Nat.ble l h then(bif Nat.ble h s.2 then sn (Nat.mod (Nat.shiftRight s.1 (Nat.mul 8 l)) (Nat.pow 2 (Nat.mul 8 (Nat.sub h l)))) fun n=>sn (Nat.sub h l) fun k=>some (.str n k)else none)else none
def vSliceL (s:Nat×Nat×Nat×Nat) (sz l h:Nat):Option GV:=bif Nat.beq sz s.2.2.2 then(bif Nat.ble l h then(bif Nat.ble h s.2.2.1 then sn (Nat.add s.2.1 (Nat.mul l sz)) fun o=>sn (Nat.sub h l) fun k=>some (.sl s.1 o k sz)else none)else none)else none
def vSliceP (p:Nat×Nat) (n sz l h:Nat):Option GV:=bif Nat.ble l h then(bif Nat.ble h n then(bif Nat.beq sz 0 then none else sn (Nat.add p.2 (Nat.mul l sz)) fun o=>sn (Nat.sub h l) fun k=>some (.sl p.1 o k sz))else none)else none
def vSlice (tb:TB) (T:TypeId) (v:GV) (lo hi:Option GV) (H:GH):Option GV:=ob (vB lo 0) fun l=>ob (tb T) fun t=>
 Option.casesOn (motive:=fun _=>Option GV) v.asStr
  (Option.casesOn (motive:=fun _=>Option GV) v.asS
   (Bool.casesOn (motive:=fun _=>Option GV) v.isSnil (ob v.asP fun p=>ob (tdA t.desc) fun e=>ob (tb e.2) fun te=>ob (vB hi e.1) fun h=>ob (H.cells p.1) fun cs=>bif Nat.ble (Nat.add p.2 (Nat.mul e.1 te.size)) cs.length then vSliceP p e.1 te.size l h else none) (ob (tdS t.desc) fun e=>ob (tb e) fun te=>ob (vB hi 0) fun h=>bif Nat.beq l 0 then(bif Nat.beq h 0 then some .snil else none)else none))
   fun s=>ob (tdS t.desc) fun e=>ob (tb e) fun te=>ob (vB hi s.2.2.1) fun h=>vSliceL s te.size l h)
  fun s=>ob (vB hi s.2) fun h=>bif tdStr t.desc then vSliceS s l h else none
def vField (tb:TB) (T:TypeId) (f:Nat) (v:GV):Option GV:=ob v.asP fun p=>ob (fieldsOf tb T) fun fs=>ob (nth fs f) fun q=>ob (tb q.type) fun tq=>bif Nat.beq tq.size 0 then none else sn (Nat.add p.2 q.offset) fun o=>some (.ptr p.1 o)
def ofCells (t:Ty) (cs:List GV) (o:Nat):Option GV:=bif aggD t.desc then ob (slc cs o t.size) fun r=>some (.agg r)else nth cs o
def vPart (tb:TB) (T:TypeId) (f:Nat) (v:GV):Option GV:=ob v.asA fun cs=>ob (fieldsOf tb T) fun fs=>ob (nth fs f) fun q=>ob (tb q.type) fun tq=>ofCells tq cs q.offset
def vIndexS (tb:TB) (T:TypeId) (s:Nat×Nat×Nat×Nat) (i:Nat):Option GV:=ob (elemOf tb T) fun te=>bif Nat.blt i s.2.2.1 then sn (Nat.add s.2.1 (Nat.mul i te.2.size)) fun o=>some (.ptr s.1 o)else none
def vIndexP (tb:TB) (T:TypeId) (p:Nat×Nat) (i:Nat):Option GV:=ob (tb T) fun t=>ob (tdA t.desc) fun e=>ob (tb e.2) fun te=>bif Nat.blt i e.1 then sn (Nat.add p.2 (Nat.mul i te.size)) fun o=>some (.ptr p.1 o)else none
def vIndex (tb:TB) (T:TypeId) (v w:GV):Option GV:=ob w.asI fun n=>ob (asN n.2) fun n=>Option.casesOn (motive:=fun _=>Option GV) v.asP (ob v.asS fun s=>vIndexS tb T s n) fun p=>vIndexP tb T p n
def vAt (tb:TB) (T:TypeId) (v w:GV):Option GV:=ob v.asStr fun s=>ob w.asI fun n=>ob (asN n.2) fun n=>ob (tb T) fun t=>bif tdStr t.desc then(bif Nat.blt n s.2 then sn (Nat.mod (Nat.shiftRight s.1 (Nat.mul 8 n)) 256) fun b=>some (.int .u8 (.ofNat b))else none)else none
def vExt (i:Nat) (v:GV):Option GV:=ob v.asT fun vs=>nth vs i
def gfillF (ps:List (Nat×Nat)) (l:List (Nat×GV)):List GV->Option (List GV):=List.rec (motive:=fun _=>List GV->Option (List GV)) (fun cs=>some cs) (fun p _ ih cs=>ob (nth ps p.1) fun q=>ob p.2.cells fun cc=>bif Nat.beq cc.length q.2 then(bif Nat.beq q.2 0 then none else ob (gput cc q.1 cs) ih)else none) l
def gfillA (sz:Nat) (l:List (Nat×GV)):List GV->Option (List GV):=List.rec (motive:=fun _=>List GV->Option (List GV)) (fun cs=>some cs) (fun p _ ih cs=>ob p.2.cells fun cc=>bif Nat.beq cc.length sz then(bif Nat.beq sz 0 then none else ob (gput cc (Nat.mul p.1 sz) cs) ih)else none) l
def zeroOf (tb:TB) (T:TypeId):Option (List GV):=ob (tb T) fun t=>ob (ofV t.zero) fun z=>z.cells
def vBuild (tb:TB) (T:TypeId) (vs:List (Nat×GV)):Option GV:=ob (tb T) fun t=>ob (zeroOf tb T) fun zc=>Option.casesOn (motive:=fun _=>Option GV) (tdF t.desc) (ob (tdA t.desc) fun e=>ob (tb e.2) fun te=>ob (gfillA te.size vs zc) fun cs=>some (.agg cs)) fun _=>ob (placesOf tb T) fun pl=>ob (gfillF pl vs zc) fun cs=>some (.agg cs)
def glen (v:GV):Option Nat:=bif v.isSnil then some 0 else ob v.asS fun s=>some s.2.2.1
def vLen (tb:TB) (T:TypeId) (v:GV):Option GV:=ob (tb T) fun t=>Option.casesOn (motive:=fun _=>Option GV) v.asStr (ob (tdS t.desc) fun _=>ob (glen v) fun n=>some (.int .i64 (.ofNat n))) fun s=>bif tdStr t.desc then some (.int .i64 (.ofNat s.2))else none
def vMax (v u:GV):Option GV:=ob v.asI fun a=>ob u.asI fun b=>bif eqK a.1 b.1 then(bif ltI a.2 b.2 then some u else some v)else none
def vMin (v u:GV):Option GV:=ob v.asI fun a=>ob u.asI fun b=>bif eqK a.1 b.1 then(bif ltI b.2 a.2 then some u else some v)else none

def vLoad (tb:TB) (T:TypeId) (v:GV) (H:GH):Option GV:=ob v.asP fun p=>ob (H.cells p.1) fun cs=>ob (tb T) fun t=>ofCells t cs p.2
def vStore (tb:TB) (T:TypeId) (v u:GV) (H:GH):OR:=ob v.asP fun p=>ob (H.cells p.1) fun cs=>ob (tb T) fun t=>ob u.cells fun uc=>bif Nat.beq uc.length t.size then bif Nat.beq t.size 0 then none else ob (gput uc p.2 cs) fun cs'=>H.setK p.1 (.cells cs') fun H'=>some (.un,H')else none
def vBox (v:GV) (H:GH):OR:=ob v.cells fun vc=>H.newK (.cells vc) fun h H'=>some (.ptr h 0,H')
def vAlloc (tb:TB) (T:TypeId) (H:GH):OR:=ob (zeroOf tb T) fun zc=>H.newK (.cells zc) fun h H'=>some (.ptr h 0,H')
def rep (z:List GV) (n:Nat):List GV:=Nat.rec (motive:=fun _=>List GV) [] (fun _ ih=>z++ih) n
def fc {R:Type} (a:List GV):(List GV->R)->R:=List.rec (motive:=fun _=>(List GV->R)->R) (fun k=>k []) (fun x _ ih k=>ih fun r=>k (x::r)) a
def vBuildS (tb:TB) (T:TypeId) (n:Nat) (vs:List (Nat×GV)) (H:GH):OR:=ob (elemOf tb T) fun te=>ob (zeroOf tb te.1) fun zc=>bif Nat.beq zc.length te.2.size then(bif Nat.blt (Nat.mul n te.2.size) 16777216 then(bif Nat.beq te.2.size 0 then none else ob (gfillA te.2.size vs (rep zc n)) fun cs=>H.newK (.cells cs) fun h H'=>some (.sl h 0 n te.2.size,H'))else none)else none
def vMake (tb:TB) (T:TypeId) (v u:GV) (H:GH):OR:=ob (elemOf tb T) fun te=>ob (zeroOf tb te.1) fun zc=>ob v.asI fun k=>ob u.asI fun c=>bif eqI k.2 c.2 then ob (asN k.2) fun k=>(bif Nat.beq zc.length te.2.size then(bif Nat.blt (Nat.mul k te.2.bytes) 16777216 then(bif Nat.blt k 16777216 then(bif Nat.beq te.2.size 0 then none else fc (rep zc k) fun l=>H.newK (.cells l) fun h H'=>some (.sl h 0 k te.2.size,H'))else none)else none)else none)else none
def lap {R:Type} (a b:List GV):(List GV->R)->R:=List.rec (motive:=fun _=>(List GV->R)->R) (fun k=>k b) (fun x _ ih k=>ih fun r=>k (x::r)) a
def content (H:GH) (sz:Nat) (v:GV):Option (Nat×List GV):=bif v.isSnil then some (0,[])else ob v.asS fun s=>bif Nat.beq s.2.2.2 sz then ob (H.cells s.1) fun cs=>ob (slc cs s.2.1 (Nat.mul s.2.2.1 sz)) fun r=>some (s.2.2.1,r)else none
def delS (H:GH) (v:GV):GH:=Option.casesOn (motive:=fun _=>GH) v.asS H fun s=>H.del s.1
def delSK (H:GH) (v:GV) (f:GH->OR):OR:=Option.casesOn (motive:=fun _=>OR) v.asS (f H) fun s=>H.delK s.1 f
def vApp (tb:TB) (T T':TypeId) (v u:GV) (H:GH):OR:=bif Nat.beq T T' then ob (elemOf tb T) fun te=>bif Nat.beq te.2.size 0 then none else ob (zeroOf tb te.1) fun zc=>bif Nat.beq zc.length te.2.size then ob (content H te.2.size v) fun p=>ob (content H te.2.size u) fun q=>Nat.casesOn (motive:=fun _=>OR) q.1 (some (v,H)) (fun _=>sn (Nat.add p.1 q.1) fun n=>bif Nat.blt (Nat.mul n (Nat.add te.2.bytes 1)) 16777216 then lap p.2 q.2 fun l=>delSK H v fun H1=>H1.newK (.cells l) fun h H'=>some (.sl h 0 n te.2.size,H')else none)else none else none
def vMakeMap (H:GH):OR:=H.newK (.mp []) fun h H'=>some (.map h,H')
def keyEq (a b:GV):Option Bool:=Option.casesOn (motive:=fun _=>Option Bool) a.asI (ob a.asStr fun x=>ob b.asStr fun y=>some (eqS x y)) fun x=>ob b.asI fun y=>bif eqK x.1 y.1 then some (eqI x.2 y.2)else none
def mfind (k:GV) (es:List (GV×GV)):Option (Option GV):=List.rec (motive:=fun _=>Option (Option GV)) (some none) (fun e _ ih=>ob (keyEq k e.1) fun b=>bif b then some (some e.2)else ih) es
def keyOk (t:Ty) (k:GV):Bool:=Option.casesOn (motive:=fun _=>Bool) k.asI (Option.casesOn (motive:=fun _=>Bool) k.asStr false (fun _=>tdStr t.desc)) (fun x=>Option.casesOn (motive:=fun _=>Bool) (tdI t.desc) false (fun _=>true))
def mapOf (tb:TB) (T:TypeId):Option (Ty×Ty):=ob (tb T) fun t=>ob (tdM t.desc) fun kv=>ob (tb kv.1) fun tk=>ob (tb kv.2) fun tv=>some (tk,tv)
def vLook (tb:TB) (T:TypeId) (ok:Bool) (v k:GV) (H:GH):Option GV:=ob v.asM fun h=>ob (H.get h) fun o=>ob o.asM fun es=>ob (mapOf tb T) fun t=>bif keyOk t.1 k then ob (mfind k es) fun r=>ob (ofV t.2.zero) fun z=>Option.casesOn (motive:=fun _=>Option GV) r (bif ok then some (.tup [z,.bool false])else some z) (fun g=>bif ok then some (.tup [g,.bool true])else some g)else none
def vMapUp (tb:TB) (T:TypeId) (v k u:GV) (H:GH):OR:=ob v.asM fun h=>ob (H.get h) fun o=>ob o.asM fun es=>ob (mapOf tb T) fun t=>bif keyOk t.1 k then ob (mfind k es) fun r=>Option.casesOn (motive:=fun _=>OR) r (H.setK h (.mp (es++[(k,u)])) fun H'=>some (.un,H')) (fun _=>none)else none

section
variable {R:Type}
abbrev KT (R:Type):=GF->GH->(GV->GH->Option R)->Option R
def k1 (x:Operand) (f:GV->Option GV):KT R:=fun σ H k=>ob (some x) fun x=>ob (gev σ x) fun v=>ob (f v) fun g=>k g H
def k2 (x y:Operand) (f:GV->GV->Option GV):KT R:=fun σ H k=>ob (some x) fun x=>ob (gev σ x) fun v=>ob (gev σ y) fun u=>ob (f v u) fun g=>k g H
def k3 (x y z:Operand) (f:GV->GV->GV->Option GV):KT R:=fun σ H k=>ob (some x) fun x=>ob (gev σ x) fun v=>ob (gev σ y) fun u=>ob (gev σ z) fun t=>ob (f v u t) fun g=>k g H
def kMove (x:Operand):KT R:=fun σ H k=>ob (some x) fun x=>ob (gev σ x) fun v=>k v H
def kFn (fn:Fn) (first caps:Array Operand):KT R:=match fn with
 | .func f=>fun σ H k=>ob (gevs σ first.toList) fun us=>ob (gevs σ caps.toList) fun vs=>k (.fn f us vs) H
 |_=>fun _ _ _=>none
def gevo (σ:GF) (o:Option Operand):Option (Option GV):=Option.casesOn (motive:=fun _=>Option (Option GV)) o (some none) fun x=>ob (gev σ x) fun v=>some (some v)
def kSlice (tb:TB) (T:TypeId) (x:Operand) (lo hi mx:Option Operand):KT R:=Option.casesOn (motive:=fun _=>KT R) mx (fun σ H k=>ob (some x) fun x=>ob (gev σ x) fun v=>ob (gevo σ lo) fun l=>ob (gevo σ hi) fun h=>ob (vSlice tb T v l h H) fun g=>k g H) (fun _ _ _ _=>none)
def kBuild (tb:TB) (T:TypeId) (ps:List (Nat×Operand)):KT R:=fun σ H k=>ob (gparts σ ps) fun vs=>ob (vBuild tb T vs) fun g=>k g H
def kOR (r:OR) (k:GV->GH->Option R):Option R:=ob r fun p=>Prod.casesOn (motive:=fun _=>Option R) p fun g h=>k g h
def kLoad (tb:TB) (T:TypeId) (x:Operand):KT R:=fun σ H k=>ob (some x) fun x=>ob (gev σ x) fun v=>ob (vLoad tb T v H) fun g=>k g H
def kStore (tb:TB) (T:TypeId) (x y:Operand):KT R:=fun σ H k=>ob (some x) fun x=>ob (gev σ x) fun v=>ob (gev σ y) fun u=>kOR (vStore tb T v u H) k
def kBox (x:Operand):KT R:=fun σ H k=>ob (some x) fun x=>ob (gev σ x) fun v=>kOR (vBox v H) k
def kAlloc (tb:TB) (T:TypeId):KT R:=fun σ H k=>kOR (vAlloc tb T H) k
def kBuildS (tb:TB) (T:TypeId) (n:Nat) (ps:List (Nat×Operand)):KT R:=fun σ H k=>ob (gparts σ ps) fun vs=>kOR (vBuildS tb T n vs H) k
def kMake (tb:TB) (T:TypeId) (x y:Operand):KT R:=fun σ H k=>ob (some x) fun x=>ob (gev σ x) fun v=>ob (gev σ y) fun u=>kOR (vMake tb T v u H) k
def kMakeMap (r:Option Operand):KT R:=Option.casesOn (motive:=fun _=>KT R) r (fun σ H k=>kOR (vMakeMap H) k) (fun _ _ _ _=>none)
def kLook (tb:TB) (T:TypeId) (x y:Operand) (ok:Bool):KT R:=fun σ H k=>ob (some x) fun x=>ob (gev σ x) fun v=>ob (gev σ y) fun u=>ob (vLook tb T ok v u H) fun g=>k g H
def kMapUp (tb:TB) (T:TypeId) (x y z:Operand):KT R:=fun σ H k=>ob (some x) fun x=>ob (gev σ x) fun v=>ob (gev σ y) fun u=>ob (gev σ z) fun t=>kOR (vMapUp tb T v u t H) k
def kArg1 (xs:List Operand) (f:Operand->KT R):KT R:=List.casesOn (motive:=fun _=>KT R) xs (fun _ _ _=>none) fun x r=>List.casesOn (motive:=fun _=>KT R) r (f x) (fun _ _ _ _ _=>none)
def kArg2 (xs:List Operand) (f:Operand->Operand->KT R):KT R:=List.casesOn (motive:=fun _=>KT R) xs (fun _ _ _=>none) fun x r=>List.casesOn (motive:=fun _=>KT R) r (fun _ _ _=>none) fun y r=>List.casesOn (motive:=fun _=>KT R) r (f x y) (fun _ _ _ _ _=>none)
def kApp (tb:TB) (ts:List TypeId) (x y:Operand):KT R:=fun σ H k=>ob (nth ts 0) fun T=>ob (nth ts 1) fun T'=>ob (gev σ x) fun v=>ob (gev σ y) fun u=>kOR (vApp tb T T' v u H) k
def kLen (tb:TB) (ts:List TypeId) (x:Operand):KT R:=fun σ H k=>ob (nth ts 0) fun T=>ob (gev σ x) fun v=>ob (vLen tb T v) fun g=>k g H
def kBuB (tb:TB) (xs:Array Operand) (ts:Array TypeId):Builtin->KT R
 | .len=>kArg1 xs.toList (kLen tb ts.toList)
 | .max=>kArg2 xs.toList fun x y=>k2 x y vMax
 | .min=>kArg2 xs.toList fun x y=>k2 x y vMin
 | .append=>kArg2 xs.toList (kApp tb ts.toList)
 |_=>fun _ _ _=>none
abbrev CH:=Nat->List GV->GH->OR
def kCallV (ih:CH) (xs:Array Operand) (f:Operand):KT R:=fun σ H k=>ob (gev σ f) fun v=>ob v.asF fun g=>ob (gevs σ xs.toList) fun us=>kOR (ih g.1 (g.2.1++us++g.2.2) H) k
def kCall (tb:TB) (ih:CH) (c:Call):KT R:=Callee.casesOn (motive:=fun _=>KT R) c.callee (kCallV ih c.args) (fun _ _ _ _ _=>none) (kBuB tb c.args c.argTypes)
end
def gop {R:Type} (tb:TB) (ih:CH) (o:Op):KT R:=Op.casesOn (motive:=fun _=>KT R) o (fun a0=>kMove a0) (fun a0=>kMove a0) (fun a0 a1 a2=>k3 a0 a1 a2 vPick) (fun a0=>kAlloc tb a0) (fun _ a1=>kBox a1) (fun a0 a1=>kBuild tb a0 a1.toList) (fun a0 a1 a2=>kBuildS tb a0 a1 a2.toList) (fun _ _ _ _=>fun _ _ _=>none) (fun a0 a1=>kLoad tb a0 a1) (fun a0 a1 a2=>kStore tb a0 a1 a2) (fun _=>fun _ _ _=>none) (fun _=>fun _ _ _=>none) (fun a0=>k1 a0 GV.nilck) (fun a0 a1 a2 a3 _=>k2 a2 a3 (vBin tb a0 a1)) (fun a0 _ a2=>k1 a2 (vUn a0)) (fun a0 a1 a2=>k1 a2 (vConv tb a0 a1)) (fun _ _=>fun _ _ _=>none) (fun _ _=>fun _ _ _=>none) (fun a0 a1 a2=>kFn a0 a1 a2) (fun _ a1=>kMakeMap a1) (fun _ _=>fun _ _ _=>none) (fun a0 a1 a2=>kMake tb a0 a1 a2) (fun a0 a1 a2 a3 a4=>kSlice tb a0 a1 a2 a3 a4) (fun a0 a1 a2=>k1 a1 (vField tb a0 a2)) (fun a0 a1 a2=>k1 a1 (vPart tb a0 a2)) (fun a0 a1 a2=>k2 a1 a2 (vIndex tb a0)) (fun a0 a1 a2=>k2 a1 a2 (vAt tb a0)) (fun a0 a1 a2 a3=>kLook tb a0 a1 a2 a3) (fun a0 a1 a2 a3=>kMapUp tb a0 a1 a2 a3) (fun _ _ _=>fun _ _ _=>none) (fun _ _ _ _=>fun _ _ _=>none) (fun _ _=>fun _ _ _=>none) (fun _ _=>fun _ _ _=>none) (fun _=>fun _ _ _=>none) (fun _ _ _ _=>fun _ _ _=>none) (fun a0 a1=>k1 a0 (vExt a1)) (fun a0=>kCall tb ih a0) (fun _=>fun _ _ _=>none) (fun _=>fun _ _ _=>none) (fun _=>fun _ _ _=>none) (fun _ _=>fun _ _ _=>none) (fun _ _ _=>fun _ _ _=>none) (fun _ _=>fun _ _ _=>none)

def useX (x:Operand):Nat:=Operand.casesOn (motive:=fun _=>Nat) x (fun t=>Nat.shiftLeft 1 t) (fun _=>0) (fun _=>0) (fun _=>0)
def useOp (all:List Oper) (o:Oper):Nat:=Nat.lor (o.op.operands.toList.foldl (fun m x=>Nat.lor m (useX x)) 0) (match o.guard with
 |none=>0
 |some g=>match nth all g.1 with
  |some oj=>(match oj.dst with|some d=>Nat.shiftLeft 1 d|none=>0)
  |none=>0)
def mdel (m:Nat) (d:Option Nat):Nat:=match d with
 |none=>m
 |some d=>bif Nat.testBit m d then Nat.sub m (Nat.shiftLeft 1 d)else m
def liveOps (all:List Oper) (l:List Oper) (m:Nat):Nat:=l.foldr (fun o m=>Nat.lor (mdel m o.dst) (useOp all o)) m
structure Cx where
 res:List ResultVar
 retm:Nat
 env:List (Nat×Nat)
def envGet (e:List (Nat×Nat)) (id:Nat):Nat:=List.rec (motive:=fun _=>Nat) 0 (fun p _ ih=>bif Nat.beq p.1 id then p.2 else ih) e
def liveC (c:Code) (retm:Nat):Nat->List (Nat×Nat)->Nat:=Code.rec (motive:=fun _=>Nat->List (Nat×Nat)->Nat)
 (fun m _=>m) (fun _ ops _ m _=>liveOps ops.toList ops.toList m) (fun _ _ la lb m e=>la (lb m e) e) (fun x _ _ la lb m e=>Nat.lor (useX x) (Nat.lor (la m e) (lb m e))) (fun id _ lb m e=>lb m ((id,m)::e))
 (fun _ lb _ e=>Nat.lor (lb 0 e) (lb (lb 0 e) e)) (fun _ _ _ _ _ _ _ _=>0) (fun id _ e=>envGet e id) (fun _ _ _ _=>0) (fun _ _ _=>0) (fun _ _ _=>0) (fun _ _=>retm) (fun _ _ _=>0) c
def live (c:Code) (m:Nat) (cx:Cx):Nat:=liveC c cx.retm m cx.env
def keysN (f m:Nat):Nat->List Nat:=Nat.rec (motive:=fun _=>Nat->List Nat) (fun _=>[]) (fun _ ih i=>bif Nat.testBit m i then i::ih (Nat.succ i)else ih (Nat.succ i)) f
def keysOf (m:Nat):List Nat:=keysN (Nat.succ (Nat.log2 m)) m 0
def packL (σ:GF) (ks:List Nat):List GV:=List.rec (motive:=fun _=>List GV) [] (fun k _ ih=>Option.casesOn (motive:=fun _=>GV) (glk σ k) .bad (fun v=>v)::ih) ks
def unpackL {R:Type} (ks:List Nat):List GV->(GF->Option R)->Option R:=List.rec (motive:=fun _=>List GV->(GF->Option R)->Option R) (fun vs k=>List.casesOn (motive:=fun _=>Option R) vs (k []) fun _ _=>none) (fun key _ ih vs k=>List.casesOn (motive:=fun _=>Option R) vs none fun v r=>ih r fun σ=>k ((key,v)::σ)) ks

inductive Ex where
 |normal
 |exit (id:Nat)
 |ret
inductive Task where
 |fn (f:Nat)
 |loop (b:Code) (cx:Cx)
structure GS where
 σ:GF
 H:GH
structure Out where
 e:Ex
 vs:List GV
 H:GH
abbrev RS:=Option Out
abbrev QH0:=List GV->GH->RS
abbrev QH:=Nat->List GV->GH->RS
abbrev IH:=Task->List GV->GH->RS
def resv (tb:TB) (s:GS) (r:ResultVar):Option GV:=ResultVar.casesOn (motive:=fun _=>Option GV) r (fun t=>glk s.σ t) fun a T=>ob (glk s.σ a) fun v=>vLoad tb T v s.H
def resvs (tb:TB) (s:GS) (l:List ResultVar):Option (List GV):=List.rec (motive:=fun _=>Option (List GV)) (some []) (fun r _ ih=>ob (resv tb s r) fun v=>ob ih fun vs=>some (v::vs)) l
def resMask (l:List ResultVar):Nat:=List.rec (motive:=fun _=>Nat) 0 (fun r _ ih=>Nat.lor (ResultVar.casesOn (motive:=fun _=>Nat) r (fun t=>Nat.shiftLeft 1 t) (fun a _=>Nat.shiftLeft 1 a)) ih) l
def pack (vs:List GV):GV:=List.casesOn (motive:=fun _=>GV) vs (.tup []) (fun v r=>List.casesOn (motive:=fun _=>GV) r v (fun _ _=> .tup vs))
def putD (d:Option Nat) (v:GV) (σ:GF):GF:=Option.casesOn (motive:=fun _=>GF) d σ fun d=>(d,v)::σ
def retN (ks:List Nat) (s:GS):RS:=some ⟨.normal,packL s.σ ks,s.H⟩
def retR (tb:TB) (cx:Cx) (s:GS):RS:=ob (resvs tb s cx.res) fun vs=>some ⟨.ret,vs,s.H⟩
def joinN (ks:List Nat) (k:GS->RS) (r:RS):RS:=ob r fun o=>Ex.casesOn (motive:=fun _=>RS) o.e (unpackL ks o.vs fun σ=>k ⟨σ,o.H⟩) (fun _=>some o) (some o)
def nB (id:Nat) (r:RS):RS:=ob r fun o=>Ex.casesOn (motive:=fun _=>RS) o.e (some o) (fun i=>Bool.casesOn (motive:=fun _=>RS) (Nat.beq i id) (some o) (some ⟨.normal,o.vs,o.H⟩)) (some o)
def orK (g:GV) (H:GH):OR:=some (g,H)
def opK (d:Option Nat) (s:GS) (k:GS->RS) (g:GV) (H:GH):RS:=k ⟨putD d g s.σ,H⟩
def evG (tb:TB) (ih:CH) (o:Oper) (s:GS) (b:Bool) (v:GV):OR:=GV.casesOn (motive_1:=fun _=>OR) v (fun _ _=>none) (fun q=>Bool.casesOn (motive:=fun _=>OR) (eqB q b) (some (.un,s.H)) (gop tb ih o.op s.σ s.H orK)) (fun _ _=>none) (fun _ _=>none) none (fun _ _ _ _=>none) none (fun _=>none) (fun _ _ _=>none) none none (fun _=>none) (fun _=>none) (some (.un,s.H)) none
def evOp (tb:TB) (ih:CH) (all:List Oper) (o:Oper) (k:GS->RS) (s:GS):RS:=Option.casesOn (motive:=fun _=>RS) o.guard (gop tb ih o.op s.σ s.H (opK o.dst s k)) fun g=>ob (nth all g.1) fun oj=>ob oj.dst fun dj=>ob (glk s.σ dj) fun v=>kOR (evG tb ih o s g.2 v) (opK o.dst s k)
def evOps (tb:TB) (ih:CH) (all:List Oper) (k:GS->RS) (l:List Oper):GS->RS:=List.rec (motive:=fun _=>GS->RS) k (fun o _ ihl s=>evOp tb ih all o ihl s) l

def isLoad:Op->Bool
 | .load .. => true
 |_=>false
def isLook:Op->Bool
 | .lookup .. => true
 |_=>false
def ldH (σ:GF):Op->Option Nat
 | .load _ x=>ob (some x) fun x=>ob (gev σ x) fun v=>ob v.asP fun p=>some p.1
 |_=>none
def vck {α:Type} (H:GH) (h v:Nat) (k:Option α):Option α:=ob (H.ver h) fun u=>Bool.casesOn (motive:=fun _=>Option α) (Nat.beq u v) none k
def pck (H:GH) (e:Option (Nat×Nat)) (k:Option Unit):Option Unit:=Option.casesOn (motive:=fun _=>Option Unit) e k fun p=>vck H p.1 p.2 k
def ckLoud (m:List Nat) (i:Nat) (H:GH) (pr:List (Nat×Option (Nat×Nat))):Option Unit:=List.rec (motive:=fun _=>Option Unit) (some ()) (fun p _ ih=>Bool.casesOn (motive:=fun _=>Option Unit) (before m i p.1) (pck H p.2 ih) ih) pr
def ckRead (m:List Nat) (i h v:Nat) (hs:List (Nat×GH)):Option (Option (Nat×Nat)):=List.rec (motive:=fun _=>Option (Option (Nat×Nat))) (some (some (h,v))) (fun q _ ih=>Bool.casesOn (motive:=fun _=>Option (Option (Nat×Nat))) (before m i q.1) (vck q.2 h v ih) ih) hs
def ldV (m:List Nat) (i:Nat) (hs:List (Nat×GH)) (H:GH) (l:Option Nat):Option (Option (Nat×Nat)):=Option.casesOn (motive:=fun _=>Option (Option (Nat×Nat))) l (some none) fun h=>ob (H.ver h) fun v=>ckRead m i h v hs
abbrev WT:=Nat->List (Nat×Option (Nat×Nat))->List (Nat×GH)->GS->RS
def evOpW (tb:TB) (ch:CH) (all:List Oper) (m:List Nat) (o:Oper) (K:WT):WT:=fun i pr hs s=>
 Bool.casesOn (motive:=fun _=>RS) (loudOp o.op)
  (Bool.casesOn (motive:=fun _=>RS) (isLoad o.op) (evOp tb ch all o (K (Nat.succ i) pr hs) s)
   (evOp tb ch all o (fun s'=>ob (ldV m i hs s.H (ldH s.σ o.op)) fun e=>K (Nat.succ i) ((i,e)::pr) hs s') s))
  (evOp tb ch all o (fun s'=>ob (ckLoud m i s'.H pr) fun _=>K (Nat.succ i) pr ((i,s.H)::hs) s') s)
def evW (tb:TB) (ch:CH) (all:List Oper) (m:List Nat) (k:GS->RS) (l:List Oper):WT:=List.rec (motive:=fun _=>WT) (fun _ _ _ s=>k s) (fun o _ ih=>evOpW tb ch all m o ih) l
def ordered (l:List Oper) (p:Op->Bool):Bool:=(List.range l.length).all fun i=>match l[i]? with
 |none=>true
 |some o=> !p o.op||(List.range l.length).all fun j=>match l[j]? with
  |none=>true
  |some oj=> !loudOp oj.op||before (masks l) i j||before (masks l) j i
def wild (dr:Bool) (l:List Oper):Bool:=Bool.casesOn (motive:=fun _=>Bool) dr false (!ordered l isLoad)
def resOR (r:RS):OR:=ob r fun o=>Ex.casesOn (motive:=fun _=>OR) o.e none (fun _=>none) (some (pack o.vs,o.H))
structure GP where
 tab:TB
 cat:Nat
 ext:Nat->List GV->GH->Option (GV×GH)
 exn:Nat->List GV->Option GV
def z64:GV:= .int .i64 (.ofNat 0)
def callC (ih:CH) (us:List GV) (H:GH):OR:=List.casesOn (motive:=fun _=>OR) us none fun u r=>List.casesOn (motive:=fun _=>OR) r (ob u.asF fun g=>H.newK (.cells [z64]) fun h1 H1=>H1.newK (.cells [z64]) fun h2 H2=>ob (ih g.1 (g.2.1++g.2.2) H2) fun x=>ob (x.2.cells h1) fun c1=>ob (x.2.cells h2) fun c2=>
 bif Nat.beq c1.length 1 then(bif Nat.beq c2.length 1 then x.2.setK h1 (.cells [z64]) fun H3=>H3.setK h2 (.cells [z64]) fun H4=>H4.delK h1 fun H5=>H5.delK h2 fun H6=>some (.tup [z64,z64],H6)else none)else none) (fun _ _=>none)
def callB (ih:IH):CH:=fun f us H=>resOR (ih (.fn f) us H)
def callQ (G:GP) (q:QH):CH:=fun f us H=>Bool.casesOn (motive:=fun _=>OR) (Nat.beq f G.cat) (Option.casesOn (motive:=fun _=>OR) (G.ext f us H) (Option.casesOn (motive:=fun _=>OR) (G.exn f us) (resOR (q f us H)) fun g=>some (g,H)) fun r=>some r) (callC (fun f us H=>resOR (q f us H)) us H)
def callG (G:GP) (ih:IH):CH:=callQ G fun f us H=>ih (.fn f) us H
abbrev ET:=Nat->Cx->(GS->RS)->GS->RS
abbrev LH:=Code->Cx->QH0
def evC (tb:TB) (ch:CH) (lp:LH) (c:Code):ET:=Code.rec (motive:=fun _=>ET)
 (fun _ _ k s=>k s)
 (fun _ ops dr _ _ k s=>Bool.casesOn (motive:=fun _=>RS) (wild dr ops.toList) (evOps tb ch ops.toList k ops.toList s) (evW tb ch ops.toList (masks ops.toList) k ops.toList 0 [] [] s))
 (fun _ b ea eb m cx k s=>ea (live b m cx) cx (eb m cx k) s)
 (fun x _ _ ea eb m cx k s=>ob (gev s.σ x) fun v=>ob v.asB fun q=>joinN (keysOf m) k (Bool.casesOn (motive:=fun _=>RS) q (eb m cx (retN (keysOf m)) s) (ea m cx (retN (keysOf m)) s)))
 (fun id _ eb m cx k s=>joinN (keysOf m) k (nB id (eb m ⟨cx.res,cx.retm,(id,m)::cx.env⟩ (retN (keysOf m)) s)))
 (fun b _ _ cx _ s=>lp b cx (packL s.σ (keysOf (live (.loop b) 0 cx))) s.H)
 (fun _ _ _ _ _ _ _ _ _ _=>none)
 (fun id _ cx _ s=>some ⟨.exit id,packL s.σ (keysOf (envGet cx.env id)),s.H⟩)
 (fun _ _ _ _ _ _=>none) (fun _ _ _ _ _=>none) (fun _ _ _ _ _=>none)
 (fun _ cx _ s=>retR tb cx s)
 (fun _ _ _ _ _=>none) c
def evF (tb:TB) (ch:CH) (lp:LH) (fn:Func) (us:List GV) (H:GH):RS:=ob fn.body fun body=>unpackL (List.range (Nat.add fn.params.size fn.nfree)) us fun σ=>evC tb ch lp body (resMask fn.results.toList) ⟨fn.results.toList,resMask fn.results.toList,[]⟩ (retR tb ⟨fn.results.toList,resMask fn.results.toList,[]⟩) ⟨σ,H⟩
def evL (tb:TB) (ch:CH) (lp:LH) (b:Code) (cx:Cx) (us:List GV) (H:GH):RS:=unpackL (keysOf (live (.loop b) 0 cx)) us fun σ=>ob (evC tb ch lp b (live (.loop b) 0 cx) cx (retN (keysOf (live (.loop b) 0 cx))) ⟨σ,H⟩) fun o=>Ex.casesOn (motive:=fun _=>RS) o.e (lp b cx o.vs o.H) (fun _=>some o) (some o)
abbrev FT:=Nat->Option Func
def step (G:GP) (Fs:FT) (ih:IH) (t:Task):List GV->GH->RS:=Task.casesOn (motive:=fun _=>List GV->GH->RS) t (fun f us H=>ob (Fs f) fun fn=>evF G.tab (callG G ih) (fun b cx=>ih (.loop b cx)) fn us H) (evL G.tab (callG G ih) fun b cx=>ih (.loop b cx))
def run (G:GP) (Fs:FT) (fuel:Nat):IH:=Nat.rec (motive:=fun _=>IH) (fun _ _ _=>none) (fun _ ih=>step G Fs ih) fuel
def callF (G:GP) (Fs:FT) (fuel:Nat) (f:FuncId) (args:List GV) (H:GH):OR:=callG G (run G Fs fuel) f args H
def H0:GH:=⟨0,.lf⟩
end
end Go.Gx
end
section
namespace Go.Gx
open Go Go.Sx
section
variable {α β:Type}
theorem ob_some {o:Option α} {f:α->Option β} {r:β}:ob o f=some r↔∃x,o=some x∧f x=some r:=by
 cases o<;>simp[ob]
theorem bif_some {b:Bool} {x:Option α} {r:α}:(bif b then x else none)=some r↔b=true∧x=some r:=by
 cases b<;>simp
theorem bif_some' {b:Bool} {x:Option α} {r:α}:(bif b then none else x)=some r↔b=false∧x=some r:=by
 cases b<;>simp
theorem sn_eq (n:Nat) (f:Nat->α):sn n f=f n:=by cases n<;>rfl
theorem fi_eq (z:Int) (f:Int->α):fi z f=f z:=by cases z<;>simp[fi,sn_eq]
theorem nth_eq (l:List α):∀n,nth l n=l[n]?:=by
 induction l with
 |nil=>intro n;rfl
 |cons x l ih=>intro n;cases n with
  |zero=>rfl
  |succ n=>exact ih n
theorem lset_eq {v:α}:∀{l l':List α} {n:Nat},lset v l n=some l'->n<l.length∧l'=l.set n v:=by
 intro l
 induction l with
 |nil=>intro l' n h;cases h
 | cons x l ih => intro l' n h; cases n with
  |zero=>cases h;simp
  |succ n=>
   obtain⟨r,h1,h2⟩:=ob_some.1 (show ob (lset v l n) (fun r'=>some (x::r'))=some l' from h)
   obtain⟨h3,h4⟩:=ih h1
   cases h2;simp[h3,h4]
theorem tk_eq:∀{l r:List α} {n:Nat},tk l n=some r->n<=l.length∧r=l.take n:=by
 intro l
 induction l with
 |nil=>intro r n h;cases n with
  |zero=>cases h;simp
  |succ n=>cases h
 | cons x l ih => intro r n h; cases n with
  |zero=>cases h;simp
  |succ n=>
   obtain⟨q,h1,h2⟩:=ob_some.1 (show ob (tk l n) (fun r=>some (x::r))=some r from h)
   obtain⟨h3,h4⟩:=ih h1
   cases h2;simp[h3,h4]
theorem dp_eq:∀{l r:List α} {n:Nat},dp l n=some r->n<=l.length∧r=l.drop n:=by
 intro l
 induction l with
 |nil=>intro r n h;cases n with
  |zero=>cases h;simp
  |succ n=>cases h
 |cons x l ih=>intro r n h;cases n with
  |zero=>cases h;simp
  |succ n=>have:=ih (show dp l n=some r from h);simpa using this
theorem slc_eq {l r:List α} {o n:Nat} (h:slc l o n=some r):o+n<=l.length∧r=(l.drop o).take n:=by
 obtain⟨q,h1,h2⟩:=ob_some.1 h
 obtain⟨h3,rfl⟩:=dp_eq h1
 obtain⟨h4,rfl⟩:=tk_eq h2
 simp at h4
 exact⟨by omega,rfl⟩
def wr (vs:List α) (o:Nat) (cs:List α):List α:=cs.take o++vs++cs.drop (o+vs.length)
end
theorem gput_eq:∀{vs cs cs':List GV} {o:Nat},gput vs o cs=some cs'->(vs≠[]->o+vs.length<=cs.length)∧cs'.length=cs.length∧∀i,cs'[i]? = if o<=i∧i<o+vs.length then vs[i - o]? else cs[i]?:=by
 intro vs
 induction vs with
 |nil=>
  intro cs cs' o h
  cases h
  refine⟨fun h=>absurd rfl h,rfl,fun i=> ?_⟩
  rw[if_neg (by simp)]
 | cons v vs ih =>
  intro cs cs' o h
  obtain⟨c1,h1,h2⟩:=ob_some.1 (show ob (lset v cs o) (fun cs'=>sn (Nat.succ o) fun o'=>gput vs o' cs')=some cs' from h)
  rw[sn_eq]at h2
  obtain⟨h3,rfl⟩:=lset_eq h1
  obtain⟨h4,h5,h6⟩:=ih h2
  simp only[List.length_set,Nat.succ_eq_add_one]at h4 h5 h6
  refine⟨fun _=> ?_,h5,fun i=> ?_⟩
  ·cases vs with
   |nil=>simp;omega
   |cons y ys=>have:=h4 (by simp);simp at this ⊢;omega
  rw[h6 i]
  by_cases e:i=o
  ·subst e
   rw[if_neg (by omega),if_pos (by simp),List.getElem?_set_self h3];simp
  ·by_cases e2:o+1<=i∧i<o+1+vs.length
   ·rw[if_pos e2,if_pos (by simp;omega)]
    have:i - o=(i - (o+1))+1:=by omega
    rw[this,List.getElem?_cons_succ]
   ·rw[if_neg e2,if_neg (by simp;omega),List.getElem?_set_ne (Ne.symm e)]
theorem Tr.get_setN {α:Type} (x:Option α):∀(f n m:Nat),n<f->(Tr.setN x f n).get m=if m=n then x else none:=by
 intro f
 induction f with
 |zero=>intro n m h;omega
 | succ f ih =>
  intro n m h
  show Tr.get (bif Nat.beq n 0 then .nd x .lf .lf else bif Nat.beq (Nat.mod n 2) 1 then .nd none (Tr.setN x f (Nat.div n 2)) .lf else .nd none .lf (Tr.setN x f (Nat.sub (Nat.div n 2) 1))) m=_
  have hg:∀(a:Option α) (l r:Tr α),Tr.get (.nd a l r) m=if m=0 then a else if m%2=1 then l.get (m / 2)else r.get (m / 2 - 1):=fun a l r=>by
   show Bool.casesOn (motive:=fun _=>Option α) (Nat.beq m 0) (Bool.casesOn (motive:=fun _=>Option α) (Nat.beq (Nat.mod m 2) 1) (r.get (Nat.sub (Nat.div m 2) 1)) (l.get (Nat.div m 2))) a=_
   by_cases h0:m=0
   ·subst h0;rfl
   ·rw[if_neg h0,beq_ne h0]
    by_cases h1:m%2=1
    ·rw[if_pos h1]
     have:Nat.beq (Nat.mod m 2) 1=true:=by rw[show Nat.mod m 2=1 from h1];rfl
     rw[this];rfl
    ·rw[if_neg h1]
     have:Nat.beq (Nat.mod m 2) 1=false:=beq_ne h1
     rw[this];rfl
  have hlf:∀k,(Tr.lf:Tr α).get k=none:=fun _=>rfl
  have hd:Nat.div n 2=n / 2:=rfl
  have hs:Nat.sub (Nat.div n 2) 1=n / 2 - 1:=rfl
  by_cases h0:n=0
  ·subst h0
   show Tr.get (.nd x .lf .lf) m=_
   simp only[hg,hlf]
   by_cases hm:m=0<;>simp[hm]
  ·rw[beq_ne h0]
   by_cases h1:n%2=1
   ·have:Nat.beq (Nat.mod n 2) 1=true:=by rw[show Nat.mod n 2=1 from h1];rfl
    simp only[this,cond_true,cond_false,hg,hlf,hd]
    rw[ih _ _ (by omega)]
    by_cases hm:m=0
    ·rw[if_pos hm,if_neg (by omega)]
    ·rw[if_neg hm]
     by_cases h2:m%2=1
     ·rw[if_pos h2];by_cases h3:m=n
      ·subst h3;simp
      ·rw[if_neg h3,if_neg (by omega)]
     ·rw[if_neg h2,if_neg (by intro e;subst e;exact h2 h1)]
   ·have:Nat.beq (Nat.mod n 2) 1=false:=beq_ne h1
    simp only[this,cond_true,cond_false,hg,hlf,hs]
    rw[ih _ _ (by omega)]
    by_cases hm:m=0
    ·rw[if_pos hm,if_neg (by omega)]
    ·rw[if_neg hm]
     by_cases h2:m%2=1
     ·rw[if_pos h2,if_neg (by intro e;subst e;exact h1 h2)]
     ·rw[if_neg h2];by_cases h3:m=n
      ·subst h3;simp
      ·rw[if_neg h3,if_neg (by omega)]
theorem Tr.get_set {α:Type} (x:Option α):∀(t:Tr α) (n m:Nat),(t.set x n).get m=if m=n then x else t.get m:=by
 intro t
 induction t with
 |lf=>intro n m;exact Tr.get_setN x _ n m (Nat.lt_succ_self n)
 | nd a l r ihl ihr =>
  intro n m
  have hg:∀(a:Option α) (l r:Tr α),Tr.get (.nd a l r) m=if m=0 then a else if m%2=1 then l.get (m / 2)else r.get (m / 2 - 1):=fun a l r=>by
   show Bool.casesOn (motive:=fun _=>Option α) (Nat.beq m 0) (Bool.casesOn (motive:=fun _=>Option α) (Nat.beq (Nat.mod m 2) 1) (r.get (Nat.sub (Nat.div m 2) 1)) (l.get (Nat.div m 2))) a=_
   by_cases h0:m=0
   ·subst h0;rfl
   ·rw[if_neg h0,beq_ne h0]
    by_cases h1:m%2=1
    ·rw[if_pos h1]
     have:Nat.beq (Nat.mod m 2) 1=true:=by rw[show Nat.mod m 2=1 from h1];rfl
     rw[this];rfl
    ·rw[if_neg h1]
     have:Nat.beq (Nat.mod m 2) 1=false:=beq_ne h1
     rw[this];rfl
  show Tr.get (Bool.casesOn (motive:=fun _=>Tr α) (Nat.beq n 0) (Bool.casesOn (motive:=fun _=>Tr α) (Nat.beq (Nat.mod n 2) 1) (.nd a l (r.set x (Nat.sub (Nat.div n 2) 1))) (.nd a (l.set x (Nat.div n 2)) r)) (.nd x l r)) m=_
  have hd:Nat.div n 2=n / 2:=rfl
  have hs:Nat.sub (Nat.div n 2) 1=n / 2 - 1:=rfl
  by_cases h0:n=0
  ·subst h0
   show Tr.get (.nd x l r) m=_
   rw[hg,hg];by_cases hm:m=0<;>simp[hm]
  ·rw[beq_ne h0]
   by_cases h1:n%2=1
   ·have:Nat.beq (Nat.mod n 2) 1=true:=by rw[show Nat.mod n 2=1 from h1];rfl
    rw[this]
    show Tr.get (.nd a (l.set x (Nat.div n 2)) r) m=_
    rw[hg,hg,ihl,hd]
    by_cases hm:m=0
    ·rw[if_pos hm,if_pos hm,if_neg (by omega)]
    ·rw[if_neg hm,if_neg hm]
     by_cases h2:m%2=1
     ·rw[if_pos h2,if_pos h2];by_cases h3:m=n
      ·subst h3;simp
      ·rw[if_neg h3,if_neg (by omega)]
     ·rw[if_neg h2,if_neg h2,if_neg (by intro e;subst e;exact h2 h1)]
   ·have:Nat.beq (Nat.mod n 2) 1=false:=beq_ne h1
    rw[this]
    show Tr.get (.nd a l (r.set x (Nat.sub (Nat.div n 2) 1))) m=_
    rw[hg,hg,ihr,hs]
    by_cases hm:m=0
    ·rw[if_pos hm,if_pos hm,if_neg (by omega)]
    ·rw[if_neg hm,if_neg hm]
     by_cases h2:m%2=1
     ·rw[if_pos h2,if_pos h2,if_neg (by intro e;subst e;exact h1 h2)]
     ·rw[if_neg h2,if_neg h2];by_cases h3:m=n
      ·subst h3;simp
      ·rw[if_neg h3,if_neg (by omega)]
theorem GH.get_set (H:GH) (h:Nat) (o:GO) (k:Nat):(H.set h o).get k=if k=h then some o else H.get k:=by
 unfold GH.get GH.set
 rw[Tr.get_set]
 by_cases e:k=h<;>simp[e,ob]
theorem GH.ver_set (H:GH) (h:Nat) (o:GO) (k:Nat):(H.set h o).ver k=if k=h then some H.n else H.ver k:=by
 unfold GH.ver GH.set
 rw[Tr.get_set]
 by_cases e:k=h<;>simp[e,ob]
theorem GH.get_del (H:GH) (h k:Nat):(H.del h).get k=if k=h then none else H.get k:=by
 unfold GH.get GH.del
 rw[Tr.get_set]
 by_cases e:k=h<;>simp[e,ob]
theorem GH.ver_del (H:GH) (h k:Nat):(H.del h).ver k=if k=h then none else H.ver k:=by
 unfold GH.ver GH.del
 rw[Tr.get_set]
 by_cases e:k=h<;>simp[e,ob]
noncomputable def GH.new (H:GH) (o:GO):GH:=⟨H.n+1,H.t.set (some (H.n,o)) H.n⟩
theorem GH.get_new (H:GH) (o:GO) (k:Nat):(H.new o).get k=if k=H.n then some o else H.get k:=by
 unfold GH.get GH.new
 rw[Tr.get_set]
 by_cases e:k=H.n<;>simp[e,ob]
theorem GH.ver_new (H:GH) (o:GO) (k:Nat):(H.new o).ver k=if k=H.n then some H.n else H.ver k:=by
 unfold GH.ver GH.new
 rw[Tr.get_set]
 by_cases e:k=H.n<;>simp[e,ob]
theorem Tr.setNK_eq {α R:Type} (x:Option α):∀(f n:Nat) (k:Tr α->R),Tr.setNK x f n k=k (Tr.setN x f n):=by
 intro f
 induction f with
 |zero=>intro n k;rfl
 |succ f ih=>
  intro n k
  show Bool.casesOn (motive:=fun _=>R) (Nat.beq n 0) (Bool.casesOn (motive:=fun _=>R) (Nat.beq (Nat.mod n 2) 1) (Tr.setNK x f (Nat.sub (Nat.div n 2) 1) fun t=>k (.nd none .lf t)) (Tr.setNK x f (Nat.div n 2) fun t=>k (.nd none t .lf))) (k (.nd x .lf .lf))=k (bif Nat.beq n 0 then .nd x .lf .lf else bif Nat.beq (Nat.mod n 2) 1 then .nd none (Tr.setN x f (Nat.div n 2)) .lf else .nd none .lf (Tr.setN x f (Nat.sub (Nat.div n 2) 1)))
  rw[ih,ih]
  cases Nat.beq n 0<;>cases Nat.beq (Nat.mod n 2) 1<;>rfl
theorem Tr.setK_eq {α R:Type} (x:Option α):∀(t:Tr α) (n:Nat) (k:Tr α->R),t.setK x n k=k (t.set x n):=by
 intro t
 induction t with
 |lf=>intro n k;exact Tr.setNK_eq x (Nat.succ n) n k
 |nd a l r ihl ihr=>
  intro n k
  show Bool.casesOn (motive:=fun _=>R) (Nat.beq n 0) (Bool.casesOn (motive:=fun _=>R) (Nat.beq (Nat.mod n 2) 1) (r.setK x (Nat.sub (Nat.div n 2) 1) fun t=>k (.nd a l t)) (l.setK x (Nat.div n 2) fun t=>k (.nd a t r))) (k (.nd x l r))=k (Bool.casesOn (motive:=fun _=>Tr α) (Nat.beq n 0) (Bool.casesOn (motive:=fun _=>Tr α) (Nat.beq (Nat.mod n 2) 1) (.nd a l (r.set x (Nat.sub (Nat.div n 2) 1))) (.nd a (l.set x (Nat.div n 2)) r)) (.nd x l r))
  rw[ihl,ihr]
  cases Nat.beq n 0<;>cases Nat.beq (Nat.mod n 2) 1<;>rfl
theorem GH.newK_eq {α:Type} (H:GH) (o:GO) (f:Nat->GH->α):H.newK o f=f H.n (H.new o):=by simp only[GH.newK,sn_eq,Tr.setK_eq];rfl
theorem GH.setK_eq {α:Type} (H:GH) (h:Nat) (o:GO) (f:GH->α):H.setK h o f=f (H.set h o):=by simp only[GH.setK,sn_eq,Tr.setK_eq];rfl
theorem GH.delK_eq {α:Type} (H:GH) (h:Nat) (f:GH->α):H.delK h f=f (H.del h):=by simp only[GH.delK,Tr.setK_eq];rfl
theorem lap_eq {R:Type} (a b:List GV):∀k:List GV->R,lap a b k=k (a++b):=by
 induction a with
 |nil=>intro k;rfl
 |cons x a ih=>intro k;exact ih _
theorem fc_eq {R:Type} (a:List GV):∀k:List GV->R,fc a k=k a:=by
 induction a with
 |nil=>intro k;rfl
 |cons x a ih=>intro k;exact ih _
theorem delSK_eq (H:GH) (v:GV) (f:GH->OR):delSK H v f=f (delS H v):=by
 unfold delSK delS
 cases v.asS with
 |none=>rfl
 |some s=>exact GH.delK_eq H s.1 f
theorem GH.cells_eq {H:GH} {h:Nat} {cs:List GV}:H.cells h=some cs↔H.get h=some (.cells cs):=by
 unfold GH.cells
 rw[ob_some]
 constructor
 ·rintro⟨o,h1,h2⟩;cases o with
  |cells c=>cases h2;exact h1
  |mp e=>cases h2
 ·intro h;exact⟨_,h,rfl⟩
theorem GO.asM_eq {o:GO} {es:List (GV×GV)} (h:o.asM=some es):o = .mp es:=by
 cases o with
 |cells c=>cases h
 |mp e=>cases h;rfl
theorem glk_cons (k:Nat) (v:GV) (σ:GF) (t:Nat):glk ((k,v)::σ) t=if t=k then some v else glk σ t:=by
 show Bool.casesOn (motive:=fun _=>Option GV) (Nat.beq t k) (glk σ t) (some v)=_
 by_cases e:t=k
 ·subst e;simp
 ·rw[beq_ne e,if_neg e]
section
variable {v:GV}
theorem asI_eq {p:IntKind×Int} (h:v.asI=some p):v = .int p.1 p.2:=by cases v<;>cases h;rfl
theorem asB_eq {p:Bool} (h:v.asB=some p):v = .bool p:=by cases v<;>cases h;rfl
theorem asP_eq {p:Nat×Nat} (h:v.asP=some p):v = .ptr p.1 p.2:=by cases v<;>cases h;rfl
theorem asS_eq {p:Nat×Nat×Nat×Nat} (h:v.asS=some p):v = .sl p.1 p.2.1 p.2.2.1 p.2.2.2:=by cases v<;>cases h;rfl
theorem asF_eq {p:Nat×List GV×List GV} (h:v.asF=some p):v = .fn p.1 p.2.1 p.2.2:=by cases v<;>cases h;rfl
theorem asT_eq {p:List GV} (h:v.asT=some p):v = .tup p:=by cases v<;>cases h;rfl
theorem asA_eq {p:List GV} (h:v.asA=some p):v = .agg p:=by cases v<;>cases h;rfl
theorem asStr_eq {p:Nat×Nat} (h:v.asStr=some p):v = .str p.1 p.2:=by cases v<;>cases h;rfl
theorem asM_eq {p:Nat} (h:v.asM=some p):v = .map p:=by cases v<;>cases h;rfl
theorem isSnil_eq (h:v.isSnil=true):v = .snil:=by cases v<;>first|rfl|cases h
end
section
variable {d:TypeDesc}
theorem tdS_eq {e:TypeId} (h:tdS d=some e):d = .slice e:=by cases d<;>cases h;rfl
theorem tdA_eq {e:Nat×TypeId} (h:tdA d=some e):d = .array e.1 e.2:=by cases d<;>cases h;rfl
theorem tdF_eq {e:Array Field} (h:tdF d=some e):d = .struct e:=by cases d<;>cases h;rfl
theorem tdI_eq {e:IntKind} (h:tdI d=some e):d = .int e:=by cases d<;>cases h;rfl
theorem tdM_eq {e:TypeId×TypeId} (h:tdM d=some e):d = .map e.1 e.2:=by cases d<;>cases h;rfl
theorem tdStr_eq (h:tdStr d=true):d = .string:=by cases d<;>first|rfl|cases h
theorem tdB_eq (h:tdB d=true):d = .bool:=by cases d<;>first|rfl|cases h
end
theorem asN_eq {a:Int} {n:Nat} (h:asN a=some n):a=n:=by cases a<;>cases h;rfl
theorem bdec {b:Bool} {p:Prop} [Decidable p] (h:b=true↔p):b=decide p:=by
 cases b
 ·exact(decide_eq_false fun hp=>by cases h.2 hp).symm
 ·exact(decide_eq_true (h.1 rfl)).symm
theorem ltI_eq (a b:Int):ltI a b=decide (a<b):=by
  refine bdec ?_
  cases a with
  | ofNat a => cases b with
    |ofNat b=>show Nat.blt a b=true↔_;rw[Nat.blt_eq];simp
    | negSucc b => constructor
                   · intro h;cases h
                   · intro h;simp at h;omega
  | negSucc a => cases b with
    | ofNat b => constructor
                 · intro _;have:=Int.negSucc_lt_zero a;simp;omega
                 · intro _;rfl
    |negSucc b=>show Nat.blt b a=true↔_;rw[Nat.blt_eq];omega
theorem eqI_eq (a b:Int):eqI a b=decide (a=b):=by
  refine bdec ?_
  cases a with
  | ofNat a => cases b with
    |ofNat b=>show Nat.beq a b=true↔_;simp;omega
    | negSucc b => constructor
                   · intro h;cases h
                   · intro h;cases h
  | negSucc a => cases b with
    | ofNat b => constructor
                 · intro h;cases h
                 · intro h;cases h
    |negSucc b=>show Nat.beq a b=true↔_;simp
theorem eqB_eq (a b:Bool):eqB a b=(a==b):=by cases a<;>cases b<;>rfl
theorem eqK_eq {a b:IntKind} (h:eqK a b=true):a=b:=of_decide_eq_true h
theorem fb_eq (b:Bool):fb b=some (.bool b):=by cases b<;>rfl
end Go.Gx
end
section
namespace Go.Gx
open Go Go.Sx Go.RowKit
structure Loc where
 b:Nat
 off:Nat
 size:Nat
 x:Obj
 /-- what the evaluator wrote -/
 o:GO
abbrev Rho:=Nat->Option Loc
def Rho.le (ρ ρ':Rho):Prop:=∀h l,ρ h=some l->ρ' h=some l
theorem Rho.le_refl (ρ:Rho):ρ.le ρ:=fun _ _ h=>h
theorem Rho.le_trans {a b c:Rho} (h:a.le b) (k:b.le c):a.le c:=fun _ _ x=>k _ _ (h _ _ x)
inductive Rl (ρ:Rho):GV->Value->Prop
 |int (k n):Rl ρ (.int k n) (.int k n)
 |bool (b):Rl ρ (.bool b) (.bool b)
 |str (s:ByteArray):Rl ρ (.str (encB (bytesOfV s)) (bytesOfV s).length) (.string s)
 |ptr {h l} (off) (hl:ρ h=some l):Rl ρ (.ptr h off) (.pointer (some ⟨l.b,l.off+off,none⟩))
 |pnil:Rl ρ .pnil (.pointer none)
 |sl {h l off len sz cap} {A:Addr} (hl:ρ h=some l) (hc:len<=cap) (ha:cap=0∨(A=⟨l.b,l.off+off,none⟩∧l.off+off+cap*sz<=l.size)):Rl ρ (.sl h off len sz) (.slice (some A) len cap)
 |snil:Rl ρ .snil (.slice none 0 0)
 |map {h l} (hl:ρ h=some l):Rl ρ (.map h) (.map (some l.b))
 | fn {us vs : List GV} {us' vs' : List Value} (f) (h1 : us.length = us'.length) (h2 : ∀ (i : Nat) g v, us[i]? = some g → us'[i]? = some v → Rl ρ g v) (h3 : vs.length = vs'.length) (h4 : ∀ (i : Nat) g v, vs[i]? = some g → vs'[i]? = some v → Rl ρ g v) :
   Rl ρ (.fn f us vs) (.func (.func f) us'.toArray vs'.toArray)
 |fnil:Rl ρ .fnil .nilFunc
 |inil:Rl ρ .inil .nilIface
 |agg {cs:List GV} {vs:List Value} (h1:cs.length=vs.length) (h2:∀(i:Nat) g v,cs[i]? = some g->vs[i]? = some v->Rl ρ g v) (h3:∀v∈vs,one v=true):Rl ρ (.agg cs) (.agg vs.toArray)
 |tup {cs:List GV} {vs:List Value} (h1:cs.length=vs.length) (h2:∀(i:Nat) g v,cs[i]? = some g->vs[i]? = some v->Rl ρ g v):Rl ρ (.tup cs) (.tuple vs.toArray)
 |un:Rl ρ .un undef
 |bad (v):Rl ρ .bad v
theorem Rl.le {ρ ρ':Rho} (hl:ρ.le ρ') {g:GV} {v:Value} (h:Rl ρ g v):Rl ρ' g v:=by
 induction h with
 |int k n=>exact .int k n
 |bool b=>exact .bool b
 |str s=>exact .str s
 |ptr off h=>exact .ptr off (hl _ _ h)
 |pnil=>exact .pnil
 |sl h hc ha=>exact .sl (hl _ _ h) hc ha
 |snil=>exact .snil
 |map h=>exact .map (hl _ _ h)
 |fn f h1 h2 h3 h4 ih2 ih4=>exact .fn f h1 ih2 h3 ih4
 |fnil=>exact .fnil
 |inil=>exact .inil
 |agg h1 h2 h3 ih=>exact .agg h1 ih h3
 |tup h1 h2 ih=>exact .tup h1 ih
 |un=>exact .un
 |bad v=>exact .bad v
structure RlL (ρ:Rho) (gs:List GV) (vs:List Value):Prop where
 len:gs.length=vs.length
 at':∀(i:Nat) g v,gs[i]? = some g->vs[i]? = some v->Rl ρ g v
theorem RlL.nil {ρ:Rho}:RlL ρ [] []:=⟨rfl,fun i g v h=>by simp at h⟩
theorem RlL.cons {ρ:Rho} {g:GV} {v:Value} {gs:List GV} {vs:List Value} (h:Rl ρ g v) (r:RlL ρ gs vs):RlL ρ (g::gs) (v::vs):=⟨by simp[r.len],fun i a b ha hb=>by
 cases i with
 |zero=>simp at ha hb;subst ha hb;exact h
 |succ i=>simp at ha hb;exact r.at' i a b ha hb⟩
theorem RlL.of_cons {ρ:Rho} {g:GV} {gs:List GV} {vs:List Value} (h:RlL ρ (g::gs) vs):∃v vs',vs=v::vs'∧Rl ρ g v∧RlL ρ gs vs':=by
 cases vs with
 |nil=>have:=h.len;simp at this
 |cons v vs=>exact⟨v,vs,rfl,h.at' 0 _ _ rfl rfl,by have:=h.len;simpa using this,fun i a b ha hb=>h.at' (i+1) a b (by simpa using ha) (by simpa using hb)⟩
theorem RlL.of_nil {ρ:Rho} {vs:List Value} (h:RlL ρ [] vs):vs=[]:=List.eq_nil_of_length_eq_zero h.len.symm
theorem RlL.le {ρ ρ':Rho} (hl:ρ.le ρ') {gs:List GV} {vs:List Value} (h:RlL ρ gs vs):RlL ρ' gs vs:=⟨h.len,fun i g v h1 h2=>(h.at' i g v h1 h2).le hl⟩
theorem RlL.append {ρ:Rho} {gs gs':List GV} {vs vs':List Value} (h:RlL ρ gs vs) (k:RlL ρ gs' vs'):RlL ρ (gs++gs') (vs++vs'):=by
 induction gs generalizing vs with
 |nil=>rw[h.of_nil];exact k
 |cons g gs ih=>obtain⟨v,vs,rfl,h1,h2⟩:=h.of_cons;exact .cons h1 (ih h2)
theorem RlL.get {ρ:Rho} {gs:List GV} {vs:List Value} (h:RlL ρ gs vs) {i:Nat} {g:GV} (hg:gs[i]? = some g):∃v,vs[i]? = some v∧Rl ρ g v:=by
 have hi:=getElem?_lt hg
 have:i<vs.length:=h.len▸hi
 exact⟨vs[i],List.getElem?_eq_getElem this,h.at' i g _ hg (List.getElem?_eq_getElem this)⟩
theorem RlL.sub {ρ:Rho} {gs:List GV} {vs:List Value} (h:RlL ρ gs vs) (o n:Nat):RlL ρ ((gs.drop o).take n) ((vs.drop o).take n):=
 ⟨by simp[h.len],fun i g v h1 h2=>by
  rw[List.getElem?_take]at h1 h2
  split at h1
  ·rename_i hi
   rw[if_pos hi]at h2
   rw[List.getElem?_drop]at h1 h2
   exact h.at' _ g v h1 h2
  ·cases h1⟩

section
variable {ρ:Rho} {V:Value}
theorem Rl.int_inv {k:IntKind} {n:Int} (h:Rl ρ (.int k n) V):V = .int k n:=by cases h;rfl
theorem Rl.bool_inv {b:Bool} (h:Rl ρ (.bool b) V):V = .bool b:=by cases h;rfl
theorem Rl.str_inv {n l:Nat} (h:Rl ρ (.str n l) V):∃s,V = .string s∧n=encB (bytesOfV s)∧l=(bytesOfV s).length:=by cases h;exact⟨_,rfl,rfl,rfl⟩
theorem Rl.ptr_inv {h o:Nat} (x:Rl ρ (.ptr h o) V):∃l,ρ h=some l∧V = .pointer (some ⟨l.b,l.off+o,none⟩):=by cases x with|ptr o hl=>exact⟨_,hl,rfl⟩
theorem Rl.sl_inv {h o n sz:Nat} (x:Rl ρ (.sl h o n sz) V):∃l cap A,ρ h=some l∧V = .slice (some A) n cap∧n<=cap∧(cap=0∨(A=⟨l.b,l.off+o,none⟩∧l.off+o+cap*sz<=l.size)):=by
 cases x with|sl hl hc ha=>exact⟨_,_,_,hl,rfl,hc,ha⟩
theorem Rl.snil_inv (h:Rl ρ .snil V):V = .slice none 0 0:=by cases h;rfl
theorem Rl.map_inv {h:Nat} (x:Rl ρ (.map h) V):∃l,ρ h=some l∧V = .map (some l.b):=by cases x with|map hl=>exact⟨_,hl,rfl⟩
theorem Rl.fn_inv {f:Nat} {us vs:List GV} (x:Rl ρ (.fn f us vs) V):∃us' vs',V = .func (.func f) us'.toArray vs'.toArray∧RlL ρ us us'∧RlL ρ vs vs':=by
 cases x with|fn f h1 h2 h3 h4=>exact⟨_,_,rfl,⟨h1,h2⟩,⟨h3,h4⟩⟩
theorem Rl.agg_inv {cs:List GV} (x:Rl ρ (.agg cs) V):∃vs,V = .agg vs.toArray∧RlL ρ cs vs∧∀v∈vs,one v=true:=by
 cases x with|agg h1 h2 h3=>exact⟨_,rfl,⟨h1,h2⟩,h3⟩
theorem Rl.tup_inv {cs:List GV} (x:Rl ρ (.tup cs) V):∃vs,V = .tuple vs.toArray∧RlL ρ cs vs:=by
 cases x with|tup h1 h2=>exact⟨_,rfl,⟨h1,h2⟩⟩
theorem Rl.un_inv (x:Rl ρ .un V):V=undef:=by cases x;rfl
theorem Rl.fn' {f:Nat} {us vs:List GV} {us' vs':List Value} (h1:RlL ρ us us') (h2:RlL ρ vs vs'):Rl ρ (.fn f us vs) (.func (.func f) us'.toArray vs'.toArray):= .fn f h1.len h1.at' h2.len h2.at'
theorem Rl.agg' {cs:List GV} {vs:List Value} (h:RlL ρ cs vs) (h3:∀v∈vs,one v=true):Rl ρ (.agg cs) (.agg vs.toArray):= .agg h.len h.at' h3
theorem Rl.tup' {cs:List GV} {vs:List Value} (h:RlL ρ cs vs):Rl ρ (.tup cs) (.tuple vs.toArray):= .tup h.len h.at'
theorem Rl.cells {g:GV} {cs:List GV} (h:Rl ρ g V) (hc:g.cells=some cs):∃vs,V.cells=vs.toArray∧RlL ρ cs vs∧∀v∈vs,one v=true:=by
 have hone:∀g V,Rl ρ g V->one V=true->∃vs,#[V]=vs.toArray∧RlL ρ [g] vs∧∀v∈vs,one v=true:=fun g V h h1=>⟨[V],rfl,.cons h .nil,fun v hv=>by simp at hv;subst hv;exact h1⟩
 have h0:=h
 cases h with
 |agg h1 h2 h3=>cases hc;exact⟨_,rfl,⟨h1,h2⟩,h3⟩
 |tup h1 h2=>cases hc
 |un=>cases hc
 |bad v=>cases hc
 |_=>cases hc;exact hone _ _ h0 rfl
end

theorem ofV1_ok {ρ:Rho} {v:Value} {g:GV} (h:ofV1 v=some g):Rl ρ g v∧one v=true:=by
 unfold ofV1 at h
 split at h
 ·cases h;exact⟨.int _ _,rfl⟩
 ·cases h;exact⟨.bool _,rfl⟩
 ·cases h;exact⟨.snil,rfl⟩
 ·cases h;exact⟨.pnil,rfl⟩
 ·cases h;exact⟨.fnil,rfl⟩
 ·cases h;exact⟨.inil,rfl⟩
 ·simp only[sn_eq]at h;cases h;exact⟨.str _,rfl⟩
 ·cases h
theorem ofVs_ok {ρ:Rho}:∀{vs:List Value} {gs:List GV},ofVs vs=some gs->RlL ρ gs vs∧∀v∈vs,one v=true
 | [],gs,h=>by cases h;exact⟨.nil,fun v h=>by simp at h⟩
 | v :: vs, gs, h => by
  obtain⟨x,h1,h2⟩:=ob_some.1 (show ob (ofV1 v) (fun x=>ob (ofVs vs) fun xs=>some (x::xs))=some gs from h)
  obtain⟨xs,h3,h4⟩:=ob_some.1 h2
  cases h4
  obtain⟨a,b⟩:=ofVs_ok h3
  obtain⟨c,d⟩:=ofV1_ok (ρ:=ρ) h1
  exact⟨.cons c a,fun u hu=>by
   rcases List.mem_cons.1 hu with rfl|hu
   ·exact d
   ·exact b u hu⟩
theorem ofV_ok {ρ:Rho} {v:Value} {g:GV} (h:ofV v=some g):Rl ρ g v:=by
 unfold ofV at h
 split at h
 ·obtain⟨xs,h1,h2⟩:=ob_some.1 h
  cases h2
  obtain⟨a,b⟩:=ofVs_ok (ρ:=ρ) h1
  have:=Rl.agg' a b
  simpa using this
 ·exact(ofV1_ok h).1
theorem semV_ok {ρ:Rho} {s:Sem Value} {g:GV} (h:semV s=some g):∃v,Rl ρ g v∧s = .pure v:=by
 unfold semV at h
 split at h
 ·exact⟨_,(ofV1_ok h).1,rfl⟩
 ·cases h

structure FrOk (ρ:Rho) (n:Nat) (σ:GF) (a:Act):Prop where
 defers:a.defers=[]
 size:a.tmps.size=n
 slot:∀t g,glk σ t=some g->Rl ρ g (a.eval (.tmp t))
theorem FrOk.le {ρ ρ':Rho} (hl:ρ.le ρ') {n:Nat} {σ:GF} {a:Act} (h:FrOk ρ n σ a):FrOk ρ' n σ a:=⟨h.defers,h.size,fun t g hg=>(h.slot t g hg).le hl⟩
theorem FrOk.put {ρ:Rho} {n:Nat} {σ:GF} {a:Act} (h:FrOk ρ n σ a) {d:Nat} (hd:d<n) {g:GV} {v:Value} (hv:Rl ρ g v):FrOk ρ n ((d,g)::σ) (a.put (some d) v):=
 ⟨h.defers,by simp[Act.put,h.size],fun t u ht=>by
  rw[glk_cons]at ht
  by_cases e:t=d
  ·subst e;rw[if_pos rfl]at ht;cases ht
   have:(a.put (some t) v).eval (.tmp t)=v:=by simp[Act.put,Act.eval,h.size,hd]
   rw[this];exact hv
  ·rw[if_neg e]at ht
   have:(a.put (some d) v).eval (.tmp t)=a.eval (.tmp t):=by
    simp only[Act.put,Act.eval,Array.getD_eq_getD_getElem?]
    rw[Array.getElem?_setIfInBounds_ne (Ne.symm e)]
   rw[this];exact h.slot t u ht⟩
section
variable {ρ:Rho} {n:Nat} {σ:GF} {a:Act}
theorem gev_ok (F:FrOk ρ n σ a) {x:Operand} {g:GV} (h:gev σ x=some g):Rl ρ g (a.eval x):=by
 cases x with
 |tmp t=>exact F.slot t g h
 |const v=>exact ofV_ok h
 |global g=>cases h
 |func f=>cases h;exact Rl.fn' .nil .nil
theorem gevs_ok (F:FrOk ρ n σ a):∀{xs:List Operand} {gs:List GV},gevs σ xs=some gs->RlL ρ gs (xs.map a.eval)
 | [],gs,h=>by cases h;exact .nil
 |x::xs,gs,h=>by
  obtain⟨v,h1,h2⟩:=ob_some.1 (show ob (gev σ x) (fun v=>ob (gevs σ xs) fun vs=>some (v::vs))=some gs from h)
  obtain⟨vs,h3,h4⟩:=ob_some.1 h2
  cases h4
  exact .cons (gev_ok F h1) (gevs_ok F h3)
def RlP (ρ:Rho) (gs:List (Nat×GV)) (vs:List (Nat×Value)):Prop:=gs.map (·.1)=vs.map (·.1)∧RlL ρ (gs.map (·.2)) (vs.map (·.2))
theorem gparts_ok (F:FrOk ρ n σ a):∀{xs:List (Nat×Operand)} {gs:List (Nat×GV)},gparts σ xs=some gs->RlP ρ gs (xs.map fun p=>(p.1,a.eval p.2))
 | [],gs,h=>by cases h;exact⟨rfl,.nil⟩
 |x::xs,gs,h=>by
  obtain⟨v,h1,h2⟩:=ob_some.1 (show ob (gev σ x.2) (fun v=>ob (gparts σ xs) fun vs=>some ((x.1,v)::vs))=some gs from h)
  obtain⟨vs,h3,h4⟩:=ob_some.1 h2
  cases h4
  obtain⟨e1,e2⟩:=gparts_ok F h3
  exact⟨by simp only[List.map_cons,e1],.cons (gev_ok F h1) e2⟩
end

def Comp (P:Program) (ρ:Rho) (s:Sem Value) (g:GV):Prop:=∃v,Rl ρ g v∧∀w,s.run P w = .ok v w
structure TabOk (P:Program) (tb:TB):Prop where
 tab:∀{T d},tb T=some d->TyOk P T d
section
variable {P:Program} {tb:TB} {ρ:Rho} {V U W:Value} {v u t g:GV}
theorem wrapIn {k:IntKind} {z:Int} {g:GV} (h:gw k z=some g):g = .int k (k.wrap z):=by
  unfold gw at h
  rw[fi_eq]at h
  cases hk:isI64 k with
  | true =>
    rw[hk]at h
    obtain⟨h1,h2⟩:=bif_some.1 h
    cases h2
    have e:k = .i64:=by cases k<;>first|rfl|cases hk
    subst e
    have : -9223372036854775808<=z∧z<=9223372036854775807:=by
      cases z with
      | ofNat a => have : a < 9223372036854775808 := by simpa [i64in, Nat.blt_eq] using h1
                   simp only[Int.ofNat_eq_natCast];omega
      | negSucc a => have : a < 9223372036854775808 := by simpa [i64in, Nat.blt_eq] using h1
                     omega
    rw[wrap64_in this.1 this.2]
  | false =>
    rw[hk]at h
    simp only[cond_false,fi_eq]at h
    cases h;rfl
theorem binI_ok {op:BinOp} {k:IntKind} {a b:Int} {T:TypeId} (hs:isShift op=false) (h:binI op k a b=some g):∃v,Rl ρ g v∧binOp op T (.int k a) (.int k b) = .pure v:=by
 have hb:∀{p:Prop} [Decidable p] {c:Bool},c=decide p->fb c=some g->Rl ρ g (.bool (decide p)):=fun e h=>by rw[fb_eq]at h;cases h;rw[e];exact .bool _
 have hsem:∀op',isShift op'=false->semV (binOp op' 0 (.int k a) (.int k b))=some g->∃v,Rl ρ g v∧binOp op' T (.int k a) (.int k b) = .pure v:=fun op' hs' h=>by
  obtain⟨v,h1,h2⟩:=semV_ok (ρ:=ρ) h
  refine⟨v,h1,?_⟩
  rw[<-h2];cases op'<;>first|rfl|cases hs'
 cases op with
 |add=>exact⟨_,by rw[wrapIn h];exact .int _ _,by simp[binOp,Op.intArith];rfl⟩
 |sub=>exact⟨_,by rw[wrapIn h];exact .int _ _,by simp[binOp,Op.intArith];rfl⟩
 |eql=>exact⟨.bool (decide (a=b)),hb (eqI_eq a b) h,by simp[binOp,Op.intCmp];rfl⟩
 |neq=>exact⟨.bool (decide (¬a=b)),hb (by rw[eqI_eq];simp) h,by simp[binOp,Op.intCmp];rfl⟩
 |lss=>exact⟨.bool (decide (a<b)),hb (ltI_eq a b) h,by simp[binOp,Op.intCmp];rfl⟩
 |leq=>exact⟨.bool (decide (a<=b)),hb (by rw[ltI_eq,<-decide_not];exact decide_eq_decide.2 (by omega)) h,by simp[binOp,Op.intCmp];rfl⟩
 |gtr=>exact⟨.bool (decide (b<a)),hb (ltI_eq b a) h,by simp[binOp,Op.intCmp];rfl⟩
 |geq=>exact⟨.bool (decide (b<=a)),hb (by rw[ltI_eq,<-decide_not];exact decide_eq_decide.2 (by omega)) h,by simp[binOp,Op.intCmp];rfl⟩
 |shl=>cases hs
 |shr=>cases hs
 |mul=>exact hsem .mul hs h
 |quo=>exact hsem .quo hs h
 |rem=>exact hsem .rem hs h
 |and=>exact hsem .and hs h
 |or=>exact hsem .or hs h
 |xor=>exact hsem .xor hs h
 |andNot=>exact hsem .andNot hs h
end
end Go.Gx
end
section
namespace Go.Gx
open Go Go.Sx Go.RowKit

theorem encB_cons (b:UInt8) (l:List UInt8):encB (b::l)=b.toNat+256*encB l:=rfl
theorem encB_inj:∀{x y:List UInt8},x.length=y.length->encB x=encB y->x=y
 | [],[],_,_=>rfl
 | [],_::_,h,_=>by simp at h
 |_::_,[],h,_=>by simp at h
 |a::x,b::y,h,e=>by
  rw[encB_cons,encB_cons]at e
  have ha:=a.toNat_lt
  have hb:=b.toNat_lt
  have e1:a.toNat=b.toNat:=by omega
  have e2:encB x=encB y:=by omega
  rw[UInt8.toNat_inj.1 e1,encB_inj (by simpa using h) e2]
theorem encB_drop:∀(x:List UInt8) (n:Nat),encB x / 256^n=encB (x.drop n)
 |x,0=>by simp
 | [],n+1=>by simp[encB]
 |b::x,n+1=>by
  rw[encB_cons,List.drop_succ_cons,<-encB_drop x n,Nat.pow_succ,Nat.mul_comm (256^n) 256,<-Nat.div_div_eq_div_mul]
  have:=b.toNat_lt
  congr 1
  omega
theorem encB_take:∀(x:List UInt8) (n:Nat),encB x%256^n=encB (x.take n)
 |x,0=>by simp[encB,Nat.mod_one]
 | [],n+1=>by simp[encB]
 |b::x,n+1=>by
  rw[encB_cons,List.take_succ_cons,encB_cons,<-encB_take x n,Nat.pow_succ,Nat.mul_comm (256^n) 256,Nat.mod_mul]
  have hb:=b.toNat_lt
  have e1:(b.toNat+256*encB x)%256=b.toNat:=by omega
  have e2:(b.toNat+256*encB x) / 256=encB x:=by omega
  rw[e1,e2]
theorem shr8 (n l:Nat):Nat.shiftRight n (Nat.mul 8 l)=n / 256^l:=by
 show n >>> (8*l)=_
 rw[Nat.shiftRight_eq_div_pow,Nat.pow_mul]
theorem pow8 (k:Nat):Nat.pow 2 (Nat.mul 8 k)=256^k:=by
 show 2^(8*k)=_
 rw[Nat.pow_mul]
theorem encB_sub (x:List UInt8) (l k:Nat):Nat.mod (Nat.shiftRight (encB x) (Nat.mul 8 l)) (Nat.pow 2 (Nat.mul 8 k))=encB ((x.drop l).take k):=by
 rw[shr8,pow8]
 show encB x / 256^l%256^k=_
 rw[encB_drop,encB_take]
theorem encB_at (x:List UInt8) (i:Nat) (h:i<x.length):Nat.mod (Nat.shiftRight (encB x) (Nat.mul 8 i)) 256=(x[i]).toNat:=by
 rw[shr8]
 show encB x / 256^i%256=_
 rw[encB_drop,List.drop_eq_getElem_cons h,encB_cons]
 have:=(x[i]).toNat_lt
 omega
theorem bytes_get (s:ByteArray) (i:Nat):s[i]? = (bytesOfV s)[i]?:=by
 unfold bytesOfV
 by_cases h:i<s.size
 ·rw[getElem?_pos s i h,Array.getElem?_toList,Array.getElem?_eq_getElem (by simpa using h)];rfl
 ·rw[getElem?_neg s i h]
  rw[List.getElem?_eq_none (by have:=Lib.size_eq s;omega)]
section
variable {P:Program} {tb:TB} {ρ:Rho} {V U W:Value} {v u t g:GV}
theorem vBin_ok (hG:TabOk P tb) {op:BinOp} {T:TypeId} (x y:Operand) (hv:Rl ρ v V) (hu:Rl ρ u U) (h:vBin tb op T v u=some g):Comp P ρ (do eqGuard op T x y V U;binOp op T V U) g:=by
 unfold vBin at h
 cases hi:v.asI with
 | some a =>
  rw[hi]at h
  obtain⟨b,hb,h⟩:=ob_some.1 h
  rw[asI_eq hi]at hv
  rw[asI_eq hb]at hu
  rw[hv.int_inv,hu.int_inv]
  have hg:∀w,(eqGuard op T x y (.int a.1 a.2) (.int b.1 b.2)).run P w = .ok () w:=fun w=>guard_int w
  cases hs:isShift op with
  |true=>
   rw[hs]at h
   obtain⟨z,h1,h2⟩:=semV_ok (ρ:=ρ) h
   have e:binOp op T (.int a.1 a.2) (.int b.1 b.2)=binOp op 0 (.int a.1 a.2) (.int b.1 b.2):=by cases op<;>first|rfl|cases hs
   exact⟨z,h1,fun w=>by rw[e,h2];simp[hg w]⟩
  |false=>
   rw[hs]at h
   simp only[cond_false]at h
   obtain⟨hk,h⟩:=bif_some.1 h
   have hk:=eqK_eq hk
   obtain⟨z,h1,h2⟩:=binI_ok (ρ:=ρ) (T:=T) hs h
   exact⟨z,h1,fun w=>by rw[<-hk,h2];have:=hg w;rw[<-hk]at this;simp[this]⟩
 | none =>
  rw[hi]at h
  simp only at h
  cases hstr:v.asStr with
  | some a =>
   rw[hstr]at h
   obtain⟨b,hb,h⟩:=ob_some.1 h
   rw[asStr_eq hstr]at hv
   rw[asStr_eq hb]at hu
   obtain⟨s,rfl,e1,e2⟩:=hv.str_inv
   obtain⟨r,rfl,e3,e4⟩:=hu.str_inv
   have heq:eqS a b=(s.toList==r.toList):=by
    rw[Lib.toList_data,Lib.toList_data]
    unfold eqS
    rw[e1,e2,e3,e4]
    by_cases hl:(bytesOfV s).length=(bytesOfV r).length
    ·have hb:Nat.beq (bytesOfV r).length (bytesOfV r).length=true:=by simp
     rw[hl,hb,cond_true]
     by_cases he:encB (bytesOfV s)=encB (bytesOfV r)
     ·have:=encB_inj hl he
      unfold bytesOfV at this
      rw[he,this];simp
     ·rw[beq_ne he]
      symm
      rw[beq_eq_false_iff_ne]
      intro hh;exact he (by unfold bytesOfV;rw[hh])
    ·rw[beq_ne hl,cond_false]
     symm
     rw[beq_eq_false_iff_ne]
     intro hh;exact hl (by unfold bytesOfV;rw[hh])
   have hgd:∀w,(eqGuard op T x y (.string s) (.string r)).run P w = .ok () w:=fun w=>by unfold eqGuard;cases op<;>simp
   have key:∀c:Bool,fb c=some g->Rl ρ g (.bool c):=fun c hc=>by rw[fb_eq]at hc;cases hc;exact .bool _
   cases op with
   |eql=>exact⟨_,key _ h,fun w=>by rw[heq];have:=hgd w;simp[this,binOp,Op.stringOp]⟩
   |neq=>exact⟨_,key _ h,fun w=>by rw[heq];have:=hgd w;simp[this,binOp,Op.stringOp]⟩
   |_=>cases h
  | none =>
   rw[hstr]at h
   simp only at h
   cases ha:v.asB with
   | none =>
    rw[ha]at h
    simp only at h
    obtain⟨h1,h'⟩:=bif_some.1 h
    clear h
    obtain⟨h2,h⟩:=bif_some.1 h'
    clear h'
    obtain⟨t,ht,h'⟩:=ob_some.1 h
    clear h
    obtain⟨hd,hfin⟩:=bif_some.1 h'
    clear h'
    have e1:v = .inil:=by cases v<;>first|rfl|cases h1
    have e2:u = .inil:=by cases u<;>first|rfl|cases h2
    subst e1;subst e2
    cases hv;cases hu
    obtain⟨ms,hms,h0⟩:∃ms,t.desc = .interface ms∧ms.size=0:=by
     cases hq:t.desc<;>rw[hq]at hd<;>first|(exact⟨_,rfl,Nat.eq_of_beq_eq_true hd⟩)|cases hd
    have hun:∀w:World,_:=fun w=>(hG.tab ht).run_und w
    have h0':ms.isEmpty=true:=by simp[Array.isEmpty,h0]
    have hgi:∀w,(Op.eqGuardIn Op.maxDepth T .nilIface .nilIface).run P w = .ok false w:=fun w=>by
     have key:∀m:Nat,(Op.eqGuardIn (m+1) T .nilIface .nilIface).run P w = .ok false w:=by
      intro m
      unfold Op.eqGuardIn
      simp[hun w,hms,h0']
     exact key 9999
    have hei:∀w,(Op.equal T .nilIface .nilIface).run P w = .ok true w:=fun w=>by
     have key:∀m:Nat,(Op.equalIn (m+1) T .nilIface .nilIface).run P w = .ok true w:=by
      intro m
      unfold Op.equalIn
      simp[hun w,hms]
     exact key 9999
    have hgd:∀w,(eqGuard op T x y .nilIface .nilIface).run P w = .ok () w:=fun w=>by
     unfold eqGuard
     cases op<;>simp[hgi w]
     all_goals (split<;>simp)
    cases op with
    |eql=>cases hfin;exact⟨.bool true,.bool _,fun w=>by have h1:=hgd w;have h2:=hei w;simp[h1,binOp,h2]⟩
    |neq=>cases hfin;exact⟨.bool false,.bool _,fun w=>by have h1:=hgd w;have h2:=hei w;simp[h1,binOp,h2]⟩
    |_=>cases hfin
   | some a =>
    rw[ha]at h
    simp only at h
    obtain⟨b,hb,h⟩:=ob_some.1 h
    obtain⟨t,ht,h⟩:=ob_some.1 h
    obtain⟨hd,h⟩:=bif_some.1 h
    rw[asB_eq ha]at hv
    rw[asB_eq hb]at hu
    rw[hv.bool_inv,hu.bool_inv]
    have hgd:∀w,(eqGuard op T x y (.bool a) (.bool b)).run P w = .ok () w:=fun w=>by unfold eqGuard;cases op<;>simp
    have heq:∀w,(Op.equal T (.bool a) (.bool b)).run P w = .ok (a==b) w:=fun w=>by
     have hu:=(hG.tab ht).run_und w
     rw[tdB_eq hd]at hu
     have key:∀m:Nat,(Op.equalIn (m+1) T (.bool a) (.bool b)).run P w = .ok (a==b) w:=by
      intro m
      unfold Op.equalIn
      simp[hu]
     exact key 9999
    cases op with
    |eql=>exact⟨.bool (a==b),by have h':fb (eqB a b)=some g:=h;rw[fb_eq,eqB_eq]at h';cases h';exact .bool _,fun w=>by have h1:=hgd w;have h2:=heq w;simp[h1,binOp,h2]⟩
    |neq=>exact⟨.bool (!(a==b)),by have h':fb (!eqB a b)=some g:=h;rw[fb_eq,eqB_eq]at h';cases h';exact .bool _,fun w=>by have h1:=hgd w;have h2:=heq w;simp[h1,binOp,h2]⟩
    |_=>cases h
theorem vUn_ok {op:UnOp} (hv:Rl ρ v V) (h:vUn op v=some g):Comp P ρ (Op.unary op V) g:=by
 cases op with
 |neg=>
  obtain⟨a,ha,h⟩:=ob_some.1 (show ob v.asI _=some g from h)
  rw[asI_eq ha]at hv
  rw[hv.int_inv,wrapIn h]
  exact⟨_,.int _ _,fun w=>by simp[Op.unary,Op.intArith]⟩
 |not=>
  obtain⟨a,ha,h⟩:=ob_some.1 (show ob v.asB _=some g from h)
  rw[asB_eq ha]at hv
  rw[hv.bool_inv]
  rw[fb_eq]at h;cases h
  exact⟨_,.bool _,fun w=>by simp[Op.unary]⟩
 |_=>cases h
theorem vConv_ok (hG:TabOk P tb) {S D:TypeId} (hv:Rl ρ v V) (h:vConv tb S D v=some g):Comp P ρ (convert S D V) g:=by
 obtain⟨a,ha,h⟩:=ob_some.1 (show ob v.asI _=some g from h)
 obtain⟨s,hs,h⟩:=ob_some.1 h
 obtain⟨k',hk',h⟩:=ob_some.1 h
 obtain⟨t,ht,h⟩:=ob_some.1 h
 obtain⟨k,hk,h⟩:=ob_some.1 h
 rw[fi_eq]at h;cases h
 rw[asI_eq ha]at hv
 rw[hv.int_inv]
 refine⟨_,.int _ _,fun w=> ?_⟩
 have h1:=(hG.tab hs).run_und w
 have h2:=(hG.tab ht).run_und w
 rw[tdI_eq hk']at h1
 rw[tdI_eq hk]at h2
 simp[convert,h1,h2,Conv.intToInt]
theorem nilck_ok (hv:Rl ρ v V) (h:v.nilck=some g):g=v∧∀(o:Oper) (x:Operand) (ev:Operand->Value),o.op = .nilCheck x->ev x=V->∀w,(execOp ev o).run P w = .ok (.value V) w:=by
 cases hv with
 |ptr off hl=>cases h;exact⟨rfl,fun o x ev ho hx w=>by simp[execOp,ho,hx]⟩
 |fn f h1 h2 h3 h4=>cases h;exact⟨rfl,fun o x ev ho hx w=>by simp[execOp,ho,hx]⟩
 |_=>cases h
theorem fieldsOf_ok (hG:TabOk P tb) {T:TypeId} {fs:List Field} (h:fieldsOf tb T=some fs):∃d,TyOk P T d∧d.desc = .struct fs.toArray:=by
 obtain⟨t,ht,h⟩:=ob_some.1 (show ob (tb T) _=some fs from h)
 obtain⟨a,ha,h⟩:=ob_some.1 h
 cases h
 exact⟨t,hG.tab ht,by rw[tdF_eq ha]⟩
theorem vField_ok (hG:TabOk P tb) {T:TypeId} {f:Nat} (hv:Rl ρ v V) (h:vField tb T f v=some g):Comp P ρ (Instr.fieldAt T V f) g:=by
 obtain⟨p,hp,h⟩:=ob_some.1 (show ob v.asP _=some g from h)
 obtain⟨fs,hfs,h⟩:=ob_some.1 h
 obtain⟨q,hq,h⟩:=ob_some.1 h
 obtain⟨tq,htq,h⟩:=ob_some.1 h
 obtain⟨h0,h⟩:=bif_some'.1 h
 rw[sn_eq]at h;cases h
 rw[asP_eq hp]at hv
 obtain⟨l,hl,rfl⟩:=hv.ptr_inv
 obtain⟨d,hd,he⟩:=fieldsOf_ok hG hfs
 rw[nth_eq]at hq
 refine⟨_,.ptr _ hl,fun w=> ?_⟩
 have h1:=hd.run_und w
 rw[he]at h1
 have hne:tq.size≠0:=fun e=>by rw[e]at h0;cases h0
 have e:l.off+(p.2+q.offset)=l.off+p.2+q.offset:=by omega
 show(Instr.fieldAt T (.pointer (some ⟨l.b,l.off+p.2,none⟩)) f).run P w = .ok (.pointer (some ⟨l.b,l.off+(p.2+q.offset),none⟩)) w
 rw[e]
 simp[Instr.fieldAt,h1,hq,Instr.sureAddr,fieldPlace,(hG.tab htq).run_size w,hne,add_none]
theorem ofCells_ok (hG:TabOk P tb) {T:TypeId} {t:Ty} {cs:List GV} {vs:List Value} {o:Nat} (hT:TyOk P T t) (hr:RlL ρ cs vs) (h1:∀v∈vs,one v=true) (h:ofCells t cs o=some g):Comp P ρ (part T vs.toArray o) g:=by
 unfold ofCells at h
 cases ha:aggD t.desc with
 |true=>
  rw[ha]at h
  obtain⟨r,hs,h⟩:=ob_some.1 h
  cases h
  obtain⟨hb,rfl⟩:=slc_eq hs
  refine⟨_,Rl.agg' (hr.sub o t.size) (fun v hv=>h1 v (List.mem_of_mem_drop (List.mem_of_mem_take hv))),fun w=> ?_⟩
  have e1:=hT.run_agg w
  have e2:=hT.run_size w
  rw[ha]at e1
  simp[part,e1,e2]
 |false=>
  rw[ha]at h
  rw[cond_false,nth_eq]at h
  obtain⟨x,hx,hr⟩:=hr.get h
  refine⟨x,hr,fun w=> ?_⟩
  have e1:=hT.run_agg w
  rw[ha]at e1
  simp[part,e1,hx]
theorem vPart_ok (hG:TabOk P tb) {T:TypeId} {f:Nat} (hv:Rl ρ v V) (h:vPart tb T f v=some g):Comp P ρ (Instr.field T V f) g:=by
 obtain⟨cs,hc,h⟩:=ob_some.1 (show ob v.asA _=some g from h)
 obtain⟨fs,hfs,h⟩:=ob_some.1 h
 obtain⟨q,hq,h⟩:=ob_some.1 h
 obtain⟨tq,htq,h⟩:=ob_some.1 h
 rw[asA_eq hc]at hv
 obtain⟨vs,rfl,hr,h1⟩:=hv.agg_inv
 obtain⟨d,hd,he⟩:=fieldsOf_ok hG hfs
 rw[nth_eq]at hq
 obtain⟨x,hx,hrun⟩:=ofCells_ok (T:=q.type) hG (hG.tab htq) hr h1 h
 refine⟨x,hx,fun w=> ?_⟩
 have h2:=hd.run_und w
 rw[he]at h2
 have:=hrun w
 simp[Instr.field,h2,hq,asAgg,this]
theorem elemOf_ok (hG:TabOk P tb) {T:TypeId} {e:TypeId×Ty} (h:elemOf tb T=some e):(∃d,TyOk P T d∧d.desc = .slice e.1)∧TyOk P e.1 e.2∧tb e.1=some e.2:=by
 obtain⟨t,ht,h⟩:=ob_some.1 (show ob (tb T) _=some e from h)
 obtain⟨a,ha,h⟩:=ob_some.1 h
 obtain⟨te,hte,h⟩:=ob_some.1 h
 cases h
 exact⟨⟨t,hG.tab ht,tdS_eq ha⟩,hG.tab hte,hte⟩
theorem vIndex_ok (hG:TabOk P tb) {T:TypeId} (hv:Rl ρ v V) (hu:Rl ρ u U) (h:vIndex tb T v u=some g):Comp P ρ (Instr.indexAt T V U) g:=by
 obtain⟨n,hn,h⟩:=ob_some.1 (show ob u.asI _=some g from h)
 obtain⟨i,hi,h⟩:=ob_some.1 h
 rw[asI_eq hn]at hu
 rw[hu.int_inv,asN_eq hi]
 cases hp:v.asP with
 |some p=>
  rw[hp]at h
  rw[asP_eq hp]at hv
  obtain⟨l,hl,rfl⟩:=hv.ptr_inv
  obtain⟨t,ht,h⟩:=ob_some.1 (show ob (tb T) _=some g from h)
  obtain⟨e,he,h⟩:=ob_some.1 h
  obtain⟨te,hte,h⟩:=ob_some.1 h
  obtain⟨hlt,h⟩:=bif_some.1 h
  rw[sn_eq]at h;cases h
  refine⟨_,.ptr _ hl,fun w=> ?_⟩
  have h1:=(hG.tab ht).run_und w
  rw[tdA_eq he]at h1
  have hlt:i<e.1:=by simpa [Nat.blt_eq]using hlt
  have ee:l.off+(p.2+i*te.size)=l.off+p.2+i*te.size:=by omega
  show(Instr.indexAt T (.pointer (some ⟨l.b,l.off+p.2,none⟩)) (.int n.1 i)).run P w = .ok (.pointer (some ⟨l.b,l.off+(p.2+i*te.size),none⟩)) w
  rw[ee]
  simp[Instr.indexAt,asIntOf,h1,Instr.sureAddr,hlt,(hG.tab hte).run_size w,add_none]
 |none=>
  rw[hp]at h
  obtain⟨s,hs,h⟩:=ob_some.1 (show ob v.asS _=some g from h)
  rw[asS_eq hs]at hv
  obtain⟨l,cap,A,hl,rfl,hc,ha⟩:=hv.sl_inv
  obtain⟨te,hte,h⟩:=ob_some.1 (show ob (elemOf tb T) _=some g from h)
  obtain⟨hlt,h⟩:=bif_some.1 h
  rw[sn_eq]at h;cases h
  obtain⟨⟨d,hd,hde⟩,hE,_⟩:=elemOf_ok hG hte
  have hlt:i<s.2.2.1:=by simpa [Nat.blt_eq]using hlt
  rcases ha with ha|⟨rfl,_⟩
  ·omega
  refine⟨_,.ptr _ hl,fun w=> ?_⟩
  have h1:=hd.run_und w
  rw[hde]at h1
  have ee:l.off+(s.2.1+i*te.2.size)=l.off+s.2.1+i*te.2.size:=by omega
  show(Instr.indexAt T (.slice (some ⟨l.b,l.off+s.2.1,none⟩) s.2.2.1 cap) (.int n.1 i)).run P w = .ok (.pointer (some ⟨l.b,l.off+(s.2.1+i*te.2.size),none⟩)) w
  rw[ee]
  simp[Instr.indexAt,asIntOf,h1,hlt,hE.run_size w,add_none]
theorem vAt_ok (hG:TabOk P tb) {T:TypeId} (hv:Rl ρ v V) (hu:Rl ρ u U) (h:vAt tb T v u=some g):Comp P ρ (Instr.index T V U) g:=by
 obtain⟨s,hs,h⟩:=ob_some.1 (show ob v.asStr _=some g from h)
 obtain⟨n,hn,h⟩:=ob_some.1 h
 obtain⟨i,hi,h⟩:=ob_some.1 h
 obtain⟨t,ht,h⟩:=ob_some.1 h
 obtain⟨hd,h⟩:=bif_some.1 h
 obtain⟨hlt,h⟩:=bif_some.1 h
 rw[sn_eq]at h;cases h
 rw[asI_eq hn]at hu
 rw[hu.int_inv,asN_eq hi]
 rw[asStr_eq hs]at hv
 obtain⟨r,rfl,e1,e2⟩:=hv.str_inv
 have hlt:i<(bytesOfV r).length:=by rw[<-e2];simpa [Nat.blt_eq]using hlt
 rw[e1,encB_at _ _ hlt]
 refine⟨_,.int _ _,fun w=> ?_⟩
 have h1:=(hG.tab ht).run_und w
 rw[tdStr_eq hd]at h1
 have hb:=bytes_get r i
 rw[List.getElem?_eq_getElem hlt]at hb
 simp[Instr.index,asIntOf,h1,hb]
theorem vExt_ok {i:Nat} (hv:Rl ρ v V) (h:vExt i v=some g):Comp P ρ (Instr.extract V i) g:=by
 obtain⟨vs,hs,h⟩:=ob_some.1 (show ob v.asT _=some g from h)
 rw[asT_eq hs]at hv
 obtain⟨us,rfl,hr⟩:=hv.tup_inv
 rw[nth_eq]at h
 obtain⟨x,hx,hr⟩:=hr.get h
 exact⟨x,hr,fun w=>by simp[Instr.extract,hx]⟩
theorem vMax_ok {t1 t2 ty:TypeId} (hv:Rl ρ v V) (hu:Rl ρ u U) (h:vMax v u=some g):Comp P ρ (Builtin.max_ #[t1,t2] ty #[V,U]) g:=by
 obtain⟨a,ha,h⟩:=ob_some.1 (show ob v.asI _=some g from h)
 obtain⟨b,hb,h⟩:=ob_some.1 h
 obtain⟨hk,h⟩:=bif_some.1 h
 have hk:=eqK_eq hk
 have hv':=hv;have hu':=hu
 rw[asI_eq ha]at hv';rw[asI_eq hb]at hu'
 rw[ltI_eq]at h
 by_cases hlt:a.2<b.2
 ·rw[decide_eq_true hlt]at h;cases h
  refine⟨U,hu,fun w=> ?_⟩
  rw[hv'.int_inv,hu'.int_inv,<-hk]
  simp[Builtin.max_,Builtin.max2];omega
 ·rw[decide_eq_false hlt]at h;cases h
  refine⟨V,hv,fun w=> ?_⟩
  rw[hv'.int_inv,hu'.int_inv,<-hk]
  simp[Builtin.max_,Builtin.max2];omega
theorem vMin_ok {t1 t2 ty:TypeId} (hv:Rl ρ v V) (hu:Rl ρ u U) (h:vMin v u=some g):Comp P ρ (Builtin.min_ #[t1,t2] ty #[V,U]) g:=by
 obtain⟨a,ha,h⟩:=ob_some.1 (show ob v.asI _=some g from h)
 obtain⟨b,hb,h⟩:=ob_some.1 h
 obtain⟨hk,h⟩:=bif_some.1 h
 have hk:=eqK_eq hk
 have hv':=hv;have hu':=hu
 rw[asI_eq ha]at hv';rw[asI_eq hb]at hu'
 rw[ltI_eq]at h
 by_cases hlt:b.2<a.2
 ·rw[decide_eq_true hlt]at h;cases h
  refine⟨U,hu,fun w=> ?_⟩
  rw[hv'.int_inv,hu'.int_inv,<-hk]
  simp[Builtin.min_,Builtin.min2];omega
 ·rw[decide_eq_false hlt]at h;cases h
  refine⟨V,hv,fun w=> ?_⟩
  rw[hv'.int_inv,hu'.int_inv,<-hk]
  simp[Builtin.min_,Builtin.min2];omega
theorem vLen_ok (hG:TabOk P tb) {T ty:TypeId} (hv:Rl ρ v V) (h:vLen tb T v=some g):Comp P ρ (Builtin.len_ #[T] ty #[V]) g:=by
 obtain⟨t,ht,h⟩:=ob_some.1 (show ob (tb T) _=some g from h)
 cases hs:v.asStr with
 |some s=>
  rw[hs]at h
  obtain⟨hd,h⟩:=bif_some.1 h
  cases h
  rw[asStr_eq hs]at hv
  obtain⟨r,rfl,e1,e2⟩:=hv.str_inv
  refine⟨_,.int _ _,fun w=> ?_⟩
  have h1:=(hG.tab ht).run_und w
  rw[tdStr_eq hd]at h1
  rw[e2]
  have:r.size=(bytesOfV r).length:=Lib.size_eq r
  simp[Builtin.len_,h1,goInt,this]
 | none =>
  rw[hs]at h
  obtain⟨E,hE,h⟩:=ob_some.1 (show ob (tdS t.desc) _=some g from h)
  obtain⟨n,hn,h⟩:=ob_some.1 h
  cases h
  unfold glen at hn
  cases hz:v.isSnil with
  |true=>
   rw[hz]at hn;cases hn
   rw[isSnil_eq hz]at hv
   rw[hv.snil_inv]
   exact⟨_,.int _ _,fun w=>run_len w (hG.tab ht) (tdS_eq hE) _ _ _ _⟩
  |false=>
   rw[hz]at hn
   obtain⟨s,hs,hn⟩:=ob_some.1 (show ob v.asS _=some n from hn)
   cases hn
   rw[asS_eq hs]at hv
   obtain⟨l,cap,A,hl,rfl,hc,ha⟩:=hv.sl_inv
   exact⟨_,.int _ _,fun w=>run_len w (hG.tab ht) (tdS_eq hE) _ _ _ _⟩
end
end Go.Gx
end
section
namespace Go.Gx
open Go Go.Sx Go.RowKit

theorem foldSet (off:Nat):∀(vs:List Value) (k:Nat) (cs:Array Value),off+k+vs.length<=cs.size->
  ((vs.zipIdx k).foldl (fun cs p=>cs.setIfInBounds (off+p.2) p.1) cs).size=cs.size∧
  ∀i,((vs.zipIdx k).foldl (fun cs p=>cs.setIfInBounds (off+p.2) p.1) cs)[i]? = if off+k<=i∧i<off+k+vs.length then vs[i - (off+k)]? else cs[i]?
 | [],k,cs,_=>⟨rfl,fun i=>by rw[if_neg (by simp)];rfl⟩
 | v :: vs, k, cs, h => by
  simp only[List.length_cons]at h
  simp only[List.zipIdx_cons,List.foldl_cons]
  obtain⟨h1,h2⟩:=foldSet off vs (k+1) (cs.setIfInBounds (off+k) v) (by simp;omega)
  refine⟨by rw[h1];simp,fun i=> ?_⟩
  rw[h2 i]
  by_cases e:i=off+k
  ·subst e
   rw[if_neg (by omega),if_pos (by simp),Array.getElem?_setIfInBounds_self_of_lt (by omega)]
   simp
  ·by_cases e2:off+(k+1)<=i∧i<off+(k+1)+vs.length
   ·rw[if_pos e2,if_pos (by simp;omega)]
    have:i - (off+k)=(i - (off+(k+1)))+1:=by omega
    rw[this,List.getElem?_cons_succ]
   ·rw[if_neg e2,if_neg (by simp;omega),Array.getElem?_setIfInBounds_ne (Ne.symm e)]
section
variable {P:Program} {tb:TB} {ρ:Rho} {V U W:Value} {v u t g:GV}
structure RlC (ρ:Rho) (cs:List GV) (a:Array Value):Prop where
 r:RlL ρ cs a.toList
 one:∀v∈a.toList,Go.Sx.one v=true
theorem getOne {a:Array Value} (h:∀v∈a.toList,one v=true) {i:Nat} {v:Value} (hv:a[i]? = some v):one v=true:=h v (by
 rw[<-Array.getElem?_toList]at hv;exact List.mem_of_getElem? hv)
theorem fill_step {cs c1 cc:List GV} {a:Array Value} {off sz:Nat} {x:Value} (hr:RlC ρ cs a) (hx:Rl ρ g x) (hc:g.cells=some cc) (hl:cc.length=sz) (h0:sz≠0) (hp:gput cc off cs=some c1):
  (x.cells.size=sz∧off+x.cells.size<=a.size)∧RlC ρ c1 (x.cells.zipIdx.foldl (fun cs (c,j)=>cs.setIfInBounds (off+j) c) a):=by
 obtain⟨vs,e,hvs,h1⟩:=hx.cells hc
 obtain⟨p1,p2,p3⟩:=gput_eq hp
 have hne:cc≠[]:=by intro e;subst e;exact h0 hl.symm
 have p1:=p1 hne
 have hlen:cc.length=vs.length:=hvs.len
 have hsz:cs.length=a.size:=by have:=hr.r.len;simpa using this
 rw[e]
 have hfit:off+0+vs.length<=a.size:=by omega
 obtain⟨f1,f2⟩:=foldSet off vs 0 a hfit
 have ef:(vs.toArray.zipIdx.foldl (fun cs (c,j)=>cs.setIfInBounds (off+j) c) a)=((vs.zipIdx 0).foldl (fun cs p=>cs.setIfInBounds (off+p.2) p.1) a):=by
  simp
 refine⟨⟨by simp;omega,by simp;omega⟩,?_⟩
 rw[ef]
 refine⟨⟨by simp[f1,p2,hsz],fun i b c hb hc=> ?_⟩,fun y hy=> ?_⟩
 ·rw[p3 i]at hb
  rw[Array.getElem?_toList,f2 i]at hc
  simp only[Nat.add_zero]at hc
  by_cases hi:off<=i∧i<off+cc.length
  ·rw[if_pos hi]at hb
   rw[if_pos (by omega)]at hc
   exact hvs.at' _ _ _ hb hc
  ·rw[if_neg hi]at hb
   rw[if_neg (by omega)]at hc
   exact hr.r.at' i b c hb (by rw[Array.getElem?_toList];exact hc)
 ·obtain⟨i,hi⟩:=List.mem_iff_getElem?.1 hy
  rw[Array.getElem?_toList,f2 i]at hi
  split at hi
  ·exact h1 y (List.mem_of_getElem? hi)
  ·exact getOne hr.one hi
theorem gfillA_ok {sz:Nat}:∀{l:List (Nat×GV)} {parts:List (Nat×Value)} {cs cs':List GV} {a:Array Value},RlP ρ l parts->RlC ρ cs a->gfillA sz l cs=some cs'->
  ∃a',Instr.fill (fun i=>some (i*sz,sz)) a parts=some a'∧RlC ρ cs' a'
 | [],parts,cs,cs',a,hp,hr,h=>by
  have:parts=[]:=by have:=hp.1;simpa using this.symm
  subst this;cases h;exact⟨a,rfl,hr⟩
 | p :: l, parts, cs, cs', a, hp, hr, h => by
  cases parts with
  |nil=>have:=hp.1;simp at this
  |cons q parts=>
   obtain⟨e1,e2⟩:=hp
   simp only[List.map_cons,List.cons.injEq]at e1
   obtain⟨y,ys,e3,h1,h2⟩:=e2.of_cons
   simp only[List.map_cons,List.cons.injEq]at e3
   obtain⟨rfl,rfl⟩:=e3
   obtain⟨cc,hcc,h⟩:=ob_some.1 (show ob p.2.cells (fun cc=>bif Nat.beq cc.length sz then(bif Nat.beq sz 0 then none else ob (gput cc (Nat.mul p.1 sz) cs) (gfillA sz l))else none)=some cs' from h)
   obtain⟨hl,h⟩:=bif_some.1 h
   obtain⟨h0,h⟩:=bif_some'.1 h
   obtain⟨c1,hg,h⟩:=ob_some.1 h
   have h0:sz≠0:=fun e=>by rw[e]at h0;cases h0
   obtain⟨⟨s1,s2⟩,s3⟩:=fill_step hr h1 hcc (Nat.eq_of_beq_eq_true hl) h0 hg
   obtain⟨a',f1,f2⟩:=gfillA_ok ⟨e1.2,h2⟩ s3 h
   refine⟨a',?_,f2⟩
   have e:Nat.mul p.1 sz=q.1*sz:=by rw[<-e1.1];rfl
   rw[e]at s2 s3 f1
   show Instr.fill _ a ((q.1,q.2)::parts)=_
   unfold Instr.fill
   simp only
   rw[if_neg (by simp only[ne_eq,Bool.or_eq_true,decide_eq_true_eq,not_or,Decidable.not_not];omega)]
   exact f1
theorem gfillF_ok {ps:List (Nat×Nat)}:∀{l:List (Nat×GV)} {parts:List (Nat×Value)} {cs cs':List GV} {a:Array Value},RlP ρ l parts->RlC ρ cs a->gfillF ps l cs=some cs'->
  ∃a',Instr.fill (ps.toArray[·]?) a parts=some a'∧RlC ρ cs' a'
 | [],parts,cs,cs',a,hp,hr,h=>by
  have:parts=[]:=by have:=hp.1;simpa using this.symm
  subst this;cases h;exact⟨a,rfl,hr⟩
 | p :: l, parts, cs, cs', a, hp, hr, h => by
  cases parts with
  |nil=>have:=hp.1;simp at this
  |cons q parts=>
   obtain⟨e1,e2⟩:=hp
   simp only[List.map_cons,List.cons.injEq]at e1
   obtain⟨y,ys,e3,h1,h2⟩:=e2.of_cons
   simp only[List.map_cons,List.cons.injEq]at e3
   obtain⟨rfl,rfl⟩:=e3
   obtain⟨pl,hpl,h⟩:=ob_some.1 (show ob (nth ps p.1) (fun q=>ob p.2.cells fun cc=>bif Nat.beq cc.length q.2 then(bif Nat.beq q.2 0 then none else ob (gput cc q.1 cs) (gfillF ps l))else none)=some cs' from h)
   obtain⟨cc,hcc,h⟩:=ob_some.1 h
   obtain⟨hl,h⟩:=bif_some.1 h
   obtain⟨h0,h⟩:=bif_some'.1 h
   obtain⟨c1,hg,h⟩:=ob_some.1 h
   have h0:pl.2≠0:=fun e=>by rw[e]at h0;cases h0
   obtain⟨⟨s1,s2⟩,s3⟩:=fill_step hr h1 hcc (Nat.eq_of_beq_eq_true hl) h0 hg
   obtain⟨a',f1,f2⟩:=gfillF_ok ⟨e1.2,h2⟩ s3 h
   refine⟨a',?_,f2⟩
   rw[nth_eq,e1.1]at hpl
   show Instr.fill _ a ((q.1,q.2)::parts)=_
   unfold Instr.fill
   have:ps.toArray[q.1]? = some pl:=by simpa using hpl
   simp only[this]
   rw[if_neg (by simp only[ne_eq,Bool.or_eq_true,decide_eq_true_eq,not_or,Decidable.not_not];omega)]
   exact f1
theorem zeroOf_ok (hG:TabOk P tb) {T:TypeId} {zc:List GV} (h:zeroOf tb T=some zc):∃d,tb T=some d∧TyOk P T d∧RlC ρ zc d.zero.cells:=by
 obtain⟨d,hd,h⟩:=ob_some.1 (show ob (tb T) _=some zc from h)
 obtain⟨z,hz,h⟩:=ob_some.1 h
 obtain⟨vs,e,hr,h1⟩:=(ofV_ok (ρ:=ρ) hz).cells h
 exact⟨d,hd,hG.tab hd,by rw[e];exact⟨hr,h1⟩⟩
theorem sizesOf_ok (hG:TabOk P tb):∀{fs:List Field} {pl:List (Nat×Nat)},sizesOf tb fs=some pl->fs.mapM (fun f=>(P.info? f.type).map fun i=>(f.offset,i.size))=some pl
 | [],pl,h=>by cases h;rfl
 |f::fs,pl,h=>by
  obtain⟨t,ht,h⟩:=ob_some.1 (show ob (tb f.type) (fun t=>ob (sizesOf tb fs) fun r=>some ((f.offset,t.size)::r))=some pl from h)
  obtain⟨r,hr,h⟩:=ob_some.1 h
  cases h
  obtain⟨i,hi,hs,_,_⟩:=(hG.tab ht).info
  simp[List.mapM_cons,hi,hs,sizesOf_ok hG hr]
theorem vBuild_ok (hG:TabOk P tb) {T:TypeId} {l:List (Nat×GV)} {parts:List (Nat×Value)} (hp:RlP ρ l parts) (h:vBuild tb T l=some g):Comp P ρ (Instr.build T parts.toArray) g:=by
 obtain⟨t,ht,h⟩:=ob_some.1 (show ob (tb T) _=some g from h)
 obtain⟨zc,hz,h⟩:=ob_some.1 h
 obtain⟨d,hd,hT,hC⟩:=zeroOf_ok (ρ:=ρ) hG hz
 rw[ht]at hd;cases hd
 obtain⟨i,hi,hs,_,hzero⟩:=hT.info
 have hu:=hT.und
 suffices hh:∃a',P.built T parts=some a'∧∃cs',g = .agg cs'∧RlC ρ cs' a' by
  obtain⟨a',hb,cs',rfl,hC'⟩:=hh
  refine⟨.agg a',?_,fun w=>run_build w T parts.toArray a' (by simpa using hb)⟩
  have:=Rl.agg' hC'.r hC'.one
  simpa using this
 cases hf:tdF t.desc with
 | some fs =>
  rw[hf]at h
  obtain⟨pl,hpl,h⟩:=ob_some.1 (show ob (placesOf tb T) _=some g from h)
  obtain⟨cs,hfill,h⟩:=ob_some.1 h
  cases h
  obtain⟨fl,hfl,hpl⟩:=ob_some.1 (show ob (fieldsOf tb T) _=some pl from hpl)
  have hfl':fl=fs.toList:=by
   obtain⟨t',ht',h'⟩:=ob_some.1 (show ob (tb T) _=some fl from hfl)
   rw[ht]at ht';cases ht'
   obtain⟨fs',hfs',h'⟩:=ob_some.1 h'
   rw[hf]at hfs';cases hfs';cases h';rfl
  subst hfl'
  obtain⟨a',f1,f2⟩:=gfillF_ok hp hC hfill
  refine⟨a',?_,cs,rfl,f2⟩
  rw[tdF_eq hf]at hu
  unfold Program.built
  simp only[hi,hu,hzero,sizesOf_ok hG hpl]
  exact f1
 |none=>
  rw[hf]at h
  obtain⟨e,he,h⟩:=ob_some.1 (show ob (tdA t.desc) _=some g from h)
  obtain⟨te,hte,h⟩:=ob_some.1 h
  obtain⟨cs,hfill,h⟩:=ob_some.1 h
  cases h
  obtain⟨a',f1,f2⟩:=gfillA_ok hp hC hfill
  refine⟨a',?_,cs,rfl,f2⟩
  rw[tdA_eq he]at hu
  obtain⟨ie,hie,hse,_,_⟩:=(hG.tab hte).info
  unfold Program.built
  simp only[hi,hu,hzero,hie,hse]
  exact f1
end

def ObjOk (ρ:Rho) (w:World) (l:Loc):GO->Prop
 | .cells cs=>∃(cur:Array Value) (T:TypeId),w.heap[l.b]? = some (.cells cur T (0,0))∧cur.size=l.size∧l.off+cs.length<=l.size∧∀(i:Nat) g,cs[i]? = some g->∃v,cur[l.off+i]? = some v∧Rl ρ g v∧one v=true
 | .mp es=>∃(en:Array MapEntry) (clock:Nat),w.heap[l.b]? = some (.map en clock)∧en.size=es.length∧∀(i:Nat) e,es[i]? = some e->∃m,en[i]? = some m∧Rl ρ e.1 m.key∧Rl ρ e.2 m.val
theorem ObjOk.lt {ρ:Rho} {w:World} {l:Loc} {o:GO} (h:ObjOk ρ w l o):l.b<w.heap.size:=by
 cases o with
 |cells cs=>obtain⟨cur,T,h,_⟩:=h;exact(Array.getElem?_eq_some_iff.1 h).1
 |mp es=>obtain⟨cur,T,h,_⟩:=h;exact(Array.getElem?_eq_some_iff.1 h).1
theorem ObjOk.move {ρ ρ':Rho} {w w':World} {l:Loc} {o:GO} (h:ObjOk ρ w l o) (hl:ρ.le ρ') (e:w'.heap[l.b]? = w.heap[l.b]?):ObjOk ρ' w' l o:=by
 cases o with
 |cells cs=>obtain⟨cur,T,h1,h2,h3,h4⟩:=h;exact⟨cur,T,by rw[e];exact h1,h2,h3,fun i g hg=>let ⟨v,a,b,c⟩:=h4 i g hg;⟨v,a,b.le hl,c⟩⟩
 |mp es=>obtain⟨en,cl,h1,h2,h3⟩:=h;exact⟨en,cl,by rw[e];exact h1,h2,fun i g hg=>let ⟨m,a,b,c⟩:=h3 i g hg;⟨m,a,b.le hl,c.le hl⟩⟩
structure Base where
 w:World
 O:Nat->Prop
def Base.mine (b:Base) (k:Nat):Prop:=b.w.heap.size<=k∨b.O k
structure Rel (w0:Base) (ρ:Rho) (H:GH) (w:World):Prop where
 ext:Kept w0.O w0.w w
 live:∀h o,H.get h=some o->∃l,ρ h=some l∧w0.mine l.b∧ObjOk ρ w l o
 inj:∀h h' o o' l l',H.get h=some o->H.get h'=some o'->ρ h=some l->ρ h'=some l'->l.b=l'.b->h=h'
 fresh:∀h,H.n<=h->ρ h=none
 dense:∀h,h<H.n->∃l,ρ h=some l
 /-- the block holds what was written last -/
 vers:∀h v l,H.ver h=some v->ρ h=some l->∃lv,ρ v=some lv∧w.heap[l.b]? = some lv.x∧H.get h=some lv.o
theorem Rel.lt {w0:Base} {w:World} {ρ:Rho} {H:GH} (R:Rel w0 ρ H w) {h:Nat} {o:GO} (hg:H.get h=some o):h<H.n:=by
 rcases Nat.lt_or_ge h H.n with h'|h'
 ·exact h'
 ·obtain⟨l,hl,_⟩:=R.live h o hg
  rw[R.fresh h h']at hl;cases hl
def Does (P:Program) (w0:Base) (ρ:Rho) (s:Sem Value) (w:World) (g:GV) (H':GH):Prop:=∃v w' ρ',s.run P w = .ok v w'∧ρ.le ρ'∧Rel w0 ρ' H' w'∧Rl ρ' g v
def Rho.upd (ρ:Rho) (h:Nat) (l:Loc):Rho:=fun k=>if k=h then some l else ρ k
theorem Rho.le_upd {ρ:Rho} {h:Nat} {l:Loc} (hf:ρ h=none):ρ.le (ρ.upd h l):=fun k x hx=>by
 unfold Rho.upd
 by_cases e:k=h
 ·subst e;rw[hf]at hx;cases hx
 ·rw[if_neg e];exact hx
theorem Rel.new {w0:Base} {w w':World} {ρ:Rho} {H:GH} (R:Rel w0 ρ H w) {o:GO} {l:Loc} (he:Kept w0.O w0.w w') (hb:∀h o' l',H.get h=some o'->ρ h=some l'->w'.heap[l'.b]? = w.heap[l'.b]? ∧ l'.b≠l.b) (h0:w0.mine l.b)
    (ho:ObjOk (ρ.upd H.n l) w' l o) (hx:w'.heap[l.b]? = some l.x) (hlo:l.o=o:=by rfl):ρ.le (ρ.upd H.n l)∧Rel w0 (ρ.upd H.n l) (H.new o) w':=by
  have hle:ρ.le (ρ.upd H.n l):=Rho.le_upd (R.fresh _ (Nat.le_refl _))
  have hne:∀h o',H.get h=some o'->h≠H.n:=fun h o' hg=>Nat.ne_of_lt (R.lt hg)
  have hsame:∀h,h≠H.n->(ρ.upd H.n l) h=ρ h:=fun h hh=>by simp[Rho.upd,hh]
  have hself:(ρ.upd H.n l) H.n=some l:=by simp[Rho.upd]
  refine⟨hle,he,?_,?_,?_,?_,?_⟩
  · intro h o' hg
    rw[GH.get_new]at hg
    by_cases e:h=H.n
    · subst e;rw[if_pos rfl]at hg;cases hg;exact⟨l,hself,h0,ho⟩
    · rw[if_neg e]at hg
      obtain⟨l',hl',hb',ho'⟩:=R.live h o' hg
      exact⟨l',by rw[hsame h e];exact hl',hb',ho'.move hle (hb h o' l' hg hl').1⟩
  · intro h h' o1 o2 l1 l2 hg hg' hl hl' hbb
    rw[GH.get_new]at hg hg'
    by_cases e:h=H.n
    · by_cases e':h'=H.n
      · rw[e,e']
      · rw[if_neg e']at hg'
        rw[hsame h' e']at hl'
        subst e;rw[hself]at hl;cases hl
        exact absurd hbb.symm (hb h' o2 l2 hg' hl').2
    · rw[if_neg e]at hg
      rw[hsame h e]at hl
      by_cases e':h'=H.n
      · subst e';rw[hself]at hl';cases hl'
        exact absurd hbb (hb h o1 l1 hg hl).2
      · rw[if_neg e']at hg'
        rw[hsame h' e']at hl'
        exact R.inj h h' o1 o2 l1 l2 hg hg' hl hl' hbb
  · intro h hh
    have : h ≠ H.n := by have : H.n + 1 ≤ h := hh
                         omega
    rw[hsame h this]
    exact R.fresh h (by have : H.n + 1 ≤ h := hh
                        omega)
  · intro h hh
    have hh:h<H.n+1:=hh
    by_cases e:h=H.n
    · subst e;exact⟨l,hself⟩
    · rw[hsame h e];exact R.dense h (by omega)
  · intro h v l' hv hl'
    rw[GH.ver_new]at hv
    by_cases e:h=H.n
    · subst e;rw[if_pos rfl]at hv;cases hv
      rw[hself]at hl';cases hl'
      exact⟨l,hself,hx,by rw[GH.get_new,if_pos rfl,hlo]⟩
    · rw[if_neg e]at hv
      rw[hsame h e]at hl'
      obtain⟨lv,h1,h2,h3⟩:=R.vers h v l' hv hl'
      obtain⟨p,hp,_⟩:=ob_some.1 (show ob (H.t.get h) _=some v from hv)
      exact⟨lv,hle _ _ h1,by rw[(hb h p.2 l' (by unfold GH.get;rw[hp];rfl) hl').1];exact h2,by rw[GH.get_new,if_neg e];exact h3⟩
theorem Rel.set {w0:Base} {w w':World} {ρ:Rho} {H:GH} (R:Rel w0 ρ H w) {h:Nat} {o o':GO} {l:Loc} {X:Obj} (hg:H.get h=some o) (hl:ρ h=some l) (he:Kept w0.O w0.w w') (hb:∀k,k≠l.b->w'.heap[k]? = w.heap[k]?) (ho:ObjOk ρ w' l o') (hx:w'.heap[l.b]? = some X):
  ρ.le (ρ.upd H.n ⟨l.b,l.off,l.size,X,o'⟩)∧Rel w0 (ρ.upd H.n ⟨l.b,l.off,l.size,X,o'⟩) (H.set h o') w':=by
 have hle:ρ.le (ρ.upd H.n ⟨l.b,l.off,l.size,X,o'⟩):=Rho.le_upd (R.fresh _ (Nat.le_refl _))
 have hsame:∀k,k≠H.n->(ρ.upd H.n ⟨l.b,l.off,l.size,X,o'⟩) k=ρ k:=fun k hk=>by simp[Rho.upd,hk]
 have hself:(ρ.upd H.n ⟨l.b,l.off,l.size,X,o'⟩) H.n=some ⟨l.b,l.off,l.size,X,o'⟩:=by simp[Rho.upd]
 have key:∀k x,(if k=h then some o' else H.get k)=some x->∃y,H.get k=some y:=fun k x hx=>by
  by_cases e:k=h
  ·subst e;exact⟨o,hg⟩
  ·rw[if_neg e]at hx;exact⟨x,hx⟩
 refine⟨hle,he,?_,?_,?_,?_,?_⟩
 ·intro k x hk
  rw[GH.get_set]at hk
  by_cases e:k=h
  ·subst e;rw[if_pos rfl]at hk;cases hk
   obtain⟨l',hl',h0,_⟩:=R.live k o hg
   rw[hl]at hl';cases hl'
   exact⟨l,hle _ _ hl,h0,ho.move hle rfl⟩
  ·rw[if_neg e]at hk
   obtain⟨l',hl',h0,ho'⟩:=R.live k x hk
   refine⟨l',hle _ _ hl',h0,ho'.move hle (hb _ fun e'=>e (R.inj k h x o l' l hk hg hl' hl e'))⟩
 ·intro k k' o1 o2 l1 l2 h1 h2 hl1 hl2 hbb
  rw[GH.get_set]at h1 h2
  obtain⟨y1,hy1⟩:=key k o1 h1
  obtain⟨y2,hy2⟩:=key k' o2 h2
  rw[hsame k (Nat.ne_of_lt (R.lt hy1))]at hl1
  rw[hsame k' (Nat.ne_of_lt (R.lt hy2))]at hl2
  exact R.inj k k' y1 y2 l1 l2 hy1 hy2 hl1 hl2 hbb
 ·intro k hk
  have hk':H.n+1<=k:=hk
  rw[hsame k (by omega)]
  exact R.fresh k (by omega)
 ·intro k hk
  have hk:k<H.n+1:=hk
  by_cases e:k=H.n
  ·subst e;exact⟨_,hself⟩
  ·rw[hsame k e];exact R.dense k (by omega)
 ·intro k v l' hv hl'
  rw[GH.ver_set]at hv
  by_cases e:k=h
  ·subst e;rw[if_pos rfl]at hv;cases hv
   rw[hsame k (Nat.ne_of_lt (R.lt hg)),hl]at hl';cases hl'
   exact⟨_,hself,hx,by rw[GH.get_set,if_pos rfl]⟩
  ·rw[if_neg e]at hv
   obtain⟨p,hp,_⟩:=ob_some.1 (show ob (H.t.get k) _=some v from hv)
   have hgk:H.get k=some p.2:=by unfold GH.get;rw[hp];rfl
   rw[hsame k (Nat.ne_of_lt (R.lt hgk))]at hl'
   obtain⟨lv,h1,h2,h3⟩:=R.vers k v l' hv hl'
   exact⟨lv,hle _ _ h1,by rw[hb l'.b fun e'=>e (R.inj k h p.2 o l' l hgk hg hl' hl e')];exact h2,by rw[GH.get_set,if_neg e];exact h3⟩
theorem Rel.del {w0:Base} {w:World} {ρ:Rho} {H:GH} (R:Rel w0 ρ H w) (h:Nat):Rel w0 ρ (H.del h) w:=by
 have key:∀k x,(H.del h).get k=some x->H.get k=some x:=fun k x hx=>by
  rw[GH.get_del]at hx
  by_cases e:k=h
  ·rw[if_pos e]at hx;cases hx
  ·rw[if_neg e]at hx;exact hx
 exact⟨R.ext,fun k x hx=>R.live k x (key k x hx),fun k k' o1 o2 l1 l2 h1 h2=>R.inj k k' o1 o2 l1 l2 (key _ _ h1) (key _ _ h2),R.fresh,R.dense,fun k v l hv hl=>by
  rw[GH.ver_del]at hv
  by_cases e:k=h
  ·rw[if_pos e]at hv;cases hv
  ·rw[if_neg e]at hv
   obtain⟨lv,h1,h2,h3⟩:=R.vers k v l hv hl
   exact⟨lv,h1,h2,by rw[GH.get_del,if_neg e];exact h3⟩⟩
theorem Rel.ext' {w0:Base} {w w':World} {ρ:Rho} {H:GH} (R:Rel w0 ρ H w) (e:Ext w w'):Rel w0 ρ H w':=
 ⟨R.ext.trans e,fun h o hg=>let ⟨l,a,b,c⟩:=R.live h o hg;⟨l,a,b,c.move (Rho.le_refl _) (e.block _ c.lt)⟩,R.inj,R.fresh,R.dense,fun h v l hv hl=>by
  obtain⟨lv,h1,h2,h3⟩:=R.vers h v l hv hl
  exact⟨lv,h1,(by rw[e.block _ (Array.getElem?_eq_some_iff.1 h2).1];exact h2),h3⟩⟩
theorem Rel.mono {w0 w0':Base} {w w':World} {ρ ρ':Rho} {H H':GH} (R:Rel w0 ρ H w) (R':Rel w0' ρ' H' w') (hle:ρ.le ρ'):H.n<=H'.n:=by
 rcases Nat.lt_or_ge H'.n H.n with h|h
 ·obtain⟨l,hl⟩:=R.dense _ h
  have:=R'.fresh _ (Nat.le_refl _)
  rw[hle _ _ hl]at this;cases this
 ·exact h
def Held (ρ:Rho) (H:GH) (k:Nat):Prop:=∃h o l,H.get h=some o∧ρ h=some l∧l.b=k
theorem Rel.rebase {w0:Base} {w:World} {ρ:Rho} {H:GH} (R:Rel w0 ρ H w):Rel ⟨w,Held ρ H⟩ ρ H w:=
 ⟨Kept.refl _,fun h o hg=>let ⟨l,a,_,c⟩:=R.live h o hg;⟨l,a,.inr ⟨h,o,l,hg,a,rfl⟩,c⟩,R.inj,R.fresh,R.dense,R.vers⟩
theorem Rel.back {w0:Base} {w w':World} {ρ ρ':Rho} {H H':GH} (R:Rel w0 ρ H w) (R':Rel ⟨w,Held ρ H⟩ ρ' H' w'):Rel w0 ρ' H' w'∧∀k,k<w.heap.size->¬Held ρ H k->w'.heap[k]? = w.heap[k]?:=by
 have hm:∀k,Held ρ H k->w0.mine k:=fun k ⟨h,o,l,hg,hl,e⟩=>by
  obtain⟨l',hl',hb,_⟩:=R.live h o hg
  rw[hl]at hl';cases hl'
  rw[<-e];exact hb
 refine⟨⟨⟨R'.ext.os.trans R.ext.os,R'.ext.tape.trans R.ext.tape,R'.ext.output.trans R.ext.output,Nat.le_trans R.ext.size R'.ext.size,fun k hk hO=> ?_⟩,fun h o hg=> ?_,R'.inj,R'.fresh,R'.dense,R'.vers⟩,fun k hk hh=>R'.ext.block k hk hh⟩
 ·rw[R'.ext.block k (Nat.lt_of_lt_of_le hk R.ext.size) (fun hh=>by rcases hm k hh with h|h;exact absurd h (by omega);exact hO h)]
  exact R.ext.block k hk hO
 ·obtain⟨l,hl,hb,ho⟩:=R'.live h o hg
  refine⟨l,hl,?_,ho⟩
  rcases hb with hb|hb
  ·exact .inl (Nat.le_trans R.ext.size hb)
  ·exact hm _ hb
section
variable {P:Program} {tb:TB} {ρ:Rho} {V U W:Value} {v u t g:GV} {w0:Base} {w:World} {H H':GH}
theorem Rel.alloc (R:Rel w0 ρ H w) {cs:List GV} {a:Array Value} (T:TypeId) (hr:RlC ρ cs a):
  ∃ρ',ρ.le ρ'∧ρ'=ρ.upd H.n ⟨w.heap.size,0,a.size,.cells a T,.cells cs⟩∧Rel w0 ρ' (H.new (.cells cs)) (w.alloc (.cells a T)):=by
 have e:Ext w (w.alloc (.cells a T)):=(Below.refl _ _).alloc (Nat.le_refl _) _
 have h:=R.new (o:= .cells cs) (l:=⟨w.heap.size,0,a.size,.cells a T,.cells cs⟩) (R.ext.trans e) (fun h o' l' hg hl=>by
  obtain⟨l,hl',_,ho⟩:=R.live h o' hg
  rw[hl]at hl';cases hl'
  exact⟨e.block _ ho.lt,Nat.ne_of_lt ho.lt⟩) (.inl R.ext.size) (by
  refine⟨a,T,heap_alloc_new w _,rfl,by have:=hr.r.len;simp at this;simp[this],fun i g hg=> ?_⟩
  obtain⟨x,hx,hrx⟩:=hr.r.get hg
  rw[Array.getElem?_toList]at hx
  exact⟨x,by simpa using hx,hrx.le (Rho.le_upd (R.fresh _ (Nat.le_refl _))),getOne hr.one hx⟩) (heap_alloc_new w _)
 exact⟨_,h.1,rfl,h.2⟩
theorem vBox_ok {T:TypeId} (R:Rel w0 ρ H w) (hv:Rl ρ v V) (h:vBox v H=some (g,H')):Does P w0 ρ (Instr.box T V) w g H':=by
 obtain⟨vc,hc,h⟩:=ob_some.1 (show ob v.cells _=some (g,H')from h)
 rw[GH.newK_eq]at h;cases h
 obtain⟨vs,e,hr,h1⟩:=hv.cells hc
 obtain⟨ρ',hle,rfl,R'⟩:=R.alloc T (cs:=vc) (a:=V.cells) (by rw[e];exact⟨hr,h1⟩)
 refine⟨_,_,_,?_,hle,R',.ptr (l:=⟨w.heap.size,0,V.cells.size,.cells V.cells T,.cells vc⟩) 0 (by simp[Rho.upd])⟩
 simp[Instr.box,newVar,newRow]
theorem vAlloc_ok (hG:TabOk P tb) {T:TypeId} (R:Rel w0 ρ H w) (h:vAlloc tb T H=some (g,H')):Does P w0 ρ (Instr.alloc T true (.tuple #[])) w g H':=by
 obtain⟨zc,hz,h⟩:=ob_some.1 (show ob (zeroOf tb T) _=some (g,H')from h)
 rw[GH.newK_eq]at h;cases h
 obtain⟨d,hd,hT,hC⟩:=zeroOf_ok (ρ:=ρ) hG hz
 obtain⟨ρ',hle,rfl,R'⟩:=R.alloc T hC
 exact⟨_,_,_,run_alloc w hT,hle,R',.ptr (l:=⟨w.heap.size,0,d.zero.cells.size,.cells d.zero.cells T,.cells zc⟩) 0 (by simp[Rho.upd])⟩
theorem Rel.cells (R:Rel w0 ρ H w) {h:Nat} {cs:List GV} (hc:H.cells h=some cs) {l:Loc} (hl:ρ h=some l):ObjOk ρ w l (.cells cs):=by
 obtain⟨l',hl',_,ho⟩:=R.live h _ (GH.cells_eq.1 hc)
 rw[hl]at hl';cases hl';exact ho
theorem vLoad_ok (hG:TabOk P tb) {T:TypeId} (R:Rel w0 ρ H w) (hv:Rl ρ v V) (h:vLoad tb T v H=some g):∃(x:Value) (p:Nat×Nat) (l:Loc),v = .ptr p.1 p.2∧ρ p.1=some l∧(∃o,H.get p.1=some o)∧Rl ρ g x∧∀w',w'.heap[l.b]? = w.heap[l.b]? -> (Instr.loadAt T V).run P w' = .ok x w':=by
 obtain⟨p,hp,h⟩:=ob_some.1 (show ob v.asP _=some g from h)
 obtain⟨cs,hcs,h⟩:=ob_some.1 h
 obtain⟨t,ht,h⟩:=ob_some.1 h
 have hpe:=asP_eq hp
 have hg0:=GH.cells_eq.1 hcs
 rw[asP_eq hp]at hv
 obtain⟨l,hl,rfl⟩:=hv.ptr_inv
 obtain⟨cur,T',hb,hsz,hfit,hcell⟩:=R.cells hcs hl
 have hT:=hG.tab ht
 unfold ofCells at h
 cases ha:aggD t.desc with
 | true =>
  rw[ha]at h
  obtain⟨r,hs,h⟩:=ob_some.1 h
  cases h
  obtain⟨hbnd,rfl⟩:=slc_eq hs
  let vs:=((cur.toList.drop (l.off+p.2)).take t.size)
  have hlen:vs.length=t.size:=by simp[vs];omega
  have hrel:RlL ρ ((cs.drop p.2).take t.size) vs:=⟨by rw[hlen];simp;omega,fun i a b hai hbi=>by
   simp only[vs]at hbi
   rw[List.getElem?_take]at hai hbi
   by_cases hi:i<t.size
   ·rw[if_pos hi,List.getElem?_drop]at hai hbi
    obtain⟨x,h1,h2,_⟩:=hcell _ _ hai
    rw[Array.getElem?_toList,show l.off+p.2+i=l.off+(p.2+i) by omega,h1]at hbi
    cases hbi;exact h2
   ·rw[if_neg hi]at hai;cases hai⟩
  have hone:∀x∈vs,one x=true:=fun x hx=>by
   obtain⟨i,hi⟩:=List.mem_iff_getElem?.1 hx
   have hlt:=getElem?_lt hi
   have hai:((cs.drop p.2).take t.size)[i]? = some (cs[p.2+i]'(by omega)):=by
    rw[List.getElem?_take,if_pos (by omega),List.getElem?_drop,List.getElem?_eq_getElem (by omega)]
   simp only[vs]at hi
   rw[List.getElem?_take,if_pos (by omega),List.getElem?_drop,Array.getElem?_toList,show l.off+p.2+i=l.off+(p.2+i) by omega]at hi
   obtain⟨y,h1,_,h3⟩:=hcell (p.2+i) _ (List.getElem?_eq_getElem (by omega))
   rw[h1]at hi;cases hi;exact h3
  refine⟨_,p,l,hpe,hl,⟨_,hg0⟩,Rl.agg' hrel hone,fun w' hw'=> ?_⟩
  rw[hb]at hw'
  refine run_loadAll hT ha hlen (fun j x hx=> ?_)
  rw[add_none]
  have hlt:=getElem?_lt hx
  simp only[vs]at hx
  rw[List.getElem?_take,if_pos (by omega),List.getElem?_drop,Array.getElem?_toList]at hx
  simp[World.cell?,hw',hx]
 |false=>
  rw[ha]at h
  rw[cond_false,nth_eq]at h
  obtain⟨x,h1,h2,_⟩:=hcell _ _ h
  exact⟨x,p,l,hpe,hl,⟨_,hg0⟩,h2,fun w' hw'=>run_load1 hT ha (by rw[hb]at hw';simp[World.cell?,hw',h1])⟩
theorem vStore_ok (hG:TabOk P tb) {T:TypeId} (R:Rel w0 ρ H w) (hv:Rl ρ v V) (hu:Rl ρ u U) (h:vStore tb T v u H=some (g,H')):g = .un∧∃w' ρ',(Instr.storeAt T V U).run P w = .ok () w'∧ρ.le ρ'∧Rel w0 ρ' H' w':=by
 obtain⟨p,hp,h⟩:=ob_some.1 (show ob v.asP _=some (g,H')from h)
 obtain⟨cs,hcs,h⟩:=ob_some.1 h
 obtain⟨t,ht,h⟩:=ob_some.1 h
 obtain⟨uc,huc,h⟩:=ob_some.1 h
 obtain⟨hl1,h⟩:=bif_some.1 h
 obtain⟨h0,h⟩:=bif_some'.1 h
 obtain⟨c1,hput,h⟩:=ob_some.1 h
 rw[GH.setK_eq]at h
 cases h
 refine⟨rfl,?_⟩
 rw[asP_eq hp]at hv
 obtain⟨l,hl,rfl⟩:=hv.ptr_inv
 obtain⟨cur,T',hb,hsz,hfit,hcell⟩:=R.cells hcs hl
 obtain⟨us,eU,hus,hone⟩:=hu.cells huc
 have hT:=hG.tab ht
 have hlen:uc.length=t.size:=Nat.eq_of_beq_eq_true hl1
 have hul:uc.length=us.length:=hus.len
 have hne:uc≠[]:=by intro e;rw[e]at hlen;simp at hlen;rw[<-hlen]at h0;cases h0
 obtain⟨p1,p2,p3⟩:=gput_eq hput
 have p1:=p1 hne
 have hst:=run_storeCells_at P l.b (l.off+p.2) T' us 0 cur w hb (by omega) (fun x hx=>one_oneCell (hone x hx))
 simp only[Nat.add_zero]at hst
 refine⟨w.setRow l.b (cur.toList.take (l.off+p.2)++us++cur.toList.drop (l.off+p.2+us.length)).toArray,_,?_,R.set (GH.cells_eq.1 hcs) hl ?_ (fun k hk=>setRow_other w l.b k _ hk) ?_ (setRow_heap w l.b _ _ T' _ hb)⟩
 ·have hs:=hT.run_size w
  simp only[Instr.storeAt,Instr.sureAddr,storeVar,eU]
  have e:us.toArray.size=t.size:=by simp;omega
  simp[hs,e,hst]
 ·obtain⟨l',hl',hbase,_⟩:=R.live _ _ (GH.cells_eq.1 hcs)
  rw[hl]at hl';cases hl'
  exact⟨R.ext.os,R.ext.tape,R.ext.output,by simpa using R.ext.size,fun k hk hO=>by
   rw[setRow_other w l.b k _ (fun e=>by subst e;rcases hbase with hbase|hbase;exact absurd hbase (by omega);exact hO hbase)];exact R.ext.block k hk hO⟩
 ·refine⟨_,T',setRow_heap w l.b _ _ T' _ hb,?_,by omega,fun i x hx=> ?_⟩
  ·simp;omega
  ·rw[p3 i]at hx
   have hcl:cur.toList.length=cur.size:=by simp
   have key:(cur.toList.take (l.off+p.2)++us++cur.toList.drop (l.off+p.2+us.length)).toArray[l.off+i]? = if p.2<=i∧i<p.2+us.length then us[i - p.2]? else cur[l.off+i]?:=by
    rw[List.getElem?_toArray,List.append_assoc]
    by_cases hi:i<p.2
    ·rw[if_neg (by omega),List.getElem?_append_left (by simp;omega),List.getElem?_take,if_pos (by omega),Array.getElem?_toList]
    ·rw[List.getElem?_append_right (by simp;omega),List.length_take]
     have e1:min (l.off+p.2) cur.toList.length=l.off+p.2:=by omega
     rw[e1]
     by_cases hi2:i<p.2+us.length
     ·rw[if_pos (by omega),List.getElem?_append_left (by omega)]
      congr 1;omega
     ·rw[if_neg (by omega),List.getElem?_append_right (by omega),List.getElem?_drop,Array.getElem?_toList]
      congr 1;omega
   by_cases hi:p.2<=i∧i<p.2+uc.length
   ·rw[if_pos hi]at hx
    obtain⟨y,hy,hr⟩:=hus.get hx
    exact⟨y,by rw[key,if_pos (by omega)];exact hy,hr,hone y (List.mem_of_getElem? hy)⟩
   ·rw[if_neg hi]at hx
    obtain⟨y,hy,hr⟩:=hcell i x hx
    exact⟨y,by rw[key,if_neg (by omega)];exact hy,hr⟩
end
end Go.Gx
end
section
namespace Go.Gx
open Go Go.Sx Go.RowKit
section
variable {P:Program} {tb:TB} {ρ:Rho} {V U W:Value} {v u t g:GV} {w0:Base} {w:World} {H H':GH}

theorem rep_len (z:List GV):∀n,(rep z n).length=n*z.length
 |0=>by show([]:List GV).length=_;simp
 |n+1=>by
  have:rep z (n+1)=z++rep z n:=rfl
  rw[this,List.length_append,rep_len z n,Nat.add_mul];omega
theorem rep_get (z:List GV) (hz:0<z.length):∀(n i:Nat),i<n*z.length->(rep z n)[i]? = z[i%z.length]?
 |0,i,h=>by simp at h
 |n+1,i,h=>by
  have:rep z (n+1)=z++rep z n:=rfl
  rw[this]
  by_cases hi:i<z.length
  ·rw[List.getElem?_append_left hi,Nat.mod_eq_of_lt hi]
  ·rw[List.getElem?_append_right (by omega),rep_get z hz n (i - z.length) (by have:(n+1)*z.length=n*z.length+z.length:=Nat.succ_mul n z.length;omega),<-Nat.mod_eq_sub_mod (by omega)]
theorem rep_rel {zc:List GV} {z:Array Value} (hC:RlC ρ zc z) (h0:0<zc.length) (n:Nat):RlC ρ (rep zc n) ((Array.range (n*zc.length)).map (z[· % z.size]!)):=by
 have hl:zc.length=z.size:=by have:=hC.r.len;simpa using this
 have hz:0<z.size:=by omega
 have hget:∀i,i<n*zc.length->z[i%z.size]? = some (z[i%z.size]!):=fun i _=>by
  have hm:i%z.size<z.size:=Nat.mod_lt _ hz
  rw[getElem!_pos z (i%z.size) hm];simp
 refine⟨⟨by simp[rep_len],fun i a b ha hb=> ?_⟩,fun x hx=> ?_⟩
 ·have hi:=getElem?_lt ha
  rw[rep_len]at hi
  rw[rep_get zc h0 n i hi]at ha
  have hb':some (z[i%z.size]!)=some b:=by
   rw[<-hb,Array.getElem?_toList]
   simp[hi]
  cases hb'
  refine hC.r.at' (i%zc.length) a _ ha ?_
  rw[Array.getElem?_toList,hl]
  exact hget i hi
 ·simp only[Array.toList_map,List.mem_map]at hx
  obtain⟨i,hi,rfl⟩:=hx
  have hi:i<n*zc.length:=by simpa using hi
  exact getOne hC.one (hget i hi)
theorem gfillA_len {sz:Nat}:∀{l:List (Nat×GV)} {r0 cs:List GV},gfillA sz l r0=some cs->cs.length=r0.length
 | [],r0,cs,h=>by cases h;rfl
 |p::l,r0,cs,h=>by
  obtain⟨cc,hcc,h⟩:=ob_some.1 (show ob p.2.cells (fun cc=>bif Nat.beq cc.length sz then(bif Nat.beq sz 0 then none else ob (gput cc (Nat.mul p.1 sz) r0) (gfillA sz l))else none)=some cs from h)
  obtain⟨_,h⟩:=bif_some.1 h
  obtain⟨_,h⟩:=bif_some'.1 h
  obtain⟨c1,hg,h⟩:=ob_some.1 h
  rw[gfillA_len h]
  exact(gput_eq hg).2.1
theorem vBuildS_ok (hG:TabOk P tb) {T:TypeId} {n:Nat} {l:List (Nat×GV)} {parts:List (Nat×Value)} (R:Rel w0 ρ H w) (hp:RlP ρ l parts) (h:vBuildS tb T n l H=some (g,H')):Does P w0 ρ (Instr.buildSlice T n parts.toArray) w g H':=by
 obtain⟨te,hte,h⟩:=ob_some.1 (show ob (elemOf tb T) _=some (g,H')from h)
 obtain⟨zc,hz,h⟩:=ob_some.1 h
 obtain⟨hlen,h⟩:=bif_some.1 h
 obtain⟨hbig,h⟩:=bif_some.1 h
 obtain⟨h0,h⟩:=bif_some'.1 h
 obtain⟨cs,hfill,h⟩:=ob_some.1 h
 rw[GH.newK_eq]at h;cases h
 obtain⟨⟨d,hd,hde⟩,hE,htab⟩:=elemOf_ok hG hte
 obtain⟨dz,hdz,_,hC⟩:=zeroOf_ok (ρ:=ρ) hG hz
 rw[htab]at hdz;cases hdz
 have hlen:zc.length=te.2.size:=Nat.eq_of_beq_eq_true hlen
 have h0:te.2.size≠0:=fun e=>by rw[e]at h0;cases h0
 have hbig:n*te.2.size<16777216:=by simpa [Nat.blt_eq]using hbig
 have hrep:=rep_rel hC (by omega) n
 rw[hlen]at hrep
 obtain⟨a',f1,f2⟩:=gfillA_ok hp hrep hfill
 obtain⟨ρ',hle,rfl,R'⟩:=R.alloc te.1 f2
 have hsz:a'.size=n*te.2.size:=by
  have e1:=f2.r.len
  have:cs.length=(rep zc n).length:=gfillA_len hfill
  rw[this,rep_len,hlen]at e1
  simp at e1;omega
 refine⟨_,_,_,?_,hle,R',.sl (l:=⟨w.heap.size,0,a'.size,.cells a' te.1,.cells cs⟩) (cap:=n) (A:=⟨w.heap.size,0,none⟩) (by simp[Rho.upd]) (Nat.le_refl _) (.inr ⟨rfl,by simp[hsz]⟩)⟩
 have hu:=hd.run_und w
 rw[hde]at hu
 by_cases hn:n*te.2.size=0
 ·have hz0:n=0:=by rcases Nat.mul_eq_zero.1 hn with h|h;exact h;exact absurd h h0
  subst hz0
  have e0:(Array.range (0*te.2.size)).map (te.2.zero.cells[· % te.2.zero.cells.size]!)=(#[]:Array Value):=by simp
  rw[e0]at f1
  have e1:(Array.range 0).map (fun _=>(default:Value)) = #[]:=by simp
  simp[Instr.buildSlice,hu,hE.run_size w,newRow]
  simp[e1,f1]
 ·simp[Instr.buildSlice,hu,hE.run_size w,hE.run_zero w,hn,f1,newRow,show¬(16777216<n*te.2.size) by omega]
theorem vMake_ok (hG:TabOk P tb) {T:TypeId} (R:Rel w0 ρ H w) (hv:Rl ρ v V) (hu:Rl ρ u U) (h:vMake tb T v u H=some (g,H')):Does P w0 ρ (Instr.makeSlice T V U) w g H':=by
 obtain⟨te,hte,h⟩:=ob_some.1 (show ob (elemOf tb T) _=some (g,H')from h)
 obtain⟨zc,hz,h⟩:=ob_some.1 h
 obtain⟨k,hk,h⟩:=ob_some.1 h
 obtain⟨c,hc,h⟩:=ob_some.1 h
 obtain⟨heq,h⟩:=bif_some.1 h
 obtain⟨n,hn,h⟩:=ob_some.1 h
 obtain⟨hlen,h⟩:=bif_some.1 h
 obtain⟨hby,h⟩:=bif_some.1 h
 obtain⟨hn2,h⟩:=bif_some.1 h
 obtain⟨h0,h⟩:=bif_some'.1 h
 rw[fc_eq,GH.newK_eq]at h;cases h
 obtain⟨⟨d,hd,hde⟩,hE,htab⟩:=elemOf_ok hG hte
 obtain⟨dz,hdz,_,hC⟩:=zeroOf_ok (ρ:=ρ) hG hz
 rw[htab]at hdz;cases hdz
 have hlen:zc.length=te.2.size:=Nat.eq_of_beq_eq_true hlen
 have h0:te.2.size≠0:=fun e=>by rw[e]at h0;cases h0
 have hby:n*te.2.bytes<16777216:=by simpa [Nat.blt_eq]using hby
 have hn2:n<16777216:=by simpa [Nat.blt_eq]using hn2
 rw[asI_eq hk]at hv
 rw[asI_eq hc]at hu
 rw[eqI_eq]at heq
 have heq:=of_decide_eq_true heq
 rw[hv.int_inv,hu.int_inv,<-heq,asN_eq hn]
 have hrep:=rep_rel hC (by omega) n
 rw[hlen]at hrep
 obtain⟨ρ',hle,rfl,R'⟩:=R.alloc te.1 hrep
 obtain⟨iE,hiE,hs,hb,hze⟩:=hE.info
 have hund:=hd.und
 rw[hde]at hund
 have hbb:(iE.bytes:Int)*(n:Int)<=281474976710656:=by
  have e:(te.2.bytes:Int)*(n:Int)=((n*te.2.bytes:Nat):Int):=by rw[Nat.mul_comm];simp
  rw[hb,e];omega
 have hr:=run_make (P:=P) w T te.1 iE te.2.zero hund hiE hze k.1 c.1 n n (by omega) (Int.le_refl _) hbb (by omega)
 refine⟨_,_,_,?_,hle,R',.sl (l:=⟨w.heap.size,0,((Array.range (n*te.2.size)).map (te.2.zero.cells[· % te.2.zero.cells.size]!)).size,.cells ((Array.range (n*te.2.size)).map (te.2.zero.cells[· % te.2.zero.cells.size]!)) te.1,.cells (rep zc n)⟩) (cap:=n) (A:=⟨w.heap.size,0,none⟩) (by simp[Rho.upd]) (Nat.le_refl _) (.inr ⟨rfl,by simp⟩)⟩
 rw[hr]
 simp[madeCells,hs]

theorem vB_ok {o:Option GV} {O:Option Value} {d n:Nat} (hr:(o=none∧O=none)∨∃g x,o=some g∧O=some x∧Rl ρ g x) (h:vB o d=some n):(o=none∧O=none∧n=d)∨∃k:IntKind,O=some (.int k n):=by
 rcases hr with⟨rfl,rfl⟩|⟨g,x,rfl,rfl,hx⟩
 ·cases h;exact .inl ⟨rfl,rfl,rfl⟩
 ·obtain⟨a,ha,h⟩:=ob_some.1 (show ob g.asI _=some n from h)
  rw[asI_eq ha]at hx
  exact .inr ⟨a.1,by rw[hx.int_inv,asN_eq h]⟩
def RlO (ρ:Rho) (o:Option GV) (O:Option Value):Prop:=(o=none∧O=none)∨∃g x,o=some g∧O=some x∧Rl ρ g x
theorem run_bounds {sl:Bool} {len cap l h:Nat} {lo hi:Option GV} {LO HI:Option Value} (hlo:RlO ρ lo LO) (hhi:RlO ρ hi HI) (h1:vB lo 0=some l) (h2:vB hi len=some h) (hle:l<=h) (hc:h<=cap) (w:World):
  (Instr.sliceBounds sl len cap LO HI none).run P w = .ok (l,h,cap) w:=by
 rcases vB_ok hlo h1 with⟨_,rfl,rfl⟩|⟨k1,rfl⟩<;>rcases vB_ok hhi h2 with⟨_,rfl,rfl⟩|⟨k2,rfl⟩
 ·simp[Instr.sliceBounds]
 ·simp[Instr.sliceBounds,Instr.sliceBound,asIntOf,hc]
 ·simp[Instr.sliceBounds,Instr.sliceBound,asIntOf,hle]
 ·simp[Instr.sliceBounds,Instr.sliceBound,asIntOf,hle,hc]
theorem vSlice_ok (hG:TabOk P tb) {T:TypeId} {lo hi:Option GV} {LO HI:Option Value} (R:(∃w0 w,Rel w0 ρ H w)∨∀t,tb T=some t->tdA t.desc=none) (hv:Rl ρ v V) (hlo:RlO ρ lo LO) (hhi:RlO ρ hi HI) (h:vSlice tb T v lo hi H=some g):Comp P ρ (Instr.sliceAt T V LO HI none) g:=by
 obtain⟨l,hl,h⟩:=ob_some.1 (show ob (vB lo 0) _=some g from h)
 obtain⟨t,ht,h⟩:=ob_some.1 h
 have hT:=hG.tab ht
 cases hs:v.asStr with
 | some s =>
  rw[hs]at h
  obtain⟨e,he,h⟩:=ob_some.1 (show ob (vB hi s.2) _=some g from h)
  obtain⟨hd,h⟩:=bif_some.1 h
  obtain⟨hle,h⟩:=bif_some.1 (show(bif Nat.ble l e then _ else none)=some g from h)
  obtain⟨hlen,h⟩:=bif_some.1 h
  simp only[sn_eq]at h
  cases h
  have hle:l<=e:=by simpa using hle
  have hlen:e<=s.2:=by simpa using hlen
  rw[asStr_eq hs]at hv
  obtain⟨r,rfl,e1,e2⟩:=hv.str_inv
  have hsz:r.size=s.2:=by rw[e2];exact Lib.size_eq r
  have hx:=Lib.extract_data r l e
  refine⟨.string (r.extract l e),?_,fun w=> ?_⟩
  ·have:Rl ρ (.str (encB (bytesOfV (r.extract l e))) (bytesOfV (r.extract l e)).length) (.string (r.extract l e)):= .str _
   have e3:bytesOfV (r.extract l e)=((bytesOfV r).drop l).take (e - l):=hx
   rw[e3]at this
   rw[e1,encB_sub]
   have e4:(((bytesOfV r).drop l).take (e - l)).length=Nat.sub e l:=by
    simp only[List.length_take,List.length_drop,<-e2]
    show _=e - l
    omega
   rw[e4]at this
   exact this
  ·have hu:=hT.run_und w
   rw[tdStr_eq hd]at hu
   have hb:=run_bounds (P:=P) (sl:=false) (cap:=s.2) hlo hhi hl he hle hlen w
   simp[Instr.sliceAt,hu,Instr.slice,hsz,hb]
 | none =>
  rw[hs]at h
  cases hS:v.asS with
  | some s =>
   simp only[hS]at h
   obtain⟨E,hE,h⟩:=ob_some.1 (show ob (tdS t.desc) _=some g from h)
   obtain⟨te,hte,h⟩:=ob_some.1 h
   obtain⟨e,he,h⟩:=ob_some.1 h
   obtain⟨hsz,h⟩:=bif_some.1 (show(bif Nat.beq te.size s.2.2.2 then _ else none)=some g from h)
   obtain⟨hle,h⟩:=bif_some.1 h
   obtain⟨hlen,h⟩:=bif_some.1 h
   simp only[sn_eq]at h
   cases h
   have hsz:te.size=s.2.2.2:=Nat.eq_of_beq_eq_true hsz
   have hle:l<=e:=by simpa using hle
   have hlen:e<=s.2.2.1:=by simpa using hlen
   rw[asS_eq hS]at hv
   obtain⟨lc,cap,A,hlc,rfl,hc,ha⟩:=hv.sl_inv
   refine⟨.slice (if cap=l then some A else(some A).map (·.add (l*te.size))) (e - l) (cap - l),?_,fun w=> ?_⟩
   ·have e1:(if cap=l then some A else(some A).map (·.add (l*te.size)))=some (if cap=l then A else A.add (l*te.size)):=by split<;>rfl
    rw[e1]
    refine .sl hlc (show e - l<=cap - l by omega) ?_
    by_cases hcl:cap - l=0
    ·exact .inl hcl
    ·right
     rw[if_neg (by omega)]
     rcases ha with ha|⟨rfl,hb⟩
     ·omega
     ·rw[add_none]
      refine⟨by show _=(⟨lc.b,lc.off+(s.2.1+l*te.size),none⟩:Addr);rw[Nat.add_assoc],?_⟩
      have:cap*s.2.2.2=l*te.size+(cap - l)*te.size:=by rw[<-hsz,<-Nat.add_mul];congr 1;omega
      show lc.off+(s.2.1+l*te.size)+(cap - l)*te.size<=lc.size
      omega
   ·have hu:=hT.run_und w
    rw[tdS_eq hE]at hu
    have hb:=run_bounds (P:=P) (sl:=true) (cap:=cap) hlo hhi hl he hle (by omega) w
    simp[Instr.sliceAt,hu,Instr.slice,hb,(hG.tab hte).run_size w]
  | none =>
   simp only[hS]at h
   cases hz:v.isSnil with
   |true=>
    rw[hz]at h
    obtain⟨E,hE,h⟩:=ob_some.1 (show ob (tdS t.desc) _=some g from h)
    obtain⟨te,hte,h⟩:=ob_some.1 h
    obtain⟨e,he,h⟩:=ob_some.1 h
    obtain⟨h0,h⟩:=bif_some.1 h
    obtain⟨h1,h⟩:=bif_some.1 h
    cases h
    have h0:l=0:=Nat.eq_of_beq_eq_true h0
    have h1:e=0:=Nat.eq_of_beq_eq_true h1
    subst h0 h1
    rw[isSnil_eq hz]at hv
    rw[hv.snil_inv]
    refine⟨_,.snil,fun w=> ?_⟩
    have hu:=hT.run_und w
    rw[tdS_eq hE]at hu
    have hb:=run_bounds (P:=P) (sl:=true) (len:=0) (cap:=0) hlo hhi hl he (Nat.le_refl _) (Nat.le_refl _) w
    simp[Instr.sliceAt,hu,Instr.slice,hb,(hG.tab hte).run_size w]
   |false=>
   rw[hz]at h
   obtain⟨p,hp,h⟩:=ob_some.1 (show ob v.asP _=some g from h)
   obtain⟨E,hE,h⟩:=ob_some.1 h
   obtain⟨te,hte,h⟩:=ob_some.1 h
   obtain⟨e,he,h⟩:=ob_some.1 h
   obtain⟨cs,hcs,h⟩:=ob_some.1 h
   obtain⟨hfit,h⟩:=bif_some.1 h
   obtain⟨hle,h⟩:=bif_some.1 (show(bif Nat.ble l e then _ else none)=some g from h)
   obtain⟨hlen,h⟩:=bif_some.1 h
   obtain⟨h0,h⟩:=bif_some'.1 h
   simp only[sn_eq]at h
   cases h
   have hfit:p.2+E.1*te.size<=cs.length:=by simpa using hfit
   have hle:l<=e:=by simpa using hle
   have hlen:e<=E.1:=by simpa using hlen
   rw[asP_eq hp]at hv
   obtain⟨lc,hlc,rfl⟩:=hv.ptr_inv
   rcases R with⟨w0,w,R⟩|R
   rotate_left
   ·rw[R t ht]at hE;cases hE
   obtain⟨cur,T',hb,hcs2,hfit2,_⟩:=R.cells hcs hlc
   refine⟨.slice (some (if E.1=l then⟨lc.b,lc.off+p.2,none⟩else Addr.add ⟨lc.b,lc.off+p.2,none⟩ (l*te.size))) (e - l) (E.1 - l),?_,fun w=> ?_⟩
   ·refine .sl hlc (show e - l<=E.1 - l by omega) ?_
    by_cases hcl:E.1 - l=0
    ·exact .inl hcl
    ·right
     rw[if_neg (by omega),add_none]
     refine⟨by show _=(⟨lc.b,lc.off+(p.2+l*te.size),none⟩:Addr);rw[Nat.add_assoc],?_⟩
     have:E.1*te.size=l*te.size+(E.1 - l)*te.size:=by rw[<-Nat.add_mul];congr 1;omega
     show lc.off+(p.2+l*te.size)+(E.1 - l)*te.size<=lc.size
     omega
   ·have hu:=hT.run_und w
    rw[tdA_eq hE]at hu
    have hb:=run_bounds (P:=P) (sl:=false) (cap:=E.1) hlo hhi hl he hle hlen w
    simp[Instr.sliceAt,hu,Instr.sureAddr,hb,(hG.tab hte).run_size w]
end
end Go.Gx
end
section
namespace Go.Gx
open Go Go.Sx Go.RowKit
section
variable {P:Program} {tb:TB} {ρ:Rho} {V U W:Value} {v u t g:GV} {w0:Base} {w:World} {H H':GH}

structure Cont (ρ:Rho) (w:World) (sz n:Nat) (r:List GV) (V:Value) (ns:List Value):Prop where
 rel:RlL ρ r ns
 len:ns.length=n*sz
 one:∀x∈ns,Go.Sx.one x=true
 val:∃base cap,V = .slice base n cap∧n<=cap∧((base=none∧n=0∧cap=0)∨∃A,base=some A∧∀(j:Nat) x,ns[j]? = some x->w.cell? (A.add j)=some x)
theorem content_ok (R:Rel w0 ρ H w) {sz:Nat} {p:Nat×List GV} (hv:Rl ρ v V) (h:content H sz v=some p):∃ns,Cont ρ w sz p.1 p.2 V ns:=by
 unfold content at h
 cases hz:v.isSnil with
 |true=>
  rw[hz]at h;cases h
  rw[isSnil_eq hz]at hv
  exact⟨[],.nil,by simp,fun x hx=>by simp at hx,none,0,hv.snil_inv,Nat.le_refl _,.inl ⟨rfl,rfl,rfl⟩⟩
 | false =>
  rw[hz]at h
  obtain⟨s,hs,h⟩:=ob_some.1 (show ob v.asS _=some p from h)
  obtain⟨hsz,h⟩:=bif_some.1 h
  obtain⟨cs,hcs,h⟩:=ob_some.1 h
  obtain⟨r,hr,h⟩:=ob_some.1 h
  cases h
  have hsz:s.2.2.2=sz:=Nat.eq_of_beq_eq_true hsz
  obtain⟨hb,rfl⟩:=slc_eq hr
  have hb:s.2.1+s.2.2.1*sz<=cs.length:=hb
  rw[asS_eq hs]at hv
  obtain⟨l,cap,A,hl,rfl,hc,ha⟩:=hv.sl_inv
  obtain⟨cur,T,hh,hsize,hfit,hcell⟩:=R.cells hcs hl
  let ns:=(cur.toList.drop (l.off+s.2.1)).take (s.2.2.1*sz)
  have hlen:ns.length=s.2.2.1*sz:=by simp[ns];omega
  have hrel:RlL ρ ((cs.drop s.2.1).take (s.2.2.1*sz)) ns:=⟨by rw[hlen];simp;omega,fun i a b hai hbi=>by
   simp only[ns]at hbi
   rw[List.getElem?_take]at hai hbi
   by_cases hi:i<s.2.2.1*sz
   ·rw[if_pos hi,List.getElem?_drop]at hai hbi
    obtain⟨x,h1,h2,_⟩:=hcell _ _ hai
    rw[Array.getElem?_toList,show l.off+s.2.1+i=l.off+(s.2.1+i) by omega,h1]at hbi
    cases hbi;exact h2
   ·rw[if_neg hi]at hai;cases hai⟩
  have hnx:∀(j:Nat) x,ns[j]? = some x->j<s.2.2.1*sz∧cur[l.off+(s.2.1+j)]? = some x:=fun j x hx=>by
   have hlt:=getElem?_lt hx
   simp only[ns]at hx
   rw[List.getElem?_take,if_pos (by omega),List.getElem?_drop,Array.getElem?_toList,show l.off+s.2.1+j=l.off+(s.2.1+j) by omega]at hx
   exact⟨by omega,hx⟩
  refine⟨ns,hrel,hlen,fun x hx=> ?_,_,cap,rfl,hc,.inr ⟨A,rfl,fun j x hx=> ?_⟩⟩
  ·obtain⟨i,hi⟩:=List.mem_iff_getElem?.1 hx
   obtain⟨h1,h2⟩:=hnx i x hi
   obtain⟨y,h3,_,h4⟩:=hcell (s.2.1+i) _ (List.getElem?_eq_getElem (by omega))
   rw[h2]at h3;cases h3;exact h4
  ·obtain⟨h1,h2⟩:=hnx j x hx
   rcases ha with ha|⟨rfl,_⟩
   ·have:s.2.2.1=0:=by omega
    rw[this]at h1;simp at h1
   ·rw[add_none,show l.off+s.2.1+j=l.off+(s.2.1+j) by omega]
    simp[World.cell?,hh,h2]
theorem Cont.src {sz n:Nat} {r:List GV} {ns:List Value} (h:Cont ρ w sz n r V ns) {T E:TypeId} (hu:P.underlying T=some (.slice E)):Src P sz T V n ns w:=by
 obtain⟨base,cap,rfl,_,hh⟩:=h.val
 have hone:∀x∈ns,x.oneCell'=true:=fun x hx=>one_oneCell (h.one x hx)
 rcases hh with⟨rfl,rfl,rfl⟩|⟨A,rfl,hc⟩
 ·have:ns=[]:=List.eq_nil_of_length_eq_zero (by have:=h.len;simpa using this)
  subst this
  exact Src.ofNil w hu 0
 ·exact Src.ofSlice w hu A n cap ns h.len hc hone
theorem Cont.old {sz n:Nat} {r:List GV} {ns:List Value} (h:Cont ρ w sz n r V ns):(Builtin.firstCells sz n V).run P w.drew = .ok ns.toArray w.drew:=by
 obtain⟨base,cap,rfl,_,hh⟩:=h.val
 rcases hh with⟨rfl,rfl,rfl⟩|⟨A,rfl,hc⟩
 ·have:ns=[]:=List.eq_nil_of_length_eq_zero (by have:=h.len;simpa using this)
  subst this
  exact run_firstCells_none w.drew sz 0 0 0
 ·exact run_firstCells_some w.drew sz n A n cap ns h.len hc
theorem Rel.alloc' (R:Rel w0 ρ H w) {cs:List GV} {a:Array Value} (T:TypeId) (hl:cs.length<=a.size) (hr:∀(i:Nat) g,cs[i]? = some g->∃x,a[i]? = some x∧Rl ρ g x∧one x=true):
  ∃ρ',ρ.le ρ'∧ρ'=ρ.upd H.n ⟨w.heap.size,0,a.size,.cells a T,.cells cs⟩∧Rel w0 ρ' (H.new (.cells cs)) (w.alloc (.cells a T)):=by
 have e:Ext w (w.alloc (.cells a T)):=(Below.refl _ _).alloc (Nat.le_refl _) _
 have h:=R.new (o:= .cells cs) (l:=⟨w.heap.size,0,a.size,.cells a T,.cells cs⟩) (R.ext.trans e) (fun h o' l' hg hl=>by
  obtain⟨l,hl',_,ho⟩:=R.live h o' hg
  rw[hl]at hl';cases hl'
  exact⟨e.block _ ho.lt,Nat.ne_of_lt ho.lt⟩) (.inl R.ext.size) (by
  refine⟨a,T,heap_alloc_new w _,rfl,by simpa using hl,fun i g hg=> ?_⟩
  obtain⟨x,hx,hrx,h1⟩:=hr i g hg
  exact⟨x,by simpa using hx,hrx.le (Rho.le_upd (R.fresh _ (Nat.le_refl _))),h1⟩) (heap_alloc_new w _)
 exact⟨_,h.1,rfl,h.2⟩
theorem content_sl {sz:Nat} {p:Nat×List GV} {s:Nat×Nat×Nat×Nat} (h:content H sz v=some p) (hs:v.asS=some s):s.2.2.2=sz∧∃cs,H.cells s.1=some cs∧s.2.1+s.2.2.1*sz<=cs.length∧p.1=s.2.2.1:=by
 unfold content at h
 have hnz:v.isSnil=false:=by rw[asS_eq hs];rfl
 rw[hnz]at h
 obtain⟨s',hs',h⟩:=ob_some.1 (show ob v.asS _=some p from h)
 rw[hs]at hs';cases hs'
 obtain⟨hsz,h⟩:=bif_some.1 h
 obtain⟨cs,hcs,h⟩:=ob_some.1 h
 obtain⟨r,hr,h⟩:=ob_some.1 h
 cases h
 exact⟨Nat.eq_of_beq_eq_true hsz,cs,hcs,(slc_eq hr).1,rfl⟩
theorem app_place (R:Rel w0 ρ H w) {hh off k sz m cap:Nat} {l:Loc} {cs p2 q2:List GV} {ns1 ns2:List Value} (hcs:H.cells hh=some cs) (hl:ρ hh=some l) (c1:Cont ρ w sz k p2 (.slice (some ⟨l.b,l.off+off,none⟩) k cap) ns1)
  (r2:RlL ρ q2 ns2) (l2:ns2.length=m*sz) (o2:∀x∈ns2,one x=true) (hroom:k+m<=cap) (hbound:l.off+off+cap*sz<=l.size):
  ∃cur T',w.heap[l.b]? = some (.cells cur T' (0,0))∧l.off+off+cap*sz<=cur.size∧ρ.le (ρ.upd H.n ⟨l.b,l.off+off,l.size,(.cells (cur.toList.take (l.off+off+k*sz)++ns2++cur.toList.drop (l.off+off+k*sz+ns2.length)).toArray T'),.cells (p2++q2)⟩)∧
   Rel w0 (ρ.upd H.n ⟨l.b,l.off+off,l.size,(.cells (cur.toList.take (l.off+off+k*sz)++ns2++cur.toList.drop (l.off+off+k*sz+ns2.length)).toArray T'),.cells (p2++q2)⟩) ((H.del hh).new (.cells (p2++q2))) (w.setRow l.b (cur.toList.take (l.off+off+k*sz)++ns2++cur.toList.drop (l.off+off+k*sz+ns2.length)).toArray):=by
 obtain⟨cur,T',hb,hsize,hfit,hcell⟩:=R.cells hcs hl
 have hmul:k*sz+m*sz<=cap*sz:=by rw[<-Nat.add_mul];exact Nat.mul_le_mul_right _ hroom
 have hcl:cur.toList.length=cur.size:=by simp
 obtain⟨l0,hl0,hbase0,_⟩:=R.live _ _ (GH.cells_eq.1 hcs)
 rw[hl]at hl0;cases hl0
 have l1:=c1.len
 have e1:p2.length=k*sz:=by rw[c1.rel.len];exact l1
 have e2:q2.length=m*sz:=by rw[r2.len];exact l2
 have hnew:=(R.del hh).new (o:= .cells (p2++q2)) (l:=⟨l.b,l.off+off,l.size,(.cells (cur.toList.take (l.off+off+k*sz)++ns2++cur.toList.drop (l.off+off+k*sz+ns2.length)).toArray T'),.cells (p2++q2)⟩)
  (w':=w.setRow l.b (cur.toList.take (l.off+off+k*sz)++ns2++cur.toList.drop (l.off+off+k*sz+ns2.length)).toArray)
  ⟨R.ext.os,R.ext.tape,R.ext.output,by simpa using R.ext.size,fun k hk hO=>by
   rw[setRow_other w l.b k _ (fun e=>by subst e;rcases hbase0 with hbase|hbase;exact absurd hbase (by omega);exact hO hbase)];exact R.ext.block k hk hO⟩
  (fun h o' l' hg hl'=>by
   rw[GH.get_del]at hg
   by_cases e:h=hh
   ·rw[if_pos e]at hg;cases hg
   ·rw[if_neg e]at hg
    have hne:l'.b≠l.b:=fun e'=>e (R.inj h hh o' _ l' l hg (GH.cells_eq.1 hcs) hl' hl e')
    exact⟨setRow_other w l.b l'.b _ hne,hne⟩) hbase0 (by
   refine⟨_,T',setRow_heap w l.b _ _ T' _ hb,?_,?_,fun i x hx=> ?_⟩
   ·simp;omega
   ·show l.off+off+(p2++q2).length<=l.size
    rw[List.length_append,e1,e2];omega
   ·have hle0:ρ.le (ρ.upd (H.del hh).n ⟨l.b,l.off+off,l.size,(.cells (cur.toList.take (l.off+off+k*sz)++ns2++cur.toList.drop (l.off+off+k*sz+ns2.length)).toArray T'),.cells (p2++q2)⟩):=Rho.le_upd (R.fresh _ (Nat.le_refl _))
    have hil:=getElem?_lt hx
    rw[List.length_append,e1,e2]at hil
    obtain⟨y,hy,hr⟩:=(c1.rel.append r2).get hx
    refine⟨y,?_,hr.le hle0,?_⟩
    ·show(cur.toList.take (l.off+off+k*sz)++ns2++cur.toList.drop (l.off+off+k*sz+ns2.length)).toArray[l.off+off+i]? = some y
     rw[List.getElem?_toArray,List.append_assoc]
     by_cases hi:i<k*sz
     ·rw[List.getElem?_append_left (by simp;omega),List.getElem?_take,if_pos (by omega),Array.getElem?_toList]
      rw[List.getElem?_append_left (by omega)]at hy
      obtain⟨base',cap2,hV2,_,hh2⟩:=c1.val
      cases hV2
      rcases hh2 with⟨h1,_⟩|⟨A,hA,hAc⟩
      ·cases h1
      ·cases hA
       have:=hAc i y hy
       rw[add_none]at this
       simpa [World.cell?,hb]using this
     ·rw[List.getElem?_append_right (by simp;omega),List.length_take,show min (l.off+off+k*sz) cur.toList.length=l.off+off+k*sz by omega]
      rw[List.getElem?_append_right (by omega),l1]at hy
      rw[List.getElem?_append_left (by omega)]
      rw[<-hy];congr 1;omega
    ·rcases List.mem_append.1 (List.mem_of_getElem? hy)with hm|hm
     ·exact c1.one y hm
     ·exact o2 y hm) (setRow_heap w l.b _ _ T' _ hb)
 exact⟨cur,T',hb,by omega,hnew.1,hnew.2⟩
theorem vApp_ok (hG:TabOk P tb) {T T' ty:TypeId} (R:Rel w0 ρ H w) (hv:Rl ρ v V) (hu:Rl ρ u U) (h:vApp tb T T' v u H=some (g,H')):Does P w0 ρ (Builtin.append_ #[T,T'] ty #[V,U]) w g H':=by
 unfold vApp at h
 replace h:=bif_some.1 h
 have hTT:T=T':=Nat.eq_of_beq_eq_true h.1
 subst hTT
 replace h:=h.2
 obtain⟨te,hte,h⟩:=ob_some.1 h
 obtain⟨h0,h⟩:=bif_some'.1 h
 obtain⟨zc,hz,h⟩:=ob_some.1 h
 obtain⟨hzl,h⟩:=bif_some.1 h
 obtain⟨p,hp,h⟩:=ob_some.1 h
 obtain⟨q,hq,h⟩:=ob_some.1 h
 obtain⟨⟨d,hd,hde⟩,hE,htab⟩:=elemOf_ok hG hte
 obtain⟨dz,hdz,_,hC⟩:=zeroOf_ok (ρ:=ρ) hG hz
 rw[htab]at hdz;cases hdz
 have hzl:zc.length=te.2.size:=Nat.eq_of_beq_eq_true hzl
 have hzs:te.2.zero.cells.size=te.2.size:=by have:=hC.r.len;simp at this;omega
 have h0:te.2.size≠0:=fun e=>by rw[e]at h0;cases h0
 obtain⟨ns1,c1⟩:=content_ok R hv hp
 obtain⟨ns2,c2⟩:=content_ok R hu hq
 have hund:=hd.und
 rw[hde]at hund
 have src:=c2.src (P:=P) (T:=T) hund
 obtain⟨base,cap,hV,hcap,hbase⟩:=c1.val
 cases hq1:q.1 with
 |zero=>
  rw[hq1]at h
  cases h
  rw[hq1]at src
  have hns:ns2=[]:=List.eq_nil_of_length_eq_zero (by have:=c2.len;rw[hq1]at this;simpa using this)
  subst hns
  refine⟨V,w,ρ,?_,Rho.le_refl _,R,hv⟩
  have hru:=hd.run_und w
  rw[hde]at hru
  have hlen:=src.len w
  have hcl:=src.cells
  subst hV
  cases base with
  |none=>simp[Builtin.append_,hru,hE.run_size w,hlen,hcl,hcap]
  |some A=>simp[Builtin.append_,hru,hE.run_size w,hlen,hcl,hcap,storeCells]
 | succ m =>
  rw[hq1]at h
  simp only[sn_eq]at h
  obtain⟨hbig,h⟩:=bif_some.1 h
  rw[lap_eq,delSK_eq,GH.newK_eq]at h
  cases h
  have hbig:(p.1+q.1)*(te.2.bytes+1)<16777216:=by rw[hq1];simpa [Nat.blt_eq]using hbig
  have hb1:(p.1+q.1)*te.2.bytes+(p.1+q.1)<16777216:=by rw[Nat.mul_add,Nat.mul_one]at hbig;exact hbig
  have hq1':Nat.add p.1 (m+1)=p.1+q.1:=by rw[hq1];rfl
  have hrell:RlL ρ (p.2++q.2) (ns1++ns2):=c1.rel.append c2.rel
  have hlen12:(p.2++q.2).length=(p.1+q.1)*te.2.size:=by
   rw[hrell.len,List.length_append,c1.len,c2.len,<-Nat.add_mul]
  have hone12:∀x∈ns1++ns2,one x=true:=fun x hx=>by
   rcases List.mem_append.1 hx with hx|hx
   ·exact c1.one x hx
   ·exact c2.one x hx
  by_cases hroom:p.1+q.1<=cap
  ·
   have hvs:∃s,v.asS=some s:=by
    cases hzz:v.isSnil with
    |true=>
     rw[isSnil_eq hzz]at hv
     have:=hv.snil_inv
     rw[hV]at this
     injection this with _ _ e3
     omega
    |false=>
     unfold content at hp
     rw[hzz]at hp
     obtain⟨s,hs,_⟩:=ob_some.1 (show ob v.asS _=some p from hp)
     exact⟨s,hs⟩
   obtain⟨s,hs⟩:=hvs
   obtain⟨hsz,cs,hcs,hbb,hp1⟩:=content_sl hp hs
   rw[asS_eq hs]at hv
   obtain⟨l,cap',A,hl,hV',hc,ha⟩:=hv.sl_inv
   rw[hV]at hV'
   injection hV' with e1 e2 e3
   subst e1 e3
   rcases ha with ha|⟨rfl,hbound⟩
   ·omega
   rw[hsz]at hbound
   have c1':=c1
   rw[hV]at c1'
   obtain⟨cur,T',hh,hcs2,hle,R'⟩:=app_place R hcs hl c1' c2.rel c2.len c2.one hroom hbound
   have hr:=run_room (P:=P) (ty:=ty) hd hde hE hh src hroom hcs2
   have hdel:delS H v=H.del s.1:=by unfold delS;rw[hs]
   rw[hdel,hV]
   refine⟨_,_,_,hr,hle,R',?_⟩
   rw[hq1']
   exact .sl (l:=⟨l.b,l.off+s.2.1,l.size,_,_⟩) (by show(if H.n=H.n then _ else _)=_;exact if_pos rfl) hroom (.inr ⟨rfl,by show l.off+s.2.1+0+cap*te.2.size<=l.size;omega⟩)
  ·
   have hR':Rel w0 ρ (delS H v) w.drew:=by
    have:Rel w0 ρ (delS H v) w:=by
     unfold delS
     cases v.asS with
     |none=>exact R
     |some s=>exact R.del s.1
    exact this.ext' ((Below.refl _ _).drew)
   have hr:=run_grow (P:=P) (ty:=ty) hd hde hE (base:=base) (by rw[<-hV];exact c1.old) src (by omega) (by omega) (by omega)
   have hge:=grownCap_ge w (p.1+q.1) cap te.1
   have hn1:(ns1++ns2).length=(p.1+q.1)*te.2.size:=by rw[<-hrell.len];exact hlen12
   obtain⟨ρ',hle,rfl,R'⟩:=hR'.alloc' (cs:=p.2++q.2) (a:=(ns1++ns2).toArray++Builtin.zeroCells te.2.zero.cells (grownCap w (p.1+q.1) cap te.1 - (p.1+q.1))) te.1 (by simp only[Array.size_append,List.size_toArray];omega) (fun i x hx=>by
    obtain⟨y,hy,hr⟩:=hrell.get hx
    exact⟨y,by rw[Array.getElem?_append_left (by simpa using getElem?_lt hy)];simpa using hy,hr,hone12 y (List.mem_of_getElem? hy)⟩)
   rw[hV]
   refine⟨_,_,_,hr,hle,R',?_⟩
   rw[hq1']
   refine .sl (l:=⟨w.heap.size,0,((ns1++ns2).toArray++Builtin.zeroCells te.2.zero.cells (grownCap w (p.1+q.1) cap te.1 - (p.1+q.1))).size,.cells ((ns1++ns2).toArray++Builtin.zeroCells te.2.zero.cells (grownCap w (p.1+q.1) cap te.1 - (p.1+q.1))) te.1,.cells (p.2++q.2)⟩) (by simp[Rho.upd]) hge (.inr ⟨rfl,?_⟩)
   simp only[Array.size_append,List.size_toArray,size_zeroCells,hzs,hn1]
   have:grownCap w (p.1+q.1) cap te.1*te.2.size=(p.1+q.1)*te.2.size+(grownCap w (p.1+q.1) cap te.1 - (p.1+q.1))*te.2.size:=by
    rw[<-Nat.add_mul];congr 1;omega
   omega
end
end Go.Gx
end
