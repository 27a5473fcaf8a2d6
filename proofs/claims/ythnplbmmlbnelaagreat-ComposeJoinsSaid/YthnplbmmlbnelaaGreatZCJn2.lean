/- Models and proofs. Conditions: none. -/
import Derived.Test.YthnplbmmlbnelaaGreatZCJn1
import Derived.OpenShut
import Derived.JoinedCond
import Derived.Lib.AppendZeros
set_option linter.unusedVariables false
set_option linter.unusedSimpArgs false
set_option maxHeartbeats 4000000
set_option maxRecDepth 20000
section
namespace Go.Sx
open Go.RowKit
section
section
variable {P:Program} {rd:Option Nat} {c:Ax} {n:Sz} {σ:Fr} {M L:List bX} {Q:Exit->Act->World->Prop} {ops:Array Oper} {rest:List Oper} {d:Option Tmp} {ty:TypeId} {pos:String} {aft:Array Edge} {g:Option (Nat×Bool)} {α:Type} {e:nV α} {r:kJ α} {G:Act->World->Prop}
theorem UF (a b:ByteArray):(a==b)=decide (a=b):=by
 obtain⟨x⟩:=a
 obtain⟨y⟩:=b
 have:((⟨x⟩:ByteArray)==⟨y⟩)=(x==y):=rfl
 rw[this]
 by_cases h:x=y<;>simp[h]
def eR (a b:ByteArray):Bool:=a.toList==b.toList
theorem Gp {op:BinOp} {t:TypeId} {x y:Operand} {a b:ByteArray} {w:World}:(eqGuard op t x y (.string a) (.string b)).run P w = .ok () w:=by
 unfold eqGuard;cases op<;>simp
theorem eF {t t':TypeId} {x y:Operand} {a b:ByteArray} (hx:ev σ x=some (.string a)) (hy:ev σ y=some (.string b)):Y P c n σ M L ⟨d,.binOp .eql t x y t',ty,pos,aft,g⟩ (.bool (eR a b)):=fun ac w s _=>by
 simp[execOp,s.eval hx,s.eval hy,binOp,Op.stringOp,Gp,eR]
theorem Qm {t t':TypeId} {x y:Operand} {a b:ByteArray} (hx:ev σ x=some (.string a)) (hy:ev σ y=some (.string b)):Y P c n σ M L ⟨d,.binOp .neq t x y t',ty,pos,aft,g⟩ (.bool (!eR a b)):=fun ac w s _=>by
 simp[execOp,s.eval hx,s.eval hy,binOp,Op.stringOp,Gp,eR]
end
end
section
theorem bH.ix {M M':List bX} (l:List Nat) (hn:decide l.Nodup=true) (h:l.map (fun i=>M[i]?)=M'.map some):bH M M':=by
 have hn:l.Nodup:=of_decide_eq_true hn
 have hl:l.length=M'.length:=by simpa using congrArg List.length h
 refine⟨fun i=>l.getD i 0,fun i j hi hj e=> ?_,fun i m hm=> ?_⟩
 ·have h1:i<l.length:=by omega
  have h2:j<l.length:=by omega
  simp only[List.getD_eq_getElem?_getD,List.getElem?_eq_getElem h1,List.getElem?_eq_getElem h2,Option.getD_some]at e
  exact(List.getElem_inj hn).1 e
 ·have hi:i<l.length:=by rw[hl];exact(List.getElem?_eq_some_iff.1 hm).1
  have:=congrArg (fun q=>q[i]?) h
  simp only[List.getElem?_map,List.getElem?_eq_getElem hi,hm,Option.map_some,Option.some.injEq]at this
  simpa [List.getD_eq_getElem?_getD,List.getElem?_eq_getElem hi]using this
end
section
variable {P:Program} {rd:Option Nat} {c:Ax} {n:Sz} {σ:Fr} {M L:List bX} {Q:Exit->Act->World->Prop} {ops:Array Oper} {rest:List Oper} {d:Nat} {ty:TypeId} {pos:String} {aft:Array Edge} {x y:Operand} {v:Value} {K:Act->World->Prop}
abbrev vS (x:ByteArray):Value:= .string x
abbrev vB (x:Bool):Value:= .bool x
theorem fJ {β:Type} {p G:Prop} {_:Decidable p} {u:Option β} {r:β} (h:ck p u=some r) (k:p->u=some r->G):G:=k (Eb h).1 (Eb h).2
theorem fO {β γ:Type} {G:Prop} {u:Option β} {f:β->Option γ} {r:γ} (h:u.bind f=some r) (k:∀y,u=some y->f y=some r->G):G:=by
  obtain⟨y,h1,h2⟩:=bnd h
  exact k y h1 h2
theorem gO (l:List Nat) {L0:List bX} (h:l.map (L[·]?)=L0.map some):aV M L L0:=fun f hf=>by
  have hm:some f∈l.map (L[·]?):=h▸List.mem_map_of_mem hf
  obtain⟨j,_,hj⟩:=List.mem_map.1 hm
  exact bV j hj
theorem j_.ix (l:List Nat) {L0:List bX} (h:l.map (L[·]?)=L0.map some):j_ L L0:=fun f hf=>by
  have hm:some f∈l.map (L[·]?):=h▸List.mem_map_of_mem hf
  obtain⟨j,_,hj⟩:=List.mem_map.1 hm
  exact List.mem_of_getElem? hj
theorem jY {f:bX} (i:Nat) (h:L[i]? = some f):j_ L [f]:=j_.cons (List.mem_of_getElem? h) j_.nil
/-- which of the early loads must still hold,with the numbers of what they have read -/
def Vh (A:Nat->Bool):List (List Nat×List Nat)->List (Nat×List bX×List bX)->List (List Nat×List Nat×List bX×List bX)
  |_,[]=>[]
  |q,(j,Mx,Lx)::B=>bif A j||(Mx.isEmpty&&Lx.isEmpty)then Vh A q B else((q.headD ([],[])).1,(q.headD ([],[])).2,Mx,Lx)::Vh A q.tail B
theorem pH {A:Nat->Bool} (q:List (List Nat×List Nat)) {B:List (Nat×List bX×List bX)} (h:(Vh A q B).map (fun z=>(decide z.1.Nodup,z.1.map (M[·]?),z.2.1.map (L[·]?)))=(Vh A q B).map (fun z=>(true,z.2.2.1.map some,z.2.2.2.map some))):Cn A M L B:=by
  induction B generalizing q with
  |nil=>exact Cn.z
  | cons b B ih =>
    obtain⟨j,Mx,Lx⟩:=b
    cases ha:A j with
    |true=>exact Cn.b ha (ih q (by simpa [Vh,ha]using h))
    | false =>
      cases he:(Mx.isEmpty&&Lx.isEmpty)with
      | true =>
        obtain⟨e1,e2⟩:=Bool.and_eq_true_iff.1 he
        rw[List.isEmpty_iff]at e1 e2
        subst e1;subst e2
        exact Cn.h bH.nil j_.nil (ih q (by simpa [Vh,ha]using h))
      | false =>
        simp only[Vh,ha,he,Bool.or_self,cond_false,List.map_cons,List.cons.injEq,Prod.mk.injEq]at h
        exact Cn.h (bH.ix _ h.1.1 h.1.2.1) (j_.ix _ h.1.2.2) (ih q.tail h.2)
def hkB (A:Nat->Bool):List (Nat×List bX×List bX)->Bool
  | []=>true
  |(j,_,_)::H=>bif A j then hkB A H else false
theorem hkN {A:Nat->Bool} {H:List (Nat×List bX×List bX)}:bG A [] [] H:=by
  induction H with
  |nil=>exact bG.z
  |cons b B ih=>exact bG.h bH.nil j_.nil ih
theorem cE {T:Operand} (h:(ev σ T,ev σ x,Nat.blt d n.sz)=(some (.bool true),some v,true)) (k:J c n ((d,v)::σ) M L (wpList P ops Q rest)):J c n σ M L (wpList P ops Q (⟨some d,.pick T x y,ty,pos,aft,none⟩::rest)):=by
  simp only[Prod.mk.injEq]at h
  exact aJ (Cu h.1 h.2.1) h.2.2 k
theorem cI {T:Operand} (h:(ev σ T,ev σ y,Nat.blt d n.sz)=(some (.bool false),some v,true)) (k:J c n ((d,v)::σ) M L (wpList P ops Q rest)):J c n σ M L (wpList P ops Q (⟨some d,.pick T x y,ty,pos,aft,none⟩::rest)):=by
  simp only[Prod.mk.injEq]at h
  exact aJ (Ct h.1 h.2.1) h.2.2 k
theorem mM {vs:List Value} {i:Nat} (h:(ev σ x,vs[i]?,Nat.blt d n.sz)=(some (.tuple vs.toArray),some v,true)) (k:J c n ((d,v)::σ) M L (wpList P ops Q rest)):J c n σ M L (wpList P ops Q (⟨some d,.extract x i,ty,pos,aft,none⟩::rest)):=by
  simp only[Prod.mk.injEq]at h
  exact aJ (OV h.1 h.2.1) h.2.2 k
theorem Cf {t t':TypeId} {i:IntKind} {p q:Int} (h:(ev σ x,ev σ y,Nat.blt d n.sz)=(some (.int i p),some (.int i q),true)) (k:J c n ((d,.bool (decide (p≠q)))::σ) M L (wpList P ops Q rest)):J c n σ M L (wpList P ops Q (⟨some d,.binOp .neq t x y t',ty,pos,aft,none⟩::rest)):=by
  simp only[Prod.mk.injEq]at h
  exact aJ (CW h.1 h.2.1) h.2.2 k
theorem eC [eM P] {α:Type} {r:kJ α} {T E:TypeId} {s1 s2:Nat} {z:Value} {xs:List α} (hf:aM M L (Sl r v xs)) (h:(ev σ x,eM.tab P T,Nat.blt d n.sz)=(some v,some ⟨.slice E,s1,s2,z⟩,true)) (k:J c n ((d,.int .i64 xs.length)::σ) M L (wpList P ops Q rest)):J c n σ M L (wpList P ops Q (⟨some d,.call ⟨.builtin .len,#[x],#[T]⟩,ty,pos,aft,none⟩::rest)):=by
  simp only[Prod.mk.injEq]at h
  exact aJ (dR h.1 hf h.2.1) h.2.2 k
variable {l:List Oper} {m:List Nat} {k0:Nat} {H Bs:List (Nat×List bX×List bX)} {rs:List Nat}
theorem CC {id:Nat} {r:List Nat} (m:List Nat) (k0:Nat) (hm:P.follows .mixedOrders=true) (h:JR c n σ M L [] [] (RW P l.toArray Q (before m) (eN l) k0 r)) (hc:chk l m k0=true:=by decide +kernel) (e:List.range l.length=r:=by exact rfl) (hd:l.all iS=true:=by rfl):J c n σ M L ((Code.region id l.toArray true).wpr rd P Q):=Qc m k0 hm hc (JR.open e h) hd
theorem zE {i dd:Nat} {op:Op} (hi:l[i]? = some ⟨some dd,op,ty,pos,aft,none⟩) (hy:Y P c n σ [] [] ⟨some dd,op,ty,pos,aft,none⟩ v)
    (h:JR c n ((dd,v)::σ) M L H ((i,[],[])::Bs) (RW P l.toArray Q (before m) (eN l) k0 rs))
    (hk:Nat.blt i k0=true:=by exact rfl) (hl:fK op=false:=by exact rfl) (hd:Nat.blt dd n.sz=true:=by exact rfl):JR c n σ M L H Bs (RW P l.toArray Q (before m) (eN l) k0 (i::rs)):=dK hi bH.nil j_.nil hy hkN h hk hl hd
theorem dN {f:bX} (h:L[0]? =some f):aM M L f:=bV 0 h
theorem fP {f:bX} (h:L[1]? =some f):aM M L f:=bV 1 h
theorem rA {f:bX} (h:L[2]? =some f):aM M L f:=bV 2 h
theorem KS {f:bX} (h:L[4]? =some f):aM M L f:=bV 4 h
end
end Go.Sx
end
section
namespace Go.Sx
section
abbrev cU:=List Int
abbrev cS:=List (Int×Int)
abbrev acx:=List cU
abbrev Ny:=List cS
abbrev cH:=ByteArray×(List (ByteArray×Int×Int×Int×Int×Int))×(List (ByteArray×cS×(List (Int×cS))))
abbrev eK:=((ByteArray×(List (ByteArray×Int×Int×Int×Int×Int))×(List (ByteArray×cS×(List (Int×cS)))))×Int)
abbrev gN:=List (ByteArray×Int×Int×Int×Int×Int)
abbrev jR:=List (ByteArray×cS×(List (Int×cS)))
abbrev wA:=(List (ByteArray×cS×(List (Int×cS))))
abbrev qZ:=ByteArray×cS×(List (Int×cS))
abbrev Es:=cU×(List (ByteArray×Int×Int×Int×Int×Int))
abbrev De:=(List (ByteArray×Int×Int×Int×Int×Int))
abbrev AC:=Value×(List (Value×Value))
abbrev IA:=(Int×(List (ByteArray×cS×(List (Int×cS)))))
abbrev DU:=Int×(List (ByteArray×cS×(List (Int×cS))))
abbrev o_:=List (Value×Value)
abbrev Br:=ByteArray×Int×Int×Int×Int×Int
abbrev nL:=List (Int×cS)
abbrev EI:=((List (ByteArray×Int×Int×Int×Int×Int)))
abbrev DV:=((ByteArray×cS×(List (Int×cS))))
abbrev gY:=(Int×Int)
abbrev OB:=(ByteArray×(List (ByteArray×Int×Int×Int×Int×Int))×(List (ByteArray×cS×(List (Int×cS)))))×Int
abbrev Iz:=List (List (ByteArray×Int×Int×Int×Int×Int))
abbrev lR:=List Value
abbrev qT:=(cS×Int)
abbrev Jw:=(ByteArray×cS×(List (Int×cS)))
abbrev lS:=Int×Int
abbrev Jx:=(Int×Int×cU×List (Bool)×Int)
abbrev Jy:=Int×Int×cU×List (Bool)×Int
abbrev rT:=List Bool
abbrev Cj:=Value×Value
abbrev Sa:=(cU×Int×(List (ByteArray×Int×Int×Int×Int×Int)))
abbrev Sb:=cU×Int×(List (ByteArray×Int×Int×Int×Int×Int))
abbrev FZ:=List (Nat×Nat)
abbrev Sc:=Bool×(List (ByteArray×cS×(List (Int×cS))))
abbrev Sd:=cS×(List (Int×cS))×cS×(List (Int×cS))
abbrev Ck:=cS×cU
abbrev OC:=(Int×(List (ByteArray×Bool)))
abbrev OD:=Int×(List (ByteArray×Bool))
end
section
abbrev fX:Value:=Value.slice none 0 0
abbrev fL:List Value:=[vS (ByteArray.mk #[]),fX,fX]
abbrev XO:List Value:=[vS (ByteArray.mk #[]),vI (0:Int),vI (0:Int),vI (0:Int),vI (0:Int),vI (0:Int)]
abbrev SB:List Value:=[vI (2:Int),vI (0:Int)]
abbrev TT:List Value:=[vI (3:Int),vI (0:Int)]
abbrev vD4:List (Nat×Value):=[(0,Value.agg #[vS (ByteArray.mk #[116,117,114,110]),vI (2:Int),vI (0:Int),vI (0:Int),vI (0:Int),vI (0:Int)])]
abbrev XD:List Value:=[vI (0:Int),vI (0:Int)]
end
end Go.Sx
end
section
namespace Go.Sx
open Go.RowKit
section
def Pw {α β:Type} (f:α->β->bX) (la:List α) (lb:List β):bX where
 p w S:=la.length=lb.length∧∀(i:Nat) a b,la[i]? = some a->lb[i]? = some b->(f a b).p w S
 mono:=fun⟨h1,h2⟩ h=>⟨h1,fun i a b ha hb=>(f a b).mono (h2 i a b ha hb) h⟩
abbrev Wu {α:Type} (r:kJ α):lR->List (List α)->bX:=Pw (Sl r)
section
variable {M L:List bX} {α β:Type} {f:α->β->bX} {la cs:List α} {lb ds:List β} {a:α} {b:β}
theorem dB:aM M L (Pw f [] []):=fun _ _ _ _ _ _ _ _=>⟨rfl,fun i a b ha=>by simp at ha⟩
theorem KZ (n:Nat) (h:aM M L (f a b)):aM M L (Pw f (List.replicate n a) (List.replicate n b)):=fun w S T U h1 h2 h3 h4=>⟨by simp,fun i x y hx hy=>by
 obtain⟨_,rfl⟩:=List.mem_replicate.1 (List.mem_of_getElem? hx)
 obtain⟨_,rfl⟩:=List.mem_replicate.1 (List.mem_of_getElem? hy)
 exact h w S T U h1 h2 h3 h4⟩
theorem eH (h:aM M L (Pw f la lb)) (k:aM M L (Pw f cs ds)):aM M L (Pw f (la++cs) (lb++ds)):=fun w S T U h1 h2 h3 h4=>by
 obtain⟨a1,a2⟩:=h w S T U h1 h2 h3 h4
 obtain⟨b1,b2⟩:=k w S T U h1 h2 h3 h4
 refine⟨by simp[a1,b1],fun i x y hx hy=> ?_⟩
 by_cases e:i<la.length
 ·rw[List.getElem?_append_left e]at hx
  rw[List.getElem?_append_left (by omega)]at hy
  exact a2 i x y hx hy
 ·rw[List.getElem?_append_right (by omega)]at hx
  rw[List.getElem?_append_right (by omega),<-a1]at hy
  exact b2 _ x y hx hy
theorem KY (h:aM M L (f a b)):aM M L (Pw f [a] [b]):=KZ 1 h
theorem dO (h:aM M L (f a b)) (k:aM M L (Pw f la lb)):aM M L (Pw f (a::la) (b::lb)):=eH (KY h) k
theorem K_ (k:Nat) (h:aM M L (Pw f la lb)) (g:aM M L (f a b)):aM M L (Pw f (la.set k a) (lb.set k b)):=fun w S T U h1 h2 h3 h4=>by
 obtain⟨a1,a2⟩:=h w S T U h1 h2 h3 h4
 refine⟨by simp[a1],fun i x y hx hy=> ?_⟩
 by_cases e:k=i
 ·subst e
  have h5:=bN hx
  have h6:=bN hy
  rw[List.getElem?_set_self (by simpa using h5)]at hx
  rw[List.getElem?_set_self (by simpa using h6)]at hy
  cases hx;cases hy
  exact g w S T U h1 h2 h3 h4
 ·rw[List.getElem?_set_ne e]at hx hy
  exact a2 i x y hx hy
theorem bT [Inhabited α] [Inhabited β] {k:Int} (h:aM M L (Pw f la lb)) (h0:0<=k) (h1:k<lb.length):aM M L (f (at' la k) (at' lb k)):=h.mono fun {w U} hp=>by
 obtain⟨a1,a2⟩:=hp
 exact a2 k.toNat _ _ (pT h0 (by omega)) (pT h0 h1)
theorem bD {g:bX} (h:aM [] L g):eB M L M (g::L):=fun c w ⟨ho,F,hF,hL⟩=>⟨ho,F,hF,fun x hx=>by
 rcases List.mem_cons.1 hx with rfl|hx
 ·exact h w (BS c F) (fun _ _=>False) (BS c F) hL (fun i m hm=>by simp at hm) (fun _ h=>h) (fun _ _ h=>h.elim)
 ·exact hL x hx⟩
theorem cY (M1 M2:List bX) {g:bX} (hM:bH M (M1++M2)) (h:aM M1 L g):eB M L M2 (g::L):=fun c w t=>by
 obtain⟨ho,F,hF,hL⟩:=t.weak hM (fun _ h=>h)
 refine⟨ho,fun i k=>i<M2.length∧F (i+M1.length) k,⟨fun i m hm=> ?_,fun i k hk=>hF.rng _ k hk.2,fun i j k hi hj=>by have:=hF.dis _ _ k hi.2 hj.2;omega⟩,fun x hx=> ?_⟩
 ·have hi:=bN hm
  exact bX.same (hF.res (i+M1.length) m (by rw[List.getElem?_append_right (by omega),Nat.add_sub_cancel];exact hm)) (fun k hk=>⟨hi,hk⟩) (fun _ _ _=>rfl)
 ·have wide:∀k,BS c F k->BS c (fun i k=>i<M2.length∧F (i+M1.length) k) k:=fun k hk=>⟨hk.1,fun i hi=>hk.2 _ hi.2⟩
  rcases List.mem_cons.1 hx with rfl|hx
  ·refine h w (BS c F) (fun i k=>i<M1.length∧F i k) _ hL (fun i m hm=> ?_) wide (fun i k hk=> ?_)
   ·have hi:=bN hm
    exact bX.same (hF.res i m (by rw[List.getElem?_append_left hi];exact hm)) (fun k hk=>⟨hi,hk⟩) (fun _ _ _=>rfl)
   ·refine⟨.inr (hF.rng i k hk.2).1,fun j hj=> ?_⟩
    have:=hF.dis _ _ k hk.2 hj.2
    omega
  ·exact bX.same (hL x hx) wide (fun _ _ _=>rfl)
end
section
variable {M L:List bX} {α β γ:Type} {e:nV α} {r:kJ α}
theorem PF {q:kJ γ} {w:World} {S F:Nat->Prop} {v:Value} {vs:List Value} {zs:List (Value×List γ)} (hA:DY wC w F v vs) (hl:vs.length=zs.length) (hv:∀(i:Nat) u z,vs[i]? = some u->zs[i]? = some z->z.1=u∧El q w S z.1 z.2) (hF:∀k,F k->S k):El (kJ.sl q) w S v zs:=by
 have hA2:=hA
 obtain⟨hn,_,hh⟩:=hA
 rcases hh with⟨rfl,rfl⟩|⟨b,off,cap,T',cur,rfl,hFb,hb,hk,hc,ht⟩
 ·have:zs=[]:=List.eq_nil_of_length_eq_zero (by simpa using hl.symm)
  subst this
  exact⟨none,0,rfl,by simp,.inl rfl⟩
 ·refine⟨_,cap,by rw[hl],by omega,.inr ⟨b,off,rfl,hF _ hFb,fun i x hx=> ?_⟩⟩
  have hi:=bN hx
  have hu:vs[i]? = some (vs[i]'(by omega)):=List.getElem?_eq_getElem _
  obtain⟨e1,h1⟩:=hv i _ x hu hx
  refine⟨[x.1],fun jj u hu2=> ?_,rfl,h1⟩
  rw[e1]at hu2
  have:=DY.cell hA2 hu (j:=jj) (u:=u) hu2
  simp only[IF,fM]at this
  exact this
theorem VE {w:World} {S F:Nat->Prop} {v:Value} {vs:List Value} {xss:List (List α)} (hA:DY wC w F v vs) (hP:(Wu r vs xss).p w S) (hF:∀k,F k->S k):El (kJ.sl r) w S v (vs.zip xss):=by
 obtain⟨hl,hP⟩:=hP
 refine PF hA (by simp[hl]) (fun i u z hu hz=> ?_) hF
 rw[List.getElem?_zip_eq_some]at hz
 rw[hu]at hz
 obtain⟨h1,h2⟩:=hz
 refine⟨(Option.some.inj h1).symm,hP i _ _ ?_ h2⟩
 rw[hu];exact h1
theorem EL {i j:Nat} {v:Value} {vs:List Value} {xss:List (List α)} (hi:M[i]? = some (Ar wC v vs)) (hj:L[j]? = some (Wu r vs xss)):aM M L (S2 r v (vs.zip xss) xss):=fun w S T U hL hM hS hT=>by
 have hP:=bX.wide (hL _ (List.mem_of_getElem? hj)) hS
 refine⟨VE (hM i _ hi) hP (hT i),?_⟩
 rw[List.map_snd_zip]
 have:=hP.1
 omega
end
end
section
section
variable {P:Program} {rd:Option Nat} {c:Ax} {n:Sz} {σ:Fr} {M L:List bX} {Q:Exit->Act->World->Prop} {ops:Array Oper} {rest:List Oper} {d:Option Tmp} {ty:TypeId} {pos:String} {aft:Array Edge} {g:Option (Nat×Bool)} {α:Type} {e:nV α} {r:kJ α}
@[reducible] def tg {β:Type} (_:Nat) (x:β):β:=x
def Ws {α:Type} (e:nV α) (r:kJ α):Prop:=r.sz=e.sz∧∀{w S es x},r.R w S es x->es=e.enc x∧(e.enc x).all one=true
theorem Qj [eM P] (hfit:Ws e r) {w:World} {S:Nat->Prop} {v:Value} {xs:List α} {T E:TypeId} {s1 s2:Nat} {z:Value} (h:El r w S v xs) (hT:eM.tab P T=some ⟨.slice E,s1,s2,z⟩):
  Src P e.sz T v xs.length (cellsOf e xs) w∧(cellsOf e xs).all one=true:=by
 obtain⟨hsz,h1⟩:=hfit
 obtain⟨cs,hs,ho,hl,hc⟩:=El.src h hT (fun {w S es x} hr=>by rw[(h1 hr).1];exact(h1 hr).2)
 have:cs=cellsOf e xs:=GI (by rw[hl,hsz]) (fun i x hx j u hu=>by
  obtain⟨es,hre,he⟩:=hc i x hx
  rw[<-hsz]
  exact he j u (by rw[(h1 hre).1];exact hu))
 subst this
 rw[<-hsz]
 exact⟨hs,ho⟩
end
end
end Go.Sx
end
section
namespace Go.Sx
open Go.RowKit Go.ChangeShapes Go.WideShapes Go.ChangeAt Go.Proofs Go.Joins Go.Deep
section
variable {H:Type} {enc:TypeId×Value->H} {P:Program} {w:World} {base:Nat} {spare:Nat->Bool} {held:Bool}
theorem Ey {α:Type} (l:List α) (d:α):l=(List.range l.length).map fun i=>l.getD i d:=by
 apply List.ext_getElem?
 intro i
 by_cases h:i<l.length
 ·simp[h]
 ·simp[h]
theorem LD {r:Reach} {b0:Nat} {t:TypeId} {fs:Array Field} {v:Value} {d:DataW H} {p:List MemPlace} (hs:P.underlying t=some (.struct fs)) (hone:oneCellFields P fs=true) (hC:P.cellsOf t=fs.size)
  (hv:Value.okWide P w r b0 t v) (h:DataW.Trod enc P w base spare held t v d p):
  ∃(V:Nat->Value) (Y:Nat->DataW H×List MemPlace) (n:Nat),v = .agg ((List.range fs.size).map V).toArray∧∀(i:Nat) (f:Field),fs[i]? = some f->DataW.trod enc P w base spare held n f.type [V i]=some (Y i):=by
 obtain⟨cs,rfl,hsz⟩:=okWide_struct hs hv
 obtain⟨fuel,hf⟩:=h
 obtain⟨xs,n,_,_,_,hlen,hg⟩:=DataW.trod_struct hs hf
 refine⟨fun i=>cs.toList.getD i undef,fun i=>xs.getD i (.nil,[]),n,?_,fun i f hi=> ?_⟩
 ·congr 1
  apply Array.toList_inj.1
  show cs.toList=(List.range fs.size).map fun i=>cs.toList.getD i undef
  have h2:fs.size=cs.toList.length:=by rw[<-hC,<-hsz];rfl
  rw[h2]
  exact Ey cs.toList undef
 ·have hlt:i<fs.size:=(Array.getElem?_eq_some_iff.1 hi).1
  obtain⟨o,k⟩:=hone_of hone i f hi
  have g:=hg i f hi
  have hcl:(Value.cells (.agg cs)).toList=cs.toList:=rfl
  have hl:i<cs.toList.length:=by rw[Array.length_toList];omega
  rw[o,k,hcl,take1_drop _ _ undef hl]at g
  rw[g]
  have hx:i<xs.length:=by omega
  simp[hx]
end
end Go.Sx
end
section
namespace Go.Sx
open Go.RowKit
section
section
variable {P:Program} {rd:Option Nat} {c:Ax} {n:Sz} {σ:Fr} {M L:List bX} {d:Option Tmp} {ty:TypeId} {pos:String} {aft:Array Edge} {g:Option (Nat×Bool)}
def IJ (s:ByteArray) (i:Int):Int:=((s[i.toNat]?).map fun b=>(b.toNat:Int)).getD 0
theorem uZ [eM P] {T:TypeId} {s1 s2:Nat} {z:Value} {x:Operand} {s:ByteArray} (hx:ev σ x=some (.string s)) (hT:eM.tab P T=some ⟨.string,s1,s2,z⟩):
  Y P c n σ M L ⟨d,.call ⟨.builtin .len,#[x],#[T]⟩,ty,pos,aft,g⟩ (.int .i64 (s.size:Int)):=fun a w t _=>by
 simp[execOp,resolve,invoke,builtin,t.eval hx,Builtin.len_,(eM.ok hT).run_und w,goInt]
theorem Hi [eM P] {T:TypeId} {s1 s2:Nat} {z:Value} {x y:Operand} {s:ByteArray} {i:Int} (hx:ev σ x=some (.string s)) (hy:ev σ y=some (.int .i64 i)) (hT:eM.tab P T=some ⟨.string,s1,s2,z⟩) (h:0<=i∧i<(s.size:Int)):
  Y P c n σ M L ⟨d,.index T x y,ty,pos,aft,g⟩ (.int .u8 (IJ s i)):=fun a w t _=>by
 have hlt:i.toNat<s.size:=by omega
 have hs:s[i.toNat]? = some s[i.toNat]:=getElem?_pos s i.toNat hlt
 simp[execOp,t.eval hx,t.eval hy,Instr.index,asIntOf,(eM.ok hT).run_und w,h.1,hs,IJ]
theorem Ay {t t':TypeId} {x y:Operand} {a b:ByteArray} (hx:ev σ x=some (.string a)) (hy:ev σ y=some (.string b)) (h:(a.size:Int)+(b.size:Int)<=1099511627):Y P c n σ M L ⟨d,.binOp .add t x y t',ty,pos,aft,g⟩ (.string (a++b)):=fun ac w s _=>by
 have h2:¬9223372036854775807<(a.size:Int)+(b.size:Int):=by omega
 simp[execOp,s.eval hx,s.eval hy,binOp,Op.stringOp,Gp,h2]
variable {α:Type} {e:nV α}
theorem Fe [eM P] (j:Nat) {T E:TypeId} {s1 s2 s3 s4:Nat} {z z':Value} {dE:TypeDesc} {x hi:Operand} {v:Value} {i:Int} {xs:List α} (h:0<=i∧i<=xs.length) (hx:ev σ x=some v) (hhi:ev σ hi=some (.int .i64 i)) (hf:M[j]? = some (Ar e v xs))
  (hT:eM.tab P T=some ⟨.slice E,s1,s2,z⟩) (hE:eM.tab P E=some ⟨dE,s3,s4,z'⟩) (h3:e.sz=s3):
  aW P c n σ M L ⟨d,.slice T x none (some hi) none,ty,pos,aft,g⟩ (fun v':Value=>v') (fun v'=>M.set j (Ar e v' (xs.take i.toNat))) (fun _=>L):=fun a w s t=>by
 subst h3
 obtain⟨h0,h1⟩:=h
 obtain⟨F,hF⟩:=t.res hf
 have hlen:(xs.take i.toNat).length=i.toNat:=by rw[List.length_take];omega
 have hdl:(cellsOf e (xs.take i.toNat))=(cellsOf e xs).take (i.toNat*e.sz):=by
  have:cellsOf e xs=cellsOf e (xs.take i.toNat)++cellsOf e (xs.drop i.toNat):=by rw[<-tA,List.take_append_drop]
  have hl:(cellsOf e (xs.take i.toNat)).length=i.toNat*e.sz:=by rw[eZ,hlen]
  rw[this,<-hl,List.take_left]
 have hall:(cellsOf e (xs.take i.toNat)).all one=true:=by
  rw[hdl,List.all_eq_true];intro u hu;exact List.all_eq_true.1 hF.2.1 u (List.mem_of_mem_take hu)
 obtain⟨hl,h1c,hh⟩:=hF
 rcases hh with⟨rfl,rfl⟩|⟨b,off,cap,T',cur,rfl,hFb,hb,hk,hc,ht⟩
 ·have hi0:i=0:=by simp at h1;omega
  subst hi0
  have hrun:(execOp a.eval ⟨d,.slice T x none (some hi) none,ty,pos,aft,g⟩).run P w = .ok (.value (.slice none 0 0)) w:=by
   simp[execOp,s.eval hx,s.eval hhi,Instr.sliceAt,Instr.slice,(eM.ok hT).run_und w,Instr.sliceBounds,Instr.sliceBound,asIntOf,(eM.ok hE).run_size w]
  simp only[Oper.wp,hrun,Oper.upon]
  refine⟨.slice none 0 0,rfl,?_⟩
  have:M.set j (Ar e (.slice none 0 0) (([]:List α).take (0:Int).toNat))=M:=by
   apply List.ext_getElem?
   intro q
   by_cases eq:q=j
   ·subst eq;rw[List.getElem?_set_self (bN hf),hf];rfl
   ·rw[List.getElem?_set_ne (Ne.symm eq)]
  rw[this];exact t
 ·have hle:i<=(xs.length:Int):=h1
  have hlc:i<=(cap:Int):=by omega
  have hrun:(execOp a.eval ⟨d,.slice T x none (some hi) none,ty,pos,aft,g⟩).run P w = .ok (.value (.slice (some ⟨b,off,none⟩) i.toNat cap)) w:=by
   simp[execOp,s.eval hx,s.eval hhi,Instr.sliceAt,Instr.slice,(eM.ok hT).run_und w,Instr.sliceBounds,Instr.sliceBound,asIntOf,(eM.ok hE).run_size w,h0,hlc,fM]
  simp only[Oper.wp,hrun,Oper.upon]
  refine⟨_,rfl,?_⟩
  refine t.upd hf rfl rfl rfl (Nat.le_refl _) fun F hF _=>⟨fun _ _ _=>rfl,F,?_,fun _ h=> .inl h⟩
  obtain⟨_,_,hh⟩:=hF
  rcases hh with⟨hv,_⟩|⟨b',off',cap',T'',cur',hv,hFb',hb',_⟩
  ·cases hv
  ·cases hv
   rw[hb]at hb';cases hb'
   refine⟨by rw[hlen];omega,hall,.inr ⟨b,off,cap,T',cur,by rw[hlen],hFb',hb,by rw[hlen];omega,hc,?_⟩⟩
   rw[hlen,hdl,<-ht,List.take_take,Nat.min_eq_left (Nat.mul_le_mul_right _ (by omega))]
theorem Mr {w:World} {F:Nat->Prop} {v:Value} {xs:List α} {k:Int} {sz:Nat} (hF:DY e w F v xs) (h0:0<=k) (h1:k<=(xs.length:Int)):DY e w F (LS v (0:Int).toNat k.toNat sz) (xs.take k.toNat):=by
 have hlen:(xs.take k.toNat).length=k.toNat:=by rw[List.length_take];omega
 have hdl:(cellsOf e (xs.take k.toNat))=(cellsOf e xs).take (k.toNat*e.sz):=by
  have:cellsOf e xs=cellsOf e (xs.take k.toNat)++cellsOf e (xs.drop k.toNat):=by rw[<-tA,List.take_append_drop]
  have hl:(cellsOf e (xs.take k.toNat)).length=k.toNat*e.sz:=by rw[eZ,hlen]
  rw[this,<-hl,List.take_left]
 have hall:(cellsOf e (xs.take k.toNat)).all one=true:=by
  rw[hdl,List.all_eq_true];intro u hu;exact List.all_eq_true.1 hF.2.1 u (List.mem_of_mem_take hu)
 obtain⟨hl,_,hh⟩:=hF
 rcases hh with⟨rfl,rfl⟩|⟨b,off,cap,T',cur,rfl,hFb,hb,hk,hc,ht⟩
 ·have hi0:k=0:=by simp at h1;omega
  subst hi0
  exact⟨by simp,rfl,.inl ⟨rfl,rfl⟩⟩
 ·have e1:LS (.slice (some ⟨b,off,none⟩) xs.length cap) (0:Int).toNat k.toNat sz = .slice (some ⟨b,off,none⟩) k.toNat cap:=by
   unfold LS
   simp[fM]
  rw[e1]
  refine⟨by rw[hlen];omega,hall,.inr ⟨b,off,cap,T',cur,by rw[hlen],hFb,hb,by rw[hlen];omega,hc,?_⟩⟩
  rw[hlen,hdl,<-ht,List.take_take,Nat.min_eq_left (Nat.mul_le_mul_right _ (by omega))]
theorem EM (j:Nat) {v:Value} {xs:List α} {k:Int} {sz:Nat} (hf:M[j]? = some (Ar e v xs)) (h:0<=(0:Int)∧0<=k∧k<=(xs.length:Int)):eB M L (M.set j (Ar e (LS v (0:Int).toNat k.toNat sz) (xs.take k.toNat))) L:=fun c w t=>
 t.upd hf rfl rfl rfl (Nat.le_refl _) fun F hF _=>⟨fun _ _ _=>rfl,F,Mr hF h.2.1 h.2.2,fun _ h=> .inl h⟩
end
end
section
def bX.and (f g:bX):bX where
 p w S:=f.p w S∧g.p w S
 mono:=fun h k=>⟨f.mono h.1 k,g.mono h.2 k⟩
def JM {β:Type} (q:kJ β):kJ (List β) where
 sz:=1
 pos:=Nat.one_pos
 R w S cs xs:=∃v,cs=[v]∧El q w S v xs
 len:=by rintro _ _ _ _ ⟨v,rfl,_⟩;rfl
 mono:=by rintro _ _ _ _ _ _ ⟨v,rfl,h⟩ k;exact⟨v,rfl,h.mono k⟩
def nV.rep1 {α:Type} (e:nV α):kJ α where
 sz:=e.sz
 pos:=e.pos
 R _ _ cs x:=cs=e.enc x∧(e.enc x).all one=true
 len h:=by rw[h.1];exact e.len _
 mono h _:=h
theorem nV.rep1_fit2 {α:Type} (e:nV α):Ws e e.rep1:=⟨rfl,fun h=>h⟩
theorem DY.rep1 {α:Type} {e:nV α} {w:World} {F:Nat->Prop} {v:Value} {xs:List α} (h:DY e w F v xs):El e.rep1 w F v xs:=by
 have h':=h
 obtain⟨hl,h1,hh⟩:=h
 rcases hh with⟨rfl,rfl⟩|⟨b,off,cap,T,cur,rfl,hF,hb,hk,hc,ht⟩
 ·exact⟨none,0,rfl,by simp,.inl rfl⟩
 ·refine⟨_,cap,rfl,by omega,.inr ⟨b,off,rfl,hF,fun i x hx=>⟨e.enc x,fun j u hu=> ?_,rfl,?_⟩⟩⟩
  ·have:=DY.cell h' hx hu
   simp only[IF,fM]at this
   exact this
  ·refine List.all_eq_true.2 fun u hu=>List.all_eq_true.1 h1 u ?_
   simp only[cellsOf,List.mem_flatMap];exact⟨x,List.mem_of_getElem? hx,hu⟩
section
variable {P:Program} {rd:Option Nat} {c:Ax} {n:Sz} {σ:Fr} {M L:List bX} {Q:Exit->Act->World->Prop} {ops:Array Oper} {rest:List Oper} {G:Act->World->Prop} {GR:Act->World->List (Nat×World)->List (Nat×(World->Prop))->Prop} {H Bs:List (Nat×List bX×List bX)}
variable {dt:Option Tmp} {ty:TypeId} {pos:String} {aft:Array Edge} {g:Option (Nat×Bool)}
variable {α δ:Type} {e:nV (α×δ)} {f:α->δ->bX} {r:kJ δ} {v u:Value} {us us2:List α} {ds ds2:List δ}
structure Ur (e:nV (α×δ)) (f:α->δ->bX) (r:kJ δ):Prop where
 sz:r.sz=e.sz
 fwd:∀{w S a d},(f a d).p w S->r.R w S (e.enc (a,d)) d
 bwd:∀{w S cs d},r.R w S cs d->∃a,cs=e.enc (a,d)∧(f a d).p w S
 one:∀{w S a d},(f a d).p w S->(e.enc (a,d)).all one=true
def Rz (e:nV (α×δ)) (v:Value) (us:List α) (ds:List δ):bX where
 p w S:=us.length=ds.length∧El e.rep1 w S v (us.zip ds)
 mono:=fun h k=>⟨h.1,h.2.mono k⟩
def Ad (e:nV (α×δ)) (v:Value) (us:List α) (ds:List δ):bX where
 p w F:=us.length=ds.length∧DY e w F v (us.zip ds)
 mono:=fun h k=>⟨h.1,(Ar e v (us.zip ds)).mono h.2 k⟩
theorem KQ {i:Nat} {a:α} {d:δ} (ha:us[i]? = some a) (hd:ds[i]? = some d):(us.zip ds)[i]? = some (a,d):=List.getElem?_zip_eq_some.2 ⟨ha,hd⟩
theorem uV (h:us.length=ds.length):(us.zip ds).length=ds.length:=by rw[List.length_zip];omega
theorem Ua (h:us.length=ds.length):us.zip ds++us2.zip ds2=(us++us2).zip (ds++ds2):=(List.zip_append h).symm
theorem OO (k:Nat) (a:α) (d:δ):∀(us:List α) (ds:List δ),∀k,(us.zip ds).set k (a,d)=(us.set k a).zip (ds.set k d)
 | [],_,k=>by cases k<;>simp
 |_::_,[],k=>by cases k<;>simp
 |x::us,y::ds,0=>by simp
 |x::us,y::ds,k+1=>by simp[OO k a d us ds k]
theorem GK {α:Type} (Pr:Nat->α->Prop):∀m:Nat,(∀i,i<m->∃a,Pr i a)->∃us:List α,us.length=m∧∀(i:Nat) a,us[i]? = some a->Pr i a
 |0,_=>⟨[],rfl,fun i a h=>by simp at h⟩
 | m + 1, h => by
  obtain⟨us,hl,hu⟩:=GK Pr m fun i hi=>h i (by omega)
  obtain⟨a,ha⟩:=h m (by omega)
  refine⟨us++[a],by simp[hl],fun i b hb=> ?_⟩
  by_cases hi:i<us.length
  ·rw[List.getElem?_append_left hi]at hb;exact hu i b hb
  ·rw[List.getElem?_append_right (by omega)]at hb
   have h0:i - us.length=0:=by have:=bN hb;simp at this;omega
   rw[h0]at hb;simp at hb
   subst hb
   have:i=m:=by omega
   subst this;exact ha
theorem TF (hD:Ur e f r) {w:World} {S:Nat->Prop} (h:El r w S v ds):∃us:List α,us.length=ds.length∧El e.rep1 w S v (us.zip ds)∧∀(i:Nat) a d,us[i]? = some a->ds[i]? = some d->(f a d).p w S:=by
 obtain⟨a,cap,hv,hb,h⟩:=h
 rcases h with rfl|⟨b,off,ha,hS,h⟩
 ·exact⟨[],rfl,⟨a,cap,hv,hb,.inl rfl⟩,fun i a d h=>by simp at h⟩
 ·obtain⟨us,hl,hu⟩:=GK (fun i a=>∃d,ds[i]? = some d∧(∀j u,(e.enc (a,d))[j]? = some u->w.cell? ⟨b,off+(i*r.sz+j),none⟩=some u)∧(f a d).p w S) ds.length fun i hi=>by
   obtain⟨es,h1,h2⟩:=h i ds[i] (List.getElem?_eq_getElem hi)
   obtain⟨a,rfl,ha⟩:=hD.bwd h2
   exact⟨a,_,List.getElem?_eq_getElem hi,h1,ha⟩
  refine⟨us,hl,⟨a,cap,by rw[uV hl];exact hv,by rw[uV hl];exact hb,.inr ⟨b,off,ha,hS,fun i x hx=> ?_⟩⟩,fun i a d h1 h2=> ?_⟩
  ·obtain⟨a,d⟩:=x
   obtain⟨ha,hd⟩:=List.getElem?_zip_eq_some.1 hx
   obtain⟨d',hd',h1,h2⟩:=hu i a ha
   rw[hd]at hd';cases hd'
   exact⟨_,fun j u hj=>by rw[show e.rep1.sz=r.sz from hD.sz.symm];exact h1 j u hj,rfl,hD.one h2⟩
  ·obtain⟨d',hd',_,h3⟩:=hu i a h1
   rw[h2]at hd';cases hd'
   exact h3
theorem St.open (hD:Ur e f r) {w:World} (h:aM [] L (Sl r v ds)) (t:St c M L w):∃us,St c M (Rz e v us ds::Pw f us ds::L) w:=by
 obtain⟨ho,F,hF,hL⟩:=t
 have hs:=h w (BS c F) (fun _ _=>False) (BS c F) hL (fun i m hm=>by simp at hm) (fun _ h=>h) (fun _ _ h=>h.elim)
 obtain⟨us,h1,h2,h3⟩:=TF hD hs
 refine⟨us,ho,F,hF,fun x hx=> ?_⟩
 rcases List.mem_cons.1 hx with rfl|hx
 ·exact⟨h1,h2⟩
 rcases List.mem_cons.1 hx with rfl|hx
 ·exact⟨h1,h3⟩
 ·exact hL x hx
theorem mS (hD:Ur e f r) (h:aM [] L (Sl r v ds)) (k:∀us,J c n σ M (Rz e v us ds::Pw f us ds::L) G):J c n σ M L G:=fun a w s t=>by
 obtain⟨us,hu⟩:=St.open hD h t
 exact k us a w s hu
theorem oJ (hD:Ur e f r) (h:aM [] L (Sl r v ds)) (k:∀us,JR c n σ M (Rz e v us ds::Pw f us ds::L) H Bs GR):JR c n σ M L H Bs GR:=fun a w X Y s t hX hY=>by
 obtain⟨us,hu⟩:=St.open hD h t
 exact k us a w X Y s hu hX hY
theorem BV {i:Nat} (hi:M[i]? = some (Ad e v us ds)):aM M L (Rz e v us ds):=(aM.res i hi).mono fun h=>⟨h.1,DY.rep1 h.2⟩
theorem cV {i j:Nat} (hD:Ur e f r) (hi:M[i]? = some (Ad e v us ds)) (hj:L[j]? = some (Pw f us ds)):aM M L (Sl r v ds):=fun w S T U hL hM hS hT=>by
 obtain⟨hl,hp⟩:=hL _ (List.mem_of_getElem? hj)
 obtain⟨_,hA⟩:=hM i _ hi
 have hA:=DY.rep1 hA
 obtain⟨a,cap,hv,hb,h⟩:=hA
 rw[uV hl]at hv hb
 refine⟨a,cap,hv,hb,?_⟩
 rcases h with h|⟨b,off,ha,hF,h⟩
 ·refine .inl (List.eq_nil_of_length_eq_zero ?_)
  rw[<-uV hl,h];rfl
 ·refine .inr ⟨b,off,ha,hT i b hF,fun k d hd=> ?_⟩
  have hk:k<us.length:=by rw[hl];exact bN hd
  have ha':=List.getElem?_eq_getElem hk
  obtain⟨es,h1,h2,h3⟩:=h k _ (KQ ha' hd)
  have hf:=hp k _ _ ha' hd
  exact⟨es,by rw[hD.sz];exact h1,by rw[h2];exact hD.fwd (bX.wide hf hS)⟩
theorem e_ {f g:bX} (h:aM M L (f.and g)):aM M L f:=h.mono fun h=>h.1
theorem fA {f g:bX} (h:aM M L (f.and g)):aM M L g:=h.mono fun h=>h.2
theorem aM.and {f g:bX} (h:aM M L f) (k:aM M L g):aM M L (f.and g):=fun w S T U h1 h2 h3 h4=>⟨h w S T U h1 h2 h3 h4,k w S T U h1 h2 h3 h4⟩
theorem Ou [Inhabited α] [Inhabited δ] {w:World} {S:Nat->Prop} (h:(Rz e v us ds).p w S) {i:Int} (h0:0<=i) (h1:i<ds.length):(e.enc (at' us i,at' ds i)).all one=true∧∀j u,(e.enc (at' us i,at' ds i))[j]? = some u->w.cell? (IF v (i.toNat*e.sz+j))=some u:=by
 obtain⟨hl,h⟩:=h
 obtain⟨es,⟨rfl,h2⟩,h3⟩:=sl_cell h (KQ (pT h0 (show i<us.length by omega)) (pT h0 h1))
 exact⟨h2,h3⟩
theorem wD [eM P] [Inhabited α] [Inhabited δ] {T:TypeId} {s1 s2 q o:Nat} {z:Value} {dT:TypeDesc} {x:Operand} {i:Int} {gv:α->Value} (hx:ev σ x=some (HN v (i.toNat*q+o))) (hf:aM M L (Rz e v us ds))
  (hT:eM.tab P T=some ⟨dT,s1,s2,z⟩) (hd:Bb dT=false) (hs:e.sz=q) (hc:∀a d,(e.enc (a,d))[o]? = some (gv a)) (h:0<=i∧i<ds.length):
  Y P c n σ M L ⟨dt,.load T x,ty,pos,aft,g⟩ (gv (at' us i)):=fun a w s t=>by
 obtain⟨S,h'⟩:=hf.st t
 have:=(Ou h' h.1 h.2).2 o _ (hc _ _)
 rw[hs]at this
 simp[execOp,s.eval hx,HN,Cg (eM.ok hT) hd this]
theorem dY [eM P] [Inhabited α] [Inhabited δ] {T:TypeId} {s2 q:Nat} {z:Value} {dT:TypeDesc} {x:Operand} {i:Int} {cs:List Value} (hx:ev σ x=some (HN v (i.toNat*q))) (hf:aM M L (Rz e v us ds)) (hcs:e.enc (at' us i,at' ds i)=cs)
  (hT:eM.tab P T=some ⟨dT,cs.length,s2,z⟩) (hd:Bb dT=true) (hq:e.sz=q) (h:0<=i∧i<ds.length):Y P c n σ M L ⟨dt,.load T x,ty,pos,aft,g⟩ (.agg cs.toArray):=fun a w s t=>by
 obtain⟨S,h'⟩:=hf.st t
 have hes:=(Ou h' h.1 h.2).2
 subst hcs hq
 have:=AB (w:=w) (A:=IF v (i.toNat*e.sz)) (cs:=e.enc (at' us i,at' ds i)) (eM.ok hT) hd rfl (fun j u hu=>by rw[Kf];exact hes j u hu)
 simp[execOp,s.eval hx,HN,this]
theorem Dl {g0 g:bX} (i:Nat) (hi:M[i]? = some g0) (h:∀{w F},g0.p w F->g.p w F):eB M L (M.set i g) L:=fun c w t=>by
 obtain⟨ho,F,hF,hL⟩:=t
 have hlt:=bN hi
 refine⟨ho,F,⟨fun j m hm=> ?_,hF.rng,hF.dis⟩,hL⟩
 by_cases ej:i=j
 ·subst ej
  rw[List.getElem?_set_self hlt]at hm
  cases hm
  exact h (hF.res i _ hi)
 ·rw[List.getElem?_set_ne ej]at hm
  exact hF.res j m hm
theorem xI (e:nV (α×δ)):eB M L (Ad e (.slice none 0 0) [] []::M) L:=eB.add fun _=>⟨rfl,by simp,rfl,.inl ⟨rfl,rfl⟩⟩
theorem aW.conv {A:Type} {o:Oper} {val:A->Value} {M1 M2 L1 L2:A->List bX} (h:aW P c n σ M L o val M1 L1) (k:∀x,eB (M1 x) (L1 x) (M2 x) (L2 x)):aW P c n σ M L o val M2 L2:=fun a w s t=>
 oP (fun _ _ ⟨x,h1,h2⟩=>⟨x,h1,k x c _ h2⟩) (h a w s t)
theorem eT [eM P] {T E:TypeId} {k s1 s2 s3 s4:Nat} {z z':Value} {dE:TypeDesc} {ps:List (Nat×Operand)} (us:List α) (ds:List δ) (vs:List (Nat×Value))
  (hv:ps.map (fun p=>(p.1,ev σ p.2))=vs.map (fun p=>(p.1,some p.2))) (hT:eM.tab P T=some ⟨.slice E,s1,s2,z⟩) (hE:eM.tab P E=some ⟨dE,s3,s4,z'⟩) (hs:Nat.ble (k*s3) 16777216=true)
  (hfill:∀init:Array Value,init.size=k*s3->Instr.fill (fun i=>some (i*s3,s3)) init vs=some (cellsOf e (us.zip ds)).toArray)
  (hk:(us.zip ds).length=k) (hl:Nat.ble (us.zip ds).length 140737488355328=true) (h1:(cellsOf e (us.zip ds)).all one=true) (hu:us.length=ds.length):
  aW P c n σ M L ⟨dt,.buildSlice T k ps.toArray,ty,pos,aft,g⟩ (fun v:Value=>v) (fun v=>Ad e v us ds::M) (fun _=>L):=
 (dJ (us.zip ds) vs hv hT hE hs hfill hk hl h1).conv fun v=>Dl 0 rfl fun h=>⟨hu,h⟩
theorem St.appendD [eM P] {w:World} (t:St c M L w) {i:Nat} {x:Value} {T E ty:TypeId} {s1 s2 s4:Nat} {z z':Value} {dE:TypeDesc} (hf:M[i]? = some (Ad e v us ds)) (h2:us2.length=ds2.length) (hs:Src P e.sz T x ds2.length (cellsOf e (us2.zip ds2)) w) (h1y:(cellsOf e (us2.zip ds2)).all one=true)
  (hT:eM.tab P T=some ⟨.slice E,s1,s2,z⟩) (hE:eM.tab P E=some ⟨dE,e.sz,s4,z'⟩) (h4:Nat.ble s4 1024=true) (hl:(ds.length:Int)+ds2.length<=1099511627) (hz:z'.cells.size=e.sz):
  ∃v' w',(Builtin.append_ #[T,T] ty #[v,x]).run P w = .ok v' w'∧St c (M.set i (Ad e v' (us++us2) (ds++ds2))) L w':=by
 have h4':s4<=1024:=by simpa using h4
 obtain⟨_,h1⟩:=t.res hf
 have hlt:=bN hf
 have hb:((us.zip ds).length+(us2.zip ds2).length)*s4<=140737488355328:=by
  rw[uV h1.1,uV h2]
  exact Nat.le_trans (Nat.mul_le_mul (show ds.length+ds2.length<=1099511627 by omega) h4') (by decide)
 have t1:=Dl (g:=Ar e v (us.zip ds)) (L:=L) i hf (fun h=>h.2) c w t
 obtain⟨v',w',hr,ht⟩:=t1.append (i:=i) (ty:=ty) (xs:=us.zip ds) (ys:=us2.zip ds2) (List.getElem?_set_self hlt) (by rw[uV h2];exact hs) h1y hT hE hb (by rw[uV h1.1,uV h2];omega) hz
 refine⟨v',w',hr,?_⟩
 have:=Dl (g:=Ad e v' (us++us2) (ds++ds2)) (L:=L) i (List.getElem?_set_self (by simpa using hlt)) (fun h=>⟨by simp[h1.1,h2],by rw[<-Ua h1.1];exact h⟩) c w' ht
 simpa [List.set_set]using this
theorem aW.appendD [eM P] (i j:Nat) {x y:Operand} {T E:TypeId} {s1 s2 s3 s4:Nat} {z z':Value} {dE:TypeDesc} (hx:ev σ x=some v) (hy:ev σ y=some u) (hf:M[i]? = some (Ad e v us ds)) (hg:M[j]? = some (Ad e u us2 ds2))
  (hT:eM.tab P T=some ⟨.slice E,s1,s2,z⟩) (hE:eM.tab P E=some ⟨dE,s3,s4,z'⟩) (h3:e.sz=s3) (h4:Nat.ble s4 1024=true) (hl:(ds.length:Int)+ds2.length<=1099511627) (hz:z'.cells.size=s3):
  aW P c n σ M L ⟨dt,.call ⟨.builtin .append,#[x,y],#[T,T]⟩,ty,pos,aft,g⟩ (fun v':Value=>v') (fun v'=>M.set i (Ad e v' (us++us2) (ds++ds2))) (fun _=>L):=fun a w s t=>by
 subst h3
 obtain⟨F,h2,hF⟩:=t.res hg
 obtain⟨v',w',hr,ht⟩:=t.appendD (ty:=ty) hf h2 (by have:=DY.src hF hT;rwa[uV h2]at this) hF.2.1 hT hE h4 hl hz
 simp only[Oper.wp,CK s hx hy w,hr,Result.andThen_ok,Oper.upon]
 exact⟨v',rfl,ht⟩
theorem BH [eM P] (i:Nat) {x y:Operand} {T E:TypeId} {s1 s2 s3 s4:Nat} {z z':Value} {dE:TypeDesc} (hx:ev σ x=some v) (hy:ev σ y=some u) (hf:M[i]? = some (Ad e v us ds)) (hg:aM M L (Rz e u us2 ds2))
  (hT:eM.tab P T=some ⟨.slice E,s1,s2,z⟩) (hE:eM.tab P E=some ⟨dE,s3,s4,z'⟩) (h3:e.sz=s3) (h4:Nat.ble s4 1024=true) (hl:(ds.length:Int)+ds2.length<=1099511627) (hz:z'.cells.size=s3):
  aW P c n σ M L ⟨dt,.call ⟨.builtin .append,#[x,y],#[T,T]⟩,ty,pos,aft,g⟩ (fun v':Value=>v') (fun v'=>M.set i (Ad e v' (us++us2) (ds++ds2))) (fun _=>L):=fun a w s t=>by
 subst h3
 obtain⟨F,h2,hF⟩:=hg.st t
 obtain⟨hs,h1⟩:=Qj e.rep1_fit2 hF hT
 obtain⟨v',w',hr,ht⟩:=t.appendD (ty:=ty) hf h2 (by rwa[uV h2]at hs) h1 hT hE h4 hl hz
 simp only[Oper.wp,CK s hx hy w,hr,Result.andThen_ok,Oper.upon]
 exact⟨v',rfl,ht⟩
theorem La [eM P] [Inhabited α] [Inhabited δ] (j:Nat) {T:TypeId} {s2 k o q:Nat} {z:Value} {dT:TypeDesc} {x y:Operand} {yv:Value} {cs:List Value} {i:Int} (ya:α) (yd:δ) (h:0<=i∧i<ds.length) (hx:ev σ x=some (HN v (i.toNat*q+o))) (hy:ev σ y=some yv)
  (hf:M[j]? = some (Ad e v us ds)) (hq:e.sz=q) (hu:yv.cells=cs.toArray) (hk:cs.length=k) (ho:Nat.ble (o+k) q=true) (hyv:e.enc (ya,yd)=(e.enc (at' us i,at' ds i)).take o++cs++(e.enc (at' us i,at' ds i)).drop (o+k)) (h1u:cs.all one=true) (hT:eM.tab P T=some ⟨dT,k,s2,z⟩):
  aW P c n σ M L ⟨none,.store T x y,ty,pos,aft,none⟩ (fun _:Unit=>undef) (fun _=>M.set j (Ad e v (us.set i.toNat ya) (ds.set i.toNat yd))) (fun _=>L):=fun a w s t=>by
 obtain⟨_,h1⟩:=t.res hf
 have hlt:=bN hf
 have hul:=h1.1
 have t1:=Dl (g:=Ar e v (us.zip ds)) (L:=L) j hf (fun h=>h.2) c w t
 have ha:at' (us.zip ds) i=(at' us i,at' ds i):=by
  have:=KQ (pT h.1 (show i<us.length by omega)) (pT h.1 h.2)
  have h':=pT (xs:=us.zip ds) h.1 (by rw[uV h1.1];exact h.2)
  rw[this]at h';exact(Option.some.inj h').symm
 have key:=Dj (P:=P) (c:=c) (n:=n) (σ:=σ) (M:=M.set j (Ar e v (us.zip ds))) (L:=L) (ty:=ty) (pos:=pos) (aft:=aft) (T:=T) (xs:=us.zip ds) j (ya,yd) ⟨h.1,by rw[uV h1.1];exact h.2⟩ hx hy (List.getElem?_set_self hlt) hq hu hk ho (by rw[ha];exact hyv) h1u hT
 refine(key.conv (M2:=fun _=>M.set j (Ad e v (us.set i.toNat ya) (ds.set i.toNat yd))) (L2:=fun _=>L) fun _=> ?_) a w s t1
 have:=Dl (M:=(M.set j (Ar e v (us.zip ds))).set j (Ar e v ((us.zip ds).set i.toNat (ya,yd)))) (g:=Ad e v (us.set i.toNat ya) (ds.set i.toNat yd)) (L:=L) j (List.getElem?_set_self (by simpa using hlt)) (fun h=>⟨by simp[h1.1],by rw[<-OO 0 ya yd];exact h⟩)
 simpa [List.set_set]using this
theorem Fj [eM P] {T E:TypeId} {s1 s2:Nat} {z:Value} {x:Operand} (hx:ev σ x=some (.slice none 0 0)) (hT:eM.tab P T=some ⟨.slice E,s1,s2,z⟩):
  Y P c n σ M L ⟨dt,.call ⟨.builtin .cap,#[x],#[T]⟩,ty,pos,aft,g⟩ (.int .i64 0):=fun a w s _=>by
 simp[execOp,resolve,invoke,builtin,s.eval hx,Builtin.cap_,(eM.ok hT).run_und w,goInt]
theorem HD [eM P] {T E:TypeId} {s1 s2 s3 s4:Nat} {z z':Value} {dE:TypeDesc} {x hi:Operand} (hx:ev σ x=some (.slice none 0 0)) (hhi:ev σ hi=some (.int .i64 0)) (hT:eM.tab P T=some ⟨.slice E,s1,s2,z⟩) (hE:eM.tab P E=some ⟨dE,s3,s4,z'⟩):
  Y P c n σ M L ⟨dt,.slice T x none (some hi) none,ty,pos,aft,g⟩ (.slice none 0 0):=fun a w s _=>by
 simp[execOp,s.eval hx,s.eval hhi,Instr.sliceAt,Instr.slice,(eM.ok hT).run_und w,Instr.sliceBounds,Instr.sliceBound,asIntOf,(eM.ok hE).run_size w]
theorem BW [eM P] {β:Type} {e:nV β} {x y:Operand} {k:Int} (z0:β) {T N E:TypeId} {kn:IntKind} {s1 s2 s3 s4 s5 s6:Nat} {z z' zn:Value} {dE:TypeDesc} (hx:ev σ x=some (.slice none 0 0)) (hy:ev σ y=some (.int .i64 k))
  (hT:eM.tab P T=some ⟨.slice E,s1,s2,z⟩) (hN:eM.tab P N=some ⟨.int kn,s5,s6,zn⟩) (hE:eM.tab P E=some ⟨dE,s3,s4,z'⟩) (h3:e.sz=s3) (h4:Nat.ble s4 1024=true) (h:0<k∧k<=1099511627) (hz:z'.cells=(e.enc z0).toArray) (h1:(e.enc z0).all one=true):
  aW P c n σ M L ⟨dt,.call ⟨.builtin .append,#[x,y],#[T,N]⟩,ty,pos,aft,g⟩ (fun v':Value=>v') (fun v'=>Ar e v' (List.replicate k.toNat z0)::M) (fun _=>L):=fun a w s t=>by
 subst h3
 have h4':s4<=1024:=by simpa using h4
 obtain⟨m,rfl⟩:∃m:Nat,k=(m:Int):=⟨k.toNat,by omega⟩
 have hne:e.enc z0≠[]:=by
  intro h;have:=e.len z0;rw[h]at this;have:=e.pos;simp at *;omega
 obtain⟨iE,hiE,hs,hby,hze⟩:=(eM.ok hE).info
 simp only at hs hby hze
 have hmb:m*s4<=281474976710656:=Nat.le_trans (Nat.mul_le_mul (show m<=1099511627 by omega) h4') (by decide)
 have hr:=Lib.run_append_nil_zeros (P:=P) w T N ty E iE z' .i64 kn (eM.ok hT).und (eM.ok hN).und hiE hze m (by omega) (by rw[hs];exact e.pos) (by omega) (by rw[hby];exact hmb)
 have hzc:(Builtin.zeroCells z'.cells m).toList=cellsOf e (List.replicate m z0):=by
  have:Builtin.zeroCells z'.cells m=madeCells (e.enc z0).toArray (m*(e.enc z0).length):=by
   rw[hz];simp[Builtin.zeroCells,madeCells]
  rw[this,Bv]
  exact Lw _ hne _
 have hone:(cellsOf e (List.replicate m z0)).all one=true:=by
  rw[Bv,List.all_eq_true]
  intro u hu
  obtain⟨l,hl,hul⟩:=List.mem_flatten.1 hu
  rw[(List.mem_replicate.1 hl).2]at hul
  exact List.all_eq_true.1 h1 u hul
 have hrun:(execOp a.eval ⟨dt,.call ⟨.builtin .append,#[x,y],#[T,N]⟩,ty,pos,aft,g⟩).run P w=((Builtin.append_ #[T,N] ty #[.slice none 0 0,.int .i64 (m:Int)]).run P w).andThen fun v w'=> .ok (.value v) w':=by
  simp[execOp,resolve,invoke,builtin,s.eval hx,s.eval hy]
 simp only[Oper.wp,hrun,hr,Result.andThen_ok,Oper.upon]
 refine⟨_,rfl,?_⟩
 have t1:=d_ (M:=M) (L:=L) e c w t
 obtain⟨ho,FF,hO,hLL⟩:=t1
 have hge:=grownCap_ge w m 0 E
 have hlen:(cellsOf e (List.replicate m z0)).length=m*e.sz:=by rw[eZ];simp
 have hzl:(Builtin.zeroCells z'.cells m).size=m*e.sz:=by rw[<-hlen,<-hzc];simp
 have hzs:z'.cells.size=e.sz:=by rw[hz];simpa using e.len z0
 have key:=Fg (w':=w.drew.alloc (.cells (Builtin.zeroCells z'.cells m++Builtin.zeroCells z'.cells (grownCap w m 0 E - m)) E)) ho hO hLL (i:=0) (m':=Ar e (.slice (some ⟨w.heap.size,0,none⟩) m (grownCap w m 0 E)) (List.replicate m z0)) rfl rfl rfl rfl (by simp) (fun k hk _=>Below.heap_alloc w.drew _ k hk) (F':=fun k=>k=w.heap.size) ?_ (fun k hk=> .inr ⟨by omega,by subst hk;simp⟩)
 ·simpa using key
 ·refine⟨by simp;omega,hone,.inr ⟨w.heap.size,0,grownCap w m 0 E,E,_,by simp,rfl,heap_alloc_new w.drew _,by simpa using hge,?_,?_⟩⟩
  ·simp only[Nat.zero_add,Array.size_append,size_zeroCells,hzs]
   rw[<-Nat.add_mul]
   exact Nat.mul_le_mul_right _ (by omega)
  ·simp only[List.drop_zero,Array.toList_append]
   rw[hzc,List.length_replicate,<-hlen,List.take_left]
theorem My [eM P] {β:Type} {e:nV β} {r:kJ β} (i:Nat) (hfit:e.Fits r) {x y:Operand} {xs ys:List β} {T E:TypeId} {s1 s2 s3 s4:Nat} {z z':Value} {dE:TypeDesc} (hx:ev σ x=some v) (hy:ev σ y=some u) (hf:M[i]? = some (Ar e v xs)) (hg:aM M L (Sl r u ys))
  (hT:eM.tab P T=some ⟨.slice E,s1,s2,z⟩) (hE:eM.tab P E=some ⟨dE,s3,s4,z'⟩) (h3:e.sz=s3) (h:xs.length=ys.length):
  aW P c n σ M L ⟨dt,.call ⟨.builtin .copy,#[x,y],#[T,T]⟩,ty,pos,aft,g⟩ (fun _:Unit=> .int .i64 (ys.length:Int)) (fun _=>M.set i (Ar e v ys)) (fun _=>L):=fun a w s t=>by
 subst h3
 obtain⟨F,hF⟩:=hg.st t
 obtain⟨hs,h1⟩:=Le hfit hF hT
 have t0:=t
 obtain⟨ho,FF,hO,hLL⟩:=t0
 obtain⟨h0,hone,hh⟩:=hO.res i _ hf
 have hu:=(eM.ok hT).run_und w
 have hlen:=hs.len w
 have hcl:=hs.cells
 have hcs:(cellsOf e ys).length=ys.length*e.sz:=eZ e ys
 rcases hh with⟨rfl,rfl⟩|⟨b,off,cap,T',cur,rfl,hFb,hbk,hcp,hc,ht⟩
 ·have hy0:ys=[]:=List.eq_nil_of_length_eq_zero (by simpa using h.symm)
  subst hy0
  have hrun:(execOp a.eval ⟨dt,.call ⟨.builtin .copy,#[x,y],#[T,T]⟩,ty,pos,aft,g⟩).run P w = .ok (.value (.int .i64 0)) w:=by
   have hcc:cellsOf e ([]:List β)=[]:=rfl
   simp only[List.length_nil]at hlen hcl
   rw[hcc]at hcl
   simp[execOp,resolve,invoke,builtin,s.eval hx,s.eval hy,Builtin.copy_,hu,hlen,hcl,(eM.ok hE).run_size w,goInt]
  simp only[Oper.wp,hrun,Oper.upon]
  refine⟨(),by first|rfl|trivial,?_⟩
  have:M.set i (Ar e (.slice none 0 0) ([]:List β))=M:=by
   apply List.ext_getElem?
   intro q
   by_cases eq:q=i
   ·subst eq;rw[List.getElem?_set_self (bN hf),hf]
   ·rw[List.getElem?_set_ne (Ne.symm eq)]
  rw[this];exact t
 ·have hmul:xs.length*e.sz<=cap*e.sz:=Nat.mul_le_mul_right _ hcp
  rw[h]at hmul
  have hst:=run_storeCells_at P b off T' (cellsOf e ys) 0 cur w hbk (by rw[hcs];omega) (fun u hu=>oQ (List.all_eq_true.1 h1 u hu))
  simp only[Nat.add_zero]at hst
  have hrun:(execOp a.eval ⟨dt,.call ⟨.builtin .copy,#[x,y],#[T,T]⟩,ty,pos,aft,g⟩).run P w = .ok (.value (.int .i64 (ys.length:Int))) (w.setRow b (cur.toList.take off++cellsOf e ys++cur.toList.drop (off+(cellsOf e ys).length)).toArray):=by
   have hmin:Nat.min ys.length xs.length=ys.length:=by rw[h];exact Nat.min_self _
   simp[execOp,resolve,invoke,builtin,s.eval hx,s.eval hy,Builtin.copy_,hu,hlen,hcl,(eM.ok hE).run_size w,goInt,hmin,hst]
  simp only[Oper.wp,hrun,Oper.upon]
  refine⟨(),by first|rfl|trivial,?_⟩
  refine Fg ho hO hLL hf rfl rfl rfl (by simp) (fun k _ hk'=>setRow_other w b k _ (fun e=>hk' (by subst e;exact hFb))) (F':=FF i) ?_ (fun k hk=> .inl hk)
  refine⟨by omega,h1,.inr ⟨b,off,cap,T',_,by rw[h],hFb,setRow_heap w b _ _ T' _ hbk,by omega,?_,?_⟩⟩
  ·have:cur.size=cur.toList.length:=by simp
   simp only[List.size_toArray,List.length_append,List.length_take,List.length_drop]
   omega
  ·have hto:(cur.toList.take off).length=off:=by simp;omega
   show((cur.toList.take off++cellsOf e ys++cur.toList.drop _).drop off).take (ys.length*e.sz)=_
   rw[List.append_assoc,List.drop_left' hto,List.take_left' hcs]
theorem Nl {β:Type} {q:kJ β} {w:World} {S:Nat->Prop} {v:Value} {xs:List β} (h:El q w S v xs):one v=true:=by
 obtain⟨a,cap,hv,_⟩:=h
 rw[hv];rfl
end
end
end Go.Sx
end
section
namespace Go.Proofs.YthnplbmmlbnelaaGreat
open Go.Sx
section
abbrev ESt:nV ByteArray:=⟨1,Nat.one_pos,fun x=>[.string x],fun _=>rfl⟩
abbrev XF:kJ ByteArray:=⟨1,Nat.one_pos,fun _ _ cs x=>cs=[.string x],fun h=>by simp[h],fun h _=>h⟩
theorem FSt:ESt.Fits XF:=⟨rfl,fun h=>h,rfl,fun _=>rfl⟩
theorem Ub:XF.Cell 0 (fun x=> .string x):=fun h=>by simp[show _=[_]from h]
abbrev gZ:nV Int:=nV.int .i64
abbrev gS:kJ Int:=kJ.int .i64
theorem jF:gZ.Fits gS:=JH .i64
theorem mT:gS.Cell 0 (fun x=> .int .i64 x):=JL .i64
abbrev aH:nV (ByteArray×Int×Int×Int×Int×Int):=nV.pair ESt (nV.pair gZ (nV.pair gZ (nV.pair gZ (nV.pair gZ (gZ)))))
abbrev aF:kJ (ByteArray×Int×Int×Int×Int×Int):=kJ.pair XF (kJ.pair gS (kJ.pair gS (kJ.pair gS (kJ.pair gS (gS)))))
theorem aQ:aH.Fits aF:=sC FSt (sC jF (sC jF (sC jF (sC jF (jF)))))
theorem iG:aF.Cell 0 (fun x=> .string x.1):=sX (Ub)
theorem C_:aF.Cell 1 (fun x=> .int .i64 x.2.1):=Dk (sX (mT))
abbrev cD:nV gY:=nV.pair gZ (gZ)
abbrev bF:kJ gY:=kJ.pair gS (gS)
theorem cO:cD.Fits bF:=sC jF (jF)
theorem pA:bF.Cell 0 (fun x=> .int .i64 x.1):=sX (mT)
theorem MA:bF.Cell 1 (fun x=> .int .i64 x.2):=Dk (mT)
abbrev aX:kJ (Int×cS):=kJ.pair gS ((JM bF))
abbrev bI:nV ((Value)×(Int×cS)):=⟨2,by decide,fun x=>[Value.int .i64 (x.2.1),x.1],fun _=>rfl⟩
abbrev bW (a:Value) (d:Int×cS):bX:=(Sl bF a d.2)
theorem bK:Ur bI bW aX where
 sz:=rfl
 fwd:=fun {w S a d} h=>⟨[_],_,rfl,rfl,⟨_,rfl,h⟩⟩
 bwd:=by
  rintro w S cs d ⟨c0,z0,rfl,q0,q1⟩
  have q0:c0=[Value.int .i64 (d.1)]:=q0;subst q0
  obtain⟨u1,rfl,q1⟩:=q1
  exact⟨(u1),rfl,q1⟩
 one:=fun {w S a d} h=>(cR rfl (cR (Nl h) rfl))
theorem kA:aX.Cell 0 (fun x=> .int .i64 x.1):=sX (mT)
theorem nZ (a:Value) (d:Int×cS):(bI.enc (a,d))[1]? = some a:=rfl
abbrev aD:kJ Jw:=kJ.pair XF (kJ.pair (JM bF) ((JM aX)))
abbrev aG:nV ((Value×Value)×(ByteArray×cS×(List (Int×cS)))):=⟨3,by decide,fun x=>[Value.string (x.2.1),x.1.1,x.1.2],fun _=>rfl⟩
abbrev aC (a:Cj) (d:qZ):bX:=(bX.and (Sl bF a.1 d.2.1) (Sl aX a.2 d.2.2))
theorem aO:Ur aG aC aD where
 sz:=rfl
 fwd:=fun {w S a d} h=>⟨[_],_,rfl,rfl,⟨[_],_,rfl,⟨_,rfl,h.1⟩,⟨_,rfl,h.2⟩⟩⟩
 bwd:=by
  rintro w S cs d ⟨c0,z0,rfl,q0,⟨c1,z1,rfl,q1,q2⟩⟩
  have q0:c0=[Value.string (d.1)]:=q0;subst q0
  obtain⟨u1,rfl,q1⟩:=q1
  obtain⟨u2,rfl,q2⟩:=q2
  exact⟨(u1,u2),rfl,⟨q1,q2⟩⟩
 one:=fun {w S a d} h=>(cR rfl (cR (Nl h.1) (cR (Nl h.2) rfl)))
theorem dX:aD.Cell 0 (fun x=> .string x.1):=sX (Ub)
theorem mG (a:Cj) (d:qZ):(aG.enc (a,d))[1]? = some a.1:=rfl
theorem mH (a:Cj) (d:qZ):(aG.enc (a,d))[2]? = some a.2:=rfl
abbrev Su:nV Bool:=nV.bool
abbrev RBo:kJ Bool:=kJ.bool
theorem Us:Su.Fits RBo:=IE
theorem Wv:RBo.Cell 0 (fun x=> .bool x):=fun h=>by simp[show _=[_]from h]
def TR (x:Bool):Value:=Value.bool (x)
def IY (x:Int):Value:=Value.int .i64 (x)
def PN (x:ByteArray):Value:=Value.string (x)
theorem Tw (x y:Br) (m:Nat) (w:World):(Op.equalIn (m+2) 49 (.agg #[.string x.1,.int .i64 x.2.1,.int .i64 x.2.2.1,.int .i64 x.2.2.2.1,.int .i64 x.2.2.2.2.1,.int .i64 x.2.2.2.2.2]) (.agg #[.string y.1,.int .i64 y.2.1,.int .i64 y.2.2.1,.int .i64 y.2.2.2.1,.int .i64 y.2.2.2.2.1,.int .i64 y.2.2.2.2.2])).run Tryz.prog w = .ok (decide (x=y)) w:=by
 have h3:∀a b:Int,(Op.equalIn (m+1) 3 (.int .i64 a) (.int .i64 b)).run Tryz.prog w = .ok (a==b) w:=by
  intro a b
  simp[Op.equalIn]
 have h9:∀a b:ByteArray,(Op.equalIn (m+1) 9 (.string a) (.string b)).run Tryz.prog w = .ok (decide (a=b)) w:=by
  intro a b
  simp[Op.equalIn,UF]
 have hs:Tryz.prog.stoodInHeld 49=false:=by kernel_rfl
 unfold Op.equalIn
 simp[hs,part,isAgg,h3,h9]
 obtain⟨a0,a1,a2,a3,a4,a5⟩:=x
 obtain⟨c0,c1,c2,c3,c4,c5⟩:=y
 by_cases e0:a0=c0<;>by_cases e1:a1=c1<;>by_cases e2:a2=c2<;>by_cases e3:a3=c3<;>by_cases e4:a4=c4<;>by_cases e5:a5=c5<;>simp[e0,e1,e2,e3,e4,e5,h3,h9]
theorem Pm (x y:Operand) (u v:Array Value) (op:BinOp) (w:World):(eqGuard op 49 x y (.agg u) (.agg v)).run Tryz.prog w = .ok () w:=by
 have hg:Tryz.prog.eqGuardType Tryz.prog.depth 49=false:=by kernel_rfl
 unfold eqGuard
 cases op<;>simp[hg]
theorem Kh (x y:Br) (p q:Operand) (w:World):(eqGuard .neq 49 p q (.agg #[.string x.1,.int .i64 x.2.1,.int .i64 x.2.2.1,.int .i64 x.2.2.2.1,.int .i64 x.2.2.2.2.1,.int .i64 x.2.2.2.2.2]) (.agg #[.string y.1,.int .i64 y.2.1,.int .i64 y.2.2.1,.int .i64 y.2.2.2.1,.int .i64 y.2.2.2.2.1,.int .i64 y.2.2.2.2.2])).run Tryz.prog w = .ok () w∧(binOp .neq 49 (.agg #[.string x.1,.int .i64 x.2.1,.int .i64 x.2.2.1,.int .i64 x.2.2.2.1,.int .i64 x.2.2.2.2.1,.int .i64 x.2.2.2.2.2]) (.agg #[.string y.1,.int .i64 y.2.1,.int .i64 y.2.2.1,.int .i64 y.2.2.2.1,.int .i64 y.2.2.2.2.1,.int .i64 y.2.2.2.2.2])).run Tryz.prog w = .ok (.bool (decide (x≠y))) w:=by
 refine⟨Pm _ _ _ _ _ _,?_⟩
 have h:(Op.equal 49 (.agg #[.string x.1,.int .i64 x.2.1,.int .i64 x.2.2.1,.int .i64 x.2.2.2.1,.int .i64 x.2.2.2.2.1,.int .i64 x.2.2.2.2.2]) (.agg #[.string y.1,.int .i64 y.2.1,.int .i64 y.2.2.1,.int .i64 y.2.2.2.1,.int .i64 y.2.2.2.2.1,.int .i64 y.2.2.2.2.2])).run Tryz.prog w = .ok (decide (x=y)) w:=Tw x y 9998 w
 simp[binOp,h]
theorem Tx (x y:lS) (m:Nat) (w:World):(Op.equalIn (m+2) 84 (.agg #[.int .i64 x.1,.int .i64 x.2]) (.agg #[.int .i64 y.1,.int .i64 y.2])).run Tryz.prog w = .ok (decide (x=y)) w:=by
 have h3:∀a b:Int,(Op.equalIn (m+1) 3 (.int .i64 a) (.int .i64 b)).run Tryz.prog w = .ok (a==b) w:=by
  intro a b
  simp[Op.equalIn]
 have hs:Tryz.prog.stoodInHeld 84=false:=by kernel_rfl
 unfold Op.equalIn
 simp[hs,part,isAgg,h3]
 obtain⟨a0,a1⟩:=x
 obtain⟨c0,c1⟩:=y
 by_cases e0:a0=c0<;>by_cases e1:a1=c1<;>simp[e0,e1,h3]
theorem Pn (x y:Operand) (u v:Array Value) (op:BinOp) (w:World):(eqGuard op 84 x y (.agg u) (.agg v)).run Tryz.prog w = .ok () w:=by
 have hg:Tryz.prog.eqGuardType Tryz.prog.depth 84=false:=by kernel_rfl
 unfold eqGuard
 cases op<;>simp[hg]
theorem Ti (x y:lS) (p q:Operand) (w:World):(eqGuard .neq 84 p q (.agg #[.int .i64 x.1,.int .i64 x.2]) (.agg #[.int .i64 y.1,.int .i64 y.2])).run Tryz.prog w = .ok () w∧(binOp .neq 84 (.agg #[.int .i64 x.1,.int .i64 x.2]) (.agg #[.int .i64 y.1,.int .i64 y.2])).run Tryz.prog w = .ok (.bool (decide (x≠y))) w:=by
 refine⟨Pn _ _ _ _ _ _,?_⟩
 have h:(Op.equal 84 (.agg #[.int .i64 x.1,.int .i64 x.2]) (.agg #[.int .i64 y.1,.int .i64 y.2])).run Tryz.prog w = .ok (decide (x=y)) w:=Tx x y 9998 w
 simp[binOp,h]
theorem Ui:Fc Tryz.prog 3 IY:=Fc.plain Tryz.underlying3 (fun b k w=>by
 have key:∀m:Nat,(Instr.checkKey b (m+1) 3 (IY k)).run Tryz.prog w = .ok () w:=fun m=>by simp[Instr.checkKey,IY]
 exact key 9999) (fun a b=>by simp[Instr.sameNow,IY];rfl) (fun k=>by
 have key:∀m:Nat,Instr.sameBits (m+1) (IY k) (IY k)=true:=fun m=>by simp[Instr.sameBits,IY]
 exact key 9999)
theorem Oe:Fc Tryz.prog 9 PN:=Fc.plain Tryz.underlying9 (fun b k w=>by
 have key:∀m:Nat,(Instr.checkKey b (m+1) 9 (PN k)).run Tryz.prog w = .ok () w:=fun m=>by simp[Instr.checkKey,PN]
 exact key 9999) (fun a b=>by simp[Instr.sameNow,PN];exact UF a b) (fun k=>by
 have key:∀m:Nat,Instr.sameBits (m+1) (PN k) (PN k)=true:=fun m=>by simp[Instr.sameBits,PN,UF]
 exact key 9999)
theorem Bc (u0:Value) (h0:one u0=true) (init:Array Value) (h:init.size=1*1):Instr.fill (fun i=>some (i*1,1)) init [(0,u0)]=some [u0].toArray:=by
 obtain⟨l⟩:=init
 match l,h with
 | [z0],_=>simp[Instr.fill,eY h0]
theorem vA (u0 u1:Value) (init:Array Value) (h:init.size=1*2):Instr.fill (fun i=>some (i*2,2)) init [(0,.agg #[u0,u1])]=some [u0,u1].toArray:=by
 obtain⟨l⟩:=init
 match l,h with
 | [z0,z1],_=>simp[Instr.fill,Value.cells]
theorem pV (u0 u1 u2:Value) (init:Array Value) (h:init.size=1*3):Instr.fill (fun i=>some (i*3,3)) init [(0,.agg #[u0,u1,u2])]=some [u0,u1,u2].toArray:=by
 obtain⟨l⟩:=init
 match l,h with
 | [z0,z1,z2],_=>simp[Instr.fill,Value.cells]
theorem Fx (u0 u1 u2 u3 u4 u5:Value) (init:Array Value) (h:init.size=1*6):Instr.fill (fun i=>some (i*6,6)) init [(0,.agg #[u0,u1,u2,u3,u4,u5])]=some [u0,u1,u2,u3,u4,u5].toArray:=by
 obtain⟨l⟩:=init
 match l,h with
 | [z0,z1,z2,z3,z4,z5],_=>simp[Instr.fill,Value.cells]
theorem Lr (u0 u1:Value) (h0:one u0=true) (h1:one u1=true) (init:Array Value) (h:init.size=2*1):Instr.fill (fun i=>some (i*1,1)) init [(0,u0),(1,u1)]=some [u0,u1].toArray:=by
 obtain⟨l⟩:=init
 match l,h with
 | [z0,z1],_=>simp[Instr.fill,eY h0,eY h1]
theorem HS (u0 u1 u2 u3:Value) (init:Array Value) (h:init.size=2*2):Instr.fill (fun i=>some (i*2,2)) init [(0,.agg #[u0,u1]),(1,.agg #[u2,u3])]=some [u0,u1,u2,u3].toArray:=by
 obtain⟨l⟩:=init
 match l,h with
 | [z0,z1,z2,z3],_=>simp[Instr.fill,Value.cells]
theorem Re (u0 u1 u2:Value) (h0:one u0=true) (h1:one u1=true) (h2:one u2=true) (init:Array Value) (h:init.size=3*1):Instr.fill (fun i=>some (i*1,1)) init [(0,u0),(1,u1),(2,u2)]=some [u0,u1,u2].toArray:=by
 obtain⟨l⟩:=init
 match l,h with
 | [z0,z1,z2],_=>simp[Instr.fill,eY h0,eY h1,eY h2]
theorem Ls (u0 u1 u2 u3 u4 u5:Value) (init:Array Value) (h:init.size=3*2):Instr.fill (fun i=>some (i*2,2)) init [(0,.agg #[u0,u1]),(1,.agg #[u2,u3]),(2,.agg #[u4,u5])]=some [u0,u1,u2,u3,u4,u5].toArray:=by
 obtain⟨l⟩:=init
 match l,h with
 | [z0,z1,z2,z3,z4,z5],_=>simp[Instr.fill,Value.cells]
end
section
def Av (p0:Int) (a2:Bool):Option (Int):=
 if a2=true then(some (-1:Int))else(if p0<=(17:Int)then(some (0:Int))else(if p0<=(29:Int)then(some (1:Int))else(if p0<=(42:Int)then(some (2:Int))else(some (3:Int)))))
def qW (U:Nat) (p0:Int):Option (Int):=
 if p0<(1:Int)then(Av p0 (true))else(Av p0 (decide ((43:Int)<p0)))
theorem Kb:bO Tryz.prog 87:=Tryz.call87
theorem AX (U:Nat) {p0:Int} (r:Int) (h:qW U p0=some r):
  bQ Tryz.prog 87 #[vI (p0)] [] (fun x:Unit=>vI (r)) (fun x l=>l) (fun _ l=>l):=by
 refine bQ.of Tryz.func87 rfl Tryz.ntmps87 rfl fun c=>?_
 refine aZ<|aK rfl<|aU<|aP<|aY<|aP<|dD (fun a2=>Av p0 a2=some r) (fun a2 b3=>[(0,vI (p0)),(3,vB (a2))]) (fun a2 b3=>[]) ?_ ?_
 ·refine aS<|aE rfl<|dL rfl<|aE rfl ?_
  refine oD h rfl (fun _ h=>?_) fun _ h=>?_
  ·refine aI rfl<|aI rfl<|cE rfl<|aK rfl<|aU ?_
   exact cZ (true) () h SF rfl
  refine cP rfl<|aL rfl (kT rfl rfl) rfl<|cI rfl<|aK rfl<|aU ?_
  exact cZ (decide ((43:Int)<p0)) () h SF rfl
 intro a2 b3 h
 refine gP h rfl (fun _ h=>?_) fun _ h=>?_
 ·refine aZ<|aK rfl<|aU<|bE<|cG<|aR ?_
  cases h
  exact kF rfl
 refine aZ<|aE rfl<|aJ (sO rfl rfl) rfl<|aK rfl<|aU ?_
 refine gT h rfl (fun h=>?_) fun h=>?_
 ·refine aZ<|aK rfl<|aU<|bE<|cG<|aR ?_
  cases h
  exact kF rfl
 refine aZ<|aE rfl<|aJ (sO rfl rfl) rfl<|aK rfl<|aU ?_
 refine gT h rfl (fun h=>?_) fun h=>?_
 ·refine aZ<|aK rfl<|aU<|bE<|cG<|aR ?_
  cases h
  exact kF rfl
 refine aZ<|aE rfl<|aJ (sO rfl rfl) rfl<|aK rfl<|aU ?_
 refine gT h rfl (fun h=>?_) fun h=>?_
 ·refine aZ<|aK rfl<|aU<|bE<|cG<|aR ?_
  cases h
  exact kF rfl
 refine eJ<|lP<|aZ<|aK rfl<|aU<|bE ?_
 cases h
 exact kF rfl
end
section
def BE  (a5:Unit):Option (Int):=
 some (-1:Int)
def oZ (U:Nat) (p0:cS) (a10:lS) (ag9:gY->Option (Int)):Option (Int):=
 if a10.1<(List.length p0:Int)then(ck (0<=a10.1∧a10.1<(List.length p0:Int)) (Option.bind (qW U ((at' p0 a10.1).1)) fun r15=>(if r15<(0:Int)then(some (-1:Int))else(if(wI .i64 (a10.2+(wI .i64 (r15 - (1:Int)))))=(0:Int)then(some (wI .i64 (a10.1+(1:Int))))else(ag9 ((wI .i64 (a10.1+(1:Int))),(wI .i64 (a10.2+(wI .i64 (r15 - (1:Int)))))))))))else(BE  (()))
def BD (U:Nat) (p0:cS) (p1:Int) (a2:Bool):Option (Int):=
 if a2=true then(some (-1:Int))else(bZ (oZ U p0) U (p1,(1:Int)))
def Bj (U:Nat) (p0:cS) (p1:Int):Option (Int):=
 if p1<(0:Int)then(BD U p0 p1 (true))else(BD U p0 p1 (decide ((List.length p0:Int)<=p1)))
theorem QE:bO Tryz.prog 64:=Tryz.call64
theorem Iu (U:Nat) {p0:cS} {p1:Int} (v0:Value) (r:Int) (h:Bj U p0 p1=some r):
  bQ Tryz.prog 64 #[v0,vI (p1)] [Sl bF v0 p0] (fun x:Unit=>vI (r)) (fun x l=>l) (fun _ l=>l):=by
 refine bQ.of Tryz.func64 rfl Tryz.ntmps64 rfl fun c=>?_
 refine aZ<|aK rfl<|aU<|aP<|aP<|dD (fun a2=>BD U p0 p1 a2=some r) (fun a2 b3=>[(0,v0),(1,vI (p1)),(14,vB (a2))]) (fun a2 b3=>[]) ?_ ?_
 ·refine aS<|aE rfl<|dL rfl<|aE rfl ?_
  refine oD h rfl (fun _ h=>?_) fun _ h=>?_
  ·refine aI rfl<|aI rfl<|aI rfl<|aI rfl<|cE rfl<|aU ?_
   exact cZ (true) () h SF rfl
  refine cP rfl<|cP rfl<|aL rfl (dR rfl (dN rfl) rfl) rfl<|aL rfl (jM rfl rfl) rfl<|cI rfl<|aU ?_
  exact cZ (decide ((List.length p0:Int)<=p1)) () h SF rfl
 intro a2 b3 h
 refine gP h rfl (fun _ h=>?_) fun _ h=>?_
 ·refine aZ<|aK rfl<|aU<|bE<|aR ?_
  cases h
  exact kF rfl
 refine cC<|aP<|dD (fun a5=>BE  a5=some r) (fun a5 b6=>[]) (fun a5 b6=>[]) ?_ ?_
 ·refine aZ<|aK rfl<|aU<|aY<|fW (oZ U p0) (fun a10 b11=>[(0,v0),(1,vI (a10.1)),(5,vI (a10.2))]) (fun a10 b11=>[]) (p1,(1:Int)) () h SF (bH.refl _) ?_
  intro k12 a10 b11 h
  refine aP<|aZ<|aE rfl<|aE rfl<|eC (dN rfl) rfl<|dL rfl<|aU ?_
  refine gT h rfl (fun h=>?_) fun h=>?_
  ·refine cC<|aP<|aY<|aZ<|aE rfl<|aE rfl<|fJ h fun j14 h=>aJ (a_ rfl rfl (dN rfl) rfl rfl j14) rfl<|aJ (cW rfl rfl rfl rfl rfl) rfl<|aJ (fN rfl (dN rfl) rfl rfl rfl pA j14) rfl<|fO h fun r15 w16 h=>aT (aW.callQ Kb (AX U  r15 w16) rfl .nil) rfl fun x17=>aK rfl<|aU<|aP<|aZ<|aE rfl<|dL rfl<|aU ?_
   refine gT h rfl (fun h=>?_) fun h=>?_
   ·refine aZ<|aK rfl<|aU<|bE<|aR<|cG<|aR<|aR<|cG<|aR ?_
    cases h
    exact kF rfl
   refine cC<|aZ<|aE rfl<|aE rfl<|aJ (sY rfl rfl) rfl<|dM rfl<|aK rfl<|aU<|aZ<|aE rfl<|dQ rfl<|aU ?_
   refine gT h rfl (fun h=>?_) fun h=>?_
   ·refine aZ<|aE rfl<|dM rfl<|aK rfl<|aU<|bE<|cG<|aR<|aR<|cG<|aR ?_
    cases h
    exact kF rfl
   refine eJ<|lP<|aS<|aE rfl<|dM rfl<|aK rfl<|aU ?_
   exact BR ((wI .i64 (a10.1+(1:Int))),(wI .i64 (a10.2+(wI .i64 (r15 - (1:Int)))))) () h SF rfl
  refine eQ ?_
  exact cZ () (()) h SF rfl
 intro a5 b6 h
 unfold BE at h
 refine aZ<|aK rfl<|aU<|bE ?_
 cases h
 exact kF rfl
end
section
def yG (p0:Int) (a10:Bool):Option (Int):=
 if a10=true then(some (2:Int))else(if p0=(43:Int)then(some (3:Int))else(some (-1:Int)))
def yF (p0:Int) (a6:Bool):Option (Int):=
 if a6=true then(some (1:Int))else(if(30:Int)<=p0 then(yG p0 (decide (p0<=(42:Int))))else(yG p0 (false)))
def yE (p0:Int) (a2:Bool):Option (Int):=
 if a2=true then(some (0:Int))else(if(18:Int)<=p0 then(yF p0 (decide (p0<=(29:Int))))else(yF p0 (false)))
def pC (U:Nat) (p0:Int):Option (Int):=
 if(1:Int)<=p0 then(yE p0 (decide (p0<=(17:Int))))else(yE p0 (false))
theorem Kc:bO Tryz.prog 93:=Tryz.call93
theorem Ap (U:Nat) {p0:Int} (r:Int) (h:pC U p0=some r):
  bQ Tryz.prog 93 #[vI (p0)] [] (fun x:Unit=>vI (r)) (fun x l=>l) (fun _ l=>l):=by
 refine bQ.of Tryz.func93 rfl Tryz.ntmps93 rfl fun c=>?_
 refine aZ<|aK rfl<|aU<|aP<|aY<|aP<|dD (fun a2=>yE p0 a2=some r) (fun a2 b3=>[(0,vI (p0)),(3,vB (a2))]) (fun a2 b3=>[]) ?_ ?_
 ·refine aS<|aE rfl<|aJ (jM rfl rfl) rfl<|aE rfl ?_
  refine oD h rfl (fun _ h=>?_) fun _ h=>?_
  ·refine cP rfl<|aL rfl (sO rfl rfl) rfl<|cE rfl<|aK rfl<|aU ?_
   exact cZ (decide (p0<=(17:Int))) () h SF rfl
  refine aI rfl<|aI rfl<|cI rfl<|aK rfl<|aU ?_
  exact cZ (false) () h SF rfl
 intro a2 b3 h
 refine gP h rfl (fun _ h=>?_) fun _ h=>?_
 ·refine aZ<|aK rfl<|aU<|bE<|cG<|aR ?_
  cases h
  exact kF rfl
 refine aP<|dD (fun a6=>yF p0 a6=some r) (fun a6 b7=>[(0,vI (p0)),(10,vB (a6))]) (fun a6 b7=>[]) ?_ ?_
 ·refine aS<|aE rfl<|aJ (jM rfl rfl) rfl<|aE rfl ?_
  refine oD h rfl (fun _ h=>?_) fun _ h=>?_
  ·refine cP rfl<|aL rfl (sO rfl rfl) rfl<|cE rfl<|aK rfl<|aU ?_
   exact cZ (decide (p0<=(29:Int))) () h SF rfl
  refine aI rfl<|aI rfl<|cI rfl<|aK rfl<|aU ?_
  exact cZ (false) () h SF rfl
 intro a6 b7 h
 refine gP h rfl (fun _ h=>?_) fun _ h=>?_
 ·refine aZ<|aK rfl<|aU<|bE<|cG<|aR ?_
  cases h
  exact kF rfl
 refine aP<|dD (fun a10=>yG p0 a10=some r) (fun a10 b11=>[(0,vI (p0)),(17,vB (a10))]) (fun a10 b11=>[]) ?_ ?_
 ·refine aS<|aE rfl<|aJ (jM rfl rfl) rfl<|aE rfl ?_
  refine oD h rfl (fun _ h=>?_) fun _ h=>?_
  ·refine cP rfl<|aL rfl (sO rfl rfl) rfl<|cE rfl<|aK rfl<|aU ?_
   exact cZ (decide (p0<=(42:Int))) () h SF rfl
  refine aI rfl<|aI rfl<|cI rfl<|aK rfl<|aU ?_
  exact cZ (false) () h SF rfl
 intro a10 b11 h
 refine gP h rfl (fun _ h=>?_) fun _ h=>?_
 ·refine aZ<|aK rfl<|aU<|bE<|cG<|aR ?_
  cases h
  exact kF rfl
 refine aZ<|aE rfl<|dQ rfl<|aK rfl<|aU ?_
 refine gT h rfl (fun h=>?_) fun h=>?_
 ·refine aZ<|aK rfl<|aU<|bE<|cG<|aR ?_
  cases h
  exact kF rfl
 refine eJ<|lP<|aZ<|aK rfl<|aU<|bE ?_
 cases h
 exact kF rfl
end
section
def AW  (a5:Unit):Option (Int):=
 some (-1:Int)
def mK (U:Nat) (p0:cS) (a10:lS) (ag9:gY->Option (Int)):Option (Int):=
 if a10.2<(List.length p0:Int)then(ck (0<=a10.2∧a10.2<(List.length p0:Int)) (Option.bind (pC U ((at' p0 a10.2).1)) fun r15=>(if r15<(0:Int)then(some (-1:Int))else(if(wI .i64 (a10.1+(wI .i64 (r15 - (1:Int)))))=(0:Int)then(some (wI .i64 (a10.2+(1:Int))))else(ag9 ((wI .i64 (a10.1+(wI .i64 (r15 - (1:Int))))),(wI .i64 (a10.2+(1:Int)))))))))else(AW  (()))
def AV (U:Nat) (p0:cS) (p1:Int) (a2:Bool):Option (Int):=
 if a2=true then(some (-1:Int))else(bZ (mK U p0) U ((1:Int),p1))
def xM (U:Nat) (p0:cS) (p1:Int):Option (Int):=
 if p1<(0:Int)then(AV U p0 p1 (true))else(AV U p0 p1 (decide ((List.length p0:Int)<=p1)))
theorem MN:bO Tryz.prog 92:=Tryz.call92
theorem DK (U:Nat) {p0:cS} {p1:Int} (v0:Value) (r:Int) (h:xM U p0 p1=some r):
  bQ Tryz.prog 92 #[v0,vI (p1)] [Sl bF v0 p0] (fun x:Unit=>vI (r)) (fun x l=>l) (fun _ l=>l):=by
 refine bQ.of Tryz.func92 rfl Tryz.ntmps92 rfl fun c=>?_
 refine aZ<|aK rfl<|aU<|aP<|aP<|dD (fun a2=>AV U p0 p1 a2=some r) (fun a2 b3=>[(0,v0),(1,vI (p1)),(15,vB (a2))]) (fun a2 b3=>[]) ?_ ?_
 ·refine aS<|aE rfl<|dL rfl<|aE rfl ?_
  refine oD h rfl (fun _ h=>?_) fun _ h=>?_
  ·refine aI rfl<|aI rfl<|aI rfl<|aI rfl<|cE rfl<|aU ?_
   exact cZ (true) () h SF rfl
  refine cP rfl<|cP rfl<|aL rfl (dR rfl (dN rfl) rfl) rfl<|aL rfl (jM rfl rfl) rfl<|cI rfl<|aU ?_
  exact cZ (decide ((List.length p0:Int)<=p1)) () h SF rfl
 intro a2 b3 h
 refine gP h rfl (fun _ h=>?_) fun _ h=>?_
 ·refine aZ<|aK rfl<|aU<|bE<|aR ?_
  cases h
  exact kF rfl
 refine cC<|aZ<|aK rfl<|aU<|aP<|dD (fun a5=>AW  a5=some r) (fun a5 b6=>[]) (fun a5 b6=>[]) ?_ ?_
 ·refine aZ<|aE rfl<|aK rfl<|aU<|aY<|fW (mK U p0) (fun a10 b11=>[(0,v0),(5,vI (a10.1)),(6,vI (a10.2))]) (fun a10 b11=>[]) ((1:Int),p1) () h SF (bH.refl _) ?_
  intro k12 a10 b11 h
  refine aP<|aZ<|aE rfl<|aE rfl<|eC (dN rfl) rfl<|dL rfl<|aU ?_
  refine gT h rfl (fun h=>?_) fun h=>?_
  ·refine cC<|aP<|aY<|aZ<|aE rfl<|aE rfl<|fJ h fun j14 h=>aJ (a_ rfl rfl (dN rfl) rfl rfl j14) rfl<|aJ (cW rfl rfl rfl rfl rfl) rfl<|aJ (fN rfl (dN rfl) rfl rfl rfl pA j14) rfl<|fO h fun r15 w16 h=>aT (aW.callQ Kc (Ap U  r15 w16) rfl .nil) rfl fun x17=>aK rfl<|aU<|aP<|aZ<|aE rfl<|dL rfl<|aU ?_
   refine gT h rfl (fun h=>?_) fun h=>?_
   ·refine aZ<|aK rfl<|aU<|bE<|aR<|cG<|aR<|aR<|cG<|aR ?_
    cases h
    exact kF rfl
   refine cC<|aZ<|aE rfl<|aE rfl<|aJ (sY rfl rfl) rfl<|dM rfl<|aK rfl<|aU<|aZ<|aE rfl<|dQ rfl<|aU ?_
   refine gT h rfl (fun h=>?_) fun h=>?_
   ·refine aZ<|aE rfl<|dM rfl<|aK rfl<|aU<|bE<|cG<|aR<|aR<|cG<|aR ?_
    cases h
    exact kF rfl
   refine eJ<|lP<|aS<|aE rfl<|dM rfl<|aK rfl<|aU ?_
   exact BR ((wI .i64 (a10.1+(wI .i64 (r15 - (1:Int))))),(wI .i64 (a10.2+(1:Int)))) () h SF rfl
  refine eQ ?_
  exact cZ () (()) h SF rfl
 intro a5 b6 h
 unfold AW at h
 refine aZ<|aK rfl<|aU<|bE ?_
 cases h
 exact kF rfl
end
section
def oY  (a2:Bool):Option (Bool):=
 some (a2)
def pY (U:Nat) (p0:Int):Option (Bool):=
 if(20:Int)<=p0 then(oY  (decide (p0<=(29:Int))))else(oY  (false))
theorem QI:bO Tryz.prog 91:=Tryz.call91
theorem Ch (U:Nat) {p0:Int} (r:Bool) (h:pY U p0=some r):
  bQ Tryz.prog 91 #[vI (p0)] [] (fun x:Unit=>vB (r)) (fun x l=>l) (fun _ l=>l):=by
 refine bQ.of Tryz.func91 rfl Tryz.ntmps91 rfl fun c=>?_
 refine aZ<|aK rfl<|aU<|aP<|dD (fun a2=>oY  a2=some r) (fun a2 b3=>[(2,vB (a2))]) (fun a2 b3=>[]) ?_ ?_
 ·refine aS<|aE rfl<|aJ (jM rfl rfl) rfl<|aE rfl ?_
  refine oD h rfl (fun _ h=>?_) fun _ h=>?_
  ·refine cP rfl<|aL rfl (sO rfl rfl) rfl<|cE rfl<|aK rfl<|aU ?_
   exact cZ (decide (p0<=(29:Int))) () h SF rfl
  refine aI rfl<|aI rfl<|cI rfl<|aK rfl<|aU ?_
  exact cZ (false) () h SF rfl
 intro a2 b3 h
 unfold oY at h
 refine bE ?_
 cases h
 exact kF rfl
end
section
def mY  (a2:Bool):Option (Bool):=
 some (a2)
def oO (U:Nat) (p0:Int):Option (Bool):=
 if(20:Int)<=p0 then(mY  (decide (p0<=(29:Int))))else(mY  (false))
theorem QJ:bO Tryz.prog 94:=Tryz.call94
theorem BB (U:Nat) {p0:Int} (r:Bool) (h:oO U p0=some r):
  bQ Tryz.prog 94 #[vI (p0)] [] (fun x:Unit=>vB (r)) (fun x l=>l) (fun _ l=>l):=by
 refine bQ.of Tryz.func94 rfl Tryz.ntmps94 rfl fun c=>?_
 refine aZ<|aK rfl<|aU<|aP<|dD (fun a2=>mY  a2=some r) (fun a2 b3=>[(2,vB (a2))]) (fun a2 b3=>[]) ?_ ?_
 ·refine aS<|aE rfl<|aJ (jM rfl rfl) rfl<|aE rfl ?_
  refine oD h rfl (fun _ h=>?_) fun _ h=>?_
  ·refine cP rfl<|aL rfl (sO rfl rfl) rfl<|cE rfl<|aK rfl<|aU ?_
   exact cZ (decide (p0<=(29:Int))) () h SF rfl
  refine aI rfl<|aI rfl<|cI rfl<|aK rfl<|aU ?_
  exact cZ (false) () h SF rfl
 intro a2 b3 h
 unfold mY at h
 refine bE ?_
 cases h
 exact kF rfl
end
section
def qJ  (a4:Bool):Option (Bool):=
 some (a4)
def qK  (a12:Bool):Option (Bool):=
 some (a12)
def uS (p0:lS) (p1:Int) (a8:Bool):Option (Bool):=
 if a8=true then(if(0:Int)<=p0.2 then(qK  (decide (p0.2<p1)))else(qK  (false)))else(some (decide (p0.2=(0:Int))))
def wN (U:Nat) (p0:lS) (p1:Int):Option (Bool):=
 if p0.1=(1:Int)then(if(0:Int)<=p0.2 then(qJ  (decide (p0.2<=(1073741824:Int))))else(qJ  (false)))else(if p0.1=(5:Int)then(uS p0 p1 (decide (p0.1=(5:Int))))else(uS p0 p1 (decide (p0.1=(12:Int)))))
theorem US:bO Tryz.prog 65:=Tryz.call65
theorem Hb (U:Nat) {p0:lS} {p1:Int} (r:Bool) (h:wN U p0 p1=some r):
  bQ Tryz.prog 65 #[Value.agg #[vI (p0.1),vI (p0.2)],vI (p1)] [] (fun x:Unit=>vB (r)) (fun x l=>l) (fun _ l=>l):=by
 refine bQ.of Tryz.func65 rfl Tryz.ntmps65 rfl fun c=>?_
 refine aZ<|aT (aW.box (cs:=[vI (p0.1),vI (p0.2)]) rfl rfl) rfl fun b1=>aK rfl<|aU<|aP<|aZ<|bP rfl<|dC 0 rfl<|aU<|aY<|aZ<|dQ rfl<|aK rfl<|aU ?_
 refine gT h rfl (fun h=>?_) fun h=>?_
 ·refine aP<|dD (fun a4=>qJ  a4=some r) (fun a4 b5=>[(4,vB (a4))]) (fun a4 b5=>[]) ?_ ?_
  ·refine aS<|bP rfl<|dC 0 rfl<|aJ (jM rfl rfl) rfl<|aE rfl ?_
   refine oD h rfl (fun _ h=>?_) fun _ h=>?_
   ·refine aL rfl (cF rfl rfl rfl rfl rfl) rfl<|aL rfl (cT 0 rfl rfl rfl rfl rfl) rfl<|aL rfl (sO rfl rfl) rfl<|cE rfl<|aK rfl<|aU ?_
    exact cK (decide (p0.2<=(1073741824:Int))) () h SF .nil (aV.refl _ _)
   refine aI rfl<|aI rfl<|aI rfl<|cI rfl<|aK rfl<|aU ?_
   exact cK (false) () h SF .nil (aV.refl _ _)
  intro a4 b5 h
  unfold qJ at h
  refine bE<|cG<|aR ?_
  cases h
  exact kF rfl
 refine aP<|dD (fun a8=>uS p0 p1 a8=some r) (fun a8 b9=>[(1,vI (p1)),(2,vP b1),(17,vB (a8))]) (fun a8 b9=>[bJ b1 [vI (p0.1),vI (p0.2)] 84]) ?_ ?_
 ·refine aZ<|dQ rfl<|aK rfl<|aU ?_
  refine gT h rfl (fun h=>?_) fun h=>?_
  ·refine cC ?_
   exact cZ (decide (p0.1=(5:Int))) () h SF rfl
  refine aS<|dQ rfl<|aK rfl<|aU ?_
  exact cZ (decide (p0.1=(12:Int))) () h SF rfl
 intro a8 b9 h
 refine gP h rfl (fun _ h=>?_) fun _ h=>?_
 ·refine aP<|dD (fun a12=>qK  a12=some r) (fun a12 b13=>[(4,vB (a12))]) (fun a12 b13=>[]) ?_ ?_
  ·refine aS<|bP rfl<|dC 0 rfl<|aJ (jM rfl rfl) rfl<|aE rfl ?_
   refine oD h rfl (fun _ h=>?_) fun _ h=>?_
   ·refine aL rfl (cF rfl rfl rfl rfl rfl) rfl<|aL rfl (cT 0 rfl rfl rfl rfl rfl) rfl<|cP rfl<|aL rfl (NL rfl rfl) rfl<|cE rfl<|aK rfl<|aU ?_
    exact cK (decide (p0.2<p1)) () h SF .nil (aV.refl _ _)
   refine aI rfl<|aI rfl<|aI rfl<|aI rfl<|cI rfl<|aK rfl<|aU ?_
   exact cK (false) () h SF .nil (aV.refl _ _)
  intro a12 b13 h
  unfold qK at h
  refine bE<|cG<|aR ?_
  cases h
  exact kF rfl
 refine eJ<|lP<|aZ<|bP rfl<|dC 0 rfl<|dQ rfl<|aK rfl<|aU<|bE ?_
 cases h
 exact yR rfl
end
section
def oS  (a4:Bool):Option (Bool):=
 some (a4)
def oT  (a12:Bool):Option (Bool):=
 some (a12)
def sS (p0:lS) (p1:Int) (a8:Bool):Option (Bool):=
 if a8=true then(if(0:Int)<=p0.2 then(oT  (decide (p0.2<p1)))else(oT  (false)))else(some (decide (p0.2=(0:Int))))
def uK (U:Nat) (p0:lS) (p1:Int):Option (Bool):=
 if p0.1=(1:Int)then(if(0:Int)<=p0.2 then(oS  (decide (p0.2<=(1073741824:Int))))else(oS  (false)))else(if p0.1=(5:Int)then(sS p0 p1 (decide (p0.1=(5:Int))))else(sS p0 p1 (decide (p0.1=(12:Int)))))
theorem SQ:bO Tryz.prog 114:=Tryz.call114
theorem GB (U:Nat) {p0:lS} {p1:Int} (r:Bool) (h:uK U p0 p1=some r):
  bQ Tryz.prog 114 #[Value.agg #[vI (p0.1),vI (p0.2)],vI (p1)] [] (fun x:Unit=>vB (r)) (fun x l=>l) (fun _ l=>l):=by
 refine bQ.of Tryz.func114 rfl Tryz.ntmps114 rfl fun c=>?_
 refine aZ<|aT (aW.box (cs:=[vI (p0.1),vI (p0.2)]) rfl rfl) rfl fun b1=>aK rfl<|aU<|aP<|aZ<|bP rfl<|dC 0 rfl<|aU<|aY<|aZ<|dQ rfl<|aK rfl<|aU ?_
 refine gT h rfl (fun h=>?_) fun h=>?_
 ·refine aP<|dD (fun a4=>oS  a4=some r) (fun a4 b5=>[(4,vB (a4))]) (fun a4 b5=>[]) ?_ ?_
  ·refine aS<|bP rfl<|dC 0 rfl<|aJ (jM rfl rfl) rfl<|aE rfl ?_
   refine oD h rfl (fun _ h=>?_) fun _ h=>?_
   ·refine aL rfl (cF rfl rfl rfl rfl rfl) rfl<|aL rfl (cT 0 rfl rfl rfl rfl rfl) rfl<|aL rfl (sO rfl rfl) rfl<|cE rfl<|aK rfl<|aU ?_
    exact cK (decide (p0.2<=(1073741824:Int))) () h SF .nil (aV.refl _ _)
   refine aI rfl<|aI rfl<|aI rfl<|cI rfl<|aK rfl<|aU ?_
   exact cK (false) () h SF .nil (aV.refl _ _)
  intro a4 b5 h
  unfold oS at h
  refine bE<|cG<|aR ?_
  cases h
  exact kF rfl
 refine aP<|dD (fun a8=>sS p0 p1 a8=some r) (fun a8 b9=>[(1,vI (p1)),(2,vP b1),(17,vB (a8))]) (fun a8 b9=>[bJ b1 [vI (p0.1),vI (p0.2)] 84]) ?_ ?_
 ·refine aZ<|dQ rfl<|aK rfl<|aU ?_
  refine gT h rfl (fun h=>?_) fun h=>?_
  ·refine cC ?_
   exact cZ (decide (p0.1=(5:Int))) () h SF rfl
  refine aS<|dQ rfl<|aK rfl<|aU ?_
  exact cZ (decide (p0.1=(12:Int))) () h SF rfl
 intro a8 b9 h
 refine gP h rfl (fun _ h=>?_) fun _ h=>?_
 ·refine aP<|dD (fun a12=>oT  a12=some r) (fun a12 b13=>[(4,vB (a12))]) (fun a12 b13=>[]) ?_ ?_
  ·refine aS<|bP rfl<|dC 0 rfl<|aJ (jM rfl rfl) rfl<|aE rfl ?_
   refine oD h rfl (fun _ h=>?_) fun _ h=>?_
   ·refine aL rfl (cF rfl rfl rfl rfl rfl) rfl<|aL rfl (cT 0 rfl rfl rfl rfl rfl) rfl<|cP rfl<|aL rfl (NL rfl rfl) rfl<|cE rfl<|aK rfl<|aU ?_
    exact cK (decide (p0.2<p1)) () h SF .nil (aV.refl _ _)
   refine aI rfl<|aI rfl<|aI rfl<|aI rfl<|cI rfl<|aK rfl<|aU ?_
   exact cK (false) () h SF .nil (aV.refl _ _)
  intro a12 b13 h
  unfold oT at h
  refine bE<|cG<|aR ?_
  cases h
  exact kF rfl
 refine eJ<|lP<|aZ<|bP rfl<|dC 0 rfl<|dQ rfl<|aK rfl<|aU<|bE ?_
 cases h
 exact yR rfl
end
end Go.Proofs.YthnplbmmlbnelaaGreat
end
section
namespace Go.Proofs.YthnplbmmlbnelaaGreat
open Go Go.Sx
def Ll (o:Int):Int:=if o<1∨43<o then -1 else if o<=17 then 0 else if o<=29 then 1 else if o<=42 then 2 else 3
theorem Jd {o:Int} (h:CX o=none):Ll o = -1:=by
 unfold CX at h;unfold Ll
 split at h
 ·rename_i h1;rw[if_pos h1]
 ·split at h
  ·cases h
  ·split at h
   ·cases h
   ·split at h<;>cases h
theorem jT {o:Int} {a:Nat} (h:CX o=some a):Ll o=(a:Int):=by
 unfold CX at h;unfold Ll
 split at h
 ·cases h
 ·rename_i h1
  rw[if_neg h1]
  split at h
  ·rename_i h2;cases h;rw[if_pos h2];rfl
  ·rename_i h2;rw[if_neg h2]
   split at h
   ·rename_i h3;cases h;rw[if_pos h3];rfl
   ·rename_i h3;rw[if_neg h3]
    split at h
    ·rename_i h4;cases h;rw[if_pos h4];rfl
    ·rename_i h4;cases h;rw[if_neg h4];rfl
theorem KG (F:Nat) (o:Int):qW F o=some (Ll o):=by
 unfold qW Av Ll
 by_cases h1:o<1
 ·simp[h1]
 ·by_cases h2:43<o
  ·simp[h1,h2]
  ·by_cases a:o<=17
   ·simp[h1,h2,a]
   ·by_cases b:o<=29
    ·simp[h1,h2,a,b]
    ·by_cases c:o<=42
     ·simp[h1,h2,a,b,c]
     ·simp[h1,h2,a,b,c]
theorem Nn (F:Nat) (o:Int):pC F o=some (Ll o):=by
 unfold pC yE yF yG Ll
 simp only[decide_eq_true_eq,Bool.false_eq_true,if_false]
 repeat' split
 all_goals first|rfl|(exfalso;omega)|(congr 1;omega)
theorem TJ (F:Nat) (o:Int):pY F o=some (agg o):=by
 unfold pY oY agg
 split
 ·rename_i h;simp[h]
 ·rename_i h;simp[h]
theorem WU (F:Nat) (o:Int):oO F o=some (agg o):=by
 unfold oO mY agg
 split
 ·rename_i h;simp[h]
 ·rename_i h;simp[h]
def AF (vars:Int) (t:TM):Bool:=if t.1=1 then decide (0<=t.2)&&decide (t.2<=1073741824)else if t.1=5∨t.1=12 then decide (0<=t.2)&&decide (t.2<vars)else decide (t.2=0)
theorem YL (F:Nat) (t:TM) (vars:Int):wN F t vars=some (AF vars t):=by
 unfold wN qJ uS qK AF
 by_cases h1:t.1=1
 ·simp only[h1,if_true];split<;>rename_i h<;>simp[h]
 ·by_cases h2:t.1=5
  ·simp[h2];split<;>rename_i h<;>simp[h]
  ·by_cases h3:t.1=12
   ·simp[h3];split<;>rename_i h<;>simp[h]
   ·simp[h1,h2,h3]
theorem YB (F:Nat) (t:TM) (vars:Int):uK F t vars=some (AF vars t):=by
 unfold uK oS sS oT AF
 by_cases h1:t.1=1
 ·simp only[h1,if_true];split<;>rename_i h<;>simp[h]
 ·by_cases h2:t.1=5
  ·simp[h2];split<;>rename_i h<;>simp[h]
  ·by_cases h3:t.1=12
   ·simp[h3];split<;>rename_i h<;>simp[h]
   ·simp[h1,h2,h3]
theorem RX (F:Nat) (T:List TM):∀(l pre:List TM) (fuel m:Nat),T=pre++l->T.length<=900->1<=m->m+3*l.length<=3000->l.length<fuel->
  bZ (oZ F T) fuel (((pre.length:Nat):Int),((m:Nat):Int))=some (match rn m l with|some n=>((pre.length+n:Nat):Int)|none=> -1):=by
 intro l
 induction l with
 |nil=>
  intro pre fuel m hT hl hm hb hf
  obtain⟨f,rfl⟩:∃f,fuel=f+1:=⟨fuel - 1,by omega⟩
  obtain⟨m,rfl⟩:∃q,m=q+1:=⟨m - 1,by omega⟩
  show oZ F T _ _=_
  unfold oZ BE
  dsimp only
  rw[if_neg (by rw[hT];simp)]
  rfl
 | cons t r ih =>
  intro pre fuel m hT hl hm hb hf
  simp only[List.length_cons]at hb hf
  obtain⟨f,rfl⟩:∃f,fuel=f+1:=⟨fuel - 1,by omega⟩
  obtain⟨m,rfl⟩:∃q,m=q+1:=⟨m - 1,by omega⟩
  have hlt:pre.length<T.length:=by rw[hT];simp
  have hat:at' T ((pre.length:Nat):Int)=t:=by rw[hT];exact gJ pre r t _ rfl
  have ih':=fun m' h1 h2=>ih (pre++[t]) f m' (by rw[hT];simp) hl h1 h2 (by omega)
  show oZ F T _ (bZ (oZ F T) f)=_
  generalize bZ (oZ F T) f=ag at ih' ⊢
  unfold oZ
  dsimp only
  rw[if_pos (by omega),eP (by omega),hat,bU (KG F t.1)]
  cases ha:CX t.1 with
  |none=>
   rw[Jd ha,if_pos (by decide),KB ha]
  | some a =>
   have ha3:=Gf ha
   rw[jT ha,if_neg (by omega),wr (x:=((a:Nat):Int) - 1) (by omega) (by omega),wr (x:=((m+1:Nat):Int)+(((a:Nat):Int) - 1)) (by omega) (by omega),wr (x:=((pre.length:Nat):Int)+1) (by omega) (by omega),CJ ha]
   by_cases h0:m+a=0
   ·rw[if_pos (by omega),h0,Hu]
    show some _=some (((pre.length+(0+1):Nat)):Int)
    congr 1
   ·rw[if_neg (by omega)]
    have:=ih' (m+a) (by omega) (by omega)
    rw[show(((pre.length:Nat):Int)+1)=(((pre++[t]).length:Nat):Int) by simp,show((m+1:Nat):Int)+(((a:Nat):Int) - 1)=((m+a:Nat):Int) by omega,this]
    cases rn (m+a) r with
    |none=>rfl
    |some n=>simp only[Option.map_some,List.length_append,List.length_cons,List.length_nil];congr 2;omega
theorem Xj (F:Nat) (T:List TM) (k:Nat) (hT:T.length<=900) (hF:T.length<F):Bj F T (k:Int)=some (Db T k):=by
 unfold Bj BD
 rw[if_neg (by omega)]
 simp only[decide_eq_true_eq]
 by_cases h:T.length<=k
 ·rw[if_pos (by omega)]
  unfold Db
  rw[List.drop_of_length_le h];rfl
 ·rw[if_neg (by omega)]
  have:=RX F T (T.drop k) (T.take k) F 1 (by rw[List.take_append_drop]) hT (by omega) (by simp;omega) (by simp;omega)
  rw[List.length_take,Nat.min_eq_left (by omega)]at this
  exact this
theorem RB (F:Nat) (T:List TM):∀(l pre:List TM) (fuel m:Nat),T=pre++l->T.length<=900->1<=m->m+3*l.length<=3000->l.length<fuel->
  bZ (mK F T) fuel (((m:Nat):Int),((pre.length:Nat):Int))=some (match rn m l with|some n=>((pre.length+n:Nat):Int)|none=> -1):=by
 intro l
 induction l with
 |nil=>
  intro pre fuel m hT hl hm hb hf
  obtain⟨f,rfl⟩:∃f,fuel=f+1:=⟨fuel - 1,by omega⟩
  obtain⟨m,rfl⟩:∃q,m=q+1:=⟨m - 1,by omega⟩
  show mK F T _ _=_
  unfold mK AW
  dsimp only
  rw[if_neg (by rw[hT];simp)]
  rfl
 | cons t r ih =>
  intro pre fuel m hT hl hm hb hf
  simp only[List.length_cons]at hb hf
  obtain⟨f,rfl⟩:∃f,fuel=f+1:=⟨fuel - 1,by omega⟩
  obtain⟨m,rfl⟩:∃q,m=q+1:=⟨m - 1,by omega⟩
  have hlt:pre.length<T.length:=by rw[hT];simp
  have hat:at' T ((pre.length:Nat):Int)=t:=by rw[hT];exact gJ pre r t _ rfl
  have ih':=fun m' h1 h2=>ih (pre++[t]) f m' (by rw[hT];simp) hl h1 h2 (by omega)
  show mK F T _ (bZ (mK F T) f)=_
  generalize bZ (mK F T) f=ag at ih' ⊢
  unfold mK
  dsimp only
  rw[if_pos (by omega),eP (by omega),hat,bU (Nn F t.1)]
  cases ha:CX t.1 with
  |none=>
   rw[Jd ha,if_pos (by decide),KB ha]
  | some a =>
   have ha3:=Gf ha
   rw[jT ha,if_neg (by omega),wr (x:=((a:Nat):Int) - 1) (by omega) (by omega),wr (x:=((m+1:Nat):Int)+(((a:Nat):Int) - 1)) (by omega) (by omega),wr (x:=((pre.length:Nat):Int)+1) (by omega) (by omega),CJ ha]
   by_cases h0:m+a=0
   ·rw[if_pos (by omega),h0,Hu]
    show some _=some (((pre.length+(0+1):Nat)):Int)
    congr 1
   ·rw[if_neg (by omega)]
    have:=ih' (m+a) (by omega) (by omega)
    rw[show(((pre.length:Nat):Int)+1)=(((pre++[t]).length:Nat):Int) by simp,show((m+1:Nat):Int)+(((a:Nat):Int) - 1)=((m+a:Nat):Int) by omega,this]
    cases rn (m+a) r with
    |none=>rfl
    |some n=>simp only[Option.map_some,List.length_append,List.length_cons,List.length_nil];congr 2;omega
theorem VH (F:Nat) (T:List TM) (k:Nat) (hT:T.length<=900) (hF:T.length<F):xM F T (k:Int)=some (Db T k):=by
 unfold xM AV
 rw[if_neg (by omega)]
 simp only[decide_eq_true_eq]
 by_cases h:T.length<=k
 ·rw[if_pos (by omega)]
  unfold Db
  rw[List.drop_of_length_le h];rfl
 ·rw[if_neg (by omega)]
  have:=RB F T (T.drop k) (T.take k) F 1 (by rw[List.take_append_drop]) hT (by omega) (by simp;omega) (by simp;omega)
  rw[List.length_take,Nat.min_eq_left (by omega)]at this
  exact this
end Go.Proofs.YthnplbmmlbnelaaGreat
end
section
namespace Go.Proofs.YthnplbmmlbnelaaGreat
open Go.Sx
section
def Bq  (a7:cU):Option (Int×Bool):=
 ck (0<=(0:Int)∧(0:Int)<(List.length a7:Int)) (some ((at' a7 (0:Int)),true))
def y_ (p0:cS) (g1:Int->Int->Option Int) (a14:cU×Int) (ag13:(cU×Int)->Option (Int×Bool)) (r19:Int) (a23:Int):Option (Int×Bool):=
 ck (0<=(0:Int)∧(0:Int)<=(wI .i64 ((List.length a14.1:Int) - r19))∧(wI .i64 ((List.length a14.1:Int) - r19))<=(List.length a14.1:Int)) (ck (0<=a14.2∧a14.2<(List.length p0:Int)) (Option.bind (g1 ((at' p0 a14.2).1) a23) fun r27=>(ck ((List.length (List.take (Int.toNat (wI .i64 ((List.length a14.1:Int) - r19))) a14.1):Int)+(List.length ([r27]):Int)<=1099511627) (ag13 (((List.take (Int.toNat (wI .i64 ((List.length a14.1:Int) - r19))) a14.1)++[r27]),(wI .i64 (a14.2 - (1:Int))))))))
def jQ (p0:cS) (g1:Int->Int->Option Int) (a14:cU×Int) (ag13:(cU×Int)->Option (Int×Bool)) (r19:Int) (a37:lS) (ag36:gY->Option (Int×Bool)):Option (Int×Bool):=
 if a37.2<(List.length (List.drop (Int.toNat (wI .i64 ((List.length a14.1:Int) - r19))) (List.take (Int.toNat (List.length a14.1:Int)) a14.1)):Int)then(ck (0<=a37.2∧a37.2<(List.length (List.drop (Int.toNat (wI .i64 ((List.length a14.1:Int) - r19))) (List.take (Int.toNat ((List.length a14.1:Int))) a14.1)):Int)) (ag36 ((max a37.1 (at' (List.drop (Int.toNat (wI .i64 ((List.length a14.1:Int) - r19))) (List.take (Int.toNat (List.length a14.1:Int)) a14.1)) a37.2)),(wI .i64 (a37.2+(1:Int))))))else(y_ p0 g1 a14 ag13 r19 (a37.1))
def fV (U:Nat) (p0:cS) (g1:Int->Int->Option Int) (a14:cU×Int) (ag13:(cU×Int)->Option (Int×Bool)):Option (Int×Bool):=
 if(0:Int)<=a14.2 then(ck (0<=a14.2∧a14.2<(List.length p0:Int)) (Option.bind (qW U ((at' p0 a14.2).1)) fun r19=>(ck (0<=(wI .i64 ((List.length a14.1:Int) - r19))∧(wI .i64 ((List.length a14.1:Int) - r19))<=((List.length a14.1:Int))∧((List.length a14.1:Int))<=(List.length a14.1:Int)) (bZ (jQ p0 g1 a14 ag13 r19) U ((0:Int),(0:Int))))))else(Bq  (a14.1))
def vH (U:Nat) (p0:cS) (g1:Int->Int->Option Int):Option (Int×Bool):=
 Option.bind (Bj U p0 (0:Int)) fun r1=>(if r1≠(List.length p0:Int)then(some ((0:Int),false))else(bZ (fV U p0 g1) U (([]:cU),(wI .i64 ((List.length p0:Int) - (1:Int))))))
theorem QG:bO Tryz.prog 88:=Tryz.call88
theorem EG (U:Nat) {p0:cS} {g1:Int->Int->Option Int} (f1:FuncId) (cs1:lR) (Lf:List bX) (hb_g1:bO Tryz.prog f1) (hm_g1:∀(y0:Int) (y1:Int) (r:Int),g1 y0 y1=some r->bQ Tryz.prog f1 ([vI (y0),vI (y1)]++cs1).toArray Lf (fun _:Unit=>vI (r)) (fun _ l=>l) (fun _ l=>l)) (v0:Value) (r:Int×Bool) (h:vH U p0 g1=some r):
  bQ Tryz.prog 88 #[v0,Value.func (.func f1) #[] (cs1).toArray] ([Sl bF v0 p0]++Lf) (fun x:Unit=>Value.tuple #[vI (r.1),vB (r.2)]) (fun x l=>l) (fun _ l=>l):=by
 refine bQ.of Tryz.func88 rfl Tryz.ntmps88 rfl fun c=>?_
 refine aZ<|aK rfl<|aK rfl<|aU<|aP<|aZ<|aE rfl<|fO h fun r1 w2 h=>aT (aW.callQ QE (Iu U v0 r1 w2) rfl (gO [0] rfl)) rfl fun x3=>aE rfl<|eC (dN rfl) rfl<|Cf rfl<|aU ?_
 refine gT h rfl (fun h=>?_) fun h=>?_
 ·refine aZ<|aK rfl<|aK rfl<|aU<|bE<|aR ?_
  cases h
  exact fB () rfl rfl (RV.tmp rfl) (RV.tmp rfl) (bH.refl _) aV.nil
 refine cC<|aZ<|aK rfl<|aU<|aP<|iM (B:=Value) (fun a7=>Bq  a7=some r) (fun a7 b8=>[(6,b8)]) (fun a7 b8=>[Ar gZ b8 a7]) (fun a7 b8=>([Sl bF v0 p0]++Lf)) ?_ ?_
 ·refine aZ<|aE rfl<|eC (dN rfl) rfl<|aJ (sY rfl rfl) rfl<|aK rfl<|aU<|aY<|cJ (d_ gZ)<|jL (B:=Value) (fV U p0 g1) (fun a14 b15=>[(0,v0),(1,Value.func (.func f1) #[] (cs1).toArray),(6,b15),(7,vI (a14.2))]) (fun a14 b15=>[Ar gZ b15 a14.1]) (fun a14 b15=>([Sl bF v0 p0]++Lf)) (([]:cU),(wI .i64 ((List.length p0:Int) - (1:Int)))) (fX) h SF (bH.refl _) (aV.refl _ _) ?_
  intro k16 a14 b15 h
  refine aP<|aZ<|aE rfl<|aJ (jM rfl rfl) rfl<|aU ?_
  refine gT h rfl (fun h=>?_) fun h=>?_
  ·refine cC<|aP<|aY<|aZ<|aE rfl<|aJ (dR rfl (aM.ar (aM.res 0 rfl) jF) rfl) rfl<|aE rfl<|aE rfl<|fJ h fun j18 h=>aJ (a_ rfl rfl (dN rfl) rfl rfl j18) rfl<|aJ (cW rfl rfl rfl rfl rfl) rfl<|aJ (fN rfl (dN rfl) rfl rfl rfl pA j18) rfl<|fO h fun r19 w20 h=>aT (aW.callQ Kb (AX U  r19 w20) rfl .nil) rfl fun x21=>aJ (sY rfl rfl) rfl<|aK rfl<|aU<|aZ<|aK rfl<|aU<|aP<|iM (B:=Unit) (fun a23=>y_ p0 g1 a14 (bZ (fV U p0 g1) k16) r19 a23=some r) (fun a23 b24=>[(0,v0),(1,Value.func (.func f1) #[] (cs1).toArray),(6,b15),(7,vI (a14.2)),(8,vI (wI .i64 ((List.length a14.1:Int) - r19))),(9,vI (a23))]) (fun a23 b24=>[Ar gZ b15 a14.1]) (fun a23 b24=>([Sl bF v0 p0]++Lf)) ?_ ?_
   ·refine aZ<|aE rfl<|aE rfl<|fJ h fun j33 h=>aJ (Qn rfl rfl (aM.ar (aM.res 0 rfl) jF) rfl rfl j33) rfl<|aJ (dR rfl (aM.part (aM.ar (aM.res 0 rfl) jF) rfl j33) rfl) rfl<|aE rfl<|aU<|aY<|jL (B:=Unit) (jQ p0 g1 a14 (bZ (fV U p0 g1) k16) r19) (fun a37 b38=>[(0,v0),(1,Value.func (.func f1) #[] (cs1).toArray),(6,b15),(7,vI (a14.2)),(8,vI (wI .i64 ((List.length a14.1:Int) - r19))),(9,vI (a37.1)),(35,LS b15 (Int.toNat (wI .i64 ((List.length a14.1:Int) - r19))) (Int.toNat (List.length a14.1:Int)) 1),(36,vI (List.length (List.drop (Int.toNat (wI .i64 ((List.length a14.1:Int) - r19))) (List.take (Int.toNat (List.length a14.1:Int)) a14.1)):Int)),(37,vI (a37.2))]) (fun a37 b38=>[Ar gZ b15 a14.1]) (fun a37 b38=>([Sl bF v0 p0]++Lf)) ((0:Int),(0:Int)) () h SF (bH.refl _) (aV.refl _ _) ?_
    intro k39 a37 b38 h
    refine aZ<|dL rfl<|aU<|aP ?_
    refine gT h rfl (fun h=>?_) fun h=>?_
    ·refine cC<|aP<|aY<|aZ<|fJ h fun j41 h=>aJ (a_ rfl rfl (aM.part (aM.ar (aM.res 0 rfl) jF) rfl j33) rfl rfl j41) rfl<|aJ (iN rfl (aM.part (aM.ar (aM.res 0 rfl) jF) rfl j33) rfl rfl rfl mT j41) rfl<|aK rfl<|aU<|aS<|aE rfl<|aE rfl<|aJ (Ql rfl rfl) rfl<|aK rfl<|fQ<|lP<|aS<|dM rfl<|aE rfl<|aU ?_
     exact BR ((max a37.1 (at' (List.drop (Int.toNat (wI .i64 ((List.length a14.1:Int) - r19))) (List.take (Int.toNat (List.length a14.1:Int)) a14.1)) a37.2)),(wI .i64 (a37.2+(1:Int)))) () h SF rfl
    refine eQ ?_
    exact cZ (a37.1) () h SF rfl
   intro a23 b24 h
   refine CC [0,0,3,0,0,0,48,112,240,0,1016,2040,4095,8191] 12 mixedOrders ?_
   refine dG rfl<|dG rfl<|fJ h fun j25 h=>dK rfl (bH.cons 0 rfl .nil) .nil (HC rfl rfl (aM.ar (aM.res 0 rfl) jF) rfl rfl j25) bG.z<|dG rfl<|dG rfl<|dG rfl<|fJ h fun j26 h=>dK rfl .nil (jY 0 rfl) (a_ rfl rfl (dN rfl) rfl rfl j26) bG.z<|zE rfl (cW rfl rfl rfl rfl rfl)<|dK rfl .nil (jY 0 rfl) (fN rfl (dN rfl) rfl rfl rfl pA j26) bG.z<|dG rfl<|fO h fun r27 w28 h=>JR.loud rfl rfl rfl (xH (vs:=[vI ((at' p0 a14.2).1),vI (a23)]) (cs:=cs1) hb_g1 rfl (hm_g1 ((at' p0 a14.2).1) a23 r27 w28) rfl (aV.tail _) (fun _ _=>rfl)) rfl (fun x29=>(pH [([0],[])] rfl)) fun x29=>JR.loud rfl rfl rfl (dJ (e:=gZ) ([r27]) [(0,vI (r27))] rfl rfl rfl rfl (Bc (vI (r27)) rfl) rfl rfl rfl) rfl (fun u30=>(pH [([1],[])] rfl)) fun u30=>cX 12 rfl rfl<|cJ (EM (sz:=1) 1 rfl j25)<|fJ h fun j32 h=>aT (dP 1 jF rfl rfl rfl (aM.ar (aM.res 0 rfl) jF) rfl rfl rfl rfl j32 rfl) rfl fun u31=>aK rfl<|fQ<|lP<|aS<|aE rfl<|aJ (sY rfl rfl) rfl<|aK rfl<|aU ?_
   exact dZ (((List.take (Int.toNat (wI .i64 ((List.length a14.1:Int) - r19))) a14.1)++[r27]),(wI .i64 (a14.2 - (1:Int)))) (u31) h SF (bH.ix [1] rfl rfl) (aV.refl _ _)
  refine eQ ?_
  exact cZ (a14.1) (b15) h SF rfl
 intro a7 b8 h
 refine aZ<|aE rfl<|fJ h fun j9 h=>aJ (a_ rfl rfl (aM.ar (aM.res 0 rfl) jF) rfl rfl j9) rfl<|aJ (iN rfl (aM.ar (aM.res 0 rfl) jF) rfl rfl rfl mT j9) rfl<|aK rfl<|aK rfl<|aU<|bE ?_
 cases h
 exact fB () rfl rfl (RV.tmp rfl) (RV.tmp rfl) .nil aV.nil
end
section
def yC (U:Nat) (p0:Int) (p1:Int):Option (Int):=
 some (wI .i64 (p1+(1:Int)))
theorem Vf:bO Tryz.prog 89:=Tryz.call89
theorem It (U:Nat) {p0:Int} {p1:Int} (r:Int) (h:yC U p0 p1=some r):
  bQ Tryz.prog 89 #[vI (p0),vI (p1)] [] (fun x:Unit=>vI (r)) (fun x l=>l) (fun _ l=>l):=by
 refine bQ.of Tryz.func89 rfl Tryz.ntmps89 rfl fun c=>?_
 unfold yC at h
 refine aZ<|aK rfl<|aU<|aZ<|aE rfl<|dM rfl<|aK rfl<|aU<|bE ?_
 cases h
 exact kF rfl
end
section
def AT (U:Nat) (p0:cS):Option (Int):=
 Option.bind (vH U p0 (fun y0 y1=>yC U y0 y1)) fun r1=>(some (r1.1))
theorem UT:bO Tryz.prog 66:=Tryz.call66
theorem KM (U:Nat) {p0:cS} (v0:Value) (r:Int) (h:AT U p0=some r):
  bQ Tryz.prog 66 #[v0] [Sl bF v0 p0] (fun x:Unit=>vI (r)) (fun x l=>l) (fun _ l=>l):=by
 refine bQ.of Tryz.func66 rfl Tryz.ntmps66 rfl fun c=>?_
 refine aZ<|aK rfl<|aU<|aZ<|aE rfl<|fO h fun r1 w2 h=>aT (aW.callQ QG (EG U 89 [] [] Vf (fun y0 y1 r h=>It U  r h) v0 r1 w2) rfl (gO [0] rfl)) rfl fun x3=>aE rfl<|mM rfl<|mM rfl<|aK rfl<|aK rfl<|aU<|aZ<|aE rfl<|aK rfl<|aU<|bE ?_
 cases h
 exact kF rfl
end
section
def BM (U:Nat) (p0:Int) (p1:Int):Option (Int):=
 Option.bind (pY U p0) fun r1=>(if r1=true then(some (wI .i64 (p1+(1:Int))))else(some (p1)))
theorem Vg:bO Tryz.prog 90:=Tryz.call90
theorem IT (U:Nat) {p0:Int} {p1:Int} (r:Int) (h:BM U p0 p1=some r):
  bQ Tryz.prog 90 #[vI (p0),vI (p1)] [] (fun x:Unit=>vI (r)) (fun x l=>l) (fun _ l=>l):=by
 refine bQ.of Tryz.func90 rfl Tryz.ntmps90 rfl fun c=>?_
 refine aZ<|aK rfl<|aU<|aP<|aZ<|aE rfl<|fO h fun r1 w2 h=>aT (aW.callQ QI (Ch U  r1 w2) rfl .nil) rfl fun x3=>aU ?_
 refine gP h rfl (fun _ h=>?_) fun _ h=>?_
 ·refine aZ<|aE rfl<|dM rfl<|aK rfl<|aU<|bE<|aR ?_
  cases h
  exact kF rfl
 refine cC<|aZ<|aE rfl<|aK rfl<|aU<|bE ?_
 cases h
 exact kF rfl
end
section
def Bz (U:Nat) (p0:cS):Option (Int):=
 Option.bind (vH U p0 (fun y0 y1=>BM U y0 y1)) fun r1=>(some (r1.1))
theorem UU:bO Tryz.prog 67:=Tryz.call67
theorem LX (U:Nat) {p0:cS} (v0:Value) (r:Int) (h:Bz U p0=some r):
  bQ Tryz.prog 67 #[v0] [Sl bF v0 p0] (fun x:Unit=>vI (r)) (fun x l=>l) (fun _ l=>l):=by
 refine bQ.of Tryz.func67 rfl Tryz.ntmps67 rfl fun c=>?_
 refine aZ<|aK rfl<|aU<|aZ<|aE rfl<|fO h fun r1 w2 h=>aT (aW.callQ QG (EG U 90 [] [] Vg (fun y0 y1 r h=>IT U  r h) v0 r1 w2) rfl (gO [0] rfl)) rfl fun x3=>aE rfl<|mM rfl<|mM rfl<|aK rfl<|aK rfl<|aU<|aZ<|aE rfl<|aK rfl<|aU<|bE ?_
 cases h
 exact kF rfl
end
end Go.Proofs.YthnplbmmlbnelaaGreat
end
section
namespace Go.Proofs.YthnplbmmlbnelaaGreat
open Go Go.Sx
def X.num (g:Int->Int->Int):X->Int
 |lf t=>g t.1 0
 |un t x=>g t.1 (max 0 (x.num g))
 |bi t x y=>g t.1 (max (max 0 (y.num g)) (x.num g))
 |tr t x y z=>g t.1 (max (max (max 0 (z.num g)) (y.num g)) (x.num g))
theorem TL (T:List TM) (G:Int->Int->Option Int) (a:List Int×Int) (ag:(List Int×Int)->Option (Int×Bool)) (D:cU) (r:Int) (hD:List.drop (Int.toNat (wI .i64 ((List.length a.1:Int) - r))) (List.take (Int.toNat (List.length a.1:Int)) a.1)=D) (hl:D.length<1000):
  ∀(l pre:cU) (m:Int) (fuel:Nat),D=pre++l->l.length<fuel->bZ (jQ T G a ag r) fuel (m,((pre.length:Nat):Int))=y_ T G a ag r (l.foldl max m):=by
 intro l
 induction l with
 |nil=>
  intro pre m fuel h hf
  obtain⟨f,rfl⟩:∃f,fuel=f+1:=⟨fuel - 1,by omega⟩
  show jQ T G a ag r _ _=_
  unfold jQ
  dsimp only
  rw[hD,if_neg (by rw[h];simp)]
  rfl
 |cons x l ih=>
  intro pre m fuel h hf
  simp only[List.length_cons]at hf
  obtain⟨f,rfl⟩:∃f,fuel=f+1:=⟨fuel - 1,by omega⟩
  have hlt:pre.length<D.length:=by rw[h];simp
  have ih':=fun m'=>ih (pre++[x]) m' f (by rw[h];simp) (by omega)
  show jQ T G a ag r _ (bZ (jQ T G a ag r) f)=_
  generalize bZ (jQ T G a ag r) f=ag' at ih' ⊢
  unfold jQ
  dsimp only
  rw[hD,if_pos (by omega),eP (by omega),wr (by omega) (by omega),show at' D ((pre.length:Nat):Int)=x by rw[h];exact gJ pre l x _ rfl]
  have:=ih' (max m x)
  rw[show(((pre.length:Nat):Int)+1)=(((pre++[x]).length:Nat):Int) by simp,this]
  rfl
theorem FS (F:Nat) {T:List TM} {G:Int->Int->Option Int} {g:Int->Int->Int} (hG:∀o m,0<=m->m<=1000->G o m=some (g o m)) {pre post:List TM} {t:TM} (hT:T=pre++t::post) (hl:T.length<=900) (hF:10<=F) {S D:cU} {a:Nat} (ha:CX t.1=some a) (hD:D.length=a) (hS:S.length<=900) (hm:0<=D.foldl max 0) (hm2:D.foldl max 0<=1000) (fuel:Nat):
  bZ (fV F T G) (fuel+1) (S++D,((pre.length:Nat):Int))=bZ (fV F T G) fuel (S++[g t.1 (D.foldl max 0)],((pre.length:Nat):Int) - 1):=by
 have ha3:=Gf ha
 have hlt:pre.length<T.length:=by rw[hT];simp
 have hat:at' T ((pre.length:Nat):Int)=t:=by rw[hT];exact gJ pre post t _ rfl
 show fV F T G _ (bZ (fV F T G) fuel)=_
 generalize bZ (fV F T G) fuel=ag
 unfold fV
 have hlen:((S++D).length:Int) - (a:Int)=(S.length:Int):=by simp;omega
 dsimp only
 rw[if_pos (by omega),eP (by omega),hat,bU (KG F t.1),jT ha,hlen,wr (by omega) (by omega),eP (by simp;omega)]
 rw[show((0:Int),(0:Int))=(0,((([]:cU).length:Nat):Int))from rfl]
 rw[TL T G (S++D,((pre.length:Nat):Int)) ag D (a:Int) (by
  dsimp only
  rw[hlen,wr (by omega) (by omega),Int.toNat_natCast,Int.toNat_natCast,List.take_length,List.drop_left]) (by omega) D [] 0 F (by simp) (by omega)]
 unfold y_
 dsimp only
 rw[hlen,wr (by omega) (by omega),wr (by omega) (by omega),eP (by simp;omega),eP (by omega),hat,bU (hG _ _ hm hm2),Int.toNat_natCast,List.take_left,eP (by simp;omega)]
theorem Bn (F:Nat) {T:List TM} {G:Int->Int->Option Int} {g:Int->Int->Int} (hG:∀o m,0<=m->m<=1000->G o m=some (g o m)) (hg:∀o m,0<=m->0<=g o m∧g o m<=m+1) (hl:T.length<=900) (hF:10<=F):∀(x:X),x.ok->x.num g<=x.ts.length∧0<=x.num g∧∀(pre post:List TM) (S:cU) (fuel:Nat),T=pre++(x.ts++post)->S.length+x.ts.length<=900->
  bZ (fV F T G) (fuel+x.ts.length) (S,((pre.length+x.ts.length:Nat):Int) - 1)=bZ (fV F T G) fuel (S++[x.num g],((pre.length:Nat):Int) - 1)
 | .lf t,hx=>by
  have h0:=hg t.1 0 (by omega)
  refine⟨by simp only[X.num,X.ts,List.length_cons,List.length_nil];omega,h0.1,fun pre post S fuel hT hS=> ?_⟩
  have:=FS F hG (pre:=pre) (post:=post) (t:=t) (by simpa [X.ts]using hT) hl hF (S:=S) (D:=[]) hx rfl (by omega) (by simp) (by simp) fuel
  rw[List.append_nil]at this
  simp only[X.ts,List.length_cons,List.length_nil]
  rw[show((pre.length+(0+1):Nat):Int) - 1=((pre.length:Nat):Int) by omega,this]
  rfl
 | .un t x,hx=>by
  obtain⟨h1,h2,ih⟩:=Bn F hG hg hl hF x hx.2
  have h0:=hg t.1 (max 0 (x.num g)) (by omega)
  refine⟨by simp only[X.num,X.ts,List.length_cons];omega,h0.1,fun pre post S fuel hT hS=> ?_⟩
  simp only[X.ts,List.length_cons]at hS ⊢
  have hlen:=congrArg List.length hT
  simp only[X.ts,List.length_append,List.length_cons]at hlen
  have:=ih (pre++[t]) post S (fuel+1) (by rw[hT];simp[X.ts]) (by omega)
  rw[show fuel+(x.ts.length+1)=fuel+1+x.ts.length by omega,show((pre.length+(x.ts.length+1):Nat):Int) - 1=(((pre++[t]).length+x.ts.length:Nat):Int) - 1 by simp;omega,this]
  have:=FS F hG (pre:=pre) (post:=x.ts++post) (t:=t) (by rw[hT];simp[X.ts]) hl hF (S:=S) (D:=[x.num g]) hx.1 rfl (by omega) (by simp;omega) (by simp;omega) fuel
  rw[show(((pre++[t]).length:Nat):Int) - 1=((pre.length:Nat):Int) by simp,this]
  rfl
 | .bi t x y, hx => by
  obtain⟨h1,h2,ihx⟩:=Bn F hG hg hl hF x hx.2.1
  obtain⟨k1,k2,ihy⟩:=Bn F hG hg hl hF y hx.2.2
  have h0:=hg t.1 (max (max 0 (y.num g)) (x.num g)) (by omega)
  have hy:=y.pos
  refine⟨by simp only[X.num,X.ts,List.length_cons,List.length_append];omega,h0.1,fun pre post S fuel hT hS=> ?_⟩
  simp only[X.ts,List.length_cons,List.length_append]at hS ⊢
  have hlen:=congrArg List.length hT
  simp only[X.ts,List.length_append,List.length_cons]at hlen
  have e1:=ihy (pre++t::x.ts) post S (fuel+1+x.ts.length) (by rw[hT];simp[X.ts]) (by omega)
  have e2:=ihx (pre++[t]) (y.ts++post) (S++[y.num g]) (fuel+1) (by rw[hT];simp[X.ts]) (by simp;omega)
  rw[show fuel+(x.ts.length+y.ts.length+1)=fuel+1+x.ts.length+y.ts.length by omega,show((pre.length+(x.ts.length+y.ts.length+1):Nat):Int) - 1=(((pre++t::x.ts).length+y.ts.length:Nat):Int) - 1 by simp;omega,e1,
   show(((pre++t::x.ts).length:Nat):Int) - 1=(((pre++[t]).length+x.ts.length:Nat):Int) - 1 by simp;omega,e2]
  have:=FS F hG (pre:=pre) (post:=x.ts++(y.ts++post)) (t:=t) (by rw[hT];simp[X.ts]) hl hF (S:=S) (D:=[y.num g,x.num g]) hx.1 rfl (by omega) (by simp;omega) (by simp;omega) fuel
  rw[show(((pre++[t]).length:Nat):Int) - 1=((pre.length:Nat):Int) by simp,show S++[y.num g]++[x.num g]=S++[y.num g,x.num g] by simp,this]
  rfl
 | .tr t x y z, hx => by
  obtain⟨h1,h2,ihx⟩:=Bn F hG hg hl hF x hx.2.1
  obtain⟨k1,k2,ihy⟩:=Bn F hG hg hl hF y hx.2.2.1
  obtain⟨l1,l2,ihz⟩:=Bn F hG hg hl hF z hx.2.2.2
  have h0:=hg t.1 (max (max (max 0 (z.num g)) (y.num g)) (x.num g)) (by omega)
  have hy:=y.pos
  have hz:=z.pos
  refine⟨by simp only[X.num,X.ts,List.length_cons,List.length_append];omega,h0.1,fun pre post S fuel hT hS=> ?_⟩
  simp only[X.ts,List.length_cons,List.length_append]at hS ⊢
  have hlen:=congrArg List.length hT
  simp only[X.ts,List.length_append,List.length_cons]at hlen
  have e0:=ihz (pre++t::(x.ts++y.ts)) post S (fuel+1+x.ts.length+y.ts.length) (by rw[hT];simp[X.ts]) (by omega)
  have e1:=ihy (pre++t::x.ts) (z.ts++post) (S++[z.num g]) (fuel+1+x.ts.length) (by rw[hT];simp[X.ts]) (by simp;omega)
  have e2:=ihx (pre++[t]) (y.ts++(z.ts++post)) (S++[z.num g]++[y.num g]) (fuel+1) (by rw[hT];simp[X.ts]) (by simp;omega)
  rw[show fuel+(x.ts.length+(y.ts.length+z.ts.length)+1)=fuel+1+x.ts.length+y.ts.length+z.ts.length by omega,show((pre.length+(x.ts.length+(y.ts.length+z.ts.length)+1):Nat):Int) - 1=(((pre++t::(x.ts++y.ts)).length+z.ts.length:Nat):Int) - 1 by simp;omega,e0,
   show(((pre++t::(x.ts++y.ts)).length:Nat):Int) - 1=(((pre++t::x.ts).length+y.ts.length:Nat):Int) - 1 by simp;omega,e1,
   show(((pre++t::x.ts).length:Nat):Int) - 1=(((pre++[t]).length+x.ts.length:Nat):Int) - 1 by simp;omega,e2]
  have:=FS F hG (pre:=pre) (post:=x.ts++(y.ts++(z.ts++post))) (t:=t) (by rw[hT];simp[X.ts]) hl hF (S:=S) (D:=[z.num g,y.num g,x.num g]) hx.1 rfl (by omega) (by simp;omega) (by simp;omega) fuel
  rw[show(((pre++[t]).length:Nat):Int) - 1=((pre.length:Nat):Int) by simp,show S++[z.num g]++[y.num g]++[x.num g]=S++[z.num g,y.num g,x.num g] by simp,this]
  rfl
theorem tLv (F:Nat) {G:Int->Int->Option Int} {g:Int->Int->Int} (hG:∀o m,0<=m->m<=1000->G o m=some (g o m)) (hg:∀o m,0<=m->0<=g o m∧g o m<=m+1) {x:X} (hx:x.ok) (hl:x.ts.length<=450) (hF:460<=F):vH F x.ts G=some (x.num g,true):=by
 have hp:=x.pos
 obtain⟨_,_,h⟩:=Bn F (T:=x.ts) hG hg (by omega) (by omega) x hx
 unfold vH
 have he:=Xj F x.ts 0 (by omega) (by omega)
 rw[show((0:Nat):Int)=0 from rfl]at he
 rw[bU he,Kg hx,if_neg (by simp),wr (by omega) (by omega)]
 have:=h [] [] [] (F - x.ts.length - 1+1) (by simp) (by simp;omega)
 rw[show F - x.ts.length - 1+1+x.ts.length=F by omega]at this
 simp only[List.length_nil,Nat.zero_add,List.nil_append]at this
 rw[this]
 show fV F x.ts G _ _=_
 unfold fV Bq
 dsimp only
 rw[if_neg (by decide),eP (by simp)]
 rfl
theorem X.num_depth:∀x:X,x.num (fun _ m=>m+1)=(x.depth:Int)
 |lf t=>by simp[X.num,X.depth]
 |un t x=>by have:=x.num_depth;simp only[X.num,X.depth,this];omega
 |bi t x y=>by have:=x.num_depth;have:=y.num_depth;simp only[X.num,X.depth, *];omega
 |tr t x y z=>by have:=x.num_depth;have:=y.num_depth;have:=z.num_depth;simp only[X.num,X.depth, *];omega
theorem Bu {o:Int} {a:Nat} (h:CX o=some a) (ha:a≠1):agg o=false:=by
 unfold CX at h;unfold agg
 split at h
 ·cases h
 ·split at h
  ·simp;omega
  ·split at h
   ·cases h;exact absurd rfl ha
   ·simp;omega
theorem X.num_nest:∀x:X,x.ok->x.num (fun o m=>if agg o then m+1 else m)=(x.nest:Int)
 |lf t,h=>by simp[X.num,X.nest,Bu h (by decide)]
 |un t x,h=>by have:=x.num_nest h.2;simp only[X.num,X.nest,this];split<;>simp<;>omega
 |bi t x y,h=>by have:=x.num_nest h.2.1;have:=y.num_nest h.2.2;simp only[X.num,X.nest,Bu h.1 (by decide), *];simp;omega
 |tr t x y z,h=>by have:=x.num_nest h.2.1;have:=y.num_nest h.2.2.1;have:=z.num_nest h.2.2.2;simp only[X.num,X.nest,Bu h.1 (by decide), *];simp;omega
theorem VZ (F:Nat) {x:X} (hx:x.ok) (hl:x.ts.length<=450) (hF:460<=F):AT F x.ts=some (x.depth:Int):=by
 unfold AT
 rw[bU (tLv F (g:=fun _ m=>m+1) (fun o m h1 h2=>by unfold yC;rw[wr (by omega) (by omega)]) (fun o m h=>⟨by omega,by omega⟩) hx hl hF),X.num_depth]
theorem Xo (F:Nat) {x:X} (hx:x.ok) (hl:x.ts.length<=450) (hF:460<=F):Bz F x.ts=some (x.nest:Int):=by
 unfold Bz
 rw[bU (tLv F (g:=fun o m=>if agg o then m+1 else m) (fun o m h1 h2=>by
  unfold BM;rw[bU (TJ F o)];split
  ·rw[wr (by omega) (by omega)]
  ·rfl) (fun o m h=>by split<;>omega) hx hl hF),X.num_nest x hx]
end Go.Proofs.YthnplbmmlbnelaaGreat
end
section
namespace Go.Proofs.YthnplbmmlbnelaaGreat
open Go.Sx
section
def yI  (a2:Bool):Option (Bool):=
 some (a2)
def xN (U:Nat) (p0:cS):Option (Bool):=
 if(0:Int)<(List.length p0:Int)then(Option.bind (xM U p0 (0:Int)) fun r5=>(yI  (decide (r5=(List.length p0:Int)))))else(yI  (false))
theorem ML:bO Tryz.prog 68:=Tryz.call68
theorem DO (U:Nat) {p0:cS} (v0:Value) (r:Bool) (h:xN U p0=some r):
  bQ Tryz.prog 68 #[v0] [Sl bF v0 p0] (fun x:Unit=>vB (r)) (fun x l=>l) (fun _ l=>l):=by
 refine bQ.of Tryz.func68 rfl Tryz.ntmps68 rfl fun c=>?_
 refine aZ<|aK rfl<|aU<|aP<|dD (fun a2=>yI  a2=some r) (fun a2 b3=>[(2,vB (a2))]) (fun a2 b3=>[]) ?_ ?_
 ·refine aS<|aE rfl<|eC (dN rfl) rfl<|aJ (kT rfl rfl) rfl<|aE rfl ?_
  refine oD h rfl (fun _ h=>?_) fun _ h=>?_
  ·refine cP rfl<|fO h fun r5 w6 h=>eX rfl (aW.callQ MN (DK U v0 r5 w6) rfl (gO [0] rfl)) rfl fun x7=>cP rfl<|aL rfl (dR rfl (dN rfl) rfl) rfl<|aL rfl (mU rfl rfl) rfl<|cE rfl<|aK rfl<|aU ?_
   exact cZ (decide (r5=(List.length p0:Int))) () h SF rfl
  refine aI rfl<|aI rfl<|aI rfl<|aI rfl<|aI rfl<|cI rfl<|aK rfl<|aU ?_
  exact cZ (false) () h SF rfl
 intro a2 b3 h
 unfold yI at h
 refine bE ?_
 cases h
 exact kF rfl
end
section
def wT  (a3:lS):Option gY:=
 some (a3.1,a3.2)
def h_ (a13:Jy) (ag12:Jx->Option gY) (a23:Int×Int×cU×List (Bool)):Option gY:=
 ag12 (a23.1,a23.2.1,a23.2.2.1,a23.2.2.2,(wI .i64 (a13.2.2.2.2+(1:Int))))
def oG (a13:Jy) (ag12:Jx->Option gY) (r26:Int) (a40:Int) (a47:cU×List (Bool)) (ag46:(cU×List (Bool))->Option gY) (a51:Bool):Option gY:=
 if a51=true then(ck (0<=(0:Int)∧(0:Int)<=(wI .i64 ((List.length a47.1:Int) - (1:Int)))∧(wI .i64 ((List.length a47.1:Int) - (1:Int)))<=(List.length a47.1:Int)) (ck (0<=(0:Int)∧(0:Int)<=(wI .i64 ((List.length a47.2:Int) - (1:Int)))∧(wI .i64 ((List.length a47.2:Int) - (1:Int)))<=(List.length a47.2:Int)) (if(0:Int)<(List.length (List.take (Int.toNat (wI .i64 ((List.length a47.1:Int) - (1:Int)))) a47.1):Int)then(ck (0<=(wI .i64 ((List.length (List.take (Int.toNat (wI .i64 ((List.length a47.1:Int) - (1:Int)))) a47.1):Int) - (1:Int)))∧(wI .i64 ((List.length (List.take (Int.toNat (wI .i64 ((List.length a47.1:Int) - (1:Int)))) a47.1):Int) - (1:Int)))<(List.length (List.take (Int.toNat (wI .i64 ((List.length a47.1:Int) - (1:Int)))) a47.1):Int)) (ck (0<=(wI .i64 ((List.length (List.take (Int.toNat (wI .i64 ((List.length a47.1:Int) - (1:Int)))) a47.1):Int) - (1:Int)))∧(wI .i64 ((List.length (List.take (Int.toNat (wI .i64 ((List.length a47.1:Int) - (1:Int)))) a47.1):Int) - (1:Int)))<(List.length (List.take (Int.toNat (wI .i64 ((List.length a47.1:Int) - (1:Int)))) a47.1):Int)) (ag46 ((List.set (List.take (Int.toNat (wI .i64 ((List.length a47.1:Int) - (1:Int)))) a47.1) (Int.toNat (wI .i64 ((List.length (List.take (Int.toNat (wI .i64 ((List.length a47.1:Int) - (1:Int)))) a47.1):Int) - (1:Int)))) (wI .i64 ((at' (List.take (Int.toNat (wI .i64 ((List.length a47.1:Int) - (1:Int)))) a47.1) (wI .i64 ((List.length (List.take (Int.toNat (wI .i64 ((List.length a47.1:Int) - (1:Int)))) a47.1):Int) - (1:Int)))) - (1:Int)))),(List.take (Int.toNat (wI .i64 ((List.length a47.2:Int) - (1:Int)))) a47.2)))))else(ag46 ((List.take (Int.toNat (wI .i64 ((List.length a47.1:Int) - (1:Int)))) a47.1),(List.take (Int.toNat (wI .i64 ((List.length a47.2:Int) - (1:Int)))) a47.2))))))else(h_ a13 ag12 ((max a13.1 (List.length (a13.2.2.1++[r26]):Int)),(max a13.2.1 a40),a47.1,a47.2))
def eI (a13:Jy) (ag12:Jx->Option gY) (r26:Int) (a40:Int) (a47:cU×List (Bool)) (ag46:(cU×List (Bool))->Option gY):Option gY:=
 if(0:Int)<(List.length a47.1:Int)then(ck (0<=(wI .i64 ((List.length a47.1:Int) - (1:Int)))∧(wI .i64 ((List.length a47.1:Int) - (1:Int)))<(List.length a47.1:Int)) (oG a13 ag12 r26 a40 a47 ag46 (decide ((at' a47.1 (wI .i64 ((List.length a47.1:Int) - (1:Int))))=(0:Int)))))else(oG a13 ag12 r26 a40 a47 ag46 (false))
def rM (U:Nat) (a13:Jy) (ag12:Jx->Option gY) (r26:Int) (r33:Bool) (a40:Int):Option gY:=
 bZ (eI a13 ag12 r26 a40) U ((a13.2.2.1++[r26]),(a13.2.2.2.1++[r33]))
def rO (a64:lS) (ag63:gY->Option gY) (a69:Int):Option gY:=
 ag63 (a69,(wI .i64 (a64.2+(1:Int))))
def iA (U:Nat) (a13:Jy) (ag12:Jx->Option gY) (r26:Int) (r33:Bool) (a64:lS) (ag63:gY->Option gY):Option gY:=
 if a64.2<(List.length (a13.2.2.2.1++[r33]):Int)then(ck (0<=a64.2∧a64.2<(List.length (a13.2.2.2.1++[r33]):Int)) (if(at' (a13.2.2.2.1++[r33]) a64.2)=true then(rO a64 ag63 (wI .i64 (a64.1+(1:Int))))else(rO a64 ag63 (a64.1))))else(rM U a13 ag12 r26 r33 (a64.1))
def dS (U:Nat) (p0:cS) (a13:Jy) (ag12:Jx->Option gY):Option gY:=
 if a13.2.2.2.2<(List.length p0:Int)then(ck (0<=a13.2.2.2.2∧a13.2.2.2.2<(List.length p0:Int)) (Option.bind (pC U ((at' p0 a13.2.2.2.2).1)) fun r26=>(ck ((List.length a13.2.2.1:Int)+(List.length ([r26]):Int)<=1099511627) (ck (0<=a13.2.2.2.2∧a13.2.2.2.2<(List.length p0:Int)) (Option.bind (oO U ((at' p0 a13.2.2.2.2).1)) fun r33=>(ck ((List.length a13.2.2.2.1:Int)+(List.length ([r33]):Int)<=1099511627) (bZ (iA U a13 ag12 r26 r33) U ((0:Int),(0:Int)))))))))else(wT  (a13.1,a13.2.1))
def pX (U:Nat) (p0:cS):Option gY:=
 bZ (dS U p0) U ((0:Int),(0:Int),([]:cU),([]:rT),(0:Int))
theorem QF:bO Tryz.prog 69:=Tryz.call69
theorem DN (U:Nat) {p0:cS} (v0:Value) (r:lS) (h:pX U p0=some r):
  bQ Tryz.prog 69 #[v0] [Sl bF v0 p0] (fun x:Unit=>Value.tuple #[vI (r.1),vI (r.2)]) (fun x l=>l) (fun _ l=>l):=by
 refine bQ.of Tryz.func69 rfl Tryz.ntmps69 rfl fun c=>?_
 unfold pX at h
 refine aZ<|aK rfl<|aK rfl<|aU<|aZ<|aK rfl<|aK rfl<|aU<|aZ<|aK rfl<|aU<|aZ<|aK rfl<|aU<|aP<|dD (fun a3=>wT  a3=some r) (fun a3 b4=>[(4,vI (a3.1)),(5,vI (a3.2))]) (fun a3 b4=>[]) ?_ ?_
 ·refine aZ<|aK rfl<|aU<|aY<|cJ (d_ gZ)<|cJ (d_ Su)<|fW (B:=Cj) (dS U p0) (fun a13 b14=>[(0,v0),(4,vI (a13.1)),(5,vI (a13.2.1)),(6,b14.1),(7,b14.2),(8,vI (a13.2.2.2.2))]) (fun a13 b14=>[Ar gZ b14.1 a13.2.2.1,Ar Su b14.2 a13.2.2.2.1]) ((0:Int),(0:Int),([]:cU),([]:rT),(0:Int)) ((fX),(fX)) h SF (bH.ix [1,0] rfl rfl) ?_
  intro k15 a13 b14 h
  refine aP<|aZ<|aE rfl<|aE rfl<|eC (dN rfl) rfl<|dL rfl<|aU ?_
  refine gT h rfl (fun h=>?_) fun h=>?_
  ·refine cC<|aP<|Ep (B:=Cj) (fun a23=>h_ a13 (bZ (dS U p0) k15) a23=some r) (fun a23 b24=>[(0,v0),(4,vI (a23.1)),(5,vI (a23.2.1)),(6,b24.1),(7,b24.2),(8,vI (a13.2.2.2.2))]) (fun a23 b24=>[Ar gZ b24.1 a23.2.2.1,Ar Su b24.2 a23.2.2.2]) ?_ ?_
   ·refine aY<|aP ?_
    refine CC [0,0,0,6,14,30,62,126,255,0,0,0,3072,7168,15360,32255,65023,131071,262143,524287] 17 mixedOrders ?_
    refine dG rfl<|dG rfl<|dG rfl<|fJ h fun j25 h=>dK rfl .nil (jY 0 rfl) (a_ rfl rfl (dN rfl) rfl rfl j25) bG.z<|zE rfl (cW rfl rfl rfl rfl rfl)<|dK rfl .nil (jY 0 rfl) (fN rfl (dN rfl) rfl rfl rfl pA j25) bG.z<|fO h fun r26 w27 h=>JR.loud rfl rfl rfl (aW.callQ Kc (Ap U  r26 w27) rfl .nil) rfl (fun x28=>(pH [] rfl)) fun x28=>JR.loud rfl rfl rfl (dJ (e:=gZ) ([r26]) [(0,vI (r26))] rfl rfl rfl rfl (Bc (vI (r26)) rfl) rfl rfl rfl) rfl (fun u29=>(pH [] rfl)) fun u29=>fJ h fun j31 h=>JR.loud rfl rfl rfl (dP 1 jF rfl rfl rfl (aM.ar (aM.res 0 rfl) jF) rfl rfl rfl rfl j31 rfl) rfl (fun u30=>(pH [] rfl)) fun u30=>zE rfl (xF rfl)<|zE rfl (xF rfl)<|zE rfl (xF rfl)<|fJ h fun j32 h=>dK rfl .nil (jY 0 rfl) (a_ rfl rfl (dN rfl) rfl rfl j32) (bG.h .nil (jY 0 rfl) (bG.h .nil (jY 0 rfl) (bG.h .nil (jY 0 rfl) bG.z)))<|zE rfl (cW rfl rfl rfl rfl rfl)<|dK rfl .nil (jY 0 rfl) (fN rfl (dN rfl) rfl rfl rfl pA j32) (bG.h .nil (jY 0 rfl) (bG.h .nil (jY 0 rfl) (bG.h .nil (jY 0 rfl) bG.z)))<|fO h fun r33 w34 h=>JR.loud rfl rfl rfl (aW.callQ QJ (BB U  r33 w34) rfl .nil) rfl (fun x35=>(pH [] rfl)) fun x35=>JR.loud rfl rfl rfl (dJ (e:=Su) ([r33]) [(0,vB (r33))] rfl rfl rfl rfl (Bc (vB (r33)) rfl) rfl rfl rfl) rfl (fun u36=>(pH [] rfl)) fun u36=>cX 17 rfl rfl<|fJ h fun j38 h=>aT (dP 3 Us rfl rfl rfl (aM.ar (aM.res 0 rfl) Us) rfl rfl rfl rfl j38 rfl) rfl fun u37=>aK rfl<|aK rfl<|aU<|aZ<|aK rfl<|aU<|aP<|dD (fun a40=>rM U a13 (bZ (dS U p0) k15) r26 r33 a40=some r) (fun a40 b41=>[(0,v0),(4,vI (a13.1)),(5,vI (a13.2.1)),(6,u30),(7,u37),(8,vI (a13.2.2.2.2)),(9,vI (a40))]) (fun a40 b41=>[Ar gZ u30 (a13.2.2.1++[r26]),Ar Su u37 (a13.2.2.2.1++[r33])]) ?_ ?_
    ·refine aZ<|aK rfl<|aU<|aY<|fW (iA U a13 (bZ (dS U p0) k15) r26 r33) (fun a64 b65=>[(0,v0),(4,vI (a13.1)),(5,vI (a13.2.1)),(6,u30),(7,u37),(8,vI (a13.2.2.2.2)),(9,vI (a64.1)),(10,vI (a64.2))]) (fun a64 b65=>[Ar gZ u30 (a13.2.2.1++[r26]),Ar Su u37 (a13.2.2.2.1++[r33])]) ((0:Int),(0:Int)) () h SF (bH.ix [2,3] rfl rfl) ?_
     intro k66 a64 b65 h
     refine aP<|aZ<|aE rfl<|aE rfl<|aJ (dR rfl (aM.ar (aM.res 1 rfl) Us) rfl) rfl<|dL rfl<|aU ?_
     refine gT h rfl (fun h=>?_) fun h=>?_
     ·refine cC<|aP<|dD (fun a69=>rO a64 (bZ (iA U a13 (bZ (dS U p0) k15) r26 r33) k66) a69=some r) (fun a69 b70=>[(0,v0),(4,vI (a13.1)),(5,vI (a13.2.1)),(6,u30),(7,u37),(8,vI (a13.2.2.2.2)),(9,vI (a69)),(10,vI (a64.2))]) (fun a69 b70=>[Ar gZ u30 (a13.2.2.1++[r26]),Ar Su u37 (a13.2.2.2.1++[r33])]) ?_ ?_
      ·refine aY<|aZ<|aE rfl<|aE rfl<|fJ h fun j71 h=>aJ (a_ rfl rfl (aM.ar (aM.res 1 rfl) Us) rfl rfl j71) rfl<|aJ (iN rfl (aM.ar (aM.res 1 rfl) Us) rfl rfl rfl Wv j71) rfl<|aU ?_
       refine gP h rfl (fun _ h=>?_) fun _ h=>?_
       ·refine aS<|aE rfl<|dM rfl<|aK rfl<|fQ<|lP ?_
        exact cZ (wI .i64 (a64.1+(1:Int))) () h SF rfl
       refine eJ<|lP ?_
       exact cZ (a64.1) () h SF rfl
      intro a69 b70 h
      unfold rO at h
      refine aS<|aE rfl<|dM rfl<|aK rfl<|aU ?_
      exact BR (a69,(wI .i64 (a64.2+(1:Int)))) () h SF rfl
     refine eQ ?_
     exact cZ (a64.1) () h SF rfl
    intro a40 b41 h
    unfold rM at h
    refine aZ<|aE rfl<|aE rfl<|aJ (dR rfl (aM.ar (aM.res 0 rfl) jF) rfl) rfl<|aJ (Ql rfl rfl) rfl<|aE rfl<|aE rfl<|aJ (Ql rfl rfl) rfl<|aK rfl<|aK rfl<|aU<|aY<|fW (B:=Cj) (eI a13 (bZ (dS U p0) k15) r26 a40) (fun a47 b48=>[(0,v0),(4,vI (max a13.1 (List.length (a13.2.2.1++[r26]):Int))),(5,vI (max a13.2.1 a40)),(6,b48.1),(7,b48.2),(8,vI (a13.2.2.2.2))]) (fun a47 b48=>[Ar gZ b48.1 a47.1,Ar Su b48.2 a47.2]) ((a13.2.2.1++[r26]),(a13.2.2.2.1++[r33])) (u30,u37) h SF (bH.refl _) ?_
    intro k49 a47 b48 h
    refine aP<|aP<|dD (fun a51=>oG a13 (bZ (dS U p0) k15) r26 a40 a47 (bZ (eI a13 (bZ (dS U p0) k15) r26 a40) k49) a51=some r) (fun a51 b52=>[(0,v0),(4,vI (max a13.1 (List.length (a13.2.2.1++[r26]):Int))),(5,vI (max a13.2.1 a40)),(6,b48.1),(7,b48.2),(8,vI (a13.2.2.2.2)),(65,vB (a51))]) (fun a51 b52=>[Ar gZ b48.1 a47.1,Ar Su b48.2 a47.2]) ?_ ?_
    ·refine aS<|aE rfl<|aJ (dR rfl (aM.ar (aM.res 0 rfl) jF) rfl) rfl<|aJ (kT rfl rfl) rfl<|aE rfl ?_
     refine oD h rfl (fun _ h=>?_) fun _ h=>?_
     ·refine cP rfl<|cP rfl<|aL rfl (dR rfl (aM.ar (aM.res 0 rfl) jF) rfl) rfl<|aL rfl (sY rfl rfl) rfl<|fJ h fun j60 h=>aL rfl (a_ rfl rfl (aM.ar (aM.res 0 rfl) jF) rfl rfl j60) rfl<|aL rfl (iN rfl (aM.ar (aM.res 0 rfl) jF) rfl rfl rfl mT j60) rfl<|aL rfl (mU rfl rfl) rfl<|cE rfl<|aU ?_
      exact cZ (decide ((at' a47.1 (wI .i64 ((List.length a47.1:Int) - (1:Int))))=(0:Int))) () h SF rfl
     refine aI rfl<|aI rfl<|aI rfl<|aI rfl<|aI rfl<|aI rfl<|aI rfl<|cI rfl<|aU ?_
     exact cZ (false) () h SF rfl
    intro a51 b52 h
    refine gP h rfl (fun _ h=>?_) fun _ h=>?_
    ·refine cC<|aY<|aP ?_
     refine CC [0,0,2,6,15,0,0,64,192,480,31,2047] 11 mixedOrders ?_
     refine dG rfl<|dG rfl<|dK rfl (bH.cons 0 rfl .nil) .nil (dR rfl (aM.ar (aM.res 0 rfl) jF) rfl) bG.z<|zE rfl (sY rfl rfl)<|fJ h fun j54 h=>dK rfl (bH.cons 0 rfl .nil) .nil (HC rfl rfl (aM.ar (aM.res 0 rfl) jF) rfl rfl j54) bG.z<|dG rfl<|dG rfl<|dK rfl (bH.cons 1 rfl .nil) .nil (dR rfl (aM.ar (aM.res 0 rfl) Us) rfl) bG.z<|zE rfl (sY rfl rfl)<|fJ h fun j55 h=>dK rfl (bH.cons 1 rfl .nil) .nil (HC rfl rfl (aM.ar (aM.res 0 rfl) Us) rfl rfl j55) bG.z<|zE rfl (Fi rfl)<|cX 11 rfl rfl<|aK rfl<|aU<|cJ (EM (sz:=1) 0 rfl j54)<|cJ (EM (sz:=1) 1 rfl j55)<|aZ<|aE rfl<|aJ (dR rfl (aM.ar (aM.res 0 rfl) jF) rfl) rfl<|aJ (kT rfl rfl) rfl<|aU ?_
     refine gT h rfl (fun h=>?_) fun h=>?_
     ·refine aS<|aE rfl<|aE rfl<|aJ (dR rfl (aM.ar (aM.res 0 rfl) jF) rfl) rfl<|aJ (sY rfl rfl) rfl<|fJ h fun j57 h=>aJ (a_ rfl rfl (aM.ar (aM.res 0 rfl) jF) rfl rfl j57) rfl<|aJ (iN rfl (aM.ar (aM.res 0 rfl) jF) rfl rfl rfl mT j57) rfl<|aJ (sY rfl rfl) rfl<|fJ h fun j58 h=>aJ (a_ rfl rfl (aM.ar (aM.res 0 rfl) jF) rfl rfl j58) rfl<|Dg 0 (wI .i64 ((at' (List.take (Int.toNat (wI .i64 ((List.length a47.1:Int) - (1:Int)))) a47.1) (wI .i64 ((List.length (List.take (Int.toNat (wI .i64 ((List.length a47.1:Int) - (1:Int)))) a47.1):Int) - (1:Int)))) - (1:Int))) j58 rfl rfl rfl rfl rfl rfl rfl<|fQ<|lP ?_
      exact BR ((List.set (List.take (Int.toNat (wI .i64 ((List.length a47.1:Int) - (1:Int)))) a47.1) (Int.toNat (wI .i64 ((List.length (List.take (Int.toNat (wI .i64 ((List.length a47.1:Int) - (1:Int)))) a47.1):Int) - (1:Int)))) (wI .i64 ((at' (List.take (Int.toNat (wI .i64 ((List.length a47.1:Int) - (1:Int)))) a47.1) (wI .i64 ((List.length (List.take (Int.toNat (wI .i64 ((List.length a47.1:Int) - (1:Int)))) a47.1):Int) - (1:Int)))) - (1:Int)))),(List.take (Int.toNat (wI .i64 ((List.length a47.2:Int) - (1:Int)))) a47.2)) ((LS b48.1 (Int.toNat 0) (Int.toNat (wI .i64 ((List.length a47.1:Int) - (1:Int)))) 1),(LS b48.2 (Int.toNat 0) (Int.toNat (wI .i64 ((List.length a47.2:Int) - (1:Int)))) 1)) h SF rfl
     refine eJ<|lP ?_
     exact BR ((List.take (Int.toNat (wI .i64 ((List.length a47.1:Int) - (1:Int)))) a47.1),(List.take (Int.toNat (wI .i64 ((List.length a47.2:Int) - (1:Int)))) a47.2)) ((LS b48.1 (Int.toNat 0) (Int.toNat (wI .i64 ((List.length a47.1:Int) - (1:Int)))) 1),(LS b48.2 (Int.toNat 0) (Int.toNat (wI .i64 ((List.length a47.2:Int) - (1:Int)))) 1)) h SF rfl
    refine Cp<|nO<|nO<|Fb<|lP ?_
    exact cZ ((max a13.1 (List.length (a13.2.2.1++[r26]):Int)),(max a13.2.1 a40),a47.1,a47.2) (b48.1,b48.2) h SF rfl
   intro a23 b24 h
   unfold h_ at h
   refine aS<|aE rfl<|dM rfl<|aK rfl<|aU ?_
   exact BR (a23.1,a23.2.1,a23.2.2.1,a23.2.2.2,(wI .i64 (a13.2.2.2.2+(1:Int)))) (b24.1,b24.2) h SF rfl
  refine eQ ?_
  exact cK (a13.1,a13.2.1) () h SF .nil (aV.refl _ _)
 intro a3 b4 h
 unfold wT at h
 refine aZ<|aE rfl<|aE rfl<|aK rfl<|aK rfl<|aU<|bE ?_
 cases h
 exact fB () rfl rfl (RV.tmp rfl) (RV.tmp rfl) (bH.refl _) aV.nil
end
section
def mL (U:Nat) (p0:cS):Option (Int):=
 Option.bind (xN U p0) fun r1=>(if(!r1)=true then(some (0:Int))else(Option.bind (pX U p0) fun r5=>(some (r5.1))))
theorem Qz:bO Tryz.prog 47:=Tryz.call47
theorem ED (U:Nat) {p0:cS} (v0:Value) (r:Int) (h:mL U p0=some r):
  bQ Tryz.prog 47 #[v0] [Sl bF v0 p0] (fun x:Unit=>vI (r)) (fun x l=>l) (fun _ l=>l):=by
 refine bQ.of Tryz.func47 rfl Tryz.ntmps47 rfl fun c=>?_
 refine aZ<|aK rfl<|aU<|aP<|aZ<|aE rfl<|fO h fun r1 w2 h=>aT (aW.callQ ML (DO U v0 r1 w2) rfl (gO [0] rfl)) rfl fun x3=>aJ (fR rfl) rfl<|aU ?_
 refine gP h rfl (fun _ h=>?_) fun _ h=>?_
 ·refine aZ<|aK rfl<|aU<|bE<|aR ?_
  cases h
  exact kF rfl
 refine cC<|aZ<|aE rfl<|fO h fun r5 w6 h=>aT (aW.callQ QF (DN U v0 r5 w6) rfl (gO [0] rfl)) rfl fun x7=>aE rfl<|mM rfl<|mM rfl<|aK rfl<|aK rfl<|aU<|aZ<|aE rfl<|aK rfl<|aU<|bE ?_
 cases h
 exact kF rfl
end
section
def AR (U:Nat) (p0:cS):Option (Int):=
 Option.bind (xN U p0) fun r1=>(if(!r1)=true then(some (0:Int))else(Option.bind (pX U p0) fun r5=>(some (r5.2))))
theorem SP:bO Tryz.prog 113:=Tryz.call113
theorem KI (U:Nat) {p0:cS} (v0:Value) (r:Int) (h:AR U p0=some r):
  bQ Tryz.prog 113 #[v0] [Sl bF v0 p0] (fun x:Unit=>vI (r)) (fun x l=>l) (fun _ l=>l):=by
 refine bQ.of Tryz.func113 rfl Tryz.ntmps113 rfl fun c=>?_
 refine aZ<|aK rfl<|aU<|aP<|aZ<|aE rfl<|fO h fun r1 w2 h=>aT (aW.callQ ML (DO U v0 r1 w2) rfl (gO [0] rfl)) rfl fun x3=>aJ (fR rfl) rfl<|aU ?_
 refine gP h rfl (fun _ h=>?_) fun _ h=>?_
 ·refine aZ<|aK rfl<|aU<|bE<|aR ?_
  cases h
  exact kF rfl
 refine cC<|aZ<|aE rfl<|fO h fun r5 w6 h=>aT (aW.callQ QF (DN U v0 r5 w6) rfl (gO [0] rfl)) rfl fun x7=>aE rfl<|mM rfl<|mM rfl<|aK rfl<|aK rfl<|aU<|aZ<|aE rfl<|aK rfl<|aU<|bE ?_
 cases h
 exact kF rfl
end
section
def yH  (a5:Unit):Option (Bool):=
 some (true)
def jP (U:Nat) (p0:cS) (p1:Int) (a9:Int) (ag8:(Int)->Option (Bool)):Option (Bool):=
 if a9<(List.length p0:Int)then(ck (0<=a9∧a9<(List.length p0:Int)) (Option.bind (uK U ((((at' p0 a9).1),((at' p0 a9).2))) p1) fun r14=>(if(!r14)=true then(some (false))else(ag8 (wI .i64 (a9+(1:Int)))))))else(yH  (()))
def lM (U:Nat) (p0:cS) (p1:Int) (a2:Bool):Option (Bool):=
 if a2=true then(some (false))else(bZ (jP U p0 p1) U (0:Int))
def kV (U:Nat) (p0:cS) (p1:Int):Option (Bool):=
 if(200:Int)<(List.length p0:Int)then(lM U p0 p1 (true))else(Option.bind (xN U p0) fun r19=>(if(!r19)=true then(lM U p0 p1 (true))else(Option.bind (mL U p0) fun r23=>(if(24:Int)<r23 then(lM U p0 p1 (true))else(Option.bind (AR U p0) fun r27=>(lM U p0 p1 (decide ((2:Int)<r27))))))))
theorem MM:bO Tryz.prog 84:=Tryz.call84
theorem BO (U:Nat) {p0:cS} {p1:Int} (v0:Value) (r:Bool) (h:kV U p0 p1=some r):
  bQ Tryz.prog 84 #[v0,vI (p1)] [Sl bF v0 p0] (fun x:Unit=>vB (r)) (fun x l=>l) (fun _ l=>l):=by
 refine bQ.of Tryz.func84 rfl Tryz.ntmps84 rfl fun c=>?_
 refine aZ<|aK rfl<|aU<|aP<|aP<|dD (fun a2=>lM U p0 p1 a2=some r) (fun a2 b3=>[(0,v0),(1,vI (p1)),(23,vB (a2))]) (fun a2 b3=>[]) ?_ ?_
 ·refine aS<|aE rfl<|eC (dN rfl) rfl<|aJ (kT rfl rfl) rfl<|aE rfl ?_
  refine oD h rfl (fun _ h=>?_) fun _ h=>?_
  ·refine aI rfl<|aI rfl<|aI rfl<|cE rfl<|aE rfl<|aI rfl<|aI rfl<|aI rfl<|cE rfl<|aE rfl<|aI rfl<|aI rfl<|aI rfl<|cE rfl<|aU ?_
   exact cZ (true) () h SF rfl
  refine cP rfl<|fO h fun r19 w20 h=>eX rfl (aW.callQ ML (DO U v0 r19 w20) rfl (gO [0] rfl)) rfl fun x21=>aL rfl (fR rfl) rfl<|cI rfl<|aE rfl ?_
  refine fY (by exact rfl) (by exact rfl) (fun hp22=>?_) (fun hp22=>?_)
  ·have h:=BK hp22 h
   refine aI rfl<|aI rfl<|aI rfl<|cE rfl<|aE rfl<|aI rfl<|aI rfl<|aI rfl<|cE rfl<|aU ?_
   exact cZ (true) () h SF rfl
  have h:=sM hp22 h
  refine cP rfl<|fO h fun r23 w24 h=>eX rfl (aW.callQ Qz (ED U v0 r23 w24) rfl (gO [0] rfl)) rfl fun x25=>aL rfl (kT rfl rfl) rfl<|cI rfl<|aE rfl ?_
  refine oD h rfl (fun _ h=>?_) fun _ h=>?_
  ·refine aI rfl<|aI rfl<|aI rfl<|cE rfl<|aU ?_
   exact cZ (true) () h SF rfl
  refine cP rfl<|fO h fun r27 w28 h=>eX rfl (aW.callQ SP (KI U v0 r27 w28) rfl (gO [0] rfl)) rfl fun x29=>aL rfl (kT rfl rfl) rfl<|cI rfl<|aU ?_
  exact cZ (decide ((2:Int)<r27)) () h SF rfl
 intro a2 b3 h
 refine gP h rfl (fun _ h=>?_) fun _ h=>?_
 ·refine aZ<|aK rfl<|aU<|bE<|aR ?_
  cases h
  exact kF rfl
 refine cC<|aP<|dD (fun a5=>yH  a5=some r) (fun a5 b6=>[]) (fun a5 b6=>[]) ?_ ?_
 ·refine aZ<|aK rfl<|aU<|aY<|fW (jP U p0 p1) (fun a9 b10=>[(0,v0),(1,vI (p1)),(5,vI (a9))]) (fun a9 b10=>[]) (0:Int) () h SF (bH.refl _) ?_
  intro k11 a9 b10 h
  refine aP<|aZ<|aE rfl<|aE rfl<|eC (dN rfl) rfl<|dL rfl<|aU ?_
  refine gT h rfl (fun h=>?_) fun h=>?_
  ·refine cC<|aP<|aY<|aZ<|aE rfl<|aE rfl<|fJ h fun j13 h=>aJ (a_ rfl rfl (dN rfl) rfl rfl j13) rfl<|aJ (gI (cs:=[vI ((at' p0 a9).1),vI ((at' p0 a9).2)]) rfl (dN rfl) cO rfl rfl rfl rfl j13) rfl<|aE rfl<|fO h fun r14 w15 h=>aT (aW.callQ SQ (GB U  r14 w15) rfl .nil) rfl fun x16=>aJ (fR rfl) rfl<|aU ?_
   refine gP h rfl (fun _ h=>?_) fun _ h=>?_
   ·refine aZ<|aK rfl<|aU<|bE<|cG<|aR<|aR<|cG<|aR ?_
    cases h
    exact kF rfl
   refine eJ<|lP<|aS<|aE rfl<|dM rfl<|aK rfl<|aU ?_
   exact BR (wI .i64 (a9+(1:Int))) () h SF rfl
  refine eQ ?_
  exact cZ () (()) h SF rfl
 intro a5 b6 h
 unfold yH at h
 refine aZ<|aK rfl<|aU<|bE ?_
 cases h
 exact kF rfl
end
section
def v_  (a8:Bool):Option (Bool):=
 some (a8)
def Aw (U:Nat) (p0:cS) (a5:Unit):Option (Bool):=
 Option.bind (AT U p0) fun r10=>(if r10<=(24:Int)then(Option.bind (Bz U p0) fun r14=>(v_  (decide (r14<=(2:Int)))))else(v_  (false)))
def kX (U:Nat) (p0:cS) (p1:Int) (a19:Int) (ag18:(Int)->Option (Bool)):Option (Bool):=
 if a19<(List.length p0:Int)then(ck (0<=a19∧a19<(List.length p0:Int)) (Option.bind (wN U ((((at' p0 a19).1),((at' p0 a19).2))) p1) fun r25=>(if(!r25)=true then(some (false))else(ag18 (wI .i64 (a19+(1:Int)))))))else(Aw U p0 (()))
def sJ (U:Nat) (p0:cS) (p1:Int) (a2:Bool):Option (Bool):=
 if a2=true then(some (false))else(bZ (kX U p0 p1) U (0:Int))
def iR (U:Nat) (p0:cS) (p1:Int):Option (Bool):=
 if(200:Int)<(List.length p0:Int)then(sJ U p0 p1 (true))else(Option.bind (Bj U p0 (0:Int)) fun r30=>(sJ U p0 p1 (decide (r30≠(List.length p0:Int)))))
theorem HG:bO Tryz.prog 45:=Tryz.call45
theorem yU (U:Nat) {p0:cS} {p1:Int} (v0:Value) (r:Bool) (h:iR U p0 p1=some r):
  bQ Tryz.prog 45 #[v0,vI (p1)] [Sl bF v0 p0] (fun x:Unit=>vB (r)) (fun x l=>l) (fun _ l=>l):=by
 refine bQ.of Tryz.func45 rfl Tryz.ntmps45 rfl fun c=>?_
 refine aZ<|aK rfl<|aU<|aP<|aP<|dD (fun a2=>sJ U p0 p1 a2=some r) (fun a2 b3=>[(0,v0),(1,vI (p1)),(16,vB (a2))]) (fun a2 b3=>[]) ?_ ?_
 ·refine aS<|aE rfl<|eC (dN rfl) rfl<|aJ (kT rfl rfl) rfl<|aE rfl ?_
  refine oD h rfl (fun _ h=>?_) fun _ h=>?_
  ·refine aI rfl<|aI rfl<|aI rfl<|aI rfl<|aI rfl<|cE rfl<|aU ?_
   exact cZ (true) () h SF rfl
  refine cP rfl<|fO h fun r30 w31 h=>eX rfl (aW.callQ QE (Iu U v0 r30 w31) rfl (gO [0] rfl)) rfl fun x32=>cP rfl<|aL rfl (dR rfl (dN rfl) rfl) rfl<|aL rfl (CW rfl rfl) rfl<|cI rfl<|aU ?_
  exact cZ (decide (r30≠(List.length p0:Int))) () h SF rfl
 intro a2 b3 h
 refine gP h rfl (fun _ h=>?_) fun _ h=>?_
 ·refine aZ<|aK rfl<|aU<|bE<|aR ?_
  cases h
  exact kF rfl
 refine cC<|aP<|dD (fun a5=>Aw U p0 a5=some r) (fun a5 b6=>[(0,v0)]) (fun a5 b6=>[]) ?_ ?_
 ·refine aZ<|aE rfl<|eC (dN rfl) rfl<|aE rfl<|aU<|aY<|fW (kX U p0 p1) (fun a19 b20=>[(0,v0),(1,vI (p1)),(17,v0),(18,vI (List.length p0:Int)),(19,vI (a19))]) (fun a19 b20=>[]) (0:Int) () h SF (bH.refl _) ?_
  intro k21 a19 b20 h
  refine aZ<|dL rfl<|aU<|aP ?_
  refine gT h rfl (fun h=>?_) fun h=>?_
  ·refine cC<|aP<|aY<|aZ<|fJ h fun j23 h=>aJ (a_ rfl rfl (dN rfl) rfl rfl j23) rfl<|aJ (gI (cs:=[vI ((at' p0 a19).1),vI ((at' p0 a19).2)]) rfl (dN rfl) cO rfl rfl rfl rfl j23) rfl<|aT (aW.alloc (cs:=XD) rfl rfl) rfl fun b24=>bL 0 (vs:=[vI ((at' p0 a19).1),vI ((at' p0 a19).2)]) rfl rfl rfl rfl rfl rfl<|aU<|aZ<|iC 0 rfl<|aE rfl<|fO h fun r25 w26 h=>aT (aW.callQ US (Hb U  r25 w26) rfl .nil) rfl fun x27=>aJ (fR rfl) rfl<|aU ?_
   refine gP h rfl (fun _ h=>?_) fun _ h=>?_
   ·refine aZ<|aK rfl<|aU<|bE<|cG<|aR<|aR<|cG<|aR ?_
    cases h
    exact yR rfl
   refine eJ<|lP<|aS<|dM rfl<|aE rfl<|aU ?_
   exact dZ (wI .i64 (a19+(1:Int))) () h SF .nil (aV.refl _ _)
  refine eQ ?_
  exact cZ () (()) h SF rfl
 intro a5 b6 h
 refine aP<|dD (fun a8=>v_  a8=some r) (fun a8 b9=>[(4,vB (a8))]) (fun a8 b9=>[]) ?_ ?_
 ·refine aS<|aE rfl<|fO h fun r10 w11 h=>aT (aW.callQ UT (KM U v0 r10 w11) rfl (gO [0] rfl)) rfl fun x12=>aJ (sO rfl rfl) rfl<|aE rfl ?_
  refine oD h rfl (fun _ h=>?_) fun _ h=>?_
  ·refine cP rfl<|fO h fun r14 w15 h=>eX rfl (aW.callQ UU (LX U v0 r14 w15) rfl (gO [0] rfl)) rfl fun x16=>aL rfl (sO rfl rfl) rfl<|cE rfl<|aK rfl<|aU ?_
   exact cZ (decide (r14<=(2:Int))) () h SF rfl
  refine aI rfl<|aI rfl<|aI rfl<|cI rfl<|aK rfl<|aU ?_
  exact cZ (false) () h SF rfl
 intro a8 b9 h
 unfold v_ at h
 refine bE ?_
 cases h
 exact kF rfl
end
end Go.Proofs.YthnplbmmlbnelaaGreat
end
section
namespace Go.Proofs.YthnplbmmlbnelaaGreat
open Go Go.Sx
section
abbrev OT:=List (Nat×Bool)
def GW (K:OT):cU:=(K.map fun z=>(z.1:Int)).reverse
def FD (K:OT):rT:=(K.map fun z=>z.2).reverse
def Da (K:OT):Nat:=(K.filter fun z=>z.2).length
def Az:OT->OT
 | []=>[]
 |(n,b)::K=>if n=1 then Az K else(n - 1,b)::K
theorem FC (K:OT):(GW K).length=K.length:=by simp[GW]
theorem Ol (K:OT):(FD K).length=K.length:=by simp[FD]
theorem Bh (n:Nat) (b:Bool) (K:OT):GW ((n,b)::K)=GW K++[(n:Int)]:=by simp[GW]
theorem Cd (n:Nat) (b:Bool) (K:OT):FD ((n,b)::K)=FD K++[b]:=by simp[FD]
theorem Gi (n:Nat) (b:Bool) (K:OT):Da ((n,b)::K)=Da K+(if b then 1 else 0):=by
 unfold Da;cases b<;>simp[List.filter_cons]
theorem RQ {α:Type} (l:List α) (x y:α):(l++[x]).set l.length y=l++[y]:=by rw[List.set_append_right _ _ (Nat.le_refl _)];simp
theorem JS (l:cU) (m:Int) (k:Int) (hk:k=(l.length:Int)):at' (l++[m]) k=m:=by rw[hk];exact gJ l [] m _ rfl
section
variable (a:Int×Int×List Int×List Bool×Int) (ag:(Int×Int×List Int×List Bool×Int)->Option (Int×Int)) (r d:Int) (ag':(List Int×List Bool)->Option (Int×Int))
theorem VX (l2:List Bool):eI a ag r d ([],l2) ag'=h_ a ag ((max a.1 ((a.2.2.1++[r]).length:Int)),max a.2.1 d,[],l2):=by
 unfold eI oG
 dsimp only
 rw[if_neg (by simp),if_neg (by simp)]
theorem Ov {m:Int} (hm:m≠0) (l1:List Int) (l2:List Bool) (hl:l1.length<950):eI a ag r d (l1++[m],l2) ag'=h_ a ag ((max a.1 ((a.2.2.1++[r]).length:Int)),max a.2.1 d,l1++[m],l2):=by
 unfold eI oG
 dsimp only
 have e:((l1++[m]).length:Int)=(l1.length:Int)+1:=by simp
 rw[e,if_pos (by omega),wr (by omega) (by omega),eP (by omega),JS l1 m _ (by omega),if_neg (by simpa using hm)]
theorem RN (l1:List Int) (l2:List Bool) (b:Bool) (hl:l1.length<950) (h2:l1.length=l2.length):eI a ag r d (l1++[0],l2++[b]) ag'=if 0<l1.length then ag' (l1.set (l1.length - 1) (wI .i64 (at' l1 ((l1.length:Int) - 1) - 1)),l2)else ag' (l1,l2):=by
 unfold eI oG
 dsimp only
 have e:((l1++[0]).length:Int)=(l1.length:Int)+1:=by simp
 have e2:((l2++[b]).length:Int)=(l1.length:Int)+1:=by simp[h2]
 have w1:wI .i64 ((l1.length:Int)+1 - 1)=(l1.length:Int):=by rw[wr (by omega) (by omega)];omega
 have p1:List.take l1.length (l1++[(0:Int)])=l1:=List.take_left
 have p2:List.take l1.length (l2++[b])=l2:=by rw[h2];exact List.take_left
 rw[e,e2,if_pos (by omega),w1,eP (by omega),JS l1 0 _ rfl,Int.toNat_natCast,p1,p2]
 rw[if_pos (by simp),eP (by omega),eP (by omega)]
 by_cases h:0<l1.length
 ·have w2:wI .i64 ((l1.length:Int) - 1)=((l1.length - 1:Nat):Int):=by rw[wr (by omega) (by omega)];omega
  rw[if_pos (by omega),if_pos h,w2,eP (by omega),eP (by omega),Int.toNat_natCast,show(l1.length:Int) - 1=((l1.length - 1:Nat):Int) by omega]
 ·rw[if_neg (by omega),if_neg h]
theorem YF:∀(K:OT) (b:Bool) (fuel:Nat),(∀z∈K,1<=z.1∧z.1<1000)->K.length<900->K.length+1<fuel->
  bZ (eI a ag r d) fuel (GW ((0,b)::K),FD ((0,b)::K))=h_ a ag ((max a.1 ((a.2.2.1++[r]).length:Int)),max a.2.1 d,GW (Az K),FD (Az K)):=by
 intro K
 induction K with
 |nil=>
  intro b fuel hK hl hf
  obtain⟨f,rfl⟩:∃f,fuel=f+1+1:=⟨fuel - 2,by simp at hf;omega⟩
  show eI a ag r d _ (bZ (eI a ag r d) (f+1))=_
  rw[Bh,Cd]
  rw[show((0:Nat):Int)=0 from rfl,RN a ag r d _ (GW []) (FD []) b (by simp[GW]) (by simp[GW,FD]),if_neg (by simp[GW])]
  exact VX a ag r d _ _
 | cons z K ih =>
  obtain⟨n,b'⟩:=z
  intro b fuel hK hl hf
  simp only[List.length_cons]at hl hf
  obtain⟨f,rfl⟩:∃f,fuel=f+1:=⟨fuel - 1,by omega⟩
  have hn:=hK (n,b') (by simp)
  simp only at hn
  have ih':=ih b' f (fun z hz=>hK z (by simp[hz])) (by omega) (by omega)
  show eI a ag r d _ (bZ (eI a ag r d) f)=_
  rw[Bh 0,Cd 0]
  rw[show((0:Nat):Int)=0 from rfl,RN a ag r d _ (GW ((n,b')::K)) (FD ((n,b')::K)) b (by rw[FC];simp;omega) (by rw[FC,Ol]),if_pos (by rw[FC];simp)]
  have hlast:(GW ((n,b')::K)).set ((GW ((n,b')::K)).length - 1) (wI .i64 (at' (GW ((n,b')::K)) (((GW ((n,b')::K)).length:Int) - 1) - 1))=GW ((n - 1,b')::K):=by
   rw[Bh,Bh,JS _ _ _ (by simp),wr (by omega) (by omega)]
   simp only[List.length_append,List.length_cons,List.length_nil,Nat.zero_add,Nat.add_sub_cancel]
   rw[RQ]
   congr 2;omega
  rw[hlast]
  by_cases h1:n=1
  ·subst h1
   have e:FD ((1,b')::K)=FD ((0,b')::K):=by rw[Cd,Cd]
   rw[e,show 1 - 1=0 from rfl,ih']
   show _=h_ a ag (_,_,GW (if 1=1 then Az K else _),FD (if 1=1 then Az K else _))
   rw[if_pos rfl]
  ·obtain⟨f,rfl⟩:∃q,f=q+1:=⟨f - 1,by omega⟩
   show eI a ag r d _ (bZ (eI a ag r d) f)=h_ a ag (_,_,GW (if n=1 then Az K else(n - 1,b')::K),FD (if n=1 then Az K else(n - 1,b')::K))
   rw[if_neg h1,Bh,Ov a ag r d _ (by omega) _ _ (by rw[FC];omega)]
   rfl
end
theorem YC (F:Nat) (a:Int×Int×List Int×List Bool×Int) (ag:(Int×Int×List Int×List Bool×Int)->Option (Int×Int)) (r:Int) (b:Bool) {O:List Bool} (hO:a.2.2.2.1++[b]=O) (hl:O.length<1000):∀(l pre:List Bool) (m:Nat) (fuel:Nat),O=pre++l->m<=pre.length->l.length<fuel->
  bZ (iA F a ag r b) fuel ((m:Int),((pre.length:Nat):Int))=rM F a ag r b ((m+(l.filter id).length:Nat):Int):=by
 intro l
 induction l with
 |nil=>
  intro pre m fuel h hm hf
  obtain⟨f,rfl⟩:∃f,fuel=f+1:=⟨fuel - 1,by omega⟩
  show iA F a ag r b _ _=_
  unfold iA
  dsimp only
  rw[hO,if_neg (by rw[h];simp)]
  rfl
 | cons x l ih =>
  intro pre m fuel h hm hf
  simp only[List.length_cons]at hf
  obtain⟨f,rfl⟩:∃f,fuel=f+1:=⟨fuel - 1,by omega⟩
  have hlt:pre.length<O.length:=by rw[h];simp
  have ih':=fun m' hm'=>ih (pre++[x]) m' f (by rw[h];simp) hm' (by omega)
  show iA F a ag r b _ (bZ (iA F a ag r b) f)=_
  generalize bZ (iA F a ag r b) f=ag' at ih' ⊢
  unfold iA rO
  dsimp only
  rw[hO,if_pos (by omega),eP (by omega),show at' O ((pre.length:Nat):Int)=x by rw[h];exact gJ pre l x _ rfl,wr (x:=((pre.length:Nat):Int)+1) (by omega) (by omega),wr (x:=(m:Int)+1) (by omega) (by omega)]
  cases x with
  |true=>
   have:=ih' (m+1) (by simp;omega)
   rw[if_pos rfl,show(((pre.length:Nat):Int)+1)=(((pre++[true]).length:Nat):Int) by simp,show(m:Int)+1=((m+1:Nat):Int) by omega,this]
   congr 2;simp;omega
  |false=>
   have:=ih' m (by simp;omega)
   rw[if_neg (by decide),show(((pre.length:Nat):Int)+1)=(((pre++[false]).length:Nat):Int) by simp,this]
   congr 2
theorem Vl (K:OT) (b:Bool):((FD K++[b]).filter id).length=Da K+(if b then 1 else 0):=by
 unfold FD Da
 rw[List.filter_append,List.length_append,<-List.map_reverse,List.filter_map,List.length_map]
 congr 1
 ·rw[show(id∘fun z:Nat×Bool=>z.2)=(fun z=>z.2)from rfl,List.filter_reverse,List.length_reverse]
 ·cases b<;>rfl
theorem On (F:Nat) {T pre post:List TM} {t:TM} {a:Nat} (hT:T=pre++t::post) (hl:T.length<=450) (hF:1000<=F) (ha:CX t.1=some a) (K:OT) (hK:∀z∈K,1<=z.1∧z.1<1000) (hKl:K.length<=450) (dd nn:Int) (fuel:Nat):
  bZ (dS F T) (fuel+1) (dd,nn,GW K,FD K,((pre.length:Nat):Int))=bZ (dS F T) fuel (max dd ((K.length+1:Nat):Int),max nn ((Da K+(if agg t.1 then 1 else 0):Nat):Int),GW (if a=0 then Az K else(a,agg t.1)::K),FD (if a=0 then Az K else(a,agg t.1)::K),((pre.length+1:Nat):Int)):=by
 have ha3:=Gf ha
 have hlt:pre.length<T.length:=by rw[hT];simp
 have hat:at' T ((pre.length:Nat):Int)=t:=by rw[hT];exact gJ pre post t _ rfl
 show dS F T _ (bZ (dS F T) fuel)=_
 generalize bZ (dS F T) fuel=ag
 unfold dS
 dsimp only
 have l1:=FC K
 have l2:=Ol K
 rw[if_pos (by omega),eP (by omega),hat,bU (Nn F t.1),jT ha,eP (by simp;omega),eP (by omega),bU (WU F t.1),eP (by simp;omega)]
 have hc:=YC F (dd,nn,GW K,FD K,((pre.length:Nat):Int)) ag (a:Int) (agg t.1) (O:=FD K++[agg t.1]) rfl (by simp;omega) (FD K++[agg t.1]) [] 0 F rfl (by simp) (by simp;omega)
 rw[show((0:Int),(0:Int))=(((0:Nat):Int),((([]:List Bool).length:Nat):Int))from rfl,hc,Vl,Nat.zero_add]
 unfold rM
 dsimp only
 have w:wI .i64 (((pre.length:Nat):Int)+1)=((pre.length+1:Nat):Int):=by rw[wr (by omega) (by omega)];omega
 have e0:((GW K++[(a:Int)]).length:Int)=((K.length+1:Nat):Int):=by simp[l1]
 by_cases h0:a=0
 ·subst h0
  rw[if_pos rfl,<-Bh 0 (agg t.1),<-Cd 0,YF _ _ _ _ K (agg t.1) F hK (by omega) (by omega)]
  unfold h_
  dsimp only
  rw[e0,w]
 ·obtain⟨F,rfl⟩:∃q,F=q+1:=⟨F - 1,by omega⟩
  rw[if_neg h0,<-Cd a]
  show eI _ _ _ _ _ _=_
  rw[Ov _ _ _ _ _ (by omega) _ _ (by omega)]
  unfold h_
  dsimp only
  rw[e0,w,<-Bh a (agg t.1)]
theorem Ii (F:Nat) {T:List TM} (hl:T.length<=450) (hF:1000<=F):∀(x:X),x.ok->∀(pre post:List TM) (K:OT) (dd nn:Int) (fuel:Nat),T=pre++(x.ts++post)->(∀z∈K,1<=z.1∧z.1<1000)->K.length+x.depth<=450->
  bZ (dS F T) (fuel+x.ts.length) (dd,nn,GW K,FD K,((pre.length:Nat):Int))=bZ (dS F T) fuel (max dd ((K.length+x.depth:Nat):Int),max nn ((Da K+x.nest:Nat):Int),GW (Az K),FD (Az K),((pre.length+x.ts.length:Nat):Int))
 | .lf t,hx,pre,post,K,dd,nn,fuel,hT,hK,hd=>by
  have:=On F (pre:=pre) (post:=post) (t:=t) (by simpa [X.ts]using hT) hl hF hx K hK (by omega) dd nn fuel
  rw[if_pos rfl,Bu hx (by decide)]at this
  simpa [X.ts,X.depth,X.nest]using this
 | .un t x, hx, pre, post, K, dd, nn, fuel, hT, hK, hd => by
  simp only[X.depth]at hd
  have h1:=On F (pre:=pre) (post:=x.ts++post) (t:=t) (by rw[hT];simp[X.ts]) hl hF hx.1 K hK (by omega) dd nn (fuel+x.ts.length)
  rw[if_neg (show¬(1:Nat)=0 by decide)]at h1
  have h2:=Ii F hl hF x hx.2 (pre++[t]) post ((1,agg t.1)::K) (max dd ((K.length+1:Nat):Int)) (max nn ((Da K+(if agg t.1 then 1 else 0):Nat):Int)) fuel (by rw[hT];simp[X.ts]) (fun z hz=>by
   rcases List.mem_cons.1 hz with rfl|hz
   ·exact⟨Nat.le_refl 1,by show 1<1000;omega⟩
   ·exact hK z hz) (by simp;omega)
  simp only[X.ts,List.length_cons,X.depth,X.nest]
  rw[show fuel+(x.ts.length+1)=fuel+x.ts.length+1 by omega,h1,show((pre.length+1:Nat):Int)=(((pre++[t]).length:Nat):Int) by simp,h2]
  have f1:Az ((1,agg t.1)::K)=Az K:=by simp[Az]
  rw[f1,Gi]
  congr 2
  ·simp;omega
  ·congr 1
   ·simp;omega
   ·simp;omega
 | .bi t x y, hx, pre, post, K, dd, nn, fuel, hT, hK, hd => by
  simp only[X.depth]at hd
  have hb:=Bu hx.1 (by decide)
  have h1:=On F (pre:=pre) (post:=x.ts++y.ts++post) (t:=t) (by rw[hT];simp[X.ts]) hl hF hx.1 K hK (by omega) dd nn (fuel+y.ts.length+x.ts.length)
  rw[if_neg (show¬(2:Nat)=0 by decide),hb]at h1
  have hK2:∀n:Nat,1<=n->n<1000->∀z∈(n,false)::K,1<=z.1∧z.1<1000:=fun n h1 h2 z hz=>by
   rcases List.mem_cons.1 hz with rfl|hz
   ·exact⟨h1,h2⟩
   ·exact hK z hz
  have h2:=Ii F hl hF x hx.2.1 (pre++[t]) (y.ts++post) ((2,false)::K) (max dd ((K.length+1:Nat):Int)) (max nn ((Da K+(if false=true then 1 else 0):Nat):Int)) (fuel+y.ts.length) (by rw[hT];simp[X.ts]) (hK2 2 (by decide) (by decide)) (by simp;omega)
  have h3:=Ii F hl hF y hx.2.2 (pre++t::x.ts) post ((1,false)::K) (max (max dd ((K.length+1:Nat):Int)) ((((2,false)::K).length+x.depth:Nat):Int)) (max (max nn ((Da K+(if false=true then 1 else 0):Nat):Int)) ((Da ((2,false)::K)+x.nest:Nat):Int)) fuel (by rw[hT];simp[X.ts]) (hK2 1 (by decide) (by decide)) (by simp;omega)
  have f2:Az ((2,false)::K)=(1,false)::K:=by simp[Az]
  have f1:Az ((1,false)::K)=Az K:=by simp[Az]
  rw[f2]at h2
  rw[f1]at h3
  simp only[X.ts,List.length_cons,List.length_append,X.depth,X.nest]
  rw[show fuel+(x.ts.length+y.ts.length+1)=fuel+y.ts.length+x.ts.length+1 by omega,h1,show((pre.length+1:Nat):Int)=(((pre++[t]).length:Nat):Int) by simp,h2,show(((pre++[t]).length+x.ts.length:Nat):Int)=(((pre++t::x.ts).length:Nat):Int) by simp;omega,h3]
  simp only[Gi]
  congr 2
  ·simp;omega
  ·congr 1
   ·simp;omega
   ·simp;omega
 | .tr t x y z, hx, pre, post, K, dd, nn, fuel, hT, hK, hd => by
  simp only[X.depth]at hd
  have hb:=Bu hx.1 (by decide)
  have h1:=On F (pre:=pre) (post:=x.ts++y.ts++z.ts++post) (t:=t) (by rw[hT];simp[X.ts]) hl hF hx.1 K hK (by omega) dd nn (fuel+z.ts.length+y.ts.length+x.ts.length)
  rw[if_neg (show¬(3:Nat)=0 by decide),hb]at h1
  have hK2:∀n:Nat,1<=n->n<1000->∀z∈(n,false)::K,1<=z.1∧z.1<1000:=fun n h1 h2 z hz=>by
   rcases List.mem_cons.1 hz with rfl|hz
   ·exact⟨h1,h2⟩
   ·exact hK z hz
  have h2:=Ii F hl hF x hx.2.1 (pre++[t]) (y.ts++z.ts++post) ((3,false)::K) (max dd ((K.length+1:Nat):Int)) (max nn ((Da K+(if false=true then 1 else 0):Nat):Int)) (fuel+z.ts.length+y.ts.length) (by rw[hT];simp[X.ts]) (hK2 3 (by decide) (by decide)) (by simp;omega)
  have h3:=Ii F hl hF y hx.2.2.1 (pre++t::x.ts) (z.ts++post) ((2,false)::K) (max (max dd ((K.length+1:Nat):Int)) ((((3,false)::K).length+x.depth:Nat):Int)) (max (max nn ((Da K+(if false=true then 1 else 0):Nat):Int)) ((Da ((3,false)::K)+x.nest:Nat):Int)) (fuel+z.ts.length) (by rw[hT];simp[X.ts]) (hK2 2 (by decide) (by decide)) (by simp;omega)
  have h4:=Ii F hl hF z hx.2.2.2 (pre++t::(x.ts++y.ts)) post ((1,false)::K) (max (max (max dd ((K.length+1:Nat):Int)) ((((3,false)::K).length+x.depth:Nat):Int)) ((((2,false)::K).length+y.depth:Nat):Int)) (max (max (max nn ((Da K+(if false=true then 1 else 0):Nat):Int)) ((Da ((3,false)::K)+x.nest:Nat):Int)) ((Da ((2,false)::K)+y.nest:Nat):Int)) fuel (by rw[hT];simp[X.ts]) (hK2 1 (by decide) (by decide)) (by simp;omega)
  have f3:Az ((3,false)::K)=(2,false)::K:=by simp[Az]
  have f2:Az ((2,false)::K)=(1,false)::K:=by simp[Az]
  have f1:Az ((1,false)::K)=Az K:=by simp[Az]
  rw[f3]at h2
  rw[f2]at h3
  rw[f1]at h4
  simp only[X.ts,List.length_cons,List.length_append,X.depth,X.nest]
  rw[show fuel+(x.ts.length+(y.ts.length+z.ts.length)+1)=fuel+z.ts.length+y.ts.length+x.ts.length+1 by omega,h1,show((pre.length+1:Nat):Int)=(((pre++[t]).length:Nat):Int) by simp,h2,show(((pre++[t]).length+x.ts.length:Nat):Int)=(((pre++t::x.ts).length:Nat):Int) by simp;omega,h3,show(((pre++t::x.ts).length+y.ts.length:Nat):Int)=(((pre++t::(x.ts++y.ts)).length:Nat):Int) by simp;omega,h4]
  simp only[Gi]
  congr 2
  ·simp;omega
  ·congr 1
   ·simp;omega
   ·simp;omega
theorem XJ (F:Nat) {x:X} (hx:x.ok) (hl:x.ts.length<=450) (hF:1000<=F):pX F x.ts=some ((x.depth:Int),(x.nest:Int)):=by
 have hd:=x.depth_le
 have:=Ii F (T:=x.ts) hl hF x hx [] [] [] 0 0 (F - x.ts.length - 1+1) (by simp) (fun z hz=>by cases hz) (by simp;omega)
 unfold pX
 rw[show F - x.ts.length - 1+1+x.ts.length=F by omega]at this
 have e:((0:Int),(0:Int),([]:List Int),([]:List Bool),(0:Int))=(0,0,GW [],FD [],((([]:List TM).length:Nat):Int)):=rfl
 rw[e,this]
 show dS F x.ts _ _=_
 unfold dS wT
 dsimp only
 rw[if_neg (by simp)]
 congr 2
 ·simp
 ·simp[Da]
end
section
def XV (vars:Int) (e:List TM) (x:X):Prop:=e.length<=200∧x.ok∧e=x.ts∧x.depth<=24∧x.nest<=2∧∀t∈e,AF vars t=true
theorem Xi (F:Nat) (T:List TM) (vars:Int):∀(l pre:List TM) (fuel:Nat),T=pre++l->T.length<=900->l.length<fuel->
  bZ (kX F T vars) fuel ((pre.length:Nat):Int)=if l.all (AF vars)then Aw F T ()else some false:=by
 intro l
 induction l with
 |nil=>
  intro pre fuel hT hl hf
  obtain⟨f,rfl⟩:∃f,fuel=f+1:=⟨fuel - 1,by omega⟩
  show kX F T vars _ _=_
  unfold kX
  rw[if_neg (by rw[hT];simp),if_pos (by simp)]
 | cons t l ih =>
  intro pre fuel hT hl hf
  simp only[List.length_cons]at hf
  obtain⟨f,rfl⟩:∃f,fuel=f+1:=⟨fuel - 1,by omega⟩
  have hlt:pre.length<T.length:=by rw[hT];simp
  have hat:at' T ((pre.length:Nat):Int)=t:=by rw[hT];exact gJ pre l t _ rfl
  have ih':=ih (pre++[t]) f (by rw[hT];simp) hl (by omega)
  show kX F T vars _ (bZ (kX F T vars) f)=_
  generalize bZ (kX F T vars) f=ag at ih' ⊢
  unfold kX
  rw[if_pos (by omega),eP (by omega),hat,bU (YL F t vars),wr (by omega) (by omega)]
  cases h:AF vars t with
  |true=>
   rw[if_neg (by decide),show(((pre.length:Nat):Int)+1)=(((pre++[t]).length:Nat):Int) by simp,ih']
   rw[List.all_cons,h,Bool.true_and]
  |false=>rw[if_pos (by decide)];simp[h]
theorem WV (F:Nat) (T:List TM) (vars:Int):∀(l pre:List TM) (fuel:Nat),T=pre++l->T.length<=900->l.length<fuel->
  bZ (jP F T vars) fuel ((pre.length:Nat):Int)=some (l.all (AF vars)):=by
 intro l
 induction l with
 |nil=>
  intro pre fuel hT hl hf
  obtain⟨f,rfl⟩:∃f,fuel=f+1:=⟨fuel - 1,by omega⟩
  show jP F T vars _ _=_
  unfold jP yH
  rw[if_neg (by rw[hT];simp)]
  rfl
 | cons t l ih =>
  intro pre fuel hT hl hf
  simp only[List.length_cons]at hf
  obtain⟨f,rfl⟩:∃f,fuel=f+1:=⟨fuel - 1,by omega⟩
  have hlt:pre.length<T.length:=by rw[hT];simp
  have hat:at' T ((pre.length:Nat):Int)=t:=by rw[hT];exact gJ pre l t _ rfl
  have ih':=ih (pre++[t]) f (by rw[hT];simp) hl (by omega)
  show jP F T vars _ (bZ (jP F T vars) f)=_
  generalize bZ (jP F T vars) f=ag at ih' ⊢
  unfold jP
  rw[if_pos (by omega),eP (by omega),hat,bU (YB F t vars),wr (by omega) (by omega)]
  cases h:AF vars t with
  |true=>
   rw[if_neg (by decide),show(((pre.length:Nat):Int)+1)=(((pre++[t]).length:Nat):Int) by simp,ih']
   simp[h]
  |false=>rw[if_pos (by decide)];simp[h]
theorem Qk {x y:X} (hx:x.ok) (hy:y.ok) (h:x.ts=y.ts) (hl:x.ts.length<=450):x.depth=y.depth∧x.nest=y.nest:=by
 have h1:=XJ 1000 hx hl (by decide)
 rw[h,XJ 1000 hy (by rw[<-h];exact hl) (by decide)]at h1
 have:=Option.some.inj h1
 simp only[Prod.mk.injEq]at this
 omega
theorem VL (F:Nat) (e:List TM) (hl:e.length<=900) (hF:1000<=F):xN F e=some (decide (0<e.length∧Db e 0=e.length)):=by
 unfold xN yI
 have he:=VH F e 0 hl (by omega)
 rw[show((0:Nat):Int)=0 from rfl]at he
 by_cases h:0<e.length
 ·rw[if_pos (by omega),bU he];simp[h]
 ·rw[if_neg (by omega)];simp[h]
theorem E_ (F:Nat) (e:List TM) (vars:Int) (hl:e.length<=900) (hF:1000<=F):∃b,iR F e vars=some b∧kV F e vars=some b∧(b=true↔∃x,XV vars e x):=by
 by_cases h200:200<e.length
 ·refine⟨false,?_,?_,?_⟩
  ·unfold iR sJ
   rw[if_pos (by omega),if_pos rfl]
  ·unfold kV lM
   rw[if_pos (by omega),if_pos rfl]
  ·constructor
   ·intro h;cases h
   ·rintro⟨x,h,_⟩;omega
 have he:=Xj F e 0 hl (by omega)
 rw[show((0:Nat):Int)=0 from rfl]at he
 by_cases hE:0<e.length∧Db e 0=e.length
 ·obtain⟨x,hx,hT⟩:=Pe hE.2 hE.1
  have hxl:x.ts.length<=450:=by rw[<-hT];omega
  refine⟨decide (x.depth<=24)&&decide (x.nest<=2)&&e.all (AF vars),?_,?_,?_⟩
  ·unfold iR sJ
   rw[if_neg (by omega),bU he,if_neg (by simpa using hE.2)]
   rw[show(0:Int)=((([]:List TM).length:Nat):Int)from rfl,Xi F e vars e [] F rfl hl (by omega)]
   unfold Aw v_
   have hd:=VZ F hx hxl (by omega)
   have hn:=Xo F hx hxl (by omega)
   rw[<-hT]at hd hn
   rw[bU hd]
   cases e.all (AF vars)with
   |false=>simp
   |true=>
    rw[if_pos rfl]
    by_cases h24:x.depth<=24
    ·rw[if_pos (by omega),bU hn];simp[h24];omega
    ·rw[if_neg (by omega)];simp[h24]
  ·unfold kV lM
   have hlv:=XJ F hx hxl hF
   rw[<-hT]at hlv
   have h1:=VL F e hl hF
   rw[decide_eq_true hE]at h1
   have hd:mL F e=some (x.depth:Int):=by
    unfold mL;rw[bU h1,if_neg (by decide),bU hlv]
   have hn:AR F e=some (x.nest:Int):=by
    unfold AR;rw[bU h1,if_neg (by decide),bU hlv]
   rw[if_neg (by omega),bU h1,if_neg (by decide),bU hd]
   by_cases h24:x.depth<=24
   ·rw[if_neg (by omega),bU hn]
    by_cases h2:x.nest<=2
    ·rw[if_neg (by simp;omega),show(0:Int)=((([]:List TM).length:Nat):Int)from rfl,WV F e vars e [] F rfl hl (by omega)];simp[h24,h2]
    ·rw[if_pos (by simp;omega)];simp[h2]
   ·rw[if_pos (by omega),if_pos rfl];simp[h24]
  ·constructor
   ·intro h
    simp only[Bool.and_eq_true,decide_eq_true_eq]at h
    exact⟨x,by omega,hx,hT,h.1.1,h.1.2,fun t ht=>List.all_eq_true.1 h.2 t ht⟩
   ·rintro⟨y,_,hy,hT2,hd,hn,ha⟩
    obtain⟨u1,u2⟩:=Qk hx hy (hT.symm.trans hT2) hxl
    simp only[Bool.and_eq_true,decide_eq_true_eq]
    exact⟨⟨by omega,by omega⟩,List.all_eq_true.2 ha⟩
 ·refine⟨false,?_,?_,?_⟩
  ·unfold iR sJ
   rw[if_neg (by omega),bU he,if_pos]
   simp only[decide_eq_true_eq]
   intro h
   refine hE ⟨?_,h⟩
   rcases Nat.eq_zero_or_pos e.length with h0|h0
   ·have:e=[]:=List.eq_nil_of_length_eq_zero h0
    subst this
    simp[Db,rn]at h
   ·exact h0
  ·unfold kV lM
   have h1:=VL F e hl hF
   rw[decide_eq_false hE]at h1
   rw[if_neg (by omega),bU h1,if_pos (by decide),if_pos rfl]
  ·constructor
   ·intro h;cases h
   ·rintro⟨y,_,hy,rfl,_⟩
    exact absurd ⟨y.pos,Kg hy⟩ hE
end
end Go.Proofs.YthnplbmmlbnelaaGreat
end
section
namespace Go.Proofs.YthnplbmmlbnelaaGreat
open Go.Sx
section
def lT  (a2:Bool):Option (Bool):=
 some (a2)
def pZ (U:Nat) (p0:Int):Option (Bool):=
 if p0=(1:Int)then(lT  (true))else(if p0=(2:Int)then(lT  (true))else(lT  (decide (p0=(3:Int)))))
theorem NN:bO Tryz.prog 107:=Tryz.call107
theorem Ci (U:Nat) {p0:Int} (r:Bool) (h:pZ U p0=some r):
  bQ Tryz.prog 107 #[vI (p0)] [] (fun x:Unit=>vB (r)) (fun x l=>l) (fun _ l=>l):=by
 refine bQ.of Tryz.func107 rfl Tryz.ntmps107 rfl fun c=>?_
 refine aZ<|aK rfl<|aU<|aP<|dD (fun a2=>lT  a2=some r) (fun a2 b3=>[(2,vB (a2))]) (fun a2 b3=>[]) ?_ ?_
 ·refine aS<|aE rfl<|dQ rfl<|aE rfl ?_
  refine oD h rfl (fun _ h=>?_) fun _ h=>?_
  ·refine aI rfl<|aI rfl<|cE rfl<|aE rfl<|aI rfl<|aI rfl<|cE rfl<|aK rfl<|aU ?_
   exact cZ (true) () h SF rfl
  refine cP rfl<|aL rfl (mU rfl rfl) rfl<|cI rfl<|aE rfl ?_
  refine oD h rfl (fun _ h=>?_) fun _ h=>?_
  ·refine aI rfl<|aI rfl<|cE rfl<|aK rfl<|aU ?_
   exact cZ (true) () h SF rfl
  refine cP rfl<|aL rfl (mU rfl rfl) rfl<|cI rfl<|aK rfl<|aU ?_
  exact cZ (decide (p0=(3:Int))) () h SF rfl
 intro a2 b3 h
 unfold lT at h
 refine bE ?_
 cases h
 exact kF rfl
end
section
def yV  (a2:Bool):Option (Bool):=
 some (a2)
def By (U:Nat) (p0:Int):Option (Bool):=
 if(11:Int)<=p0 then(yV  (decide (p0<=(17:Int))))else(yV  (false))
theorem S_:bO Tryz.prog 144:=Tryz.call144
theorem LW (U:Nat) {p0:Int} (r:Bool) (h:By U p0=some r):
  bQ Tryz.prog 144 #[vI (p0)] [] (fun x:Unit=>vB (r)) (fun x l=>l) (fun _ l=>l):=by
 refine bQ.of Tryz.func144 rfl Tryz.ntmps144 rfl fun c=>?_
 refine aZ<|aK rfl<|aU<|aP<|dD (fun a2=>yV  a2=some r) (fun a2 b3=>[(2,vB (a2))]) (fun a2 b3=>[]) ?_ ?_
 ·refine aS<|aE rfl<|aJ (jM rfl rfl) rfl<|aE rfl ?_
  refine oD h rfl (fun _ h=>?_) fun _ h=>?_
  ·refine cP rfl<|aL rfl (sO rfl rfl) rfl<|cE rfl<|aK rfl<|aU ?_
   exact cZ (decide (p0<=(17:Int))) () h SF rfl
  refine aI rfl<|aI rfl<|cI rfl<|aK rfl<|aU ?_
  exact cZ (false) () h SF rfl
 intro a2 b3 h
 unfold yV at h
 refine bE ?_
 cases h
 exact kF rfl
end
section
def nP (p0:Ck) (p1:lS) (a12:Bool):Option (Int):=
 if a12=true then(ck (0<=p1.2∧p1.2<(List.length p0.2:Int)) (some (at' p0.2 p1.2)))else(some (1:Int))
def kG (p0:Ck) (p1:lS) (a8:Bool):Option (Int):=
 if a8=true then(some (3:Int))else(if p1.1=(5:Int)then(nP p0 p1 (decide (p1.1=(5:Int))))else(nP p0 p1 (decide (p1.1=(12:Int)))))
def iH (p0:Ck) (p1:lS) (a4:Bool):Option (Int):=
 if a4=true then(some (2:Int))else(if p1.1=(4:Int)then(kG p0 p1 (decide (p1.1=(4:Int))))else(if p1.1=(11:Int)then(kG p0 p1 (decide (p1.1=(11:Int))))else(kG p0 p1 (decide (p1.1=(17:Int))))))
def oM (U:Nat) (p0:Ck) (p1:lS):Option (Int):=
 if p1.1=(2:Int)then(iH p0 p1 (decide (p1.1=(2:Int))))else(if p1.1=(3:Int)then(iH p0 p1 (decide (p1.1=(3:Int))))else(if p1.1=(10:Int)then(iH p0 p1 (decide (p1.1=(10:Int))))else(iH p0 p1 (decide (p1.1=(15:Int))))))
theorem Ta:bO Tryz.prog 145:=Tryz.call145
theorem DC (U:Nat) {p0:Ck} {p1:lS} (v0:Value)  (v1:Value) (r:Int) (h:oM U p0 p1=some r):
  bQ Tryz.prog 145 #[Value.agg #[v0,v1],Value.agg #[vI (p1.1),vI (p1.2)]] [Sl bF v0 p0.1,Sl gS v1 p0.2] (fun x:Unit=>vI (r)) (fun x l=>l) (fun _ l=>l):=by
 refine bQ.of Tryz.func145 rfl Tryz.ntmps145 rfl fun c=>?_
 refine aZ<|aT (aW.box (cs:=[v0,v1]) rfl rfl) rfl fun b1=>aT (aW.box (cs:=[vI (p1.1),vI (p1.2)]) rfl rfl) rfl fun b2=>aK rfl<|aU<|aP<|aZ<|bP rfl<|dC 0 rfl<|aU<|aY<|aP<|dD (fun a4=>iH p0 p1 a4=some r) (fun a4 b5=>[(2,vP b1),(3,vP b2),(6,vI (p1.1)),(7,vB (a4))]) (fun a4 b5=>[bJ b2 [vI (p1.1),vI (p1.2)] 84,bJ b1 [v0,v1] 151]) ?_ ?_
 ·refine aZ<|dQ rfl<|aK rfl<|aU ?_
  refine gT h rfl (fun h=>?_) fun h=>?_
  ·refine cC ?_
   exact cZ (decide (p1.1=(2:Int))) () h SF rfl
  refine aZ<|dQ rfl<|aK rfl<|aU ?_
  refine gT h rfl (fun h=>?_) fun h=>?_
  ·refine cC ?_
   exact cZ (decide (p1.1=(3:Int))) () h SF rfl
  refine aZ<|dQ rfl<|aK rfl<|aU ?_
  refine gT h rfl (fun h=>?_) fun h=>?_
  ·refine cC ?_
   exact cZ (decide (p1.1=(10:Int))) () h SF rfl
  refine aS<|dQ rfl<|aK rfl<|aU ?_
  exact cZ (decide (p1.1=(15:Int))) () h SF rfl
 intro a4 b5 h
 refine gP h rfl (fun _ h=>?_) fun _ h=>?_
 ·refine aZ<|aK rfl<|aU<|bE<|cG<|aR ?_
  cases h
  exact yR rfl
 refine aP<|dD (fun a8=>kG p0 p1 a8=some r) (fun a8 b9=>[(2,vP b1),(3,vP b2),(6,vI (p1.1)),(12,vB (a8))]) (fun a8 b9=>[bJ b2 [vI (p1.1),vI (p1.2)] 84,bJ b1 [v0,v1] 151]) ?_ ?_
 ·refine aZ<|dQ rfl<|aK rfl<|aU ?_
  refine gT h rfl (fun h=>?_) fun h=>?_
  ·refine cC ?_
   exact cZ (decide (p1.1=(4:Int))) () h SF rfl
  refine aZ<|dQ rfl<|aK rfl<|aU ?_
  refine gT h rfl (fun h=>?_) fun h=>?_
  ·refine cC ?_
   exact cZ (decide (p1.1=(11:Int))) () h SF rfl
  refine aS<|dQ rfl<|aK rfl<|aU ?_
  exact cZ (decide (p1.1=(17:Int))) () h SF rfl
 intro a8 b9 h
 refine gP h rfl (fun _ h=>?_) fun _ h=>?_
 ·refine aZ<|aK rfl<|aU<|bE<|cG<|aR ?_
  cases h
  exact yR rfl
 refine aP<|dD (fun a12=>nP p0 p1 a12=some r) (fun a12 b13=>[(2,vP b1),(3,vP b2),(16,vB (a12))]) (fun a12 b13=>[bJ b2 [vI (p1.1),vI (p1.2)] 84,bJ b1 [v0,v1] 151]) ?_ ?_
 ·refine aZ<|dQ rfl<|aK rfl<|aU ?_
  refine gT h rfl (fun h=>?_) fun h=>?_
  ·refine cC ?_
   exact cZ (decide (p1.1=(5:Int))) () h SF rfl
  refine aS<|dQ rfl<|aK rfl<|aU ?_
  exact cZ (decide (p1.1=(12:Int))) () h SF rfl
 intro a12 b13 h
 refine gP h rfl (fun _ h=>?_) fun _ h=>?_
 ·refine aZ<|bP rfl<|dC 1 rfl<|bP rfl<|dC 0 rfl<|fJ h fun j15 h=>aJ (a_ rfl rfl (fP rfl) rfl rfl j15) rfl<|aJ (iN rfl (fP rfl) rfl rfl rfl mT j15) rfl<|aK rfl<|aU<|bE<|cG<|aR ?_
  cases h
  exact yR rfl
 refine eJ<|lP<|aZ<|aK rfl<|aU<|bE ?_
 cases h
 exact yR rfl
end
section
def eL (U:Nat) (p0:Bool) (p1:Int):Option (Int):=
 if p0=true then(some (p1))else(some (0:Int))
theorem sP:bO Tryz.prog 155:=Tryz.call155
theorem fU (U:Nat) {p0:Bool} {p1:Int} (r:Int) (h:eL U p0 p1=some r):
  bQ Tryz.prog 155 #[vB (p0),vI (p1)] [] (fun x:Unit=>vI (r)) (fun x l=>l) (fun _ l=>l):=by
 refine bQ.of Tryz.func155 rfl Tryz.ntmps155 rfl fun c=>?_
 refine aZ<|aK rfl<|aU<|aP<|aZ<|aE rfl<|aU ?_
 refine gP h rfl (fun _ h=>?_) fun _ h=>?_
 ·refine aZ<|aE rfl<|aK rfl<|aU<|bE<|aR ?_
  cases h
  exact kF rfl
 refine cC<|aZ<|aK rfl<|aU<|bE ?_
 cases h
 exact kF rfl
end
section
def rX  (a29:Int):Option (Int):=
 some (a29)
def rZ  (a43:Int):Option (Int):=
 some (a43)
def r_  (a57:Int):Option (Int):=
 some (a57)
def qP  (a71:Int):Option (Int):=
 some (a71)
def qQ  (a81:Int):Option (Int):=
 some (a81)
def sA (U:Nat) (p1:Int×Int×Int) (a67:Bool):Option (Int):=
 if a67=true then(if p1.1=(2:Int)then(Option.bind (eL U (decide (p1.2.1=(2:Int))) (2:Int)) fun r74=>(qP  (r74)))else(Option.bind (eL U false (2:Int)) fun r77=>(qP  (r77))))else(if p1.1=(2:Int)then(Option.bind (eL U (decide (p1.2.1=p1.2.2)) p1.2.1) fun r84=>(qQ  (r84)))else(Option.bind (eL U false p1.2.1) fun r87=>(qQ  (r87))))
def lY (U:Nat) (p0:Int) (p1:Int×Int×Int) (a53:Bool):Option (Int):=
 if a53=true then(if p1.1=(1:Int)then(Option.bind (eL U (decide (p1.2.1=(1:Int))) (2:Int)) fun r60=>(r_  (r60)))else(Option.bind (eL U false (2:Int)) fun r63=>(r_  (r63))))else(if p0=(41:Int)then(sA U p1 (decide (p0=(41:Int))))else(sA U p1 (decide (p0=(42:Int)))))
def rY (U:Nat) (p0:Int) (p1:Int×Int×Int) (a39:Bool):Option (Int):=
 if a39=true then(if p1.1=p1.2.1 then(Option.bind (eL U (decide (p1.1≠(0:Int))) (2:Int)) fun r46=>(rZ  (r46)))else(Option.bind (eL U false (2:Int)) fun r49=>(rZ  (r49))))else(if p0=(37:Int)then(lY U p0 p1 (decide (p0=(37:Int))))else(if p0=(38:Int)then(lY U p0 p1 (decide (p0=(38:Int))))else(if p0=(39:Int)then(lY U p0 p1 (decide (p0=(39:Int))))else(lY U p0 p1 (decide (p0=(40:Int)))))))
def kE (U:Nat) (p0:Int) (p1:Int×Int×Int) (a25:Bool):Option (Int):=
 if a25=true then(if p1.1=(1:Int)then(Option.bind (eL U (decide (p1.2.1=(1:Int))) (1:Int)) fun r32=>(rX  (r32)))else(Option.bind (eL U false (1:Int)) fun r35=>(rX  (r35))))else(if p0=(35:Int)then(rY U p0 p1 (decide (p0=(35:Int))))else(rY U p0 p1 (decide (p0=(36:Int)))))
def lX (U:Nat) (p0:Int) (p1:Int×Int×Int) (a10:Bool):Option (Int):=
 if a10=true then(Option.bind (eL U (decide (p1.1=(2:Int))) (2:Int)) fun r13=>(some (r13)))else(if p0=(22:Int)then(Option.bind (eL U (decide (p1.1=(2:Int))) (1:Int)) fun r17=>(some (r17)))else(if p0=(23:Int)then(Option.bind (eL U (decide (p1.1=(2:Int))) (3:Int)) fun r21=>(some (r21)))else(if p0=(30:Int)then(kE U p0 p1 (decide (p0=(30:Int))))else(if p0=(31:Int)then(kE U p0 p1 (decide (p0=(31:Int))))else(if p0=(32:Int)then(kE U p0 p1 (decide (p0=(32:Int))))else(if p0=(33:Int)then(kE U p0 p1 (decide (p0=(33:Int))))else(kE U p0 p1 (decide (p0=(34:Int))))))))))
def gU (U:Nat) (p0:Int) (p1:Int×Int×Int) (a3:Bool):Option (Int):=
 if a3=true then(Option.bind (eL U (decide (p1.1=(1:Int))) (1:Int)) fun r6=>(some (r6)))else(if p0=(19:Int)then(lX U p0 p1 (decide (p0=(19:Int))))else(if p0=(20:Int)then(lX U p0 p1 (decide (p0=(20:Int))))else(lX U p0 p1 (decide (p0=(21:Int))))))
def lL (U:Nat) (p0:Int) (p1:Int×Int×Int):Option (Int):=
 if p0=(18:Int)then(gU U p0 p1 (decide (p0=(18:Int))))else(if p0=(24:Int)then(gU U p0 p1 (decide (p0=(24:Int))))else(if p0=(25:Int)then(gU U p0 p1 (decide (p0=(25:Int))))else(if p0=(26:Int)then(gU U p0 p1 (decide (p0=(26:Int))))else(if p0=(27:Int)then(gU U p0 p1 (decide (p0=(27:Int))))else(if p0=(28:Int)then(gU U p0 p1 (decide (p0=(28:Int))))else(gU U p0 p1 (decide (p0=(29:Int)))))))))
theorem Tb:bO Tryz.prog 146:=Tryz.call146
theorem Ix (U:Nat) {p0:Int} {p1:Int×Int×Int} (r:Int) (h:lL U p0 p1=some r):
  bQ Tryz.prog 146 #[vI (p0),Value.agg #[vI (p1.1),vI (p1.2.1),vI (p1.2.2)]] [] (fun x:Unit=>vI (r)) (fun x l=>l) (fun _ l=>l):=by
 refine bQ.of Tryz.func146 rfl Tryz.ntmps146 rfl fun c=>?_
 refine aZ<|aT (aW.box (cs:=[vI (p1.1),vI (p1.2.1),vI (p1.2.2)]) rfl rfl) rfl fun b1=>aK rfl<|aU<|aP ?_
 refine CC [0,1,0,4,0,16,3,79,255] 8 mixedOrders ?_
 refine zE rfl (Cs (i:=0) rfl rfl rfl rfl rfl (by decide)) ?_
 refine gM 0 rfl ?_
 refine zE rfl (Cs (i:=1) rfl rfl rfl rfl rfl (by decide)) ?_
 refine gM 0 rfl ?_
 refine zE rfl (Cs (i:=2) rfl rfl rfl rfl rfl (by decide)) ?_
 refine gM 0 rfl<|zE rfl (Fi rfl)<|zE rfl (Fi rfl)<|cX 8 rfl rfl<|aK rfl<|aU<|aP<|aZ<|aE rfl<|aU<|aY<|aP<|dD (fun a3=>gU U p0 p1 a3=some r) (fun a3 b4=>[(5,vI (p1.1)),(6,vI (p1.2.1)),(7,vI (p1.2.2)),(14,vI (p0)),(15,vB (a3))]) (fun a3 b4=>[]) ?_ ?_
 ·refine aZ<|dQ rfl<|aK rfl<|aU ?_
  refine gT h rfl (fun h=>?_) fun h=>?_
  ·refine cC ?_
   exact cK (decide (p0=(18:Int))) () h SF .nil (aV.refl _ _)
  refine aZ<|dQ rfl<|aK rfl<|aU ?_
  refine gT h rfl (fun h=>?_) fun h=>?_
  ·refine cC ?_
   exact cK (decide (p0=(24:Int))) () h SF .nil (aV.refl _ _)
  refine aZ<|dQ rfl<|aK rfl<|aU ?_
  refine gT h rfl (fun h=>?_) fun h=>?_
  ·refine cC ?_
   exact cK (decide (p0=(25:Int))) () h SF .nil (aV.refl _ _)
  refine aZ<|dQ rfl<|aK rfl<|aU ?_
  refine gT h rfl (fun h=>?_) fun h=>?_
  ·refine cC ?_
   exact cK (decide (p0=(26:Int))) () h SF .nil (aV.refl _ _)
  refine aZ<|dQ rfl<|aK rfl<|aU ?_
  refine gT h rfl (fun h=>?_) fun h=>?_
  ·refine cC ?_
   exact cK (decide (p0=(27:Int))) () h SF .nil (aV.refl _ _)
  refine aZ<|dQ rfl<|aK rfl<|aU ?_
  refine gT h rfl (fun h=>?_) fun h=>?_
  ·refine cC ?_
   exact cK (decide (p0=(28:Int))) () h SF .nil (aV.refl _ _)
  refine aS<|dQ rfl<|aK rfl<|aU ?_
  exact cK (decide (p0=(29:Int))) () h SF .nil (aV.refl _ _)
 intro a3 b4 h
 refine gP h rfl (fun _ h=>?_) fun _ h=>?_
 ·refine aZ<|aE rfl<|dQ rfl<|fO h fun r6 w7 h=>aT (aW.callQ sP (fU U  r6 w7) rfl .nil) rfl fun x8=>aK rfl<|aU<|bE<|cG<|aR ?_
  cases h
  exact kF rfl
 refine aP<|dD (fun a10=>lX U p0 p1 a10=some r) (fun a10 b11=>[(5,vI (p1.1)),(6,vI (p1.2.1)),(7,vI (p1.2.2)),(14,vI (p0)),(26,vB (a10))]) (fun a10 b11=>[]) ?_ ?_
 ·refine aZ<|dQ rfl<|aK rfl<|aU ?_
  refine gT h rfl (fun h=>?_) fun h=>?_
  ·refine cC ?_
   exact cZ (decide (p0=(19:Int))) () h SF rfl
  refine aZ<|dQ rfl<|aK rfl<|aU ?_
  refine gT h rfl (fun h=>?_) fun h=>?_
  ·refine cC ?_
   exact cZ (decide (p0=(20:Int))) () h SF rfl
  refine aS<|dQ rfl<|aK rfl<|aU ?_
  exact cZ (decide (p0=(21:Int))) () h SF rfl
 intro a10 b11 h
 refine gP h rfl (fun _ h=>?_) fun _ h=>?_
 ·refine aZ<|aE rfl<|dQ rfl<|fO h fun r13 w14 h=>aT (aW.callQ sP (fU U  r13 w14) rfl .nil) rfl fun x15=>aK rfl<|aU<|bE<|cG<|aR ?_
  cases h
  exact kF rfl
 refine aZ<|dQ rfl<|aK rfl<|aU ?_
 refine gT h rfl (fun h=>?_) fun h=>?_
 ·refine aZ<|aE rfl<|dQ rfl<|fO h fun r17 w18 h=>aT (aW.callQ sP (fU U  r17 w18) rfl .nil) rfl fun x19=>aK rfl<|aU<|bE<|cG<|aR ?_
  cases h
  exact kF rfl
 refine aZ<|dQ rfl<|aK rfl<|aU ?_
 refine gT h rfl (fun h=>?_) fun h=>?_
 ·refine aZ<|aE rfl<|dQ rfl<|fO h fun r21 w22 h=>aT (aW.callQ sP (fU U  r21 w22) rfl .nil) rfl fun x23=>aK rfl<|aU<|bE<|cG<|aR ?_
  cases h
  exact kF rfl
 refine aP<|dD (fun a25=>kE U p0 p1 a25=some r) (fun a25 b26=>[(5,vI (p1.1)),(6,vI (p1.2.1)),(7,vI (p1.2.2)),(14,vI (p0)),(43,vB (a25))]) (fun a25 b26=>[]) ?_ ?_
 ·refine aZ<|dQ rfl<|aK rfl<|aU ?_
  refine gT h rfl (fun h=>?_) fun h=>?_
  ·refine cC ?_
   exact cZ (decide (p0=(30:Int))) () h SF rfl
  refine aZ<|dQ rfl<|aK rfl<|aU ?_
  refine gT h rfl (fun h=>?_) fun h=>?_
  ·refine cC ?_
   exact cZ (decide (p0=(31:Int))) () h SF rfl
  refine aZ<|dQ rfl<|aK rfl<|aU ?_
  refine gT h rfl (fun h=>?_) fun h=>?_
  ·refine cC ?_
   exact cZ (decide (p0=(32:Int))) () h SF rfl
  refine aZ<|dQ rfl<|aK rfl<|aU ?_
  refine gT h rfl (fun h=>?_) fun h=>?_
  ·refine cC ?_
   exact cZ (decide (p0=(33:Int))) () h SF rfl
  refine aS<|dQ rfl<|aK rfl<|aU ?_
  exact cZ (decide (p0=(34:Int))) () h SF rfl
 intro a25 b26 h
 refine gP h rfl (fun _ h=>?_) fun _ h=>?_
 ·refine aP<|dD (fun a29=>rX  a29=some r) (fun a29 b30=>[(4,vI (a29))]) (fun a29 b30=>[]) ?_ ?_
  ·refine aS<|aE rfl<|dQ rfl<|aE rfl ?_
   refine oD h rfl (fun _ h=>?_) fun _ h=>?_
   ·refine cP rfl<|aL rfl (mU rfl rfl) rfl<|cE rfl<|fO h fun r32 w33 h=>aT (aW.callQ sP (fU U  r32 w33) rfl .nil) rfl fun x34=>aK rfl<|aU ?_
    exact cZ (r32) () h SF rfl
   refine aI rfl<|aI rfl<|cI rfl<|fO h fun r35 w36 h=>aT (aW.callQ sP (fU U  r35 w36) rfl .nil) rfl fun x37=>aK rfl<|aU ?_
   exact cZ (r35) () h SF rfl
  intro a29 b30 h
  unfold rX at h
  refine bE<|cG<|aR ?_
  cases h
  exact kF rfl
 refine aP<|dD (fun a39=>rY U p0 p1 a39=some r) (fun a39 b40=>[(5,vI (p1.1)),(6,vI (p1.2.1)),(7,vI (p1.2.2)),(14,vI (p0)),(56,vB (a39))]) (fun a39 b40=>[]) ?_ ?_
 ·refine aZ<|dQ rfl<|aK rfl<|aU ?_
  refine gT h rfl (fun h=>?_) fun h=>?_
  ·refine cC ?_
   exact cZ (decide (p0=(35:Int))) () h SF rfl
  refine aS<|dQ rfl<|aK rfl<|aU ?_
  exact cZ (decide (p0=(36:Int))) () h SF rfl
 intro a39 b40 h
 refine gP h rfl (fun _ h=>?_) fun _ h=>?_
 ·refine aP<|dD (fun a43=>rZ  a43=some r) (fun a43 b44=>[(4,vI (a43))]) (fun a43 b44=>[]) ?_ ?_
  ·refine aS<|aE rfl<|aE rfl<|dQ rfl<|aE rfl ?_
   refine oD h rfl (fun _ h=>?_) fun _ h=>?_
   ·refine cP rfl<|aL rfl (CW rfl rfl) rfl<|cE rfl<|fO h fun r46 w47 h=>aT (aW.callQ sP (fU U  r46 w47) rfl .nil) rfl fun x48=>aK rfl<|aU ?_
    exact cZ (r46) () h SF rfl
   refine aI rfl<|aI rfl<|cI rfl<|fO h fun r49 w50 h=>aT (aW.callQ sP (fU U  r49 w50) rfl .nil) rfl fun x51=>aK rfl<|aU ?_
   exact cZ (r49) () h SF rfl
  intro a43 b44 h
  unfold rZ at h
  refine bE<|cG<|aR ?_
  cases h
  exact kF rfl
 refine aP<|dD (fun a53=>lY U p0 p1 a53=some r) (fun a53 b54=>[(5,vI (p1.1)),(6,vI (p1.2.1)),(7,vI (p1.2.2)),(14,vI (p0)),(67,vB (a53))]) (fun a53 b54=>[]) ?_ ?_
 ·refine aZ<|dQ rfl<|aK rfl<|aU ?_
  refine gT h rfl (fun h=>?_) fun h=>?_
  ·refine cC ?_
   exact cZ (decide (p0=(37:Int))) () h SF rfl
  refine aZ<|dQ rfl<|aK rfl<|aU ?_
  refine gT h rfl (fun h=>?_) fun h=>?_
  ·refine cC ?_
   exact cZ (decide (p0=(38:Int))) () h SF rfl
  refine aZ<|dQ rfl<|aK rfl<|aU ?_
  refine gT h rfl (fun h=>?_) fun h=>?_
  ·refine cC ?_
   exact cZ (decide (p0=(39:Int))) () h SF rfl
  refine aS<|dQ rfl<|aK rfl<|aU ?_
  exact cZ (decide (p0=(40:Int))) () h SF rfl
 intro a53 b54 h
 refine gP h rfl (fun _ h=>?_) fun _ h=>?_
 ·refine aP<|dD (fun a57=>r_  a57=some r) (fun a57 b58=>[(4,vI (a57))]) (fun a57 b58=>[]) ?_ ?_
  ·refine aS<|aE rfl<|dQ rfl<|aE rfl ?_
   refine oD h rfl (fun _ h=>?_) fun _ h=>?_
   ·refine cP rfl<|aL rfl (mU rfl rfl) rfl<|cE rfl<|fO h fun r60 w61 h=>aT (aW.callQ sP (fU U  r60 w61) rfl .nil) rfl fun x62=>aK rfl<|aU ?_
    exact cZ (r60) () h SF rfl
   refine aI rfl<|aI rfl<|cI rfl<|fO h fun r63 w64 h=>aT (aW.callQ sP (fU U  r63 w64) rfl .nil) rfl fun x65=>aK rfl<|aU ?_
   exact cZ (r63) () h SF rfl
  intro a57 b58 h
  unfold r_ at h
  refine bE<|cG<|aR ?_
  cases h
  exact kF rfl
 refine aP<|dD (fun a67=>sA U p1 a67=some r) (fun a67 b68=>[(5,vI (p1.1)),(6,vI (p1.2.1)),(7,vI (p1.2.2)),(79,vB (a67))]) (fun a67 b68=>[]) ?_ ?_
 ·refine aZ<|dQ rfl<|aK rfl<|aU ?_
  refine gT h rfl (fun h=>?_) fun h=>?_
  ·refine cC ?_
   exact cZ (decide (p0=(41:Int))) () h SF rfl
  refine aS<|dQ rfl<|aK rfl<|aU ?_
  exact cZ (decide (p0=(42:Int))) () h SF rfl
 intro a67 b68 h
 refine gP h rfl (fun _ h=>?_) fun _ h=>?_
 ·refine aP<|dD (fun a71=>qP  a71=some r) (fun a71 b72=>[(4,vI (a71))]) (fun a71 b72=>[]) ?_ ?_
  ·refine aS<|aE rfl<|dQ rfl<|aE rfl ?_
   refine oD h rfl (fun _ h=>?_) fun _ h=>?_
   ·refine cP rfl<|aL rfl (mU rfl rfl) rfl<|cE rfl<|fO h fun r74 w75 h=>aT (aW.callQ sP (fU U  r74 w75) rfl .nil) rfl fun x76=>aK rfl<|aU ?_
    exact cZ (r74) () h SF rfl
   refine aI rfl<|aI rfl<|cI rfl<|fO h fun r77 w78 h=>aT (aW.callQ sP (fU U  r77 w78) rfl .nil) rfl fun x79=>aK rfl<|aU ?_
   exact cZ (r77) () h SF rfl
  intro a71 b72 h
  unfold qP at h
  refine bE<|cG<|aR ?_
  cases h
  exact kF rfl
 refine eJ<|lP<|aP<|dD (fun a81=>qQ  a81=some r) (fun a81 b82=>[(4,vI (a81))]) (fun a81 b82=>[]) ?_ ?_
 ·refine aS<|aE rfl<|dQ rfl<|aE rfl ?_
  refine oD h rfl (fun _ h=>?_) fun _ h=>?_
  ·refine cP rfl<|cP rfl<|aL rfl (mU rfl rfl) rfl<|cE rfl<|aE rfl<|fO h fun r84 w85 h=>aT (aW.callQ sP (fU U  r84 w85) rfl .nil) rfl fun x86=>aK rfl<|aU ?_
   exact cZ (r84) () h SF rfl
  refine aI rfl<|aI rfl<|aI rfl<|cI rfl<|aE rfl<|fO h fun r87 w88 h=>aT (aW.callQ sP (fU U  r87 w88) rfl .nil) rfl fun x89=>aK rfl<|aU ?_
  exact cZ (r87) () h SF rfl
 intro a81 b82 h
 unfold qQ at h
 refine bE ?_
 cases h
 exact kF rfl
end
end Go.Proofs.YthnplbmmlbnelaaGreat
end
