/- Models and proofs. Conditions: none. -/
import Derived.Test.YtlkhndebimcbbaaGreatDoorZSSu5
import Derived.RecoverIn
import Derived.DefersIn
import Derived.Lib.Bytealg
import Derived.Test.YtlkhndebimcbbaaGreatDoorZSSu2
import Derived.Test.YtlkhndebimcbbaaGreatDoorZSSu3
import Derived.Test.YtlkhndebimcbbaaGreatDoorZSSu4
set_option linter.unusedVariables false
set_option linter.unusedSimpArgs false
set_option maxHeartbeats 4000000
set_option maxRecDepth 20000
namespace Go.Gx
open Go Go.Sx
section
variable {P:Program} {gs:yL} {w0:eB gs} {tb:TB}
theorem ON:rE P w0 (λ_ _ _=>none):=λf b H g a h=>by cases h
theorem Ig:Hn P w0 tb (λ_ _ _ _=>none):=λb c d H a h=>by cases h
theorem abb {C:CH} {G:LH} (y:eT P tb) (Q:P.follows .mixedOrders=true) (k:∀w0:eB gs,rE P w0 C) (l:Hn P w0 tb G) {f:Nat} {d:Func} {J:List GV} {H:GH} {c:Om} (L:P.funcs[f]? = some d) (A:okF tb d=true) (h:XC tb C G d J H=some c) (O:c.e = .ret) {t:dJ} {w:World} {s:List Value} (R:fE w0 t H w) (E:oM t J s):
  Calls P f s.toArray w λe u=>∃v a,e = .returned v∧t.le a∧fE w0 a c.H u∧Rl a (VE c.vs) v:=by
 obtain⟨M,N⟩:=PC A;obtain⟨i,D,h⟩:=aD.1 (show ob d.body _=some c from h);obtain⟨K,m,h⟩:=qG h;rw[List.range_eq_range']at m;have r:=JB m;have S:s.length<=d.ntmps:=by rw[<-E.len,r];exact N
 refine sI L D ?_;have F:kV t d.ntmps K {tmps:=s.toArray++Array.replicate (d.ntmps - s.toArray.size) undef,defers:=[]}:=by
  refine MR Z (by simp;omega) E (λj v p=> ?_) m;have z:=bD p;rw[Nat.zero_add,Array.getElem?_append_left (by simpa using z)];simpa using p
 refine Cu y Q k l i _ _ _ ⟨K,H⟩ c t _ w _ (M i D) h F R ⟨λI a B u q b n o=> ?_,λid I a B u q b n o=> ?_,λI a B u q b n o=> ?_⟩
 ·obtain⟨x,v,p,g⟩:=GK (fn:=d) y Z n o q;exact Sx.body_end (.inr Z) n.defers g ⟨v,a,rfl,b,by rw[x];exact o,p⟩
 ·have:=Am q;rw[O]at this;cases this
 ·obtain⟨x,v,p,g⟩:=GK (fn:=d) y Z n o q;exact Sx.body_end (.inl Z) n.defers g ⟨v,a,rfl,b,by rw[x];exact o,p⟩
noncomputable def LB (tb:TB) (f:Nat) (a:Func):CH:=λg b H=>bif Nat.beq g f then Mc (XC tb (λ_ _ _=>none) (λ_ _ _ _=>none) a b H)else none
theorem Xi (m:eT P tb) (p:P.follows .mixedOrders=true) {f:Nat} {c:Func} (k:P.funcs[f]? = some c) (n:aU P f) (i:okF tb c=true):rE P w0 (LB tb f c):=λg r H x j h t w s R q=>by
 unfold LB at h;cases b:Nat.beq g f with
 |false=>rw[b]at h;cases h
 |true=>
 rw[b]at h;have b:=Nat.eq_of_beq_eq_true b;subst b;replace h:Mc (XC tb (λ_ _ _=>none) (λ_ _ _ _=>none) c r H)=some (x,j):=h;unfold Mc at h;obtain⟨o,l,a⟩:=aD.1 h;cases d:o.e with
 |normal=>rw[d]at a;cases a
 |exit id=>rw[d]at a;cases a
 |ret=>
  rw[d]at a;cases a;exact .inr ⟨n _ w,abb m p (λ_=>ON) Ig k i l d R q⟩
theorem VW {id:Nat} {o:Oper} {l:List Oper} {Q:Exit->Act->List Frame->World->Prop} {a:Act} {d:List Frame} {w:World} (x:l.all jI=true) (C:o.guard=none) (r:(execOp a.eval o).run P w = .ok .recover w)
  (q:recoverD d=none) (h:Sx.wpList P (o::l).toArray (λe g t=>Q e g d t) l (a.put o.dst .nilIface) w):(Code.region id (o::l).toArray false).wpSIn (FR none) 0 P Q a d w:=by
 intro b k B f u c;have y:(o::l).toArray[0]? = some o:=by simp
 obtain⟨e,g,t,E,i⟩:=wp_opsIn (F:=FR none) (n:=0) (Q:=λe g t=>Q e g d t) (ops:=(o::l).toArray) (List.range' 1 l.length) (a.put o.dst .nilIface) w
  (by rw[wpOpsIn_eq_wpListIn l 1 (by intro j;simp[Nat.add_comm 1 j])];exact Sx.wpList_in l _ w x h) b k d f u c
 have H:Region.wanted o (yielded (o::l).toArray a.tmps)=true:=by simp[Region.wanted,C]
 have A:(lone (b.atR a (.inRegion (o::l).toArray (0::List.range' 1 l.length)::k)) d w).fenced P (FR none):=fenced_oper u c y (λ_ _=>trivial);have p:=stepGR_op (P:=P) (b:=b) (k:=k) (cs:=d) (w:=w) (rest:=List.range' 1 l.length) y H;rw[f,Oper.semAt_none]at p;have m:∀v,(b.atR a (.inRegion (o::l).toArray (0::List.range' 1 l.length)::k)).finish v=b.atR (a.put o.dst v) (.inRegion (o::l).toArray (List.range' 1 l.length)::k):=by
  intro v;rw[Frame.finish_atR,y];rfl
 have D:(b.atR a (.inRegion (o::l).toArray (0::List.range' 1 l.length)::k)).kind = .deferred:=B;have s:=tryRecover_deferred D d;have G:List.range (o::l).toArray.size=0::List.range' 1 l.length:=by simp[List.range_eq_range',List.range'_succ]
 have z:=stepR_region (P:=P) (b:=b) (a:=a) (k:=k) (cs:=d) (w:=w) (id:=id) (ops:=(o::l).toArray);rw[G]at z;refine⟨e,g,d,t,rfl,E,.of_steps (.head (fenced_calm u c Z) z (.one A (step_lone_go ?_))) i⟩
 rw[p,<-m];simp only[Frame.atR,f]at s ⊢;simp[stepG.apply,r,s,q]
theorem U_ {ch:CH} {lp:LH} (I:eT P tb) (hm:P.follows .mixedOrders=true) {f:Nat} {i:Func} {id m d:Nat} {o:Oper} {l:List Oper} {b:Code} {U:Cx} {q:Om} {a:Array Value} {w:World}
  (c:∀w0:eB noG,rE P w0 ch) (p:Hn P (eB.one w) tb lp) (X:P.funcs[f]? = some i) (V:i.body=some (.seq (.region id (o::l).toArray false) b)) (B:o.guard=none) (W:o.dst=some d) (A:d<i.ntmps)
  (u:∀ρ w,(execOp ρ o).run P w = .ok .recover w) (K:l.all (HG i.ntmps)=true) (hr:Hh tb i.ntmps b=true) (s:i.results = #[]) (aa:a.size<=i.ntmps)
  (h:Fb tb ch (o::l) (evC tb ch lp b m U (GJ [])) l ⟨[(d,.inil)],H0⟩=some q) (J:q.e = .normal):
  CallsDIn (FR none) 0 P f a .returning w λe u' E=>∃v,e = .returned v∧u' = .returning∧MF w E:=by
 have D:l.all jI=true:=List.all_eq_true.2 λo C=>(sR (List.all_eq_true.1 K o C)).1;refine callsDIn_of_wpSIn X V trivial λk T M=> ?_;have r:recoverD (k::T)=none:=by simp[recoverD,M]
 refine wpSIn_seq (VW D B (u _ _) r ?_);have F:kV (λ_=>none) i.ntmps [(d,.inil)] (({tmps:=a++Array.replicate (i.ntmps - a.size) undef,defers:=[]}:Act).put o.dst .nilIface):=by
  rw[W];refine kV.put ⟨rfl,by simp;omega,λt g B=>(by cases B)⟩ A ?_;exact .inil
 refine Gs I (c (eB.one w)) l ⟨[(d,.inil)],H0⟩ _ _ w K F (fE.start (eB.one w) Z) h λs' G S E Y L Q R=> ?_;refine wpSIn_of_wpIn Z ?_;refine Cu I hm c p b _ _ _ s' q G S E _ hr Y Q R ⟨λN x H O j n y z=> ?_,λid N x H O j n y z=> ?_,λN x H O j n y z=> ?_⟩
 ·refine⟨y.defers,k.mode,rfl,.tuple #[],?_,_,rfl,M,z.ext.ext⟩
  simp[results,s]
 ·have:=Am j;rw[J]at this;cases this
 ·have:=NB j;rw[J]at this;cases this
theorem Jh {o:Oper} {l:List Oper} {b:Array Oper} {Q:Exit->Act->World->Prop} {a:Act} {w w':World} {v:Value} (c:o.guard=none) (d:(execOp a.eval o).run P w = .ok (.value v) w') (h:Sx.wpList P b Q l (a.put o.dst v) w'):Sx.wpList P b Q (o::l) a w:=by
 unfold Sx.wpList;rw[if_pos (by simp[Region.wanted,c])];exact .inl (by simp only[Oper.wp,d,Oper.upon];exact h)
theorem QE {o:Oper} {l:List Oper} {b:Array Oper} {Q:Exit->Act->World->Prop} {a:Act} {w w':World} (c:o.guard=none) (d:(execOp a.eval o).run P w = .ok .skip w') (h:Sx.wpList P b Q l (a.put o.dst undef) w'):Sx.wpList P b Q (o::l) a w:=by
 unfold Sx.wpList;rw[if_pos (by simp[Region.wanted,c])];exact .inl (by simp only[Oper.wp,d,Oper.upon];exact h)
theorem VX {o:Oper} {l:List Oper} {b:Array Oper} {Q:Exit->Act->World->Prop} {a:Act} {w:World} {f:Nat} {args:Array Value} {S:Value->World->Prop} (d:o.guard=none) (g:(execOp a.eval o).run P w = .ok (.enter f args) w)
  (c:Calls P f args w λe w'=>∃v,e = .returned v∧S v w') (h:∀v w',S v w'->Sx.wpList P b Q l (a.put o.dst v) w'):Sx.wpList P b Q (o::l) a w:=by
 unfold Sx.wpList;rw[if_pos (by simp[Region.wanted,d])];refine .inl ?_;simp only[Oper.wp,g,Oper.upon];refine c.mono ?_;rintro e w' ⟨v,rfl,i⟩;exact h v w' i
theorem adK (M:eT P tb) {c cc T1 T2 i0 i1 i2 i3 y0 y1 y2 y3 y4 y5 y6 y7:Nat} {p0 p1 p2 p3 p4 p5 p6 p7:String} {e0 e1 e2 e3 e4 e5 e6 e7:Array Edge} {z:Func} (hf:P.funcs[c]? = some z) (ag:aU P c) (ah:aU P cc)
  (hb:z.body=some (.seq (.region i0 #[⟨some 2,.alloc T1,y0,p0,e0,none⟩,⟨some 3,.alloc T2,y1,p1,e1,none⟩] false)
   (.seq (.region i1 #[⟨some 4,.makeFunc (.func cc) #[] #[.tmp 2,.tmp 3],y2,p2,e2,none⟩,⟨none,.defer ⟨.value (.tmp 4),#[],#[]⟩,y3,p3,e3,none⟩] false)
   (.seq (.region i2 #[⟨some 5,.move (.tmp 0),y4,p4,e4,none⟩,⟨some 6,.call ⟨.value (.tmp 5),#[],#[]⟩,y5,p5,e5,none⟩] false)
   (.seq (.region i3 #[⟨none,.store T1 (.tmp 2) (.const (.int .i64 0)),y6,p6,e6,none⟩,⟨none,.store T2 (.tmp 3) (.const (.int .i64 0)),y7,p7,e7,none⟩] false) .ret)))))
  (hn:z.ntmps=7) (Q:z.results = #[.cell 2 T1,.cell 3 T2])
  (aa:∀H,nG tb T1 H=some (.ptr H.n 0,H.new (.cells [xB]))) (ab:∀H,nG tb T2 H=some (.ptr H.n 0,H.new (.cells [xB])))
  (ae:∀H h c,GH.cells H h=some [c]->mW tb T1 (.ptr h 0) xB H=some (.un,H.set h (.cells [xB]))) (af:∀H h c,GH.cells H h=some [c]->mW tb T2 (.ptr h 0) xB H=some (.un,H.set h (.cells [xB])))
  (ac:∀H h,GH.cells H h=some [xB]->tV tb T1 (.ptr h 0) H=some xB) (ad:∀H h,GH.cells H h=some [xB]->tV tb T2 (.ptr h 0) H=some xB)
  (N:∀o w,o.size=2->CallsDIn (FR none) 0 P cc o .returning w λe u' l=>∃v,e = .returned v∧u' = .returning∧MF w l)
  {G:dJ} {g:Nat} {k j:List Value} {w:World} {H s:GH} {c1 c2:GV} (R:fE w0 G H w) (hc:∀i l,G.le i->fE w0 i ((H.new (.cells [xB])).new (.cells [xB])) l->∃x,jY P w0 i g (k++j) l x s) (h1:s.cells H.n=some [c1]) (J:s.cells (H.n+1)=some [c2]):
  jY P w0 G c [.func (.func g) k.toArray j.toArray] w (.tup [xB,xB]) ((((s.set H.n (.cells [xB])).set (H.n+1) (.cells [xB])).del H.n).del (H.n+1)):=by
 refine .inr ⟨ag _ w,?_⟩;refine OO (r:=none) (n:=0) (callsIn_of_wp_defers hf hb trivial ?_);rw[hn];obtain⟨b,w1,ap,aj,C,R1,U⟩:=HV (P:=P) M R (aa H);obtain⟨d,y,I,ak,p,R2,V⟩:=HV (P:=P) M R1 (ab _);obtain⟨x,hx⟩:=hc I y (dJ.le_trans C p) R2;refine wpIn_seq (sE Z ?_);refine Jh Z (v:=b) (w':=w1) (by simp[execOp,aj]) ?_;refine Jh Z (v:=d) (w':=y) (by simp[execOp,ak]) ?_;show Code.wpIn (FR none) 0 P _ _ (⟨#[.func (.func g) k.toArray j.toArray,undef,b,d,undef,undef,undef],[]⟩:Act) y;refine wpIn_seq (wpIn_region_lit ?_);refine wpListIn_plain Z λK hK=>⟨λ_ _=>trivial,?_⟩
 have hm:(Oper.semAt (FR none).round (⟨#[.func (.func g) k.toArray j.toArray,undef,b,d,undef,undef,undef],[]⟩:Act).eval ⟨some 4,.makeFunc (.func cc) #[] #[.tmp 2,.tmp 3],y2,p2,e2,none⟩).run P y = .ok (.value (.func (.func cc) #[] #[b,d])) y:=by
  rw[show(FR none).round=none from rfl,Oper.semAt_none];simp[execOp,Instr.makeFunc,Act.eval]
 rw[hm];refine hK _ _ ?_;show wpListIn _ _ _ _ _ _ (⟨#[.func (.func g) k.toArray j.toArray,undef,b,d,.func (.func cc) #[] #[b,d],undef,undef],[]⟩:Act) y;refine wpListIn_plain Z λK hK=>⟨λ_ _=>trivial,?_⟩
 have hm:(Oper.semAt (FR none).round (⟨#[.func (.func g) k.toArray j.toArray,undef,b,d,.func (.func cc) #[] #[b,d],undef,undef],[]⟩:Act).eval ⟨none,.defer ⟨.value (.tmp 4),#[],#[]⟩,y3,p3,e3,none⟩).run P y = .ok (.defer ⟨.fn (.func cc) #[b,d],#[]⟩) y:=by
  rw[show(FR none).round=none from rfl,Oper.semAt_none];simp[execOp,resolve,Act.eval,Deferred.ofValue]
 rw[hm];refine hK _ _ ?_;show Code.wpIn (FR none) 0 P _ _ (⟨#[.func (.func g) k.toArray j.toArray,undef,b,d,.func (.func cc) #[] #[b,d],undef,undef],[⟨.fn (.func cc) #[b,d],#[]⟩]⟩:Act) y;refine wpIn_seq (sE Z ?_);refine Jh Z (v:= .func (.func g) k.toArray j.toArray) (w':=y) (by simp[execOp,Act.eval]) ?_;show Sx.wpList _ _ _ _ (⟨#[.func (.func g) k.toArray j.toArray,undef,b,d,.func (.func cc) #[] #[b,d],.func (.func g) k.toArray j.toArray,undef],[⟨.fn (.func cc) #[b,d],#[]⟩]⟩:Act) y;have go:∀v D m,I.le m->fE w0 m s D->Code.wpIn (FR none) 0 P (.seq (.region i3 #[⟨none,.store T1 (.tmp 2) (.const (.int .i64 0)),y6,p6,e6,none⟩,⟨none,.store T2 (.tmp 3) (.const (.int .i64 0)),y7,p7,e7,none⟩] false) .ret) (bodyPostDIn (FR none) 0 P z λe l=>∃v i,e = .returned v∧G.le i∧fE w0 i ((((s.set H.n (.cells [xB])).set (H.n+1) (.cells [xB])).del H.n).del (H.n+1)) l∧Rl i (.tup [xB,xB]) v) (⟨#[.func (.func g) k.toArray j.toArray,undef,b,d,.func (.func cc) #[] #[b,d],.func (.func g) k.toArray j.toArray,v],[⟨.fn (.func cc) #[b,d],#[]⟩]⟩:Act) D:=by
  intro v D m a L;have hz:∀G,Rl G xB (.int .i64 0):=λG=> .int _ _;obtain⟨_,w4,aq,al,q,R4⟩:=HW (P:=P) (T:=T1) M L ((U.le p).le a) (hz _) (ae _ _ _ h1);have Y:(s.set H.n (.cells [xB])).cells (H.n+1)=some [c2]:=by
   rw[iH]at J ⊢;rw[rF,if_neg (by omega)];exact J
  obtain⟨_,X,W,am,u,R5⟩:=HW (P:=P) (T:=T2) M R4 ((V.le a).le q) (hz _) (af _ _ _ Y);refine wpIn_seq (sE Z ?_);refine QE Z (w':=w4) (by simp[execOp,Act.eval,al]) ?_;refine QE Z (w':=X) (by simp[execOp,Act.eval,Act.put,am]) ?_;refine wpIn_ret ?_;show LeavesIn (FR none) 0 P z #[.func (.func g) k.toArray j.toArray,undef,b,d,.func (.func cc) #[] #[b,d],.func (.func g) k.toArray j.toArray,v] _ [⟨.fn (.func cc) #[b,d],#[]⟩] .returning X;refine leavesIn_cons (f:=cc) (args:= #[b,d]) (by simp) (by simp[FR,Fence.wide]) (by simp[invoke,ah _ X]) (λ_ _=>trivial) ?_;refine(N #[b,d] X Z).mono ?_;rintro e u' w6 ⟨x6,rfl,rfl,O⟩;have R6:=R5.ext' O;have F:kV W 7 [(2,.ptr H.n 0),(3,.ptr (H.n+1) 0)] (⟨#[.func (.func g) k.toArray j.toArray,undef,b,d,.func (.func cc) #[] #[b,d],.func (.func g) k.toArray j.toArray,v],[]⟩:Act):=by
   refine⟨rfl,rfl,λt g B=> ?_⟩
   rw[Aw]at B;by_cases J:t=2
   ·rw[if_pos J]at B;cases B;rw[J];exact(((U.le p).le a).le q).le u
   ·rw[if_neg J,Aw]at B;by_cases h3:t=3
    ·rw[if_pos h3]at B;cases B;rw[h3];exact((V.le a).le q).le u
    ·rw[if_neg h3]at B;cases B
  have E:So tb ⟨z.results.toList,0,[]⟩ ⟨[(2,.ptr H.n 0),(3,.ptr (H.n+1) 0)],(s.set H.n (.cells [xB])).set (H.n+1) (.cells [xB])⟩=some ⟨.ret,[xB,xB],(s.set H.n (.cells [xB])).set (H.n+1) (.cells [xB])⟩:=by
   rw[Q];have q1:tV tb T1 (.ptr H.n 0) ((s.set H.n (.cells [xB])).set (H.n+1) (.cells [xB]))=some xB:=ac _ _ (by rw[iH,rF,if_neg (by omega),rF,if_pos Z]);have q2:tV tb T2 (.ptr (H.n+1) 0) ((s.set H.n (.cells [xB])).set (H.n+1) (.cells [xB]))=some xB:=ad _ _ (by rw[iH,rF,if_pos Z]);show ob (ob (tV tb T1 (.ptr H.n 0) _) λv=>ob (ob (tV tb T2 (.ptr (H.n+1) 0) _) λv=>ob (some []) λvs=>some (v::vs)) λvs=>some (v::vs)) _=_;rw[q1,q2];rfl
  obtain⟨_,v6,ao,an⟩:=GK (fn:=z) (P:=P) M Z F R6 E;exact⟨v6,an,v6,W,rfl,dJ.le_trans C (dJ.le_trans p (dJ.le_trans a (dJ.le_trans q u))),(R6.del _).del _,ao⟩
 rcases hx with⟨v,D,m,hr,a,L,_⟩|⟨hr,A⟩
 ·refine Jh Z (v:=v) (w':=D) (by simpa [execOp,resolve,Act.eval,Deferred.ofValue,invoke]using hr) ?_;exact go v D m a L
 ·refine VX Z (f:=g) (args:=(k++j).toArray) (S:=λv l=>∃i,I.le i∧fE w0 i s l) (by simpa [execOp,resolve,Act.eval,Deferred.ofValue,invoke]using hr) (A.mono ?_) λv D ⟨m,a,L⟩=>go v D m a L;rintro e l ⟨v,i,rfl,ai,R',_⟩;exact⟨v,rfl,i,ai,R'⟩
end
noncomputable section
def RO (n c:Nat) (a:Nat):Nat->Option Nat:=Nat.rec (motive:=λ_=>Nat->Option Nat) (λ_=>none) (λ_ b i=>Bool.casesOn (motive:=λ_=>Option Nat) (Nat.beq (Nat.mod (Nat.shiftRight n (Nat.mul 8 i)) 256) c) (b (Nat.succ i)) (some i)) a
def ajM (k:IntKind):Bool:=match k with
 | .u8=>true
 |_=>false
def XP (b:Nat) (f:Nat) (d:List GV):Option GV:=bif Nat.beq f b then List.casesOn (motive:=λ_=>Option GV) d none (λa r=>List.casesOn (motive:=λ_=>Option GV) r none λc r=>List.casesOn (motive:=λ_=>Option GV) r (ob a.asStr λs=>ob c.asI λp=>ob (asN p.2) λk=>
 bif ajM p.1 then(bif Nat.blt k 256 then Option.casesOn (motive:=λ_=>Option GV) (RO s.1 k s.2 0) (some (.int .i64 (.negSucc 0))) (λi=>some (.int .i64 (.ofNat i)))else none)else none) λ_ _=>none)else none
theorem TK (x:List UInt8) (c:Nat) (m:c<256):∀k i,i+k=x.length->(match RO (lI x) c k i with|none=>(-1:Int)|some j=>(j:Int))=(if Lib.indexByte (x.drop i) c.toUInt8 = -1 then -1 else Lib.indexByte (x.drop i) c.toUInt8+i)
 |0,i,h=>by
  rw[List.drop_of_length_le (by omega)];simp[RO,Lib.indexByte]
 | k + 1, i, h => by
  have o:=TK x c m k (i+1) (by omega);have g:i<x.length:=by omega
  have e:RO (lI x) c (k+1) i=Bool.casesOn (motive:=λ_=>Option Nat) (Nat.beq (Nat.mod (Nat.shiftRight (lI x) (Nat.mul 8 i)) 256) c) (RO (lI x) c k (i+1)) (some i):=rfl;rw[e,TC x i g,List.drop_eq_getElem_cons g];have a:(x[i]).toNat=c↔x[i]=c.toUInt8:=by
   rw[<-UInt8.toNat_inj];have:c.toUInt8.toNat=c:=by simp[Nat.toUInt8];omega
   rw[this]
  unfold Lib.indexByte;cases d:Nat.beq (x[i]).toNat c with
  |true=>
   have:=a.1 (Nat.eq_of_beq_eq_true d);simp[this]
  | false =>
   have f:¬x[i]=c.toUInt8:=λl=>by
    have:=a.2 l;rw[this]at d;simp at d
   have n:=Lib.indexByte_ge (x.drop (i+1)) c.toUInt8;simp only[beq_iff_eq,f,if_false];rw[o];by_cases b:Lib.indexByte (x.drop (i+1)) c.toUInt8 = -1
   ·simp[b]
   ·rw[if_neg b,if_neg b,if_neg (by omega)]
    push_cast;omega
section
variable {P:Program} {gs:yL} {w0:eB gs}
theorem abh {u:Nat} {l:Func} (F:P.funcs[u]? = some l) (e:(l.name == "runtime.NumGoroutine")=false) (D:l.body.isNone=true) (I:Extern.findNext l=none) (E:Extern.find l=some Extern.BytealgIndexByte.indexByte)
  {f:Nat} {i:List GV} {g:GV} (h:XP u f i=some g) (q:dJ) (w:World) (o:List Value) (H:GH) (R:fE w0 q H w) (m:oM q i o):jY P w0 q f o w g H:=by
 unfold XP at h;replace h:=bM.1 h;have C:=Nat.eq_of_beq_eq_true h.1;replace h:=h.2;subst C;cases i with
 |nil=>cases h
 |cons a i=>
 cases i with
 |nil=>cases h
 |cons c i=>
 cases i with
 |cons _ _=>cases h
 |nil=>
 obtain⟨s,L,h⟩:=aD.1 (show ob a.asStr _=some g from h);obtain⟨p,J,h⟩:=aD.1 h;obtain⟨k,G,h⟩:=aD.1 h;obtain⟨x,h⟩:=bM.1 h;obtain⟨d,h⟩:=bM.1 h;obtain⟨v,o,rfl,y,m⟩:=m.of_cons;obtain⟨N,o,rfl,b,m⟩:=m.of_cons;rw[m.of_nil];rw[pF L]at y;rw[nF J]at b;obtain⟨S,rfl,A,M⟩:=y.str_inv;have b:=b.int_inv;subst b;have t:p.1 = .u8:=by cases K:p.1<;>rw[K]at x<;>first|rfl|cases x
 have r:p.2=(k:Int):=Hr G;have d:k<256:=by simpa using d
 refine .inl ⟨.int .i64 (Lib.indexByte S.data.toList p.2.toNat.toUInt8),w,q,?_,dJ.le_refl _,R,?_⟩
 ·rw[run_callFunc_extern F e D I E,t,Lib.run_indexByteString];rfl
 ·have n:=TK (bJ S) k d s.2 0 (by omega);rw[A]at h;rw[List.drop_zero]at n;have B:Lib.indexByte S.data.toList p.2.toNat.toUInt8=(match RO (lI (bJ S)) k s.2 0 with|none=>(-1:Int)|some j=>(j:Int)):=by
   rw[n,r];have:bJ S=S.data.toList:=rfl;rw[this];simp only[Int.toNat_natCast];split
   ·assumption
   ·omega
  rw[B];cases z:RO (lI (bJ S)) k s.2 0 with
  |none=>rw[z]at h;cases h;exact .int _ _
  |some j=>rw[z]at h;cases h;exact .int _ _
end
end
noncomputable section
def adQ {a:Type} (c:Nat) (d:List GV->Option a) (n:Nat):List GV->Option (List a):=Nat.rec (motive:=λ_=>List GV->Option (List a)) (λ_=>some []) (λ_ e b=>ob (d (b.take c)) λy=>ob (e (b.drop c)) λf=>some (y::f)) n
def Nb {b:Type} (H:GH) (a:Nat) (d:List GV->Option b) (v:GV):Option (List b):=ob (sJ H a v) λp=>bif Nat.ble p.1 1099511627776 then adQ a d p.1 p.2 else none
def dI (k:IntKind) (a:List GV):Option Int:=List.casesOn (motive:=λ_=>Option Int) a none λc r=>List.casesOn (motive:=λ_=>Option Int) r (ob c.asI λp=>bif decide (p.1=k)then some p.2 else none) λ_ _=>none
def dP {b c:Type} (n:Nat) (d:List GV->Option b) (e:List GV->Option c) (a:List GV):Option (b×c):=ob (d (a.take n)) λx=>ob (e (a.drop n)) λy=>some (x,y)
def dS {a:Type} (H:GH) (e:Nat) (d:List GV->Option a) (b:List GV):Option (List a):=List.casesOn (motive:=λ_=>Option (List a)) b none λc r=>List.casesOn (motive:=λ_=>Option (List a)) r (Nb H e d c) λ_ _=>none
end
section
variable {P:Program} {gs:yL} {w0:eB gs} {w:World} {ρ:dJ} {H:GH} {S:Nat->Prop}
def All (_:Nat):Prop:=True
def gZ {b c:Type} (S:Nat->Prop) (ρ:dJ) (w:World) (d:List GV->Option c) (r:eD b) (e:b->c):Prop:=∀gs a y,oM ρ gs a->d gs=some y->gs.length=r.sz->∃z,e z=y∧r.R w S a z
theorem gZ.int (k:IntKind):gZ S ρ w (dI k) (eD.int k) id:=λgs f y b h _=>by
 cases gs with
 |nil=>cases h
 |cons c gs=>
 cases gs with
 |cons _ _=>cases h
 |nil=>
 obtain⟨p,e,h⟩:=aD.1 (show ob c.asI _=some y from h);obtain⟨a,h⟩:=bM.1 h;cases h;obtain⟨v,f,rfl,d,b⟩:=b.of_cons;rw[b.of_nil];rw[nF e]at d;rw[d.int_inv];have a:=of_decide_eq_true a;exact⟨p.2,rfl,by rw[a];rfl⟩
theorem gZ.pair {q t b c:Type} {d:List GV->Option b} {e:List GV->Option c} {r:eD q} {s:eD t} {m:q->b} {n:t->c} (u:gZ S ρ w d r m) (A:gZ S ρ w e s n):gZ S ρ w (dP r.sz d e) (eD.pair r s) (λz=>(m z.1,n z.2)):=λgs l y f h p=>by
 obtain⟨x,B,h⟩:=aD.1 (show ob (d (gs.take r.sz)) _=some y from h);obtain⟨F,j,h⟩:=aD.1 h;cases h;have p:gs.length=r.sz+s.sz:=p;have E:=f.len;obtain⟨z,rfl,C⟩:=u _ (l.take r.sz) _ (by simpa using f.sub 0 r.sz) B (by simp;omega);obtain⟨D,rfl,k⟩:=A _ (l.drop r.sz) _ ⟨by simp;omega,λi g v o a=>by rw[List.getElem?_drop]at o a;exact f.at' _ _ _ o a⟩ j (by simp;omega);exact⟨(z,D),rfl,_,_,(List.take_append_drop r.sz l).symm,C,k⟩
theorem TA {C D:Type} {d:List GV->Option D} {r:eD C} {E:C->D} (F:gZ S ρ w d r E) (b:Nat):∀(n:Nat) (f:List GV) (m:List Value) (a:Nat) (l:List D),adQ r.sz d n f=some l->oM ρ f m->f.length=n*r.sz->(∀(j:Nat) x,m[j]? = some x->w.cell? ⟨b,a+j,none⟩=some x)->
  ∃p:List C,p.map E=l∧p.length=n∧∀(i:Nat) z,p[i]? = some z->∃q,(∀(j:Nat) e,q[j]? = some e->w.cell? ⟨b,a+(i*r.sz+j),none⟩=some e)∧r.R w S q z
 |0,f,m,a,l,h,hr,hl,hc=>by
  cases h;exact⟨[],rfl,rfl,λi z t=>by simp at t⟩
 | n + 1, f, m, a, l, h, hr, hl, hc => by
  obtain⟨y,M,h⟩:=aD.1 (show ob (d (f.take r.sz)) (λy=>ob (adQ r.sz d n (f.drop r.sz)) λl=>some (y::l))=some l from h);obtain⟨B,s,h⟩:=aD.1 h;cases h;rw[Nat.succ_mul]at hl;have O:=hr.len;obtain⟨z,rfl,t⟩:=F _ (m.take r.sz) _ (by simpa using hr.sub 0 r.sz) M (by simp;omega);obtain⟨p,rfl,u,A⟩:=TA F b n (f.drop r.sz) (m.drop r.sz) (a+r.sz) B s ⟨by simp;omega,λi g v G o=>by rw[List.getElem?_drop]at G o;exact hr.at' _ _ _ G o⟩ (by simp;omega) (λj x J=>by
   rw[List.getElem?_drop]at J;rw[Nat.add_assoc];exact hc _ _ J)
  refine⟨z::p,rfl,by simp[u],λi N c=> ?_⟩
  cases i with
  | zero =>
   simp at c;subst c;refine⟨_,λj e k=> ?_,t⟩
   rw[List.getElem?_take]at k;by_cases I:j<r.sz
   ·rw[if_pos I]at k;have:=hc j e k;simpa using this
   ·rw[if_neg I]at k;cases k
  |succ i=>
   simp at c;obtain⟨q,K,L⟩:=A i N c;refine⟨q,λj e k=> ?_,L⟩
   have:=K j e k;rw[Nat.succ_mul];rw[show a+(i*r.sz+r.sz+j)=a+r.sz+(i*r.sz+j) by omega];exact this
theorem OS (R:fE w0 ρ H w) {v:GV} {V:Value} {B:Nat} {p:Nat×List GV} (t:Rl ρ v V) (h:sJ H B v=some p):
  p.2.length=p.1*B∧∃a c,V = .slice a p.1 c∧p.1<=c∧(p.1=0∨∃b i o,a=some ⟨b,i,none⟩∧w0.mine b∧oM ρ p.2 o∧∀(j:Nat) x,o[j]? = some x->w.cell? ⟨b,i+j,none⟩=some x):=by
 obtain⟨o,C⟩:=Cr R t h;refine⟨by rw[C.rel.len,C.len],?_⟩
 obtain⟨f,c,y,D,F⟩:=C.val;refine⟨f,c,y,D,?_⟩
 rcases F with⟨_,m,_⟩|⟨A,rfl,d⟩
 ·exact .inl m
 ·by_cases m:p.1=0
  ·exact .inl m
  ·refine .inr ?_;unfold sJ at h;cases z:v.isSnil with
   |true=>rw[z]at h;cases h;exact absurd Z m
   | false =>
    rw[z]at h;obtain⟨s,I,h⟩:=aD.1 (show ob v.asS _=some p from h);rw[BA I,y]at t;obtain⟨l,u,K,G,e,E,n⟩:=t.sl_inv;injection e with k M N;injection k with k;rcases n with n|⟨n,_⟩
    ·omega
    ·rw[n]at k;subst k;have r:w0.mine l.b:=by
      obtain⟨_,h⟩:=bM.1 h;obtain⟨L,q,_⟩:=aD.1 h;obtain⟨O,g,r,_⟩:=R.live _ _ (iH.1 q);rw[G]at g;cases g;exact r
     exact⟨l.b,l.off+s.2.1,o,rfl,r,C.rel,λj x J=>by have:=d j x J;rwa[dQ]at this⟩
theorem Cs {m n:Type} {d:List GV->Option n} {r:eD m} {o:m->n} (R:fE w0 ρ H w) (t:∀k,w0.mine k->S k) (u:gZ S ρ w d r o) {v:GV} {V:Value} {j:List n} (B:Rl ρ v V) (h:Nb H r.sz d v=some j):∃l:List m,l.map o=j∧Hf r w S V l:=by
 obtain⟨p,z,h⟩:=aD.1 (show ob (sJ H r.sz v) _=some j from h);obtain⟨g,h⟩:=bM.1 h;have g:p.1<=1099511627776:=by simpa using g
 obtain⟨i,a,f,rfl,E,x⟩:=OS R B z;rcases x with q|⟨b,e,D,rfl,y,A,c⟩
 ·rw[q]at h;cases h;exact⟨[],rfl,a,f,by rw[q];rfl,by simp,.inl Z⟩
 ·obtain⟨l,rfl,s,C⟩:=TA u b p.1 p.2 D e j h A i c;exact⟨l,rfl,some ⟨b,e,none⟩,f,by rw[s],by rw[s];omega,.inr ⟨b,e,rfl,t b y,C⟩⟩
theorem gZ.sl {e f:Type} {d:List GV->Option f} {r:eD e} {b:e->f} (R:fE w0 ρ H w) (g:∀k,w0.mine k->S k) (i:gZ S ρ w d r b):gZ S ρ w (dS H r.sz d) (eD.sl r) (λz=>z.2.map b):=λgs vs y a h n=>by
 cases gs with
 |nil=>cases h
 |cons c gs=>
 cases gs with
 |cons _ _=>cases h
 |nil=>
 have h:Nb H r.sz d c=some y:=h;obtain⟨v,vs,rfl,j,a⟩:=a.of_cons;rw[a.of_nil];obtain⟨m,rfl,l⟩:=Cs R g i j h;exact⟨(v,m),rfl,rfl,l⟩
end
noncomputable section
def uH {c:Type} (e:Nat) (g:c->List GV) (a:List (List c)):GH->List GV×GH:=List.rec (motive:=λ_=>GH->List GV×GH) (λH=>([],H)) (λb _ d H=>let r:=d (H.new (.cells (b.flatMap g)));(.sl H.n 0 b.length e::r.1,r.2)) a
end
section
variable {P:Program} {gs:yL} {w0:eB gs} {w:World} {ρ:dJ} {H:GH}
def EY (ρ:dJ) (H:GH) (B:Nat->Prop):Prop:=∀h o l,H.get h=some o->ρ h=some l->¬B l.b
theorem EY.mono {B b:Nat->Prop} (h:EY ρ H B) (f:∀k,b k->B k):EY ρ H b:=λa o l c d e=>h a o l c d (f _ e)
theorem EY.start (R:fE w0 ρ H w):EY ρ H (λk=>w.heap.size<=k):=λh o l b c e=>by
 obtain⟨f,a,_,d⟩:=R.live h o b;rw[c]at a;cases a;have:=d.lt;omega
theorem HB {N:Type} {e:cQ N} {d:List N} {cs:List GV} {v:Value} {B F:Nat->Prop} (R:fE w0 ρ H w) (A:EY ρ H B) (U:∀k,B k->w0.mine k) (s:∀k,F k->B k) (V:Dl e w F v d) (E:d≠[]) (t:oM ρ cs (cellsOf e d)):
  ∃f,ρ.le f∧fE w0 f (H.new (.cells cs)) w∧Rl f (.sl H.n 0 d.length e.sz) v∧EY f (H.new (.cells cs)) (λk=>B k∧¬F k):=by
 obtain⟨_,y,W⟩:=V;rcases W with⟨_,S⟩|⟨b,p,r,T,c,rfl,C,I,D,G,a⟩
 ·exact absurd S E
 have M:(cellsOf e d).length=d.length*e.sz:=by
  rw[<-a];simp;have:d.length*e.sz<=r*e.sz:=Nat.mul_le_mul_right _ D;omega
 have u:ρ.le (ρ.upd H.n ⟨b,p,c.size,.cells c T (0,0),.cells cs⟩):=xI (R.fresh _ (Nat.le_refl _));have J:d.length*e.sz<=r*e.sz:=Nat.mul_le_mul_right _ D;obtain⟨_,O⟩:=R.new (o:= .cells cs) (l:=⟨b,p,c.size,.cells c T (0,0),.cells cs⟩) R.ext (λh o' Y j m=>⟨rfl,λQ=>A h o' Y j m (by rw[Q];exact s _ C)⟩) (U _ (s _ C)) ⟨c,T,I,rfl,by
   show p+cs.length<=c.size;have:=t.len;omega,λi g j=>by
   obtain⟨x,q,X⟩:=t.get j;refine⟨x,?_,X.le u,List.all_eq_true.1 y x (List.mem_of_getElem? q)⟩
   rw[<-a,List.getElem?_take]at q;by_cases K:i<d.length*e.sz
   ·rw[if_pos K,List.getElem?_drop,Array.getElem?_toList]at q;exact q
   ·rw[if_neg K]at q;cases q⟩ I
 refine⟨_,u,O,.sl (by simp[dJ.upd];rfl) D (.inr ⟨rfl,G⟩),λh o l j m L=> ?_⟩
 rw[pV]at j;by_cases z:h=H.n
 ·rw[z]at m;simp[dJ.upd]at m;subst m;exact L.2 C
 ·rw[if_neg z]at j;simp only[dJ.upd,if_neg z]at m;exact A h o l j m L.1
theorem Ng {b:Type} {e:cQ b} {g:b->List GV} (c:∀x,oM ρ (g x) (e.enc x)):∀a:List b,oM ρ (a.flatMap g) (cellsOf e a)
 | []=> .nil
 |x::a=>(c x).append (Ng c a)
theorem Kb {o:Type} {e:cQ o} {g:o->List GV} (r:∀ρ x,oM ρ (g x) (e.enc x)):∀(a:List (List o)) (vs:List Value) (G:Nat->Nat->Prop) (B:Nat->Prop) (ρ:dJ) (H:GH),fE w0 ρ H w->EY ρ H B->(∀k,B k->w0.mine k)->vs.length=a.length->
  (∀xs∈a,xs≠[])->(∀i v xs,vs[i]? = some v->a[i]? = some xs->Dl e w (G i) v xs)->(∀i k,G i k->B k)->(∀i j k,G i k->G j k->i=j)->
  ∃c,ρ.le c∧fE w0 c (uH e.sz g a H).2 w∧oM c (uH e.sz g a H).1 vs∧EY c (uH e.sz g a H).2 (λk=>B k∧∀i,¬G i k)
 | [],vs,G,B,ρ,H,R,A,hB,hl,_,h1,h2,h3=>by
  have:vs=[]:=List.eq_nil_of_length_eq_zero hl;subst this;exact⟨ρ,dJ.le_refl _,R,.nil,A.mono λk b=>b.1⟩
 |xs::a,[],G,B,ρ,H,R,A,hB,hl,_,h1,h2,h3=>by simp at hl
 |xs::a,v::vs,G,B,ρ,H,R,A,hB,hl,hne,h1,h2,h3=>by
  obtain⟨p,f,u,F,s⟩:=HB R A hB (h2 0) (h1 0 v xs Z Z) (hne xs (by simp)) (Ng (r ρ) xs);obtain⟨q,d,z,l,t⟩:=Kb r a vs (λi=>G (i+1)) _ p _ u s (λk b=>hB k b.1) (by simpa using hl) (λy I=>hne y (by simp[I])) (λi J n h m=>h1 (i+1) J n (by simpa using h) (by simpa using m)) (λi k b=>⟨h2 _ k b,λC=>by have:=h3 _ _ k b C;omega⟩) (λi j k D E=>by have:=h3 _ _ k D E;omega);refine⟨q,dJ.le_trans f d,z,.cons (F.le d) l,t.mono λk b=>⟨⟨b.1,b.2 0⟩,λi=>b.2 (i+1)⟩⟩
theorem Ma:∀vs:List Value,cellsOf cQ.raw vs=vs
 | []=>rfl
 |v::vs=>by show v::cellsOf cQ.raw vs=_;rw[Ma vs]
end
section
variable {P:Program} {gs:yL} {w0:eB gs} {w:World} {ρ:dJ} {H:GH}
theorem Cz {f:Nat} {a:List Value} {L:List a_} {V:Value} {g:GV} (c:aU P f) (d:aY P f a.toArray L (λ_:Unit=>V) (λ_ l=>l) (λ_ l=>l)) (R:fE w0 ρ H w) (b:∀h∈L,h.p w All) (i:∀ρ,Rl ρ g V):jY P w0 ρ f a w g H:=by
 refine .inr ⟨c _ w,(d w All b).mono ?_⟩;rintro e j ⟨_,rfl,t⟩;exact⟨V,ρ,rfl,dJ.le_refl _,R.ext' t.old.ext,i _⟩
theorem RJ {V W:Type} {e:cQ V} {g:V->List GV} {q:cQ W} {s:W->List GV} (hg:∀ρ x,oM ρ (g x) (e.enc x)) (I:∀ρ x,oM ρ (s x) (q.enc x)) {f:Nat} {S:List Value} {L:List a_} {r:List V×List (List W)} (C:r.1≠[]) (D:r.2≠[]) (h3:∀U∈r.2,U≠[]) (hb:aU P f)
  (hm:aY P f S.toArray L (λx:Value×Value×List Value=>Value.agg #[x.1,x.2.1]) (λx l=>Ar e x.1 r.1::Ar cQ.raw x.2.1 x.2.2::jZ q x.2.2 r.2::l) (λ_ l=>l)) (R:fE w0 ρ H w) (hL:∀h∈L,h.p w All):
  jY P w0 ρ f S w (.agg [.sl H.n 0 r.1.length e.sz,.sl (uH q.sz s r.2 (H.new (.cells (r.1.flatMap g)))).2.n 0 r.2.length 1]) ((uH q.sz s r.2 (H.new (.cells (r.1.flatMap g)))).2.new (.cells (uH q.sz s r.2 (H.new (.cells (r.1.flatMap g)))).1)):=by
 refine .inr ⟨hb _ w,(hm w All hL).mono ?_⟩;rintro en A ⟨x,rfl,t⟩;obtain⟨F,O,_⟩:=t.own;have q0:Dl _ A (F 0) x.1 r.1:=O.res 0 _ Z;have q1:Dl cQ.raw A (F 1) x.2.1 x.2.2:=O.res 1 _ Z;obtain⟨z,G,q2,Q,q4⟩:(jZ q x.2.2 r.2).p A (F 2):=O.res 2 _ Z;have R':=R.ext' t.old.ext;have E:∀i k,F i k->w.heap.size<=k:=λi k c=>by
  rcases(O.rng i k c).1 with h|h
  ·exact h
  exact h.elim
 obtain⟨X,y,R1,K,A1⟩:=HB (B:=λk=>w.heap.size<=k) R' (λa o l C D=>EY.start R a o l C D) (λk c=> .inl (Nat.le_trans R.ext.size c)) (E 0) q0 C (Ng (hg ρ) r.1);obtain⟨ad,j,R2,M,A2⟩:=Kb I r.2 x.2.2 G _ X _ R1 A1 (λk c=> .inl (Nat.le_trans R.ext.size c.1)) z h3 q2 (λi k c=>⟨E _ _ (Q i k c),λu=>by have:=O.dis _ _ k (Q i k c) u;omega⟩) q4;have J:x.2.2≠[]:=λu=>by rw[u]at z;exact D (List.eq_nil_of_length_eq_zero z.symm)
 obtain⟨Y,m,R3,N,_⟩:=HB (cs:=(uH q.sz s r.2 (H.new (.cells (r.1.flatMap g)))).1) (F:=F 1) R2 A2 (λk c=> .inl (Nat.le_trans R.ext.size c.1.1)) (λk c=>⟨⟨E _ _ c,λu=>by have:=O.dis _ _ k c u;omega⟩,λi hi=>by have:=O.dis _ _ k c (Q i k hi);omega⟩) q1 J (by rw[Ma];exact M);refine⟨_,Y,rfl,dJ.le_trans y (dJ.le_trans j m),R3,?_⟩
 refine Gf (vs:=[x.1,x.2.1]) (.cons ((K.le j).le m) (.cons (by rw[<-z];exact N) .nil)) λv hv=>?_;have d:∀{γ:Type} {e:cQ γ} {F:Nat->Prop} {v:Value} {U:List γ},Dl e A F v U->one v=true:=λh=>by
  obtain⟨_,_,h⟩:=h;rcases h with⟨rfl,_⟩|⟨b,ac,aa,T,ab,rfl,_⟩<;>rfl
 simp at hv;rcases hv with rfl|rfl
 ·exact d q0
 exact d q1
end
noncomputable section
def LE (H:GH) (v:GV):Option (List Int):=Nb H 1 (dI .i64) v
def Xr (H:GH) (v:GV):Option (List (List (Int×Int))):=Nb H 1 (dS H 2 (dP 1 (dI .i64) (dI .i64))) v
def aco (H:GH) (v:GV):Option (List (List Int)):=Nb H 1 (dS H 1 (dI .i64)) v
def Ru (H:GH) (v:GV):Option (List Int×List (List (Int×Int))):=ob v.asA λc=>List.casesOn (motive:=λ_=>Option (List Int×List (List (Int×Int)))) c none λa r=>List.casesOn (motive:=λ_=>Option (List Int×List (List (Int×Int)))) r none λb r=>List.casesOn (motive:=λ_=>Option (List Int×List (List (Int×Int)))) r (ob (LE H a) λx=>ob (Xr H b) λy=>some (x,y)) λ_ _=>none
end
section
variable {P:Program} {gs:yL} {w0:eB gs} {w:World} {ρ:dJ} {H:GH}
theorem Gq (R:fE w0 ρ H w) {v:GV} {V:Value} {a:List Int} (b:Rl ρ v V) (h:LE H v=some a):(Sl (eD.int .i64) V a).p w All:=by
 obtain⟨d,rfl,c⟩:=Cs R (λ_ _=>trivial) (gZ.int .i64) b h;rw[List.map_id];exact c
theorem Xq (R:fE w0 ρ H w) {v:GV} {V:Value} {b:List (List Int)} (c:Rl ρ v V) (h:aco H v=some b):∃a,(S2 (eD.int .i64) V a b).p w All:=by
 obtain⟨a,rfl,d⟩:=Cs R (λ_ _=>trivial) (gZ.sl R (λ_ _=>trivial) (gZ.int .i64)) c h;exact⟨a,d,by simp⟩
theorem Vg (R:fE w0 ρ H w) {v:GV} {V:Value} {b:List (List (Int×Int))} (c:Rl ρ v V) (h:Xr H v=some b):∃a,(S2 (eD.pair (eD.int .i64) (eD.int .i64)) V a b).p w All:=by
 obtain⟨a,rfl,d⟩:=Cs R (λ_ _=>trivial) (gZ.sl R (λ_ _=>trivial) (gZ.pair (gZ.int .i64) (gZ.int .i64))) c h;exact⟨a,d,by simp⟩
theorem LD (R:fE w0 ρ H w) {v:GV} {V:Value} {p:List Int×List (List (Int×Int))} (j:Rl ρ v V) (h:Ru H v=some p):∃e f i,V = .agg #[e,f]∧(Sl (eD.int .i64) e p.1).p w All∧(S2 (eD.pair (eD.int .i64) (eD.int .i64)) f i p.2).p w All:=by
 obtain⟨c,g,h⟩:=aD.1 (show ob v.asA _=some p from h);rw[JC g]at j;obtain⟨k,rfl,d,_⟩:=j.agg_inv;cases c with
 |nil=>cases h
 |cons a c=>
 cases c with
 |nil=>cases h
 |cons b c=>
 cases c with
 |cons _ _=>cases h
 |nil=>
 obtain⟨x,n,h⟩:=aD.1 (show ob (LE H a) _=some p from h);obtain⟨y,o,h⟩:=aD.1 h;cases h;obtain⟨e,k,rfl,l,d⟩:=d.of_cons;obtain⟨f,k,rfl,m,d⟩:=d.of_cons;rw[d.of_nil];obtain⟨i,q⟩:=Vg R m o;exact⟨e,f,i,rfl,Gq R l n,q⟩
end
noncomputable section
section
variable {α R:Type}
def a0 (a:List α) (k:Option R):Option R:=List.casesOn (motive:=λ_=>Option R) a k (λ_ _=>none)
def a1 (b:List α) (k:α->Option R):Option R:=List.casesOn (motive:=λ_=>Option R) b none λa r=>a0 r (k a)
def a2 (b:List α) (k:α->α->Option R):Option R:=List.casesOn (motive:=λ_=>Option R) b none λa r=>a1 r (k a)
def a3 (b:List α) (k:α->α->α->Option R):Option R:=List.casesOn (motive:=λ_=>Option R) b none λa r=>a2 r (k a)
def a4 (b:List α) (k:α->α->α->α->Option R):Option R:=List.casesOn (motive:=λ_=>Option R) b none λa r=>a3 r (k a)
def a5 (us:List α) (k:α->α->α->α->α->Option R):Option R:=List.casesOn (motive:=λ_=>Option R) us none λa r=>a4 r (k a)
def a6 (b:List α) (k:α->α->α->α->α->α->Option R):Option R:=List.casesOn (motive:=λ_=>Option R) b none λa r=>a5 r (k a)
theorem Z_ {a:List α} {k:Option R} {r:R} (h:a0 a k=some r):a=[]∧k=some r:=by
 cases a with
 |nil=>exact⟨rfl,h⟩
 |cons _ _=>cases h
theorem Tf {a:List α} {k:α->Option R} {r:R} (h:a1 a k=some r):∃x,a=[x]∧k x=some r:=by
 cases a with
 |nil=>cases h
 |cons x a=>obtain⟨rfl,h⟩:=Z_ h;exact⟨x,rfl,h⟩
theorem MN {a:List α} {k:α->α->Option R} {r:R} (h:a2 a k=some r):∃x y,a=[x,y]∧k x y=some r:=by
 cases a with
 |nil=>cases h
 |cons x a=>obtain⟨y,rfl,h⟩:=Tf h;exact⟨x,y,rfl,h⟩
theorem aaa {a:List α} {k:α->α->α->Option R} {r:R} (h:a3 a k=some r):∃x y z,a=[x,y,z]∧k x y z=some r:=by
 cases a with
 |nil=>cases h
 |cons x a=>obtain⟨y,z,rfl,h⟩:=MN h;exact⟨x,y,z,rfl,h⟩
theorem MP {a:List α} {k:α->α->α->α->Option R} {r:R} (h:a4 a k=some r):∃x y z u,a=[x,y,z,u]∧k x y z u=some r:=by
 cases a with
 |nil=>cases h
 |cons x a=>obtain⟨y,z,u,rfl,h⟩:=aaa h;exact⟨x,y,z,u,rfl,h⟩
theorem aab {a:List α} {k:α->α->α->α->α->Option R} {r:R} (h:a5 a k=some r):∃x y z u v,a=[x,y,z,u,v]∧k x y z u v=some r:=by
 cases a with
 |nil=>cases h
 |cons x a=>obtain⟨y,z,u,v,rfl,h⟩:=MP h;exact⟨x,y,z,u,v,rfl,h⟩
theorem aac {a:List α} {k:α->α->α->α->α->α->Option R} {r:R} (h:a6 a k=some r):∃x y z u v w,a=[x,y,z,u,v,w]∧k x y z u v w=some r:=by
 cases a with
 |nil=>cases h
 |cons x a=>obtain⟨y,z,u,v,w,rfl,h⟩:=aab h;exact⟨x,y,z,u,v,w,rfl,h⟩
end

def dSc (k:IntKind) (v:GV):Option Int:=ob v.asI λp=>bif eqK p.1 k then some p.2 else none
def Xs (H:GH) (v:GV):Option (List Int):=Nb H 1 (dI .u32) v
def agy (H:GH) (v:GV):Option (Int×List Int×List Int×List Int×Bool×Bool):=ob v.asA λg=>a6 g λa b c d e f=>ob (dSc .i64 a) λn=>ob (LE H b) λx=>ob (LE H c) λy=>ob (LE H d) λz=>ob e.asB λp=>ob f.asB λq=>some (n,x,y,z,p,q)

def gI (n:Int):List GV:=[.int .i64 n]
def gP (p:Int×Int):List GV:=[.int .i64 p.1,.int .i64 p.2]
def fcI {R:Type} (l:List Int):(List Int->R)->R:=List.rec (motive:=λ_=>(List Int->R)->R) (λk=>k []) (λx _ a k=>fi x λx=>a λr=>k (x::r)) l
def fcP {R:Type} (l:List (Int×Int)):(List (Int×Int)->R)->R:=List.rec (motive:=λ_=>(List (Int×Int)->R)->R) (λk=>k []) (λx _ c k=>fi x.1 λa=>fi x.2 λb=>c λr=>k ((a,b)::r)) l
def fcR {R:Type} (l:List (List (Int×Int))):(List (List (Int×Int))->R)->R:=List.rec (motive:=λ_=>(List (List (Int×Int))->R)->R) (λk=>k []) (λx _ a k=>fcP x λx=>a λr=>k (x::r)) l
theorem XH {R:Type}:∀(l:List Int) (k:List Int->R),fcI l k=k l
 | [],k=>rfl
 |x::l,k=>by
  show fi x (λx=>fcI l λr=>k (x::r))=_;rw[LN,XH l]
theorem XI {R:Type}:∀(l:List (Int×Int)) (k:List (Int×Int)->R),fcP l k=k l
 | [],k=>rfl
 |x::l,k=>by
  show fi x.1 (λa=>fi x.2 λb=>fcP l λr=>k ((a,b)::r))=_;rw[LN,LN,XI l]
theorem XJ {R:Type}:∀(l:List (List (Int×Int))) (k:List (List (Int×Int))->R),fcR l k=k l
 | [],k=>rfl
 |x::l,k=>by
  show fcP x (λx=>fcR l λr=>k (x::r))=_;rw[XI,XJ l]
def TZ (b:Bool) (H:GH):OR:=Bool.casesOn (motive:=λ_=>OR) b (some (.bool false,H)) (some (.bool true,H))
def Sf (r:List Int×List (List (Int×Int))) (H:GH):OR:=fcI r.1 λx=>fcR r.2 λy=>bif Nat.beq x.length 0 then none else bif Nat.beq y.length 0 then none else bif y.any λl=>Nat.beq l.length 0 then none else
 fc (x.flatMap gI) λl=>H.newK (.cells l) λh a=>fc (uH 2 gP y a).1 λd=>sn x.length λn=>sn y.length λm=>(uH 2 gP y a).2.newK (.cells d) λc b=>some (.agg [.sl h 0 n 1,.sl c 0 m 1],b)
end
section
variable {P:Program} {gs:yL} {w0:eB gs} {w:World} {ρ:dJ} {H H':GH} {g:GV}
theorem oM.one {x:GV} {vs:List Value} (h:oM ρ [x] vs):∃V,vs=[V]∧Rl ρ x V:=by
 obtain⟨v,vs,rfl,a,b⟩:=h.of_cons;rw[b.of_nil];exact⟨v,rfl,a⟩
theorem DR {k:IntKind} {v:GV} {V:Value} {n:Int} (a:Rl ρ v V) (h:dSc k v=some n):V = .int k n:=by
 obtain⟨p,c,h⟩:=aD.1 (show ob v.asI _=some n from h);obtain⟨b,h⟩:=bM.1 h;cases h;rw[nF c]at a;rw[a.int_inv,Hx b]
theorem WP {v:GV} {V:Value} {b:Bool} (a:Rl ρ v V) (h:v.asB=some b):V = .bool b:=by
 rw[Bz h]at a;exact a.bool_inv
theorem OV (R:fE w0 ρ H w) {v:GV} {V:Value} {a:List Int} (b:Rl ρ v V) (h:Xs H v=some a):(Sl (eD.int .u32) V a).p w All:=by
 obtain⟨d,rfl,c⟩:=Cs R (λ_ _=>trivial) (gZ.int .u32) b h;rw[List.map_id];exact c
theorem aaV (R:fE w0 ρ H w) {v:GV} {V:Value} {p:Int×List Int×List Int×List Int×Bool×Bool} (l:Rl ρ v V) (h:agy H v=some p):
  ∃m o s,V = .agg #[.int .i64 p.1,m,o,s,.bool p.2.2.2.2.1,.bool p.2.2.2.2.2]∧(Sl (eD.int .i64) m p.2.1).p w All∧(Sl (eD.int .i64) o p.2.2.1).p w All∧(Sl (eD.int .i64) s p.2.2.2.1).p w All:=by
 obtain⟨T,k,h⟩:=aD.1 (show ob v.asA _=some p from h);obtain⟨a,b,c,d,e,f,rfl,h⟩:=aac h;obtain⟨n,I,h⟩:=aD.1 h;obtain⟨x,L,h⟩:=aD.1 h;obtain⟨y,M,h⟩:=aD.1 h;obtain⟨z,N,h⟩:=aD.1 h;obtain⟨q,J,h⟩:=aD.1 h;obtain⟨r,K,h⟩:=aD.1 h;cases h;rw[JC k]at l;obtain⟨j,rfl,i,_⟩:=l.agg_inv;obtain⟨U,j,rfl,B,i⟩:=i.of_cons;obtain⟨O,j,rfl,C,i⟩:=i.of_cons;obtain⟨Q,j,rfl,D,i⟩:=i.of_cons;obtain⟨S,j,rfl,E,i⟩:=i.of_cons;obtain⟨W,j,rfl,F,i⟩:=i.of_cons;obtain⟨X,rfl,G⟩:=i.one;have t:=DR B I;have u:=WP F J;have A:=WP G K;subst t u A;exact⟨O,Q,S,rfl,Gq R C L,Gq R D M,Gq R E N⟩
theorem FK {b:Bool} (h:TZ b H=some (g,H')):g = .bool b∧H'=H:=by
 cases b<;>cases h<;>exact⟨rfl,rfl⟩
theorem Pz {r:List Int×List (List (Int×Int))} (h:Sf r H=some (g,H')):r.1≠[]∧r.2≠[]∧(∀a∈r.2,a≠[])∧
  g = .agg [.sl H.n 0 r.1.length 1,.sl (uH 2 gP r.2 (H.new (.cells (r.1.flatMap gI)))).2.n 0 r.2.length 1]∧H'=(uH 2 gP r.2 (H.new (.cells (r.1.flatMap gI)))).2.new (.cells (uH 2 gP r.2 (H.new (.cells (r.1.flatMap gI)))).1):=by
 unfold Sf at h;rw[XH,XJ]at h;obtain⟨b,h⟩:=kN.1 h;obtain⟨c,h⟩:=kN.1 h;obtain⟨d,h⟩:=kN.1 h;rw[TE,iU,TE,vO,vO,iU]at h;cases h;refine⟨λe=>(by rw[e]at b;cases b),λe=>(by rw[e]at c;cases c),λa f e=>?_,rfl,rfl⟩
 have:=List.any_eq_false.1 d a f;rw[e]at this;exact this Z
theorem agD (ρ:dJ) (x:Int):oM ρ (gI x) [.int .i64 x]:= .cons (.int _ _) .nil
theorem agE (ρ:dJ) (x:Int×Int):oM ρ (gP x) [.int .i64 x.1,.int .i64 x.2]:= .cons (.int _ _) (.cons (.int _ _) .nil)
def glb (b:Nat) (a:List Value) (T:Nat):yL:=⟨[(b,.cells a.toArray T (0,0))],[]⟩
theorem XR {b:Nat} {a:List Value} (w:World) (S:Nat->Prop) (h:∀h∈[Gb b a],h.p w S):∃T,HZ (glb b a T) w λ_=>False:=by
 obtain⟨_,T,c⟩:=h _ (List.mem_singleton.2 Z);exact⟨T,λp d=>by obtain rfl:=List.mem_singleton.1 d;exact⟨c,id⟩⟩
theorem fE.glb {b:Nat} {a:List Value} {T:Nat} {c:eB (glb b a T)} {w:World} {ρ:dJ} {H:GH} (R:fE c ρ H w):(Gb b a).p w All:=⟨trivial,T,(R.glo _ (List.mem_singleton.2 Z)).1⟩
theorem Nt {gs:Nat->yL} {f:Nat} {V:Value} {L:List a_} (q:∀w S,(∀h∈L,h.p w S)->∃T,HZ (gs T) w λ_=>False) (r:aU P f) (y:∀ρ d,Rl ρ g d->d=V) (h:∀T (b:eB (gs T)),jY P b (λ_=>none) f [] b.w g H'):aY P f #[] L (λ_:Unit=>V) (λ_ l=>l) (λ_ l=>l):=by
 intro w0 o z;obtain⟨T,n⟩:=q w0 o z;rcases h T (.of w0 n)with⟨v,A,c,a,_⟩|⟨_,s⟩
 ·have x:=r #[] w0;rw[show([]:List Value).toArray = #[]from rfl]at a;rw[show(eB.of w0 n).w=w0 from rfl,x]at a;cases a
 refine s.mono ?_;rintro e A ⟨v,c,rfl,_,R,a⟩;exact⟨(),by rw[y _ _ a],R.ext,λ_ _=>False,⟨λi m u=>by simp at u,λi k h=>h.elim,λi j k h=>h.elim⟩,λf t=>by simp at t⟩

section
variable {tb:TB} {T:TypeId}
theorem Tg (h:BL tb T=some [xB]) (H:GH):nG tb T H=some (.ptr H.n 0,H.new (.cells [xB])):=by
 unfold nG;rw[h];show H.newK (.cells [xB]) (λh H'=>some (GV.ptr h 0,H'))=_;rw[iU]
theorem Uo {t:Ty} (h:tb T=some t) (e:t.size=1) (H:GH) (k:Nat) (c:GV) (d:GH.cells H k=some [c]):mW tb T (.ptr k 0) xB H=some (.un,H.set k (.cells [xB])):=by
 show ob (H.cells k) (λb=>ob (tb T) λt=>bif Nat.beq 1 t.size then bif Nat.beq t.size 0 then none else ob (Gt [xB] 0 b) λa=>H.setK k (.cells a) λH'=>some (GV.un,H')else none)=_;rw[d,h];show(bif Nat.beq 1 t.size then bif Nat.beq t.size 0 then none else ob (Gt [xB] 0 [c]) λa=>H.setK k (.cells a) λH'=>some (GV.un,H')else none)=_;rw[e];show H.setK k (.cells [xB]) (λH'=>some (GV.un,H'))=_;rw[xH]
theorem Yn {t:Ty} (h:tb T=some t) (b:xM t.desc=false) (H:GH) (k:Nat) (c:GH.cells H k=some [xB]):tV tb T (.ptr k 0) H=some xB:=by
 show ob (H.cells k) (λa=>ob (tb T) λt=>Bn t a 0)=_;rw[c,h];show Bn t [xB] 0=_;unfold Bn;rw[b];rfl
end
def MZ (a:Func):List Oper:=match a.body with
 |some (.seq (.region _ ops _) _)=>ops.toList
 |_=>[]
def Xg (a:Func):Code:=match a.body with
 |some (.seq _ c)=>c
 |_=> .skip
def aaR (a:Func):Nat:=match MZ a with
 |o::_=>o.dst.getD 0
 | []=>0
def okN (r:RS):Bool:=match r with
 |some o=>match o.e with
  | .normal=>true
  |_=>false
 |none=>false
theorem YC {r:RS} (h:okN r=true):∃a,r=some a∧a.e = .normal:=by
 unfold okN at h;cases r with
 |none=>cases h
 |some o=>
  refine⟨o,rfl,?_⟩
  cases b:o.e<;>simp only[b]at h<;>first|rfl|cases h
def okT (r:OR):Bool:=match r with
 |some (.bool true,_)=>true
 |_=>false
theorem YD {r:OR} (h:okT r=true):∃H',r=some (.bool true,H'):=by
 unfold okT at h;split at h
 ·exact⟨_,rfl⟩
 ·cases h
end
end Go.Gx
namespace Go.Proofs.YtlkhndebimcbbaaGreatDoor
open Go.Sx
def jP (U:Nat) (a:Int):Option (Int):=
 if a=(0:Int)then(some (32:Int))else(ck (0<=(27:Int)) (ck ((0<=(rO .u32 (wI .u32 ((dM .u32 a (wI .u32 (0 - a)))*(125613361:Int))) (27:Int))∧(rO .u32 (wI .u32 ((dM .u32 a (wI .u32 (0 - a)))*(125613361:Int))) (27:Int))<((32:Nat):Int))∧List.length w_=32) (some (wI .i64 (at' w_ (rO .u32 (wI .u32 ((dM .u32 a (wI .u32 (0 - a)))*(125613361:Int))) (27:Int)))))))
theorem To:aU Tryz.prog 152:=Tryz.call152
theorem wY (U:Nat) {b:Int} (r:Int) (h:jP U b=some r):
  aY Tryz.prog 152 #[vU (b)] [Gb 0 (cellsOf HY w_)] (λx:Unit=>vI (r)) (λx l=>l) (λ_ l=>l):=by
 refine aY.of Tryz.func152 Z Tryz.ntmps152 Z λc=>?_;refine aW<|aE Z<|aM<|aK<|aW<|aA Z<|cT Z<|aM ?_;refine fJ h Z (λh=>?_) λh=>?_
 ·refine aW<|aE Z<|aM<|aV<|aI ?_;cases h;exact lP Z
 refine cU<|aW<|aA Z<|aA Z<|aB (Tc Z) Z<|zQ Z<|aB (By Z Z) Z<|dB h λd h=>aB (Lw Z Z d) Z<|dB h λa h=>aB (OC Z Z Z Z Z a.1) Z<|aB (US (e:=HY) Z (aF.fact 0 Z) Z Z Z Z a) Z<|aB (Rb Z Z Z) Z<|aE Z<|aM<|aV ?_;cases h;exact lP Z
def jH  (a:Unit):Option (Bool):=
 some (true)
def gF (U:Nat) (d:aO) (e:Int) (a:Int) (c:(Int)->Option (Bool)):Option (Bool):=
 if a≠(0:Int)then(Option.bind (jP U a) λb=>(ck (0<=b∧b<(List.length d:Int)) (if(dM .u32 (at' d b) e)≠(0:Int)then(some (false))else(c (dM .u32 a (wI .u32 (a - (1:Int))))))))else(jH  (()))
def lV (U:Nat) (c:aO) (a:Int) (b:Unit):Option (Bool):=
 bL (gF U c a) U (a)
def gU (U:Nat) (a:aO) (b:Int):Option (Bool):=
 lV U a b (())
theorem aaz:aU Tryz.prog 146:=Tryz.call146
theorem AQ (U:Nat) {m:aO} {e:Int} (j:Value) (r:Bool) (h:gU U m e=some r):
  aY Tryz.prog 146 #[j,vU (e)] [Sl yZ j m,Gb 0 (cellsOf HY w_)] (λx:Unit=>vB (r)) (λx l=>l) (λ_ l=>l):=by
 refine aY.of Tryz.func146 Z Tryz.ntmps146 Z λc=>?_;unfold gU at h;refine jL Ox<|aW<|cF (Know.one ((aF.fact 0 Z))) λw=>?_;refine aH (aN.box (cs:=[j]) Z (by rw[eI w])) Z λC=>?_;refine aH (aN.box (cs:=[vU (e)]) Z Z) Z λD=>aH (aN.alloc (cs:=[vB (false)]) Z Z) Z λu=>aM<|aK<|QS (A:=Unit) (B:=oC) (λk g=>⟨16,Ki g⟩) (λk=>jH  k=some r) (λk g=>[(4,vP u)]) (λk g=>[bY u [vB (false)] 4,MD g]) (λk g=>[Sl yZ j m,Gb 0 (cellsOf HY w_)]) ?_ ?_
 ·refine aW<|dN 1 Z<|Bu (A:=Unit) (B:=Nat) (vs:=[vU (e)]) (λb=>lV U m e b=some r) (λb a=>Value.func (.func 151) #[] #[vP a]) (λb a=>[bY a [vU (e)] 45,bY u [vB (false)] 4,bY D [vU (e)] 45,bY C [j] 89,MD ([]:oC)]) (λb a=>[Sl yZ j m,Gb 0 (cellsOf HY w_)]) (sX.fn (show aU Tryz.prog 113 from Tryz.call113) Z) Tryz.func113 Z Tryz.ntmps113 Z Z ?_ ?_
  ·refine aW<|aH (aN.box (cs:=[vU (e)]) Z Z) Z λo=>aE Z<|aM<|aW<|aB (xL (cs:=[.tmp 1]) (vs:=[vP o]) Z) Z<|aE Z<|aM<|aV ?_;exact tA () (o) h (.inl Z) (He.r1 Z (RV.tmp Z)) Z (aZ.refl _) (aG.refl _ _)
  intro b a h;unfold lV at h;refine aM<|aT<|F_ (i:=4) (cs:=[vP a]) ([]:oC) Z (show aU Tryz.prog 151 from Tryz.call151) Z Tryz.func151 Z Tryz.ntmps151 Z λs f v p=>aT<|eV (gF U m e) (λd n=>[(0,xA s),(1,vP a)]) (λd n=>[Lp s v LoopState.ready none,bY a [vU (d)] 45,bY u [vB (false)] 4,bY D [vU (e)] 45,bY C [j] 89,MD (List.cons f ([]:oC))]) (e) () h SF (aZ.refl _) ?_;intro E d n h;refine aK<|aW<|dN 1 Z<|qO Z<|aM ?_;refine fJ h Z (λh=>?_) λh=>?_
  ·refine cU<|aK<|aT<|aW<|aA Z<|dN 1 Z<|fU h λt y h=>aH (aN.callQ To (wY U  t y) Z (oO [1] Z)) Z λF=>Ob (us:=[vI (t)]) (i:=0) p Z Z Z Z Z Z<|aS<|aE Z<|aM<|SS (i:=0) Z<|aT<|aK ?_;refine JR.start [0,0,3,7,0,31,63] 5 mixedOrders (by decide +kernel) ?_;refine JR.open (by exact rfl) ?_;refine jO 4 Z<|bH Z<|dB h λq h=>bK Z .nil (lE 0 Z) (bB Z Z (aF.fact 0 Z) Z Z q) aL.z<|bK Z .nil (lE 0 Z) (bS Z (aF.fact 0 Z) Z Z Z Hp q) aL.z<|jO 3 Z<|bQ 5 Z Z<|zQ Z<|qO Z<|aM ?_;refine fJ h Z (λh=>?_) λh=>?_
   ·refine aW<|iB 2 Z Z Z Z Z Z<|aM<|aV<|bP<|Wo (i:=0) Z<|aB (tK Z) Z<|aM<|SU Z<|aV<|bP<|aI<|aI<|bP<|ZQ (i:=0) (.inl Z) Z (He.r0 Z)<|bP<|aI<|rI (i:=5) (Ds:=(List.cons f ([]:oC))) (.inl Z) Z ?_;cases h;exact hZ () Z Z (Oo 2 Z Z Z Z) .nil aG.nil
   refine dO<|Wj<|Jm (i:=0) Z<|aB (tK Z) Z<|aM<|IK Z<|dO<|oD<|aS<|dN 1 Z<|dN 1 Z<|aB (qX Z Z) Z<|zQ Z<|iB 1 Z Z Z Z Z Z<|aM ?_;exact Al (dM .u32 d (wI .u32 (d - (1:Int)))) () h SF Z
  refine s_<|fW<|fW<|zO<|Wn (i:=0) (.inr Z) Z (He.r0 Z)<|oD ?_;exact IL () (List.cons f ([]:oC)) Z h SF (aZ.ix [2,5] Z Z) (aG.refl _ _)
 intro k g h;unfold jH at h;refine aW<|iB 0 Z Z Z Z Z Z<|aM<|aV<|rI (i:=1) (Ds:=(g)) (.inl Z) Z ?_;cases h;exact hZ () Z Z (Oo 0 Z Z Z Z) .nil aG.nil
def lL (U:Nat) (d:aO) (b:Int) (e:Int) (a:Int) (c:Bool):Option (Bool):=
 if c=true then(some (false))else(if b=(1:Int)then(some (decide ((dM .u32 a (wI .u32 (a - (1:Int))))=(0:Int))))else(if b=(2:Int)then(Option.bind (gU U d a) λf=>(some (f)))else(if b=(4:Int)then(some (decide (a=e)))else(some (true)))))
def fQ (U:Nat) (c:aO) (d:Int) (b:Int) (a:Int):Option (Bool):=
 if a=(0:Int)then(lL U c d b a (true))else(lL U c d b a (decide ((t_ .u32 a b)≠(0:Int))))
theorem Tk:aU Tryz.prog 110:=Tryz.call110
theorem wW (U:Nat) {p0:aO} {p1:Int} {p2:Int} {p3:Int} (b:Value) (r:Bool) (h:fQ U p0 p1 p2 p3=some r):
  aY Tryz.prog 110 #[b,vI (p1),vU (p2),vU (p3)] [Sl yZ b p0,Gb 0 (cellsOf HY w_)] (λx:Unit=>vB (r)) (λx l=>l) (λ_ l=>l):=by
 refine aY.of Tryz.func110 Z Tryz.ntmps110 Z λc=>?_;refine aW<|aE Z<|aM<|aK<|aK<|eS (λa=>lL U p0 p1 p2 p3 a=some r) (λa d=>[(0,b),(1,vI (p1)),(2,vU (p2)),(3,vU (p3)),(16,vB (a))]) (λa d=>[]) ?_ ?_
 ·refine aS<|aA Z<|cT Z<|aA Z ?_;refine FG h Z (λ_ h=>?_) λ_ h=>?_
  ·refine aP Z<|aP Z<|aP Z<|aP Z<|fM Z<|aM ?_;exact jG (true) () h SF Z
  refine eR Z<|eR Z<|aX Z (Jy Z Z) Z<|aX Z (Dg Z Z) Z<|iI Z<|aM ?_;exact jG (decide ((t_ .u32 p3 p2)≠(0:Int))) () h SF Z
 intro a d h;refine BM h Z (λ_ h=>?_) λ_ h=>?_
 ·refine aW<|aE Z<|aM<|aV<|aI ?_;cases h;exact lP Z
 refine cU<|aK<|aW<|aA Z<|aM<|aT<|aW<|cT Z<|aE Z<|aM ?_;refine fJ h Z (λh=>?_) λh=>?_
 ·refine aW<|aA Z<|aA Z<|aB (qX Z Z) Z<|zQ Z<|cT Z<|aE Z<|aM<|aV<|bP<|aI ?_;cases h;exact lP Z
 refine aW<|cT Z<|aE Z<|aM ?_;refine fJ h Z (λh=>?_) λh=>?_
 ·refine aW<|aA Z<|aA Z<|fU h λe f h=>aH (aN.callQ aaz (AQ U b e f) Z (oO [0,1] Z)) Z λg=>aE Z<|aM<|aV<|bP<|aI ?_;cases h;exact lP Z
 refine aW<|cT Z<|aE Z<|aM ?_;refine fJ h Z (λh=>?_) λh=>?_
 ·refine aW<|aA Z<|aA Z<|cT Z<|aE Z<|aM<|aV<|bP<|aI ?_;cases h;exact lP Z
 refine dO<|oD<|aW<|aE Z<|aM<|aV ?_;cases h;exact lP Z
def lM  (a:Int):Option (Int):=
 some (a)
def i_ (a:fF) (b:iQ->Option (Int)) (c:Int):Option (Int):=
 b ((dM .u32 a.1 (wI .u32 (a.1 - (1:Int)))),c)
def dX (U:Nat) (d:aO) (a:fF) (c:iQ->Option (Int)):Option (Int):=
 if a.1≠(0:Int)then(Option.bind (jP U a.1) λb=>(ck (0<=b∧b<(List.length d:Int)) (if(dM .u32 (at' d b) a.2)=(0:Int)then(ck (0<=b) (i_ a c (MU .u32 a.2 (Co .u32 (1:Int) b))))else(i_ a c (a.2)))))else(lM  (a.2))
def pC (U:Nat) (c:aO) (b:Int) (a:Unit):Option (Int):=
 bL (dX U c) U (b,(0:Int))
def iZ (U:Nat) (c:aO) (b:Int) (d:Int) (a:Int):Option (Int):=
 if b=(1:Int)then(some (dM .u32 a (wI .u32 (0 - a))))else(if b=(2:Int)then(pC U c a (()))else(if b=(4:Int)then(some (d))else(some (a))))
def eK (U:Nat) (b:aO) (c:Int) (a:Int) (d:Int):Option (Int):=
 if(dM .u32 d a)=(0:Int)then(iZ U b c a (dM .u32 a (wI .u32 (0 - a))))else(iZ U b c a (dM .u32 d a))
theorem Xe:aU Tryz.prog 80:=Tryz.call80
theorem wX (U:Nat) {p0:aO} {p1:Int} {p2:Int} {p3:Int} (k:Value) (r:Int) (h:eK U p0 p1 p2 p3=some r):
  aY Tryz.prog 80 #[k,vI (p1),vU (p2),vU (p3)] [Sl yZ k p0,Gb 0 (cellsOf HY w_)] (λx:Unit=>vU (r)) (λx l=>l) (λ_ l=>l):=by
 refine aY.of Tryz.func80 Z Tryz.ntmps80 Z λc=>?_;refine jL Ox<|aW<|cF (Know.one ((aF.fact 0 Z))) λD=>?_;refine aH (aN.box (cs:=[k]) Z (by rw[eI D])) Z λq=>?_;refine aE Z<|aM<|aW<|aA Z<|aA Z<|zQ Z<|aE Z<|aM<|aK<|QS (A:=Int) (B:=Unit) (λg C=>⟨48,Ki ([]:oC)⟩) (λg=>iZ U p0 p1 p2 g=some r) (λg C=>[(1,vI (p1)),(2,vU (p2)),(3,vU (g)),(4,vP q),(8,vU (0:Int))]) (λg C=>[bY q [k] 89,MD ([]:oC)]) (λg C=>[Sl yZ k p0,Gb 0 (cellsOf HY w_)]) ?_ ?_
 ·refine aW<|aA Z<|cT Z<|aM ?_;refine fJ h Z (λh=>?_) λh=>?_
  ·refine aS<|aA Z<|aA Z<|aB (Tc Z) Z<|zQ Z<|aE Z<|aM ?_;exact IL (dM .u32 p2 (wI .u32 (0 - p2))) () Z h SF (aZ.refl _) (aG.refl _ _)
  refine cU ?_;exact IL (dM .u32 p3 p2) () Z h SF (aZ.refl _) (aG.refl _ _)
 intro g C h;refine aK<|aW<|aA Z<|aM<|aT<|aW<|cT Z<|aE Z<|aM ?_;refine fJ h Z (λh=>?_) λh=>?_
 ·refine aW<|aA Z<|aA Z<|aB (Tc Z) Z<|zQ Z<|aE Z<|aM<|aV<|bP<|aI<|rI (i:=1) (Ds:=([]:oC)) (.inl Z) Z ?_;cases h;exact vN Z
 refine aW<|cT Z<|aE Z<|aM ?_;refine fJ h Z (λh=>?_) λh=>?_
 ·refine aW<|aH (aN.alloc (cs:=[vU (0:Int)]) Z Z) Z λv=>iB 0 Z Z Z Z Z Z<|aM<|aK<|QS (A:=Int) (B:=oC) (λd e=>⟨48,Ki e⟩) (λd=>lM  d=some r) (λd e=>[(9,vP v)]) (λd e=>[bY v [vU (d)] 45,MD e]) (λd e=>[Sl yZ k p0,Gb 0 (cellsOf HY w_)]) ?_ ?_
  ·refine aW<|aA Z<|Bu (A:=Unit) (B:=Nat) (vs:=[vU (g)]) (λj=>pC U p0 g j=some r) (λj b=>Value.func (.func 151) #[] #[vP b]) (λj b=>[bY b [vU (g)] 45,bY v [vU (0:Int)] 45,bY q [k] 89,MD ([]:oC)]) (λj b=>[Sl yZ k p0,Gb 0 (cellsOf HY w_)]) (sX.fn (show aU Tryz.prog 113 from Tryz.call113) Z) Tryz.func113 Z Tryz.ntmps113 Z Z ?_ ?_
   ·refine aW<|aH (aN.box (cs:=[vU (g)]) Z Z) Z λu=>aE Z<|aM<|aW<|aB (xL (cs:=[.tmp 1]) (vs:=[vP u]) Z) Z<|aE Z<|aM<|aV ?_;exact tA () (u) h (.inl Z) (He.r1 Z (RV.tmp Z)) Z (aZ.refl _) (aG.refl _ _)
   intro j b h;unfold pC at h;refine aM<|aT<|F_ (i:=3) (cs:=[vP b]) ([]:oC) Z (show aU Tryz.prog 151 from Tryz.call151) Z Tryz.func151 Z Tryz.ntmps151 Z λm n p w=>aT<|eV (dX U p0) (λa s=>[(0,xA m),(1,vP b)]) (λa s=>[Lp m p LoopState.ready none,bY b [vU (a.1)] 45,bY v [vU (a.2)] 45,bY q [k] 89,MD (List.cons n ([]:oC))]) (g,(0:Int)) () h SF (aZ.refl _) ?_;intro F a s h;refine aK<|aW<|dN 1 Z<|qO Z<|aM ?_;refine fJ h Z (λh=>?_) λh=>?_
   ·refine cU<|aK<|eS (λf=>i_ a (bL (dX U p0) F) f=some r) (λf t=>[(0,xA m),(1,vP b)]) (λf t=>[Lp m p LoopState.ready none,bY b [vU (a.1)] 45,bY v [vU (f)] 45,bY q [k] 89,MD (List.cons n ([]:oC))]) ?_ ?_
    ·refine aT<|aW<|aA Z<|dN 1 Z<|fU h λo G h=>aH (aN.callQ To (wY U  o G) Z (oO [1] Z)) Z λH=>Ob (us:=[vI (o)]) (i:=0) w Z Z Z Z Z Z<|aS<|aE Z<|aM<|SS (i:=0) Z<|aT<|aK ?_;refine JR.start [0,0,3,7,0,31,63] 5 mixedOrders (by decide +kernel) ?_;refine JR.open (by exact rfl) ?_;refine jO 3 Z<|bH Z<|dB h λy h=>bK Z .nil (lE 0 Z) (bB Z Z (aF.fact 0 Z) Z Z y) aL.z<|bK Z .nil (lE 0 Z) (bS Z (aF.fact 0 Z) Z Z Z Hp y) aL.z<|jO 2 Z<|bQ 5 Z Z<|zQ Z<|cT Z<|aM ?_;refine fJ h Z (λh=>?_) λh=>?_
     ·refine JR.start [0,0,2,7,15] 3 mixedOrders (by decide +kernel) ?_;refine JR.open (by exact rfl) ?_;refine jO 2 Z<|bH Z<|dB h λE h=>iX Z (OG Z Z E)<|bQ 3 Z Z<|aB (ZZ Z Z) Z<|iB 2 Z Z Z Z Z Z<|eM<|Wj<|Jm (i:=0) Z<|aB (tK Z) Z<|aM<|IK Z<|dO<|oD ?_;exact jG (MU .u32 a.2 (Co .u32 (1:Int) o)) () h SF Z
     refine dO<|Wj<|Jm (i:=0) Z<|aB (tK Z) Z<|aM<|IK Z<|dO<|oD ?_;exact jG (a.2) () h SF Z
    intro f t h;unfold i_ at h;refine aS<|dN 1 Z<|dN 1 Z<|aB (qX Z Z) Z<|zQ Z<|iB 1 Z Z Z Z Z Z<|aM ?_;exact Al ((dM .u32 a.1 (wI .u32 (a.1 - (1:Int)))),f) () h SF Z
   refine s_<|fW<|fW<|zO<|Wn (i:=0) (.inr Z) Z (He.r0 Z)<|oD ?_;exact IL (a.2) (List.cons n ([]:oC)) Z h SF (aZ.ix [2,4] Z Z) (aG.refl _ _)
  intro d e h;unfold lM at h;refine aW<|dN 0 Z<|aE Z<|aM<|aV<|bP<|aI<|rI (i:=1) (Ds:=(e)) (.inl Z) Z ?_;cases h;exact vN Z
 refine aW<|cT Z<|aE Z<|aM ?_;refine fJ h Z (λh=>?_) λh=>?_
 ·refine aW<|aA Z<|aE Z<|aM<|aV<|bP<|aI<|rI (i:=1) (Ds:=([]:oC)) (.inl Z) Z ?_;cases h;exact vN Z
 refine dO<|oD<|aW<|aA Z<|aE Z<|aM<|aV<|rI (i:=1) (Ds:=([]:oC)) (.inl Z) Z ?_;cases h;exact vN Z
def AA (U:Nat) (a:cG):Option (Bool):=
 Option.bind (eL U ((a.1,a.2))) λb=>(some (b))
theorem adl:aU Tryz.prog 35:=Tryz.call35
theorem KN (U:Nat) {d:cG} (a:Value)  (b:Value)  (e:lJ) (r:Bool) (h:AA U d=some r):
  aY Tryz.prog 35 #[Value.agg #[a,b]] [Sl bO a d.1,S2 bA b e d.2] (λx:Unit=>vB (r)) (λx l=>l) (λ_ l=>l):=by
 refine aY.of Tryz.func35 Z Tryz.ntmps35 Z λc=>?_;refine aW<|aH (aN.box (cs:=[a,b]) Z Z) Z λi=>aE Z<|aM<|aW<|eQ 0 Z<|fU h λf g h=>aH (aN.callQ Ro (wZ U a b e f g) Z (oO [0,1] Z)) Z λj=>aE Z<|aM<|aV ?_;cases h;exact vN Z
def iC  (a:Bool):Option (Bool):=
 some (a)
def iP (U:Nat) (a:cG) (c:bE):Option (Bool):=
 Option.bind (AA U ((a.1,a.2))) λd=>(if d=true then(Option.bind (dK U ((a.1,a.2)) c ([(List.length a.1:Int),(-1:Int),(1:Int),(1:Int),(15:Int),(wI .i64 ((15:Int)*(List.length a.1:Int)))])) λb=>(iC  (b)))else(iC  (false)))
theorem adi:aU Tryz.prog 31:=Tryz.call31
theorem BG (U:Nat) {a:cG} {o:bE} (g:Value)  (i:Value)  (m:lJ)  (j:Value)  (p:qF) (r:Bool) (h:iP U a o=some r):
  aY Tryz.prog 31 #[Value.agg #[g,i],j] [Sl bO g a.1,S2 bA i m a.2,S2 bO j p o] (λx:Unit=>vB (r)) (λx l=>l) (λ_ l=>l):=by
 refine aY.of Tryz.func31 Z Tryz.ntmps31 Z λc=>?_;refine aW<|aH (aN.box (cs:=[g,i]) Z Z) Z λv=>aE Z<|aM<|aK<|eS (λd=>iC  d=some r) (λd n=>[(4,vB (d))]) (λd n=>[]) ?_ ?_
 ·refine aS<|eQ 0 Z<|fU h λq t h=>aH (aN.callQ adl (KN U g i m q t) Z (oO [0,1] Z)) Z λw=>aA Z ?_;refine Bc (by exact rfl) (by exact rfl) (λb=>?_) (λb=>?_)
  ·have h:=Pd b h;refine aX Z (jN 0 Z Z Z Z) Z<|eR Z<|aX Z (eN Z Z Z Z Z) Z<|aX Z (gE 0 Z Z Z Z Z) Z<|aX Z (h_ Z (aF.fact 0 Z) Z) Z<|aX Z (eN Z Z Z Z Z) Z<|aX Z (gE 0 Z Z Z Z Z) Z<|aX Z (h_ Z (aF.fact 0 Z) Z) Z<|aX Z (By Z Z) Z<|q_ Z (cA (e:=bX) ([(List.length a.1:Int),(-1:Int),(1:Int),(1:Int),(15:Int),(wI .i64 ((15:Int)*(List.length a.1:Int)))]) [(0,vI (List.length a.1:Int)),(1,vI (-1:Int)),(2,vI (1:Int)),(3,vI (1:Int)),(4,vI (15:Int)),(5,vI (wI .i64 ((15:Int)*(List.length a.1:Int))))] Z Z Z Z (XM (vI (List.length a.1:Int)) (vI (-1:Int)) (vI (1:Int)) (vI (1:Int)) (vI (15:Int)) (vI (wI .i64 ((15:Int)*(List.length a.1:Int)))) Z Z Z Z Z Z) Z Z Z) Z λs=>fU h λf k h=>q_ Z (aN.callQ Rn (tJ U g i m j p s f k) Z (aG.cons (aF.fact 0 Z) (aG.cons (aF.fact 1 Z) (aG.cons (aF.fact 2 Z) (aG.cons (bF (aF.res 0 Z) dC) .nil))))) Z λu=>fM Z<|aE Z<|aM ?_;exact cK (f) () h SF .nil (aG.refl _ _)
  have h:=Lc b h;refine aP Z<|aP Z<|aP Z<|aP Z<|aP Z<|aP Z<|aP Z<|aP Z<|aP Z<|aP Z<|aP Z<|iI Z<|aE Z<|aM ?_;exact cK (false) () h SF .nil (aG.refl _ _)
 intro d n h;unfold iC at h;refine aV ?_;cases h;exact lP Z
def FJ (U:Nat) (a:cG):Option (Bool):=
 Option.bind (eL U ((a.1,a.2))) λb=>(some (b))
theorem adA:aU Tryz.prog 83:=Tryz.call83
theorem SC (U:Nat) {d:cG} (a:Value)  (b:Value)  (e:lJ) (r:Bool) (h:FJ U d=some r):
  aY Tryz.prog 83 #[Value.agg #[a,b]] [Sl bO a d.1,S2 bA b e d.2] (λx:Unit=>vB (r)) (λx l=>l) (λ_ l=>l):=by
 refine aY.of Tryz.func83 Z Tryz.ntmps83 Z λc=>?_;refine aW<|aH (aN.box (cs:=[a,b]) Z Z) Z λi=>aE Z<|aM<|aW<|eQ 0 Z<|fU h λf g h=>aH (aN.callQ Ro (wZ U a b e f g) Z (oO [0,1] Z)) Z λj=>aE Z<|aM<|aV ?_;cases h;exact vN Z
def kL  (a:Bool):Option (Bool):=
 some (a)
def rX (U:Nat) (a:cG) (c:bE):Option (Bool):=
 Option.bind (FJ U ((a.1,a.2))) λd=>(if d=true then(Option.bind (dK U ((a.1,a.2)) c ([(List.length a.1:Int),(-1:Int),(1:Int),(1:Int)])) λb=>(kL  (b)))else(kL  (false)))
theorem adp:aU Tryz.prog 55:=Tryz.call55
theorem Eo (U:Nat) {b:cG} {o:bE} (g:Value)  (i:Value)  (m:lJ)  (j:Value)  (p:qF) (r:Bool) (h:rX U b o=some r):
  aY Tryz.prog 55 #[Value.agg #[g,i],j] [Sl bO g b.1,S2 bA i m b.2,S2 bO j p o] (λx:Unit=>vB (r)) (λx l=>l) (λ_ l=>l):=by
 refine aY.of Tryz.func55 Z Tryz.ntmps55 Z λc=>?_;refine aW<|aH (aN.box (cs:=[g,i]) Z Z) Z λv=>aE Z<|aM<|aK<|eS (λd=>kL  d=some r) (λd n=>[(4,vB (d))]) (λd n=>[]) ?_ ?_
 ·refine aS<|eQ 0 Z<|fU h λq t h=>aH (aN.callQ adA (SC U g i m q t) Z (oO [0,1] Z)) Z λw=>aA Z ?_;refine Bc (by exact rfl) (by exact rfl) (λa=>?_) (λa=>?_)
  ·have h:=Pd a h;refine aX Z (jN 0 Z Z Z Z) Z<|eR Z<|aX Z (eN Z Z Z Z Z) Z<|aX Z (gE 0 Z Z Z Z Z) Z<|aX Z (h_ Z (aF.fact 0 Z) Z) Z<|q_ Z (cA (e:=bX) ([(List.length b.1:Int),(-1:Int),(1:Int),(1:Int)]) [(0,vI (List.length b.1:Int)),(1,vI (-1:Int)),(2,vI (1:Int)),(3,vI (1:Int))] Z Z Z Z (XL (vI (List.length b.1:Int)) (vI (-1:Int)) (vI (1:Int)) (vI (1:Int)) Z Z Z Z) Z Z Z) Z λs=>fU h λf k h=>q_ Z (aN.callQ Rn (tJ U g i m j p s f k) Z (aG.cons (aF.fact 0 Z) (aG.cons (aF.fact 1 Z) (aG.cons (aF.fact 2 Z) (aG.cons (bF (aF.res 0 Z) dC) .nil))))) Z λu=>fM Z<|aE Z<|aM ?_;exact cK (f) () h SF .nil (aG.refl _ _)
  have h:=Lc a h;refine aP Z<|aP Z<|aP Z<|aP Z<|aP Z<|aP Z<|aP Z<|iI Z<|aE Z<|aM ?_;exact cK (false) () h SF .nil (aG.refl _ _)
 intro d n h;unfold kL at h;refine aV ?_;cases h;exact lP Z
def lA  (a:Bool):Option (Bool):=
 some (a)
def oV (U:Nat) (a:cG) (c:bE):Option (Bool):=
 Option.bind (HD U ((a.1,a.2))) λd=>(if d=true then(Option.bind (dK U ((a.1,a.2)) c ([(List.length a.1:Int),(-1:Int)])) λb=>(lA  (b)))else(lA  (false)))
theorem adB:aU Tryz.prog 84:=Tryz.call84
theorem EX (U:Nat) {b:cG} {o:bE} (g:Value)  (i:Value)  (m:lJ)  (j:Value)  (p:qF) (r:Bool) (h:oV U b o=some r):
  aY Tryz.prog 84 #[Value.agg #[g,i],j] [Sl bO g b.1,S2 bA i m b.2,S2 bO j p o] (λx:Unit=>vB (r)) (λx l=>l) (λ_ l=>l):=by
 refine aY.of Tryz.func84 Z Tryz.ntmps84 Z λc=>?_;refine aW<|aH (aN.box (cs:=[g,i]) Z Z) Z λv=>aE Z<|aM<|aK<|eS (λd=>lA  d=some r) (λd n=>[(4,vB (d))]) (λd n=>[]) ?_ ?_
 ·refine aS<|eQ 0 Z<|fU h λq t h=>aH (aN.callQ aap (VQ U g i m q t) Z (oO [0,1] Z)) Z λw=>aA Z ?_;refine Bc (by exact rfl) (by exact rfl) (λa=>?_) (λa=>?_)
  ·have h:=Pd a h;refine aX Z (jN 0 Z Z Z Z) Z<|eR Z<|aX Z (eN Z Z Z Z Z) Z<|aX Z (gE 0 Z Z Z Z Z) Z<|aX Z (h_ Z (aF.fact 0 Z) Z) Z<|q_ Z (cA (e:=bX) ([(List.length b.1:Int),(-1:Int)]) [(0,vI (List.length b.1:Int)),(1,vI (-1:Int))] Z Z Z Z (JW (vI (List.length b.1:Int)) (vI (-1:Int)) Z Z) Z Z Z) Z λs=>fU h λf k h=>q_ Z (aN.callQ Rn (tJ U g i m j p s f k) Z (aG.cons (aF.fact 0 Z) (aG.cons (aF.fact 1 Z) (aG.cons (aF.fact 2 Z) (aG.cons (bF (aF.res 0 Z) dC) .nil))))) Z λu=>fM Z<|aE Z<|aM ?_;exact cK (f) () h SF .nil (aG.refl _ _)
  have h:=Lc a h;refine aP Z<|aP Z<|aP Z<|aP Z<|aP Z<|aP Z<|aP Z<|iI Z<|aE Z<|aM ?_;exact cK (false) () h SF .nil (aG.refl _ _)
 intro d n h;unfold lA at h;refine aV ?_;cases h;exact lP Z
def x_ (U:Nat) (b:fF) (a:aO) (c:Int):Option (Bool):=
 ck (0<=b.1∧b.1<(List.length a:Int)) (ck (0<=c∧c<(List.length a:Int)) (some (decide ((at' a b.1)=(wI .i64 ((at' a c) - (1:Int)))))))
theorem aaq:aU Tryz.prog 116:=Tryz.call116
theorem Li (U:Nat) {d:fF} {g:aO} {i:Int} (a:Nat)  (j:Value)  (b:Nat) (r:Bool) (h:x_ U d g i=some r):
  aY Tryz.prog 116 #[Value.agg #[vI (d.1),vI (d.2)],vP a,vP b] [bY a [j] 22,Sl bO j g,bY b [vI (i)] 3] (λx:Unit=>vB (r)) (λx l=>l) (λ_ l=>l):=by
 refine aY.of Tryz.func116 Z Tryz.ntmps116 Z λc=>?_;refine aW<|aH (aN.box (cs:=[vI (d.1),vI (d.2)]) Z Z) Z λk=>aE Z<|aM<|aK ?_;refine JR.start [0,0,2,7,15,0,0,96,224,480,1023,2047] 10 mixedOrders (by decide +kernel) ?_;refine JR.open (by exact rfl) ?_;refine bK Z .nil (lE 0 Z) (dG Z (aF.fact 0 Z) Z Z Z) aL.z<|dD Z<|jO 0 Z<|dB h λe h=>bK Z .nil (lE 1 Z) (bB Z Z (aF.fact 0 Z) Z Z e) aL.z<|bK Z .nil (lE 1 Z) (bS Z (aF.fact 0 Z) Z Z Z cX e) aL.z<|bK Z .nil (lE 0 Z) (dG Z (aF.fact 0 Z) Z Z Z) aL.z<|bK Z .nil (lE 2 Z) (dG Z (aF.fact 0 Z) Z Z Z) aL.z<|dB h λf h=>bK Z .nil (lE 1 Z) (bB Z Z (aF.fact 0 Z) Z Z f) aL.z<|bK Z .nil (lE 1 Z) (bS Z (aF.fact 0 Z) Z Z Z cX f) aL.z<|iX Z (qX Z Z)<|bQ 10 Z Z<|cT Z<|aE Z<|aM<|aV ?_;cases h;exact vN Z
def zL  (a:Unit):Option (Bool):=
 some (true)
def uO (c:aO) (d:aO) (a:Int) (b:(Int)->Option (Bool)):Option (Bool):=
 if a<(List.length c:Int)then(ck (0<=a∧a<(List.length c:Int)) (ck (0<=a∧a<(List.length d:Int)) (if(at' c a)≠(at' d a)then(some (false))else(b (wI .i64 (a+(1:Int)))))))else(zL  (()))
def wQ (U:Nat) (a:aO) (b:aO):Option (Bool):=
 if(List.length a:Int)≠(List.length b:Int)then(some (false))else(bL (uO a b) U (0:Int))
theorem aar:aU Tryz.prog 117:=Tryz.call117
theorem KL (U:Nat) {f:aO} {g:aO} (i:Value)  (j:Value) (r:Bool) (h:wQ U f g=some r):
  aY Tryz.prog 117 #[i,j] [Sl bO i f,Sl bO j g] (λx:Unit=>vB (r)) (λx l=>l) (λ_ l=>l):=by
 refine aY.of Tryz.func117 Z Tryz.ntmps117 Z λc=>?_;refine aW<|aE Z<|aM<|aK<|aW<|aA Z<|kT (aF.fact 0 Z) Z<|aA Z<|kT (aF.fact 1 Z) Z<|qO Z<|aM ?_;refine fJ h Z (λh=>?_) λh=>?_
 ·refine aW<|aE Z<|aM<|aV<|aI ?_;cases h;exact lP Z
 refine cU<|aK<|eS (λd=>zL  d=some r) (λd k=>[]) (λd k=>[]) ?_ ?_
 ·refine aW<|aA Z<|kT (aF.fact 0 Z) Z<|aA Z<|aM<|aT<|eV (uO f g) (λe m=>[(0,i),(1,j),(12,vI (List.length f:Int)),(13,vI (e))]) (λe m=>[]) (0:Int) () h SF (aZ.refl _) ?_;intro n e m h;refine aW<|cY Z<|aM<|aK ?_;refine fJ h Z (λh=>?_) λh=>?_
  ·refine cU<|aK<|aT<|aW<|aA Z<|aE Z<|aM<|aK ?_;refine JR.start [0,0,3,7,0,0,48,112,255] 8 mixedOrders (by decide +kernel) ?_;refine JR.open (by exact rfl) ?_;refine bH Z<|bH Z<|dB h λa h=>bK Z .nil (lE 0 Z) (bB Z Z (aF.fact 0 Z) Z Z a) aL.z<|bK Z .nil (lE 0 Z) (bS Z (aF.fact 0 Z) Z Z Z cX a) aL.z<|bH Z<|bH Z<|dB h λb h=>bK Z .nil (lE 1 Z) (bB Z Z (aF.fact 0 Z) Z Z b) aL.z<|bK Z .nil (lE 1 Z) (bS Z (aF.fact 0 Z) Z Z Z cX b) aL.z<|bQ 8 Z Z<|qO Z<|aM ?_;refine fJ h Z (λh=>?_) λh=>?_
   ·refine aW<|aE Z<|aM<|aV<|bP<|aI<|aI<|bP<|aI ?_;cases h;exact lP Z
   refine dO<|oD<|aS<|cL Z<|aA Z<|aM ?_;exact Al (wI .i64 (e+(1:Int))) () h SF Z
  refine fV ?_;exact jG () (()) h SF Z
 intro d k h;unfold zL at h;refine aW<|aE Z<|aM<|aV ?_;cases h;exact lP Z
def v_ (U:Nat) (a:Int) (c:aO) (e:aO) (d:Int):Option (Bool):=
 ck (0<=a∧a<(List.length c:Int)) (Option.bind (wQ U e ([(at' c a),d])) λb=>(some (b)))
def Cq (U:Nat) (b:Int) (c:aO) (d:aO) (a:Unit):Option (Bool):=
 v_ U b c d (-1:Int)
def sG (U:Nat) (d:cG) (b:Int) (e:aO) (g:aO) (a:Int) (c:(Int)->Option (Bool)):Option (Bool):=
 if a<(List.length (at' d.2 b):Int)then(ck (0<=a∧a<(List.length (at' d.2 b):Int)) (Option.bind (x_ U ((((at' (at' d.2 b) a).1),((at' (at' d.2 b) a).2))) e b) λf=>(if f=true then(v_ U b e g (a))else(c (wI .i64 (a+(1:Int)))))))else(Cq U b e g (()))
def vK (U:Nat) (b:cG) (a:Int) (c:aO) (d:aO):Option (Bool):=
 ck (0<=a∧a<(List.length b.2:Int)) (bL (sG U b a c d) U (0:Int))
theorem adD:aU Tryz.prog 86:=Tryz.call86
theorem Qd (U:Nat) {f:cG} {b:Int} {j:aO} {o:aO} (p:Value)  (q:Value)  (F:lJ)  (n:Value)  (v:Value) (r:Bool) (h:vK U f b j o=some r):
  aY Tryz.prog 86 #[Value.agg #[p,q],vI (b),n,v] [Sl bO p f.1,S2 bA q F f.2,Sl bO n j,Sl bO v o] (λx:Unit=>vB (r)) (λx l=>l) (λ_ l=>l):=by
 refine aY.of Tryz.func86 Z Tryz.ntmps86 Z λc=>?_;refine aW<|aH (aN.box (cs:=[p,q]) Z Z) Z λN=>aH (aN.box (cs:=[vI (b)]) Z Z) Z λk=>cF (Know.one ((aF.fact 2 Z))) λy=>?_;refine aH (aN.box (cs:=[n]) Z (by rw[eI y])) Z λm=>?_;refine aE Z<|aM<|aW<|eQ 2 Z<|dN 1 Z<|aB (xL (cs:=[.tmp 6,.tmp 5]) (vs:=[vP m,vP k]) Z) Z<|Bu (A:=Int) (B:=Unit) (vs:=[Value.agg #[p,q],vI (b),Value.func (.func 116) #[] #[vP m,vP k]]) (λi=>v_ U b j o i=some r) (λi w=>vI (i)) (λi w=>[bY m [n] 22,bY k [vI (b)] 3]) (λi w=>[Sl bO p f.1,S2 bA q F f.2,Sl bO n j,Sl bO v o]) (sX.fn (show aU Tryz.prog 115 from Tryz.call115) Z) Tryz.func115 Z Tryz.ntmps115 Z Z ?_ ?_
 ·refine aW<|aH (aN.box (cs:=[p,q]) Z Z) Z λH=>aE Z<|aM<|aK<|eS (λg=>Cq U b j o g=some r) (λg s=>[]) (λg s=>[bY m [n] 22,bY k [vI (b)] 3]) ?_ ?_
  ·refine aW<|bW Z<|dN 0 Z<|aA Z<|dB h λd h=>aB (cC Z Z (aF.fact 1 Z) Z Z d) Z<|aB (cE Z (aF.fact 1 Z) Z Z d) Z<|aB (h_ Z (aF.el (aF.fact 1 Z) d.1 d.2) Z) Z<|aA Z<|aM<|aT<|eV (sG U f b j o) (λa t=>[(2,Value.func (.func 116) #[] #[vP m,vP k]),(13,(at' F b).1),(14,vI (List.length (at' f.2 b):Int)),(15,vI (a))]) (λa t=>[bY m [n] 22,bY k [vI (b)] 3]) (0:Int) () h SF (aZ.ix [1,2] Z Z) ?_;intro J a t h;refine aW<|cY Z<|aM<|aK ?_;refine fJ h Z (λh=>?_) λh=>?_
   ·refine cU<|aK<|aT<|aW<|aA Z<|dB h λu h=>aB (bB Z Z (aF.el (aF.fact 1 Z) d.1 d.2) Z Z u) Z<|aB (jM (cs:=[vI ((at' (at' f.2 b) a).1),vI ((at' (at' f.2 b) a).2)]) Z (aF.el (aF.fact 1 Z) d.1 d.2) bU Z Z Z Z u) Z<|aH (aN.alloc (cs:=V_) Z Z) Z λI=>aE Z<|bT 0 (vs:=[vI ((at' (at' f.2 b) a).1),vI ((at' (at' f.2 b) a).2)]) Z Z Z Z Z Z<|aM<|aW<|aA Z<|eQ 0 Z<|fU h λC E h=>aH (vE (vs:=[Value.agg #[vI ((at' (at' f.2 b) a).1),vI ((at' (at' f.2 b) a).2)]]) (cs:=[vP m,vP k]) aaq Z (Li U m n k C E) Z (aG.cons (aF.res 1 Z) (aG.cons (aF.fact 2 Z) (aG.cons (aF.res 2 Z) .nil))) (λ_ _=>rfl)) Z λM=>aM ?_;refine BM h Z (λ_ h=>?_) λ_ h=>?_
    ·refine aW<|aA Z<|aE Z<|aM<|aV<|bP<|aI<|aI<|bP<|aI ?_;exact tA (a) () h (.inl Z) (He.r1 Z (RV.tmp Z)) Z (aZ.ix [1,2] Z Z) (aG.refl _ _)
    refine dO<|oD<|aS<|cL Z<|aA Z<|aM ?_;exact nR (wI .i64 (a+(1:Int))) () h SF (aZ.ix [1,2] Z Z) (aG.refl _ _)
   refine fV ?_;exact jG () (()) h SF Z
  intro g s h;unfold Cq at h;refine aW<|aE Z<|aM<|aV ?_;exact tA (-1:Int) () h (.inl Z) (He.r1 Z (RV.tmp Z)) Z (aZ.refl _) (aG.refl _ _)
 intro i w h;refine aE Z<|aM<|aW<|aA Z<|dN 0 Z<|dN 1 Z<|dB h λG h=>aB (bB Z Z (aF.fact 2 Z) Z Z G) Z<|aB (bS Z (aF.fact 2 Z) Z Z Z cX G) Z<|aA Z<|aH (cA (e:=bX) ([(at' j b),i]) [(0,vI (at' j b)),(1,vI (i))] Z Z Z Z (JW (vI (at' j b)) (vI (i)) Z Z) Z Z Z) Z λK=>fU h λz D h=>aH (aN.callQ aar (KL U v K z D) Z (aG.cons (aF.fact 3 Z) (aG.cons (bF (aF.res 0 Z) dC) .nil))) Z λL=>aE Z<|aM<|aV ?_;cases h;exact vN Z
def Cp  (a:Unit):Option (Bool):=
 some (true)
def zZ (U:Nat) (e:cG) (c:bE) (f:aO) (a:Int) (b:(Int)->Option (Bool)):Option (Bool):=
 if a<(List.length c:Int)then(ck (0<=a∧a<(List.length c:Int)) (Option.bind (vK U ((e.1,e.2)) a f (at' c a)) λd=>(if(!d)=true then(some (false))else(b (wI .i64 (a+(1:Int)))))))else(Cp  (()))
def vJ (U:Nat) (a:cG) (b:bE):Option (Bool):=
 Option.bind (oV U ((a.1,a.2)) b) λc=>(if(!c)=true then(some (false))else(Option.bind (nX U ((a.1,a.2)) (0:Int)) λd=>(bL (zZ U a b d) U (0:Int))))
theorem adq:aU Tryz.prog 56:=Tryz.call56
theorem Qc (U:Nat) {j:cG} {k:bE} (d:Value)  (e:Value)  (n:lJ)  (m:Value)  (t:qF) (r:Bool) (h:vJ U j k=some r):
  aY Tryz.prog 56 #[Value.agg #[d,e],m] [Sl bO d j.1,S2 bA e n j.2,S2 bO m t k] (λx:Unit=>vB (r)) (λx l=>l) (λ_ l=>l):=by
 refine aY.of Tryz.func56 Z Tryz.ntmps56 Z λc=>?_;refine aW<|aH (aN.box (cs:=[d,e]) Z Z) Z λu=>aE Z<|aM<|aK<|aW<|eQ 0 Z<|aA Z<|fU h λw y h=>aH (aN.callQ adB (EX U d e n m t w y) Z (oO [0,1,2] Z)) Z λB=>aB (tK Z) Z<|aM ?_;refine BM h Z (λ_ h=>?_) λ_ h=>?_
 ·refine aW<|aE Z<|aM<|aV<|aI ?_;cases h;exact vN Z
 refine cU<|aW<|eQ 0 Z<|fU h λp z h=>aH (aN.callQ adC (G_ U d e n p z) Z (oO [0,1] Z)) Z λs=>aE Z<|aM<|aK<|eS (λi=>Cp  i=some r) (λi f=>[]) (λi f=>[]) ?_ ?_
 ·refine aW<|aA Z<|aB (gQ Z (aF.fact 2 Z) Z) Z<|aA Z<|aM<|aT<|eV (zZ U j k p) (λa g=>[(2,vP u),(5,s),(14,m),(15,vI (List.length k:Int)),(16,vI (a))]) (λa g=>[Ar bX s p,bY u [d,e] 28]) (0:Int) () h SF (aZ.refl _) ?_;intro v a g h;refine aW<|cY Z<|aM<|aK ?_;refine fJ h Z (λh=>?_) λh=>?_
  ·refine cU<|aK<|aT<|aW<|aA Z<|dB h λb h=>aB (cC Z Z (aF.fact 2 Z) Z Z b) Z<|aB (cE Z (aF.fact 2 Z) Z Z b) Z<|aE Z<|aE Z<|aM<|aW<|eQ 1 Z<|aA Z<|aA Z<|aA Z<|fU h λo q h=>aH (aN.callQ adD (Qd U d e n s ((at' t a).1) o q) Z (aG.cons (aF.fact 0 Z) (aG.cons (aF.fact 1 Z) (aG.cons (bF (aF.res 0 Z) dC) (aG.cons (aF.el (aF.fact 2 Z) b.1 b.2) .nil))))) Z λA=>aB (tK Z) Z<|aM ?_;refine BM h Z (λ_ h=>?_) λ_ h=>?_
   ·refine aW<|aE Z<|aM<|aV<|bP<|aI<|aI<|bP<|aI ?_;cases h;exact vN Z
   refine dO<|oD<|aS<|cL Z<|aA Z<|aM ?_;exact Al (wI .i64 (a+(1:Int))) () h SF Z
  refine fV ?_;exact cK () (()) h SF .nil (aG.refl _ _)
 intro i f h;unfold Cp at h;refine aW<|aE Z<|aM<|aV ?_;cases h;exact lP Z
def wA  (a:aO):Option aO:=
 some (a)
def rQ (a:kU) (c:qP->Option aO) (b:aO):Option aO:=
 c ((wI .i64 (a.1+(1:Int))),b)
def pG (e:cG) (b:bE) (c:Int) (a:kU) (d:qP->Option aO):Option aO:=
 if a.1<(List.length b:Int)then(ck (0<=a.1∧a.1<(List.length b:Int)) (ck (0<=a.1∧a.1<(List.length a.2:Int)) (ck (0<=c∧c<(List.length (at' b a.1):Int)) (if(0:Int)<=(at' (at' b a.1) c)then(ck (0<=a.1∧a.1<(List.length e.2:Int)) (ck (0<=c∧c<(List.length (at' b a.1):Int)) (ck (0<=(at' (at' b a.1) c)∧(at' (at' b a.1) c)<(List.length (at' e.2 a.1):Int)) (ck (0<=a.1∧a.1<(List.length (List.set a.2 (Int.toNat a.1) (-1:Int)):Int)) (rQ a d (List.set (List.set a.2 (Int.toNat a.1) (-1:Int)) (Int.toNat a.1) ((at' (at' e.2 a.1) (at' (at' b a.1) c)).1)))))))else(rQ a d (List.set a.2 (Int.toNat a.1) (-1:Int)))))))else(wA  (a.2))
def oG (U:Nat) (b:cG) (a:bE) (c:Int):Option aO:=
 ck (0<=(List.length a:Int)∧(List.length a:Int)<=1099511627) (bL (pG b a c) U ((0:Int),(List.replicate (Int.toNat (List.length a:Int)) (0:Int))))
theorem Xa:aU Tryz.prog 58:=Tryz.call58
theorem Fj (U:Nat) {j:cG} {g:bE} {i:Int} (v:Value)  (w:Value)  (E:lJ)  (A:Value)  (F:qF) (r:aO) (h:oG U j g i=some r):
  aY Tryz.prog 58 #[Value.agg #[v,w],A,vI (i)] [Sl bO v j.1,S2 bA w E j.2,S2 bO A F g] (λx:Value=>x) (λx l=>Ar bX x r::l) (λ_ l=>l):=by
 refine aY.of Tryz.func58 Z Tryz.ntmps58 Z λc=>?_;refine aW<|aH (aN.box (cs:=[v,w]) Z Z) Z λy=>aE Z<|aM<|aW<|aA Z<|aB (gQ Z (aF.fact 2 Z) Z) Z<|dB h λD h=>aH (mC (e:=bX) (0:Int) Z Z Z Z D Z Z Z) Z λk=>aE Z<|aM<|aK<|eS (λm=>wA  m=some r) (λm C=>[(7,k)]) (λm C=>[Ar bX k m]) ?_ ?_
 ·refine aW<|aA Z<|aB (gQ Z (aF.fact 2 Z) Z) Z<|aA Z<|aM<|aT<|eV (pG j g i) (λa n=>[(2,vI (i)),(3,vP y),(7,k),(13,A),(14,vI (List.length g:Int)),(15,vI (a.1))]) (λa n=>[Ar bX k a.2,bY y [v,w] 28]) ((0:Int),(List.replicate (Int.toNat (List.length g:Int)) (0:Int))) () h SF (aZ.refl _) ?_;intro B a n h;refine aW<|cY Z<|aM<|aK ?_;refine fJ h Z (λh=>?_) λh=>?_
  ·refine cU<|aK<|eS (λd=>rQ a (bL (pG j g i) B) d=some r) (λd o=>[(2,vI (i)),(3,vP y),(7,k),(13,A),(14,vI (List.length g:Int)),(15,vI (a.1))]) (λd o=>[Ar bX k d,bY y [v,w] 28]) ?_ ?_
   ·refine aT<|aW<|aA Z<|dB h λb h=>aB (cC Z Z (aF.fact 2 Z) Z Z b) Z<|aB (cE Z (aF.fact 2 Z) Z Z b) Z<|aE Z<|aE Z<|aM<|aW<|aA Z<|aA Z<|dB h λp h=>aB (bB Z Z (bF (aF.res 0 Z) dC) Z Z p) Z<|yM 0 (-1:Int) p Z Z Z Z Z Z Z<|aM<|aW<|aA Z<|aA Z<|dB h λq h=>aB (bB Z Z (aF.el (aF.fact 2 Z) b.1 b.2) Z Z q) Z<|aB (bS Z (aF.el (aF.fact 2 Z) b.1 b.2) Z Z Z cX q) Z<|aB (E_ Z Z) Z<|aM ?_;refine fJ h Z (λh=>?_) λh=>?_
    ·refine JR.start [0,0,0,4,0,28,60,0,0,384,896,2044,4092,8188,16383,32767] 14 mixedOrders (by decide +kernel) ?_;refine JR.open (by exact rfl) ?_;refine bH Z<|bH Z<|dD Z<|jO 1 Z<|bH Z<|dB h λf h=>bK Z .nil (lE 1 Z) (cC Z Z (aF.fact 0 Z) Z Z f) aL.z<|bK Z .nil (lE 1 Z) (cE Z (aF.fact 0 Z) Z Z f) aL.z<|bH Z<|bH Z<|dB h λs h=>bK Z .nil (lE 2 Z) (bB Z Z (aF.el (aF.fact 0 Z) b.1 b.2) Z Z s) aL.z<|bK Z .nil (lE 2 Z) (bS Z (aF.el (aF.fact 0 Z) b.1 b.2) Z Z Z cX s) aL.z<|dB h λt h=>bK Z .nil (lE 1 Z) (bB Z Z (aF.el (aF.fact 0 Z) f.1 f.2) Z Z t) aL.z<|iX Z (nH Z Z Z Z Z)<|bK Z .nil (lE 1 Z) (pY Z (aF.el (aF.fact 0 Z) f.1 f.2) Z Z Z Ao t) aL.z<|bQ 14 Z Z<|dB h λu h=>aB (bB Z Z (bF (aF.res 0 Z) dC) Z Z u) Z<|yM 0 ((at' (at' j.2 a.1) (at' (at' g a.1) i)).1) u Z Z Z Z Z Z Z<|eM<|oD ?_;exact jG (List.set (List.set a.2 (Int.toNat a.1) (-1:Int)) (Int.toNat a.1) ((at' (at' j.2 a.1) (at' (at' g a.1) i)).1)) () h SF Z
    refine dO<|oD ?_;exact jG (List.set a.2 (Int.toNat a.1) (-1:Int)) () h SF Z
   intro d o h;unfold rQ at h;refine aS<|cL Z<|aA Z<|aM ?_;exact Al ((wI .i64 (a.1+(1:Int))),d) () h SF Z
  refine fV ?_;exact cK (a.2) () h SF (aZ.ix [0] Z Z) (aG.refl _ _)
 intro m C h;unfold wA at h;refine aW<|aA Z<|aE Z<|aM<|aV ?_;cases h;exact hZ (k) Z Z (RV.tmp Z) (aZ.refl _) aG.nil
def BK  (a:Unit):Option (Bool):=
 some (true)
def qW (b:Int) (a:(Int)->Option (Bool)) (c:Unit):Option (Bool):=
 a (wI .i64 (b+(1:Int)))
def tX (b:Int) (a:(Int)->Option (Bool)) (c:Bool):Option (Bool):=
 if c=true then(some (false))else(qW b a (()))
def tW (b:bE) (d:aO) (a:Int) (c:(Int)->Option (Bool)) (e:Bool):Option (Bool):=
 if e=true then(qW a c (()))else(ck (0<=a∧a<(List.length b:Int)) (ck (0<=(2:Int)∧(2:Int)<(List.length (at' b a):Int)) (ck (0<=(at' d a)∧(at' d a)<(List.length b:Int)) (ck (0<=(2:Int)∧(2:Int)<(List.length (at' b (at' d a)):Int)) (if(at' (at' b a) (2:Int))≠(at' (at' b (at' d a)) (2:Int))then(tX a c (true))else(ck (0<=a∧a<(List.length b:Int)) (ck (0<=(3:Int)∧(3:Int)<(List.length (at' b a):Int)) (ck (0<=(at' d a)∧(at' d a)<(List.length b:Int)) (ck (0<=(3:Int)∧(3:Int)<(List.length (at' b (at' d a)):Int)) (tX a c (decide ((at' (at' b a) (3:Int))≠(at' (at' b (at' d a)) (3:Int))))))))))))))
def gY (d:bE) (b:aO) (a:Int) (c:(Int)->Option (Bool)):Option (Bool):=
 if a<(List.length b:Int)then(ck (0<=a∧a<(List.length b:Int)) (if(at' b a)<(0:Int)then(tW d b a c (true))else(ck (0<=(at' b a)∧(at' b a)<(List.length d:Int)) (ck (0<=(2:Int)∧(2:Int)<(List.length (at' d (at' b a)):Int)) (tW d b a c (decide ((at' (at' d (at' b a)) (2:Int))=(1:Int))))))))else(BK  (()))
def oI (U:Nat) (a:cG) (b:bE) (c:Bool):Option (Bool):=
 if c=true then(some (false))else(Option.bind (oG U ((a.1,a.2)) b (1:Int)) λd=>(bL (gY b d) U (0:Int)))
def Fp (U:Nat) (b:cG) (d:bE) (a:bE):Option (Bool):=
 Option.bind (vJ U ((b.1,b.2)) a) λc=>(oI U b d ((!c)))
def yK (U:Nat) (b:cG) (c:bE) (a:bE):Option (Bool):=
 Fp U b c (a)
def tY (U:Nat) (d:cG) (c:bE) (a:Int×bE) (b:(Int×bE)->Option (Bool)):Option (Bool):=
 if a.1<(List.length c:Int)then(ck (0<=a.1∧a.1<(List.length c:Int)) (ck (0<=(0:Int)∧(0:Int)<=(2:Int)∧(2:Int)<=(2:Int)∧(2:Int)<=(List.length (at' c a.1):Int)) (ck (0<=a.1∧a.1<(List.length a.2:Int)) (b ((wI .i64 (a.1+(1:Int))),(List.set a.2 (Int.toNat a.1) (List.drop (Int.toNat (0:Int)) (List.take (Int.toNat (2:Int)) (at' c a.1)))))))))else(yK U d c (a.2))
def qE (U:Nat) (b:cG) (a:bE):Option (Bool):=
 Option.bind (rX U ((b.1,b.2)) a) λc=>(if(!c)=true then(oI U b a (true))else(ck (0<=(List.length a:Int)∧(List.length a:Int)<=1099511627) (bL (tY U b a) U ((0:Int),(List.replicate (Int.toNat (List.length a:Int)) ([]:aO))))))
theorem adj:aU Tryz.prog 32:=Tryz.call32
theorem NP (U:Nat) {D:cG} {d:bE} (E:Value)  (F:Value)  (O:lJ)  (s:Value)  (P:qF) (r:Bool) (h:qE U D d=some r):
  aY Tryz.prog 32 #[Value.agg #[E,F],s] [Sl bO E D.1,S2 bA F O D.2,S2 bO s P d] (λx:Unit=>vB (r)) (λx l=>l) (λ_ l=>l):=by
 refine aY.of Tryz.func32 Z Tryz.ntmps32 Z λc=>?_;refine aW<|aH (aN.box (cs:=[E,F]) Z Z) Z λR=>aE Z<|aM<|aK<|aK<|eS (λQ=>oI U D d Q=some r) (λQ b4=>[(1,s),(2,vP R),(17,vB (Q))]) (λQ b4=>[bY R [E,F] 28]) ?_ ?_
 ·refine JR.start [0,0,3,7,15,31,31,95,255,511,1023] 8 mixedOrders (by decide +kernel) ?_;refine JR.open (by exact rfl) ?_;refine nU 0 Z<|bH Z<|fU h λai aj h=>JR.loud Z Z Z (aN.callQ adp (Eo U E F O s P ai aj) Z (oO [0,1,2] Z)) Z (λal=>(vY [] Z)) λal=>iX Z (tK Z)<|iX Z (fH Z) ?_;refine JR.guard (by exact rfl) (by exact rfl) (by exact rfl) (λJ=>?_) (λJ=>?_)
  ·have h:=Pd J h;refine bN Z Z Z Z<|bN Z Z Z Z<|bN Z Z Z Z<|bQ 8 Z Z<|aP Z<|aP Z<|fM Z<|aM ?_;exact jG (true) () h SF Z
  have h:=Lc J h;refine fG Z (aZ.cons 0 Z .nil) .nil (jN 0 Z Z Z Z) (hkI Z)<|fG Z .nil .nil (fH Z) (hkI Z)<|Oc (A:=bE) (B:=Is) (vs:=[s]) (λp=>Fp U D d p=some r) (λp f=>f.1) (λp f=>[Ar cQ.raw f.1 f.2,bY R [E,F] 28]) (λp f=>[WC bO f.2 p,Sl bO E D.1,S2 bA F O D.2,S2 bO s P d]) Z Z Z Z (sX.fn (show aU Tryz.prog 57 from Tryz.call57) Z) Tryz.func57 Z Tryz.ntmps57 Z Z (λ_ _=>(vY [([1],[])] Z)) ?_ ?_
  ·refine aW<|aE Z<|aM<|aW<|aA Z<|aB (gQ Z (aF.fact 2 Z) Z) Z<|dB h λah h=>SR bO (Int.toNat (List.length d:Int))<|aH (mC (e:=cQ.raw) (lH) Z Z Z Z ah Z Z Z) Z λK=>aE Z<|aM<|aK<|Bv (B:=fT) (λq=>yK U D d q=some r) (λq t=>[(3,K)]) (λq t=>[Ar cQ.raw K t,bY R [E,F] 28]) (λq t=>[WC bO t q,Sl bO E D.1,S2 bA F O D.2,S2 bO s P d]) ?_ ?_
   ·refine aW<|aA Z<|aB (gQ Z (aF.fact 3 Z) Z) Z<|aA Z<|aM<|aT<|Ew (B:=fT) (tY U D d) (λb g=>[(3,K),(9,s),(10,vI (List.length d:Int)),(11,vI (b.1))]) (λb g=>[Ar cQ.raw K g,bY R [E,F] 28]) (λb g=>[WC bO g b.2,Sl bO E D.1,S2 bA F O D.2,S2 bO s P d]) ((0:Int),(List.replicate (Int.toNat (List.length d:Int)) ([]:aO))) (List.replicate (Int.toNat (List.length d:Int)) (lH)) h SF (aZ.refl _) (aG.refl _ _) ?_;intro am b g h;refine aW<|cY Z<|aM<|aK ?_;refine fJ h Z (λh=>?_) λh=>?_
    ·refine cU<|aK<|aT<|aW<|aA Z<|dB h λm h=>aB (cC Z Z (aF.fact 3 Z) Z Z m) Z<|aB (cE Z (aF.fact 3 Z) Z Z m) Z<|aE Z<|aE Z<|aM<|aS<|aA Z<|aA Z<|aA Z<|dB h λM h=>aB (Ly Z Z Z Z (aF.el (aF.fact 3 Z) m.1 m.2) Z Z M) Z<|dB h λaf h=>aB (cC Z Z (Ci (i:=0) (j:=0) Z Z) Z Z af) Z<|cF (Know.one ((Ch (aF.el (aF.fact 3 Z) m.1 m.2) Z M))) λX=>Lr 0 0 af Z Z Z Z X Z<|SX (k:=Int.toNat b.1) 0 (vs:=g) Z (Ch (aF.el (aF.fact 3 Z) m.1 m.2) Z M)<|eM<|oD<|aS<|cL Z<|aA Z<|aM ?_;exact Al ((wI .i64 (b.1+(1:Int))),(List.set b.2 (Int.toNat b.1) (List.drop (Int.toNat (0:Int)) (List.take (Int.toNat (2:Int)) (at' d b.1))))) (List.set g (Int.toNat b.1) (sl3 ((at' P b.1).1) (Int.toNat (0:Int)) (Int.toNat (2:Int)) (Int.toNat (2:Int)) 1)) h SF Z
    refine fV ?_;exact jG (b.2) (g) h SF Z
   intro q t h;unfold yK at h;refine aW<|aA Z<|aE Z<|aM<|aV ?_;exact tA (q) (K,t) h (.inl Z) (He.r1 Z (RV.tmp Z)) Z (aZ.refl _) (aG.refl _ _)
  intro p f h;refine bQ 8 Z Z<|fU h λag ak h=>q_ Z (aN.callQ adq (Qc U E F O f.1 (List.zip f.2 p) ag ak) Z (aG.cons (aF.fact 1 Z) (aG.cons (aF.fact 2 Z) (aG.cons (Ci (i:=0) (j:=0) Z Z) .nil)))) Z λan=>aX Z (tK Z) Z<|iI Z<|aM ?_;exact cK ((!ag)) () h SF (aZ.ix [1] Z Z) (oO [1,2,3] Z)
 intro Q b4 h;refine BM h Z (λ_ h=>?_) λ_ h=>?_
 ·refine aW<|aE Z<|aM<|aV<|aI ?_;cases h;exact vN Z
 refine cU<|aK<|eS (λa6=>BK  a6=some r) (λa6 b7=>[]) (λa6 b7=>[]) ?_ ?_
 ·refine aW<|eQ 0 Z<|aA Z<|fU h λn w9 h=>aH (aN.callQ Xa (Fj U E F O s P n w9) Z (oO [0,1,2] Z)) Z λo=>aB (h_ Z (bF (aF.res 0 Z) dC) Z) Z<|aA Z<|aM<|aT<|eV (gY d n) (λa S=>[(1,s),(20,o),(21,vI (List.length n:Int)),(22,vI (a))]) (λa S=>[Ar bX o n]) (0:Int) () h SF (aZ.ix [0] Z Z) ?_;intro N a S h;refine aW<|cY Z<|aM<|aK ?_;refine fJ h Z (λh=>?_) λh=>?_
  ·refine cU<|aK<|eS (λL=>qW a (bL (gY d n) N) L=some r) (λL T=>[(1,s),(20,o),(21,vI (List.length n:Int)),(22,vI (a))]) (λL T=>[Ar bX o n]) ?_ ?_
   ·refine aT<|aW<|aA Z<|dB h λY h=>aB (bB Z Z (bF (aF.res 0 Z) dC) Z Z Y) Z<|aB (bS Z (bF (aF.res 0 Z) dC) Z Z Z cX Y) Z<|aE Z<|aE Z<|aM<|aK<|aK<|eS (λG=>tW d n a (bL (gY d n) N) G=some r) (λG V=>[(1,s),(5,vI (a)),(6,vI (at' n a)),(20,o),(21,vI (List.length n:Int)),(22,vI (a)),(37,vB (G))]) (λG V=>[Ar bX o n]) ?_ ?_
    ·refine aS<|aA Z<|cY Z<|aA Z ?_;refine FG h Z (λ_ h=>?_) λ_ h=>?_
     ·refine aP Z<|aP Z<|aP Z<|aP Z<|aP Z<|aP Z<|aP Z<|fM Z<|aM ?_;exact jG (true) () h SF Z
     refine eR Z<|eR Z<|dB h λC h=>aX Z (cC Z Z (aF.fact 2 Z) Z Z C) Z<|aX Z (cE Z (aF.fact 2 Z) Z Z C) Z<|dB h λae h=>aX Z (bB Z Z (aF.el (aF.fact 2 Z) C.1 C.2) Z Z ae) Z<|aX Z (bS Z (aF.el (aF.fact 2 Z) C.1 C.2) Z Z Z cX ae) Z<|aX Z (Tb Z Z) Z<|iI Z<|aM ?_;exact jG (decide ((at' (at' d (at' n a)) (2:Int))=(1:Int))) () h SF Z
    intro G V h;refine BM h Z (λ_ h=>?_) λ_ h=>?_
    ·refine s_<|fW<|zO<|zU ?_;exact jG () (()) h SF Z
    refine cU<|aK<|eS (λH=>tX a (bL (gY d n) N) H=some r) (λH W=>[(1,s),(20,o),(21,vI (List.length n:Int)),(22,vI (a)),(65,vB (H))]) (λH W=>[Ar bX o n]) ?_ ?_
    ·refine JR.start [0,0,3,7,15,31,0,0,192,448,960,1984,4095,8191,16383,16383,65535,131071,262143,524287,16383,16383,3162111,7356415,15745023,32522239,67108863,134217727] 26 mixedOrders (by decide +kernel) ?_;refine JR.open (by exact rfl) ?_;refine bH Z<|bH Z<|dB h λu h=>bK Z .nil (lE 2 Z) (cC Z Z (aF.fact 0 Z) Z Z u) aL.z<|bK Z .nil (lE 2 Z) (cE Z (aF.fact 0 Z) Z Z u) aL.z<|dB h λaa h=>bK Z .nil (lE 2 Z) (bB Z Z (aF.el (aF.fact 0 Z) u.1 u.2) Z Z aa) aL.z<|bK Z .nil (lE 2 Z) (bS Z (aF.el (aF.fact 0 Z) u.1 u.2) Z Z Z cX aa) aL.z<|bH Z<|bH Z<|dB h λv h=>bK Z .nil (lE 2 Z) (cC Z Z (aF.fact 0 Z) Z Z v) aL.z<|bK Z .nil (lE 2 Z) (cE Z (aF.fact 0 Z) Z Z v) aL.z<|dB h λab h=>bK Z .nil (lE 2 Z) (bB Z Z (aF.el (aF.fact 0 Z) v.1 v.2) Z Z ab) aL.z<|bK Z .nil (lE 2 Z) (bS Z (aF.el (aF.fact 0 Z) v.1 v.2) Z Z Z cX ab) aL.z<|iX Z (Dg Z Z)<|bH Z ?_;refine Hl (by exact rfl) (by exact rfl) (by exact rfl) (λI=>?_) (λI=>?_)
     ·have h:=Pd I h;refine bN Z Z Z Z<|bN Z Z Z Z<|bN Z Z Z Z<|bN Z Z Z Z<|bN Z Z Z Z<|bN Z Z Z Z<|bN Z Z Z Z<|bN Z Z Z Z<|bN Z Z Z Z<|bN Z Z Z Z<|bN Z Z Z Z<|bN Z Z Z Z<|bQ 26 Z Z<|aP Z<|fM Z<|aM ?_;exact jG (true) () h SF Z
     have h:=ifN I h;refine fG Z .nil .nil (fH Z) aL.z<|fG Z .nil .nil (fH Z) aL.z<|dB h λw h=>fG Z .nil (lE 2 Z) (cC Z Z (aF.fact 0 Z) Z Z w) aL.z<|fG Z .nil (lE 2 Z) (cE Z (aF.fact 0 Z) Z Z w) aL.z<|dB h λac h=>fG Z .nil (lE 2 Z) (bB Z Z (aF.el (aF.fact 0 Z) w.1 w.2) Z Z ac) aL.z<|fG Z .nil (lE 2 Z) (bS Z (aF.el (aF.fact 0 Z) w.1 w.2) Z Z Z cX ac) aL.z<|fG Z .nil .nil (fH Z) aL.z<|fG Z .nil .nil (fH Z) aL.z<|dB h λy h=>fG Z .nil (lE 2 Z) (cC Z Z (aF.fact 0 Z) Z Z y) aL.z<|fG Z .nil (lE 2 Z) (cE Z (aF.fact 0 Z) Z Z y) aL.z<|dB h λad h=>fG Z .nil (lE 2 Z) (bB Z Z (aF.el (aF.fact 0 Z) y.1 y.2) Z Z ad) aL.z<|fG Z .nil (lE 2 Z) (bS Z (aF.el (aF.fact 0 Z) y.1 y.2) Z Z Z cX ad) aL.z<|bQ 26 Z Z<|aX Z (Dg Z Z) Z<|iI Z<|aM ?_;exact jG (decide ((at' (at' d a) (3:Int))≠(at' (at' d (at' n a)) (3:Int)))) () h SF Z
    intro H W h;refine BM h Z (λ_ h=>?_) λ_ h=>?_
    ·refine aW<|aE Z<|aM<|aV<|bP<|aI<|aI<|bP<|aI ?_;cases h;exact vN Z
    refine dO<|oD ?_;exact jG () (()) h SF Z
   intro L T h;unfold qW at h;refine aS<|cL Z<|aA Z<|aM ?_;exact Al (wI .i64 (a+(1:Int))) () h SF Z
  refine fV ?_;exact cK () (()) h SF .nil (aG.refl _ _)
 intro a6 b7 h;unfold BK at h;refine aW<|aE Z<|aM<|aV ?_;cases h;exact lP Z
def sU  (a:aO):Option aO:=
 some (a)
def sV (b:kU) (a:qP->Option aO) (c:aO):Option aO:=
 a ((wI .i64 (b.1+(1:Int))),c)
def fY (e:bE) (f:aO) (b:kU) (c:qP->Option aO) (a:kU) (d:qP->Option aO):Option aO:=
 if(0:Int)<=a.1 then(ck (0<=a.1∧a.1<(List.length a.2:Int)) (ck (0<=b.1∧b.1<(List.length e:Int)) (ck (0<=(4:Int)∧(4:Int)<(List.length (at' e b.1):Int)) (ck (0<=a.1∧a.1<(List.length a.2:Int)) (ck (0<=a.1∧a.1<(List.length f:Int)) (d ((at' f a.1),(List.set a.2 (Int.toNat a.1) (wI .i64 ((at' a.2 a.1)+(at' (at' e b.1) (4:Int))))))))))))else(sV b c (a.2))
def kS (U:Nat) (c:bE) (d:aO) (a:kU) (b:qP->Option aO):Option aO:=
 if a.1<(List.length c:Int)then(bL (fY c d a b) U (a.1,a.2))else(sU  (a.2))
def qN (U:Nat) (b:cG) (a:bE):Option aO:=
 Option.bind (oG U ((b.1,b.2)) a (1:Int)) λc=>(ck (0<=(List.length a:Int)∧(List.length a:Int)<=1099511627) (bL (kS U a c) U ((0:Int),(List.replicate (Int.toNat (List.length a:Int)) (0:Int)))))
theorem adk:aU Tryz.prog 34:=Tryz.call34
theorem IF (U:Nat) {B:cG} {g:bE} (y:Value)  (A:Value)  (D:lJ)  (k:Value)  (E:qF) (r:aO) (h:qN U B g=some r):
  aY Tryz.prog 34 #[Value.agg #[y,A],k] [Sl bO y B.1,S2 bA A D B.2,S2 bO k E g] (λx:Value=>x) (λx l=>Ar bX x r::l) (λ_ l=>l):=by
 refine aY.of Tryz.func34 Z Tryz.ntmps34 Z λc=>?_;refine aW<|aH (aN.box (cs:=[y,A]) Z Z) Z λI=>aE Z<|aM<|aW<|eQ 0 Z<|aA Z<|fU h λi H h=>aH (aN.callQ Xa (Fj U y A D k E i H) Z (oO [0,1,2] Z)) Z λm=>aE Z<|aM<|aW<|aA Z<|aB (gQ Z (aF.fact 2 Z) Z) Z<|dB h λF h=>aH (mC (e:=bX) (0:Int) Z Z Z Z F Z Z Z) Z λj=>aE Z<|aM<|aK<|eS (λn=>sU  n=some r) (λn C=>[(6,j)]) (λn C=>[Ar bX j n]) ?_ ?_
 ·refine aW<|aA Z<|aB (gQ Z (aF.fact 2 Z) Z) Z<|aA Z<|aM<|aT<|eV (kS U g i) (λa o=>[(1,k),(5,m),(6,j),(16,vI (List.length g:Int)),(17,vI (a.1))]) (λa o=>[Ar bX j a.2,Ar bX m i]) ((0:Int),(List.replicate (Int.toNat (List.length g:Int)) (0:Int))) () h SF (aZ.ix [0,1] Z Z) ?_;intro w a o h;refine aW<|cY Z<|aM<|aK ?_;refine fJ h Z (λh=>?_) λh=>?_
  ·refine cU<|aK<|eS (λd=>sV a (bL (kS U g i) w) d=some r) (λd p=>[(1,k),(5,m),(6,j),(16,vI (List.length g:Int)),(17,vI (a.1))]) (λd p=>[Ar bX j d,Ar bX m i]) ?_ ?_
   ·refine aT<|aW<|aA Z<|aE Z<|aM<|aW<|aA Z<|aE Z<|aM<|aT<|eV (fY g i a (bL (kS U g i) w)) (λb q=>[(1,k),(5,m),(6,j),(7,vI (a.1)),(8,vI (b.1)),(16,vI (List.length g:Int)),(17,vI (a.1))]) (λb q=>[Ar bX j b.2,Ar bX m i]) (a.1,a.2) () h SF (aZ.refl _) ?_;intro G b q h;refine aK<|aW<|aA Z<|aB (E_ Z Z) Z<|aM ?_;refine fJ h Z (λh=>?_) λh=>?_
    ·refine cU<|aK<|aT ?_;refine JR.start [0,0,3,7,0,0,48,112,240,496,1023,2047,4095] 10 mixedOrders (by decide +kernel) ?_;refine JR.open (by exact rfl) ?_;refine bH Z<|bH Z<|dB h λs h=>bK Z (aZ.cons 0 Z .nil) .nil (bB Z Z (bF (aF.res 0 Z) dC) Z Z s) aL.z<|bK Z (aZ.cons 0 Z .nil) .nil (bS Z (bF (aF.res 0 Z) dC) Z Z Z cX s) aL.z<|bH Z<|bH Z<|dB h λf h=>bK Z .nil (lE 2 Z) (cC Z Z (aF.fact 0 Z) Z Z f) aL.z<|bK Z .nil (lE 2 Z) (cE Z (aF.fact 0 Z) Z Z f) aL.z<|dB h λt h=>bK Z .nil (lE 2 Z) (bB Z Z (aF.el (aF.fact 0 Z) f.1 f.2) Z Z t) aL.z<|bK Z .nil (lE 2 Z) (bS Z (aF.el (aF.fact 0 Z) f.1 f.2) Z Z Z cX t) aL.z<|bQ 10 Z Z<|cL Z<|dB h λu h=>aB (bB Z Z (bF (aF.res 0 Z) dC) Z Z u) Z<|yM 0 (wI .i64 ((at' b.2 b.1)+(at' (at' g a.1) (4:Int)))) u Z Z Z Z Z Z Z<|eM<|oD<|aS<|aA Z<|aA Z<|dB h λv h=>aB (bB Z Z (bF (aF.res 1 Z) dC) Z Z v) Z<|aB (bS Z (bF (aF.res 1 Z) dC) Z Z Z cX v) Z<|aE Z<|aM ?_;exact Al ((at' i b.1),(List.set b.2 (Int.toNat b.1) (wI .i64 ((at' b.2 b.1)+(at' (at' g a.1) (4:Int)))))) () h SF Z
    refine s_<|fW<|fW<|zO<|oD ?_;exact jG (b.2) () h SF Z
   intro d p h;unfold sV at h;refine aS<|cL Z<|aA Z<|aM ?_;exact Al ((wI .i64 (a.1+(1:Int))),d) () h SF Z
  refine fV ?_;exact cK (a.2) () h SF (aZ.ix [0] Z Z) (aG.refl _ _)
 intro n C h;unfold sU at h;refine aW<|aA Z<|aE Z<|aM<|aV ?_;cases h;exact hZ (j) Z Z (RV.tmp Z) (aZ.refl _) aG.nil
def wU  (a:Unit):Option (Bool):=
 some (true)
def iJ (c:bE) (d:aO) (a:Int) (b:(Int)->Option (Bool)):Option (Bool):=
 if a<(List.length d:Int)then(ck (0<=a∧a<(List.length d:Int)) (ck (0<=a∧a<(List.length c:Int)) (ck (0<=(5:Int)∧(5:Int)<(List.length (at' c a):Int)) (if(at' (at' c a) (5:Int))≠(at' d a)then(some (false))else(b (wI .i64 (a+(1:Int))))))))else(wU  (()))
def oA (U:Nat) (a:cG) (b:bE) (c:Bool):Option (Bool):=
 if c=true then(some (false))else(Option.bind (qN U ((a.1,a.2)) b) λd=>(bL (iJ b d) U (0:Int)))
def Br (U:Nat) (b:cG) (d:bE) (a:bE):Option (Bool):=
 Option.bind (qE U ((b.1,b.2)) a) λc=>(oA U b d ((!c)))
def rC (U:Nat) (b:cG) (c:bE) (a:bE):Option (Bool):=
 Br U b c (a)
def oB (U:Nat) (d:cG) (c:bE) (a:Int×bE) (b:(Int×bE)->Option (Bool)):Option (Bool):=
 if a.1<(List.length c:Int)then(ck (0<=a.1∧a.1<(List.length c:Int)) (ck (0<=(0:Int)∧(0:Int)<=(4:Int)∧(4:Int)<=(4:Int)∧(4:Int)<=(List.length (at' c a.1):Int)) (ck (0<=a.1∧a.1<(List.length a.2:Int)) (b ((wI .i64 (a.1+(1:Int))),(List.set a.2 (Int.toNat a.1) (List.drop (Int.toNat (0:Int)) (List.take (Int.toNat (4:Int)) (at' c a.1)))))))))else(rC U d c (a.2))
def eH (U:Nat) (b:cG) (a:bE):Option (Bool):=
 Option.bind (iP U ((b.1,b.2)) a) λc=>(if(!c)=true then(oA U b a (true))else(ck (0<=(List.length a:Int)∧(List.length a:Int)<=1099511627) (bL (oB U b a) U ((0:Int),(List.replicate (Int.toNat (List.length a:Int)) ([]:aO))))))
theorem WV:aU Tryz.prog 15:=Tryz.call15
theorem Cd (U:Nat) {p0:cG} {p1:bE} (p:Value)  (q:Value)  (y:lJ)  (u:Value)  (z:qF) (r:Bool) (h:eH U p0 p1=some r):
  aY Tryz.prog 15 #[Value.agg #[p,q],u] [Sl bO p p0.1,S2 bA q y p0.2,S2 bO u z p1] (λx:Unit=>vB (r)) (λx l=>l) (λ_ l=>l):=by
 refine aY.of Tryz.func15 Z Tryz.ntmps15 Z λc=>?_;refine aW<|aH (aN.box (cs:=[p,q]) Z Z) Z λD=>aE Z<|aM<|aK<|aK<|eS (λC=>oA U p0 p1 C=some r) (λC S=>[(1,u),(2,vP D),(17,vB (C))]) (λC S=>[bY D [p,q] 28]) ?_ ?_
 ·refine JR.start [0,0,3,7,15,31,31,95,255,511,1023] 8 mixedOrders (by decide +kernel) ?_;refine JR.open (by exact rfl) ?_;refine nU 0 Z<|bH Z<|fU h λO P h=>JR.loud Z Z Z (aN.callQ adi (BG U p q y u z O P) Z (oO [0,1,2] Z)) Z (λR=>(vY [] Z)) λR=>iX Z (tK Z)<|iX Z (fH Z) ?_;refine JR.guard (by exact rfl) (by exact rfl) (by exact rfl) (λs=>?_) (λs=>?_)
  ·have h:=Pd s h;refine bN Z Z Z Z<|bN Z Z Z Z<|bN Z Z Z Z<|bQ 8 Z Z<|aP Z<|aP Z<|fM Z<|aM ?_;exact jG (true) () h SF Z
  have h:=Lc s h;refine fG Z (aZ.cons 0 Z .nil) .nil (jN 0 Z Z Z Z) (hkI Z)<|fG Z .nil .nil (fH Z) (hkI Z)<|Oc (A:=bE) (B:=Is) (vs:=[u]) (λg=>Br U p0 p1 g=some r) (λg b=>b.1) (λg b=>[Ar cQ.raw b.1 b.2,bY D [p,q] 28]) (λg b=>[WC bO b.2 g,Sl bO p p0.1,S2 bA q y p0.2,S2 bO u z p1]) Z Z Z Z (sX.fn (show aU Tryz.prog 33 from Tryz.call33) Z) Tryz.func33 Z Tryz.ntmps33 Z Z (λ_ _=>(vY [([1],[])] Z)) ?_ ?_
  ·refine aW<|aE Z<|aM<|aW<|aA Z<|aB (gQ Z (aF.fact 2 Z) Z) Z<|dB h λN h=>SR bO (Int.toNat (List.length p1:Int))<|aH (mC (e:=cQ.raw) (lH) Z Z Z Z N Z Z Z) Z λt=>aE Z<|aM<|aK<|Bv (B:=fT) (λm=>rC U p0 p1 m=some r) (λm n=>[(3,t)]) (λm n=>[Ar cQ.raw t n,bY D [p,q] 28]) (λm n=>[WC bO n m,Sl bO p p0.1,S2 bA q y p0.2,S2 bO u z p1]) ?_ ?_
   ·refine aW<|aA Z<|aB (gQ Z (aF.fact 3 Z) Z) Z<|aA Z<|aM<|aT<|Ew (B:=fT) (oB U p0 p1) (λa d=>[(3,t),(9,u),(10,vI (List.length p1:Int)),(11,vI (a.1))]) (λa d=>[Ar cQ.raw t d,bY D [p,q] 28]) (λa d=>[WC bO d a.2,Sl bO p p0.1,S2 bA q y p0.2,S2 bO u z p1]) ((0:Int),(List.replicate (Int.toNat (List.length p1:Int)) ([]:aO))) (List.replicate (Int.toNat (List.length p1:Int)) (lH)) h SF (aZ.refl _) (aG.refl _ _) ?_;intro W a d h;refine aW<|cY Z<|aM<|aK ?_;refine fJ h Z (λh=>?_) λh=>?_
    ·refine cU<|aK<|aT<|aW<|aA Z<|dB h λf h=>aB (cC Z Z (aF.fact 3 Z) Z Z f) Z<|aB (cE Z (aF.fact 3 Z) Z Z f) Z<|aE Z<|aE Z<|aM<|aS<|aA Z<|aA Z<|aA Z<|dB h λw h=>aB (Ly Z Z Z Z (aF.el (aF.fact 3 Z) f.1 f.2) Z Z w) Z<|dB h λI h=>aB (cC Z Z (Ci (i:=0) (j:=0) Z Z) Z Z I) Z<|cF (Know.one ((Ch (aF.el (aF.fact 3 Z) f.1 f.2) Z w))) λF=>Lr 0 0 I Z Z Z Z F Z<|SX (k:=Int.toNat a.1) 0 (vs:=d) Z (Ch (aF.el (aF.fact 3 Z) f.1 f.2) Z w)<|eM<|oD<|aS<|cL Z<|aA Z<|aM ?_;exact Al ((wI .i64 (a.1+(1:Int))),(List.set a.2 (Int.toNat a.1) (List.drop (Int.toNat (0:Int)) (List.take (Int.toNat (4:Int)) (at' p1 a.1))))) (List.set d (Int.toNat a.1) (sl3 ((at' z a.1).1) (Int.toNat (0:Int)) (Int.toNat (4:Int)) (Int.toNat (4:Int)) 1)) h SF Z
    refine fV ?_;exact jG (a.2) (d) h SF Z
   intro m n h;unfold rC at h;refine aW<|aA Z<|aE Z<|aM<|aV ?_;exact tA (m) (t,n) h (.inl Z) (He.r1 Z (RV.tmp Z)) Z (aZ.refl _) (aG.refl _ _)
  intro g b h;refine bQ 8 Z Z<|fU h λJ Q h=>q_ Z (aN.callQ adj (NP U p q y b.1 (List.zip b.2 g) J Q) Z (aG.cons (aF.fact 1 Z) (aG.cons (aF.fact 2 Z) (aG.cons (Ci (i:=0) (j:=0) Z Z) .nil)))) Z λY=>aX Z (tK Z) Z<|iI Z<|aM ?_;exact cK ((!J)) () h SF (aZ.ix [1] Z Z) (oO [1,2,3] Z)
 intro C S h;refine BM h Z (λ_ h=>?_) λ_ h=>?_
 ·refine aW<|aE Z<|aM<|aV<|aI ?_;cases h;exact vN Z
 refine cU<|aK<|eS (λL=>wU  L=some r) (λL T=>[]) (λL T=>[]) ?_ ?_
 ·refine aW<|eQ 0 Z<|aA Z<|fU h λM X h=>aH (aN.callQ adk (IF U p q y u z M X) Z (oO [0,1,2] Z)) Z λK=>aB (h_ Z (bF (aF.res 0 Z) dC) Z) Z<|aA Z<|aM<|aT<|eV (iJ p1 M) (λv E=>[(1,u),(20,K),(21,vI (List.length M:Int)),(22,vI (v))]) (λv E=>[Ar bX K M]) (0:Int) () h SF (aZ.ix [0] Z Z) ?_;intro V v E h;refine aW<|cY Z<|aM<|aK ?_;refine fJ h Z (λh=>?_) λh=>?_
  ·refine cU<|aK<|aT<|aW<|aA Z<|dB h λG h=>aB (bB Z Z (bF (aF.res 0 Z) dC) Z Z G) Z<|aB (bS Z (bF (aF.res 0 Z) dC) Z Z Z cX G) Z<|aE Z<|aE Z<|aM<|aW<|aA Z<|aA Z<|dB h λo h=>aB (cC Z Z (aF.fact 2 Z) Z Z o) Z<|aB (cE Z (aF.fact 2 Z) Z Z o) Z<|dB h λH h=>aB (bB Z Z (aF.el (aF.fact 2 Z) o.1 o.2) Z Z H) Z<|aB (bS Z (aF.el (aF.fact 2 Z) o.1 o.2) Z Z Z cX H) Z<|aA Z<|qO Z<|aM ?_;refine fJ h Z (λh=>?_) λh=>?_
   ·refine aW<|aE Z<|aM<|aV<|bP<|aI<|aI<|bP<|aI ?_;cases h;exact vN Z
   refine dO<|oD<|aS<|cL Z<|aA Z<|aM ?_;exact Al (wI .i64 (v+(1:Int))) () h SF Z
  refine fV ?_;exact cK () (()) h SF .nil (aG.refl _ _)
 intro L T h;unfold wU at h;refine aW<|aE Z<|aM<|aV ?_;cases h;exact lP Z
end Go.Proofs.YtlkhndebimcbbaaGreatDoor
section
set_option maxRecDepth 100000
namespace Go.Gx
open Go Go.Sx Go.Proofs Go.Proofs.YtlkhndebimcbbaaGreatDoor
noncomputable section
def agQ (a:List GV) (H:GH):OR:=a1 a λb=>ob (Ru H b) λp0=>ob (gX 1000 p0) λr=>TZ r H
def agO (a:List GV) (H:GH):OR:=a2 a λb c=>ob (agy H b) λp0=>ob (dSc .i64 c) λp1=>ob (mM 1000 p0 p1) λr=>Sf r H
def acr (a:List GV) (H:GH):OR:=a4 a λb c d e=>ob (Xs H b) λp0=>ob (dSc .i64 c) λp1=>ob (dSc .u32 d) λp2=>ob (dSc .u32 e) λp3=>ob (fQ 1000 p0 p1 p2 p3) λr=>TZ r H
def agP (a:List GV) (H:GH):OR:=a4 a λb c d e=>ob (Xs H b) λp0=>ob (dSc .i64 c) λp1=>ob (dSc .u32 d) λp2=>ob (dSc .u32 e) λp3=>ob (eK 1000 p0 p1 p2 p3) λr=>some (.int .u32 r,H)
def agN (a:List GV) (H:GH):OR:=a2 a λb c=>ob (Ru H b) λp0=>ob (aco H c) λp1=>ob (eH 1000 p0 p1) λr=>TZ r H
def XQ (f:Nat) (a:List GV) (H:GH):Option (GV×GH):=bif Nat.beq f 87 then agQ a H else bif Nat.beq f 22 then agO a H else bif Nat.beq f 110 then acr a H else bif Nat.beq f 80 then agP a H else bif Nat.beq f 15 then agN a H else none
abbrev gl:Nat->yL:=glb 0 (cellsOf HY w_)
def gp:GP:=⟨vR,70,XQ,XP 192⟩
section
variable {T:Nat} {w0:eB (gl T)} {w:World} {ρ:dJ} {H H':GH} {g:GV} {us:List GV} {vs:List Value}
theorem abn (h:agQ us H=some (g,H')) (R:fE w0 ρ H w) (m:oM ρ us vs):jY Tryz.prog w0 ρ 87 vs w g H':=by
 obtain⟨p,rfl,h⟩:=Tf h;obtain⟨j,c,h⟩:=aD.1 h;obtain⟨r,l,h⟩:=aD.1 h;obtain⟨o,rfl,d⟩:=m.one;obtain⟨e,i,n,rfl,a,b⟩:=LD R d c;obtain⟨rfl,rfl⟩:=FK h;exact Cz MY (yH 1000 (p0:=j) e i n r l) R (List.forall_mem_cons.2 ⟨a,List.forall_mem_cons.2 ⟨b,λf k=>absurd k List.not_mem_nil⟩⟩) λρ=> .bool _
theorem abl (h:agO us H=some (g,H')) (R:fE w0 ρ H w) (i:oM ρ us vs):jY Tryz.prog w0 ρ 22 vs w g H':=by
 obtain⟨z,A,rfl,h⟩:=MN h;obtain⟨o,d,h⟩:=aD.1 h;obtain⟨p,e,h⟩:=aD.1 h;obtain⟨r,v,h⟩:=aD.1 h;obtain⟨x,vs,rfl,j,i⟩:=i.of_cons;obtain⟨y,rfl,k⟩:=i.one;obtain⟨l,m,n,rfl,a,b,c⟩:=aaV R j d;obtain rfl:=DR k e;obtain⟨q,s,t,rfl,rfl⟩:=Pz h;exact RJ agD agE q s t WX (AR 1000 (p0:=o) (p1:=p) l m n r v) R (List.forall_mem_cons.2 ⟨a,List.forall_mem_cons.2 ⟨b,List.forall_mem_cons.2 ⟨c,λf u=>absurd u List.not_mem_nil⟩⟩⟩)
theorem Yb (h:acr us H=some (g,H')) (R:fE w0 ρ H w) (a:oM ρ us vs):jY Tryz.prog w0 ρ 110 vs w g H':=by
 obtain⟨z,A,B,C,rfl,h⟩:=MP h;obtain⟨m,b,h⟩:=aD.1 h;obtain⟨n,c,h⟩:=aD.1 h;obtain⟨o,d,h⟩:=aD.1 h;obtain⟨p,e,h⟩:=aD.1 h;obtain⟨r,u,h⟩:=aD.1 h;obtain⟨q,vs,rfl,i,a⟩:=a.of_cons;obtain⟨v,vs,rfl,j,a⟩:=a.of_cons;obtain⟨x,vs,rfl,k,a⟩:=a.of_cons;obtain⟨y,rfl,l⟩:=a.one;have s:=OV R i b;obtain rfl:=DR j c;obtain rfl:=DR k d;obtain rfl:=DR l e;obtain⟨rfl,rfl⟩:=FK h;exact Cz Tk (wW 1000 (p0:=m) (p1:=n) (p2:=o) (p3:=p) q r u) R (List.forall_mem_cons.2 ⟨s,List.forall_mem_cons.2 ⟨R.glb,λf t=>absurd t List.not_mem_nil⟩⟩) λρ=> .bool _
theorem abm (h:agP us H=some (g,H')) (R:fE w0 ρ H w) (a:oM ρ us vs):jY Tryz.prog w0 ρ 80 vs w g H':=by
 obtain⟨z,A,B,C,rfl,h⟩:=MP h;obtain⟨m,b,h⟩:=aD.1 h;obtain⟨n,c,h⟩:=aD.1 h;obtain⟨o,d,h⟩:=aD.1 h;obtain⟨p,e,h⟩:=aD.1 h;obtain⟨r,u,h⟩:=aD.1 h;obtain⟨q,vs,rfl,i,a⟩:=a.of_cons;obtain⟨v,vs,rfl,j,a⟩:=a.of_cons;obtain⟨x,vs,rfl,k,a⟩:=a.of_cons;obtain⟨y,rfl,l⟩:=a.one;have s:=OV R i b;obtain rfl:=DR j c;obtain rfl:=DR k d;obtain rfl:=DR l e;cases h;exact Cz Xe (wX 1000 (p0:=m) (p1:=n) (p2:=o) (p3:=p) q r u) R (List.forall_mem_cons.2 ⟨s,List.forall_mem_cons.2 ⟨R.glb,λf t=>absurd t List.not_mem_nil⟩⟩) λρ=> .int _ _
theorem abk (h:agN us H=some (g,H')) (R:fE w0 ρ H w) (e:oM ρ us vs):jY Tryz.prog w0 ρ 15 vs w g H':=by
 obtain⟨x,y,rfl,h⟩:=MN h;obtain⟨m,c,h⟩:=aD.1 h;obtain⟨n,d,h⟩:=aD.1 h;obtain⟨r,s,h⟩:=aD.1 h;obtain⟨v,vs,rfl,i,e⟩:=e.of_cons;obtain⟨o,rfl,j⟩:=e.one;obtain⟨k,l,t,rfl,a,b⟩:=LD R i c;obtain⟨u,p⟩:=Xq R j d;obtain⟨rfl,rfl⟩:=FK h;exact Cz WV (Cd 1000 (p0:=m) (p1:=n) k l t o u r s) R (List.forall_mem_cons.2 ⟨a,List.forall_mem_cons.2 ⟨b,List.forall_mem_cons.2 ⟨p,λf q=>absurd q List.not_mem_nil⟩⟩⟩) λρ=> .bool _
theorem Nk {f:Nat} (h:XQ f us H=some (g,H')) (R:fE w0 ρ H w) (a:oM ρ us vs):jY Tryz.prog w0 ρ f vs w g H':=by
 unfold XQ at h;cases b:Nat.beq f 87 with
 |true=>rw[b]at h;rw[Nat.eq_of_beq_eq_true b];exact abn h R a
 |false=>
 rw[b]at h;cases c:Nat.beq f 22 with
 |true=>rw[c]at h;rw[Nat.eq_of_beq_eq_true c];exact abl h R a
 |false=>
 rw[c]at h;cases d:Nat.beq f 110 with
 |true=>rw[d]at h;rw[Nat.eq_of_beq_eq_true d];exact Yb h R a
 |false=>
 rw[d]at h;cases e:Nat.beq f 80 with
 |true=>rw[e]at h;rw[Nat.eq_of_beq_eq_true e];exact abm h R a
 |false=>
 rw[e]at h;cases i:Nat.beq f 15 with
 |true=>rw[i]at h;rw[Nat.eq_of_beq_eq_true i];exact abk h R a
 |false=>
 rw[i]at h;cases h
end
theorem adZ:agC Tryz.prog vR=true:=by kernel_rfl
theorem Jf:eT Tryz.prog vR:=⟨Qo,adY adZ⟩
theorem aeE {a:yL} (b:eB a):rE Tryz.prog b (LB vR 96 Tryz.f96):=Xi Jf mixedOrders Tryz.func96 Tryz.call96 (by kernel_rfl)
theorem adS (a:Array Value) (w:World) (c:a.size=2):CallsDIn (FR none) 0 Tryz.prog 95 a .returning w λe f g=>∃v,e = .returned v∧f = .returning∧MF w g:=by
 obtain⟨d,h,b⟩:=YC (r:=Fb vR (LB vR 96 Tryz.f96) (MZ Tryz.f95) (evC vR (LB vR 96 Tryz.f96) (λ_ _ _ _=>none) (Xg Tryz.f95) 0 ⟨[],0,[]⟩ (GJ [])) (MZ Tryz.f95).tail ⟨[(aaR Tryz.f95,.inil)],H0⟩) (by kernel_rfl);exact U_ (ch:=LB vR 96 Tryz.f96) (lp:=λ_ _ _ _=>none) Jf mixedOrders aeE Ig Tryz.func95 Z Z Z (by decide +kernel) (λi w=>by simp[execOp,resolve,invoke,builtin]) (by kernel_rfl) (by kernel_rfl) Z (by rw[c];decide +kernel) h b
theorem agF {i:yL} {a:FuncId->List GV->GH->Option (GV×GH)} (o:∀(b:eB i) {f us H g H'},a f us H=some (g,H')->∀c w d,fE b c H w->oM c us d->jY Tryz.prog b c f d w g H') (b:eB i):UG Tryz.prog ⟨vR,70,a,XP 192⟩ HN.fns b:=by
 refine⟨Jf,mixedOrders,λh=> ?_,o b,λh c w d H R n=>abh Tryz.func192 Z Z Z Z h c w d H R n,λR l j k=> ?_⟩
 ·obtain⟨e,m,h⟩:=aD.1 (show ob (Ui _) _=some _ from h);cases h;obtain⟨p,q,r⟩:=YR m;exact⟨p,q,PC r⟩
 ·exact adK (tb:=vR) (T1:=3) (T2:=67) (cc:=95) Jf Tryz.func70 Tryz.call70 Tryz.call95 Z Z Z (Tg (by kernel_rfl)) (Tg (by kernel_rfl)) (Uo Z Z) (Uo Z Z) (Yn Z Z) (Yn Z Z) adS R l j k
theorem XS {T:Nat} (a:eB (gl T)):UG Tryz.prog gp HN.fns a:=agF (λa f d H g c h i w e R b=>Nk h R b) a
def gp0:GP:=⟨vR,70,λ_ _ _=>none,XP 192⟩
theorem ajJ (a:eB noG):UG Tryz.prog gp0 HN.fns a:=agF (λa f c H g b h=>by cases h) a
end
end Go.Gx
end
namespace Go.Gx
open Go Go.Sx Go.RowKit
mutual
def GT (k:Nat):GV->GV
 | .ptr h o=> .ptr (k+h) o
 | .sl h o l s=> .sl (k+h) o l s
 | .map h=> .map (k+h)
 | .fn f a b=> .fn f (VZ k a) (VZ k b)
 | .agg cs=> .agg (VZ k cs)
 | .tup vs=> .tup (VZ k vs)
 | .int a b=> .int a b
 | .bool b=> .bool b
 | .str a b=> .str a b
 | .pnil=> .pnil
 | .snil=> .snil
 | .fnil=> .fnil
 | .inil=> .inil
 | .un=> .un
 | .bad=> .bad
 | .opn h=> .opn (k+h)
def VZ (k:Nat):List GV->List GV
 | []=>[]
 |v::r=>GT k v::VZ k r
end
theorem ND (k:Nat):∀(l:List GV) (i:Nat),(VZ k l)[i]? = (l[i]?).map (GT k)
 | [],i=>rfl
 |v::r,0=>rfl
 |v::r,i+1=>by simpa [VZ]using ND k r i
theorem EM (k:Nat):∀(l:List GV),(VZ k l).length=l.length
 | []=>rfl
 |v::r=>by simp[VZ,EM k r]
def ZI (k:Nat):GO->GO
 | .cells cs=> .cells (VZ k cs)
 | .mp es=> .mp (es.map λe=>(GT k e.1,GT k e.2))
def AN (k:Nat) (l:Lt):Lt:={l with o:=ZI k l.o}
theorem Rl.shift {y e:dJ} {k:Nat} (c:∀h l,y h=some l->e (k+h)=some (AN k l)) {g:GV} {v:Value} (h:Rl y g v):Rl e (GT k g) v:=by
 have d:∀{u:List GV} {j:fT},(∀(i:Nat) g v,u[i]? = some g->j[i]? = some v->Rl e (GT k g) v)->∀(i:Nat) g v,(VZ k u)[i]? = some g->j[i]? = some v->Rl e g v:=by
  intro u j D i g v x E;rw[ND]at x;obtain⟨z,A,rfl⟩:=Option.map_eq_some_iff.1 x;exact D i z v A E
 induction h with
 |int a n=>simp only[GT];exact .int a n
 |bool b=>simp only[GT];exact .bool b
 |str s=>simp only[GT];exact .str s
 |ptr t h=>simp only[GT];exact .ptr (l:=AN k _) t (c _ _ h)
 |pnil=>simp only[GT];exact .pnil
 |sl h C B=>simp only[GT];exact .sl (l:=AN k _) (c _ _ h) C B
 |snil=>simp only[GT];exact .snil
 |map h=>simp only[GT];exact .map (l:=AN k _) (c _ _ h)
 |fn f m w o G q r=>simp only[GT];exact .fn f (by rw[EM];exact m) (d q) (by rw[EM];exact o) (d r)
 |fnil=>simp only[GT];exact .fnil
 |inil=>simp only[GT];exact .inil
 |agg m w o p=>simp only[GT];exact .agg (by rw[EM];exact m) (d p) o
 |tup m w p=>simp only[GT];exact .tup (by rw[EM];exact m) (d p)
 |un=>simp only[GT];exact .un
 |bad v=>simp only[GT];exact .bad v
 |opn v h F=>simp only[GT];exact .opn (l:=AN k _) v (c _ _ h) F

abbrev OL:=List (Nat×Nat×GO)
def VY:OL->Nat->Option (Nat×GO)
 | [],_=>none
 |x::r,h=>if h=x.1 then some x.2 else VY r h
theorem Nr {b:OL} {h:Nat} {p:Nat×GO} (a:VY b h=some p):(h,p)∈b:=by
 induction b with
 |nil=>cases a
 |cons x r c=>
  simp only[VY]at a;split at a
  ·rename_i e;cases a;subst e;exact List.mem_cons_self
  ·exact List.mem_cons_of_mem _ (c a)
noncomputable def PM (k:Nat) (t:Tr (Nat×GO)):OL->Tr (Nat×GO)
 | []=>t
 |x::r=>(PM k t r).set (some (k+x.2.1,ZI k x.2.2)) (k+x.1)
noncomputable def abM:OL->Tr (Nat×GO)
 | []=> .lf
 |x::r=>(abM r).set (some x.2) x.1
theorem DY:∀(a:OL) (h:Nat),(abM a).get h=VY a h
 | [],h=>rfl
 |x::r,h=>by
  show((abM r).set (some x.2) x.1).get h=_;rw[rJ];simp only[VY];split
  ·rfl
  ·exact DY r h
theorem Kx (k:Nat) (t:Tr (Nat×GO)):∀(b:OL) (h:Nat),(PM k t b).get h=if k<=h then(match VY b (h - k)with|some p=>some (k+p.1,ZI k p.2)|none=>t.get h)else t.get h
 | [],h=>by simp[PM,VY]
 | x :: r, h => by
  show((PM k t r).set (some (k+x.2.1,ZI k x.2.2)) (k+x.1)).get h=_;rw[rJ,Kx k t r h];by_cases e:h=k+x.1
  ·subst e;rw[if_pos Z,if_pos (by omega)];simp[VY]
  ·rw[if_neg e];by_cases a:k<=h
   ·rw[if_pos a,if_pos a];simp only[VY];rw[if_neg (show¬h - k=x.1 by omega)]
   ·rw[if_neg a,if_neg a]
noncomputable def Ja (n:Nat) (a:OL):GH:=⟨n,abM a⟩
noncomputable def GH.load (H:GH) (n:Nat) (a:OL):GH:=⟨H.n+n,PM H.n H.t a⟩
section
variable {gs:yL} {w0:eB gs} {w w':World} {ρ ρ2:dJ} {H:GH} {n:Nat} {os:OL}
theorem gN {H:GH} {h:Nat} {o:GO}:H.get h=some o↔∃v,H.t.get h=some (v,o):=by
 unfold GH.get;cases c:H.t.get h with
 |none=>simp[ob]
 |some p=>obtain⟨a,b⟩:=p;simp[ob]
theorem rH {H:GH} {h v:Nat}:H.ver h=some v↔∃o,H.t.get h=some (v,o):=by
 unfold GH.ver;cases c:H.t.get h with
 |none=>simp[ob]
 |some p=>obtain⟨a,b⟩:=p;simp[ob]
theorem fE.sub {d:GH} (R:fE w0 ρ H w) (z:d.n=H.n) (m:∀h p,d.t.get h=some p->H.t.get h=some p):fE w0 ρ d w:=by
 have g:∀h o,d.get h=some o->H.get h=some o:=λh o i=>by
  obtain⟨v,j⟩:=gN.1 i;exact gN.2 ⟨v,m _ _ j⟩
 refine⟨R.ext,λh o i=>R.live h o (g h o i),λh q o y l u e f=>R.inj h q o y l u (g _ _ e) (g _ _ f),λh r=>R.fresh h (by omega),λh r=>R.dense h (by omega),λh v l j s=> ?_,R.env⟩
 obtain⟨o,k⟩:=rH.1 j;obtain⟨x,a,b,c⟩:=R.vers h v l (rH.2 ⟨o,m _ _ k⟩) s;refine⟨x,a,b,?_⟩
 have e:=gN.2 ⟨v,k⟩;have f:=g _ _ e;rw[c]at f;cases f;exact e
theorem xD.shift {l:Lt} {o:GO} {f:dJ} {k:Nat} (d:∀h l,ρ2 h=some l->f (k+h)=some (AN k l)) (h:xD ρ2 w l o):xD f w (AN k l) (ZI k o):=by
 cases o with
 |cells z=>
  obtain⟨j,T,r,s,t,y⟩:=h;refine⟨j,T,r,s,by rw[EM];exact t,λi g e=> ?_⟩
  rw[ND]at e;obtain⟨p,q,rfl⟩:=Option.map_eq_some_iff.1 e;obtain⟨v,a,b,c⟩:=y i p q;exact⟨v,a,b.shift d,c⟩
 |mp A=>
  obtain⟨x,u,r,s,t⟩:=h;refine⟨x,u,r,by simpa [ZI]using s,λi g e=> ?_⟩
  rw[List.getElem?_map]at e;obtain⟨p,q,rfl⟩:=Option.map_eq_some_iff.1 e;obtain⟨m,a,b,c⟩:=t i p q;exact⟨m,a,b.shift d,c.shift d⟩
theorem fE.join {Y:yL} {hb:HZ Y w λ_=>False} (R:fE w0 ρ H w) (M:fE (eB.of w hb) ρ2 (Ja n os) w'):
  ∃s:dJ,ρ.le s∧fE w0 s (H.load n os) w'∧∀g v,Rl ρ2 g v->Rl s (GT H.n g) v:=by
 let s:dJ:=λh=>if h<H.n then ρ h else(ρ2 (h - H.n)).map (AN H.n);have G:ρ.le s:=λh l f=>by
  have ac:h<H.n:=by
   rcases Nat.lt_or_ge h H.n with q|q
   ·exact q
   ·rw[R.fresh h q]at f;cases f
  show(if h<H.n then ρ h else _)=_;rw[if_pos ac];exact f
 have K:∀h l,ρ2 h=some l->s (H.n+h)=some (AN H.n l):=λh l f=>by
  show(if H.n+h<H.n then _ else _)=_;rw[if_neg (by omega),show H.n+h - H.n=h by omega,f];rfl
 have k:∀h,h<H.n->s h=ρ h:=λh u=>by show(if h<H.n then ρ h else _)=_;rw[if_pos u]
 have d:∀h,H.n<=h->s h=(ρ2 (h - H.n)).map (AN H.n):=λh u=>by show(if h<H.n then ρ h else _)=_;rw[if_neg (by omega)]
 have J:∀h,H.n<=h->H.t.get h=none:=λh u=>by
  cases y:H.t.get h with
  |none=>rfl
  |some p=>exact absurd (R.lt (gN.2 ⟨p.1,y⟩)) (by omega)
 have X:∀h,h<H.n->(H.load n os).t.get h=H.t.get h:=λh u=>by
  show(PM H.n H.t os).get h=_;rw[Kx,if_neg (by omega)]
 have gh:∀h p,H.n<=h->(H.load n os).t.get h=some p->∃x,(Ja n os).t.get (h - H.n)=some x∧p=(H.n+x.1,ZI H.n x.2):=λh p u hp=>by
  have A:(PM H.n H.t os).get h=some p:=hp;rw[Kx,if_pos u,J h u]at A;cases hk:VY os (h - H.n)with
  |none=>rw[hk]at A;cases A
  |some x=>rw[hk]at A;cases A;exact⟨x,(DY os _).trans hk,rfl⟩
 have W:MF w w':=M.ext.ext;have L:∀l:Lt,(eB.of w hb).mine l.b->w.heap.size<=l.b:=λl h=>by
  rcases h with h|h
  ·exact h
  ·exact h.elim
 have r:∀h o,h<H.n->(H.load n os).get h=some o->∃l,ρ h=some l∧w0.mine l.b∧xD ρ w l o∧H.get h=some o:=λh o u y=>by
  obtain⟨v,N⟩:=gN.1 y;rw[X h u]at N;have z:=gN.2 ⟨v,N⟩;obtain⟨l,a,b,c⟩:=R.live h o z;exact⟨l,a,b,c,z⟩
 have m:∀h o,H.n<=h->(H.load n os).get h=some o->∃l O,ρ2 (h - H.n)=some l∧w.heap.size<=l.b∧xD ρ2 w' l O∧o=ZI H.n O∧(Ja n os).get (h - H.n)=some O:=λh o u y=>by
  obtain⟨v,N⟩:=gN.1 y;obtain⟨x,E,e⟩:=gh h _ u N;cases e;have z:(Ja n os).get (h - H.n)=some x.2:=gN.2 ⟨x.1,E⟩;obtain⟨l,a,b,c⟩:=M.live _ _ z;exact⟨l,x.2,a,L l b,c,rfl,z⟩
 refine⟨s,G,⟨R.ext.trans W,λh o y=> ?_,λh B o U l l' V E f j F=> ?_,λh u=> ?_,λh u=> ?_,λh v l N f=> ?_,λi v e=>let ⟨l,a,b⟩:=R.env i v e;⟨l,G _ _ a,b⟩⟩,λg v y=>y.shift K⟩
 ·rcases Nat.lt_or_ge h H.n with q|q
  ·obtain⟨l,a,b,c,_⟩:=r h o q y;exact⟨l,by rw[k h q];exact a,b,c.move G (W.block _ c.lt)⟩
  ·obtain⟨l,O,a,b,c,rfl,_⟩:=m h o q y;exact⟨AN H.n l,by rw[d h q,a];rfl,.inl (Nat.le_trans R.ext.size b),c.shift K⟩
 ·rcases Nat.lt_or_ge h H.n with q|q<;>rcases Nat.lt_or_ge B H.n with I|I
  ·obtain⟨l1,C,_,_,P⟩:=r h o q V;obtain⟨T,D,_,_,Q⟩:=r B U I E;rw[k h q,C]at f;rw[k B I,D]at j;cases f;cases j;exact R.inj h B o U _ _ P Q C D F
  ·obtain⟨l1,C,_,c1,P⟩:=r h o q V;obtain⟨T,O,D,b2,_,rfl,Q⟩:=m B U I E;rw[k h q,C]at f;rw[d B I,D]at j;cases f;cases j;have:=c1.lt;simp only[AN]at F;omega
  ·obtain⟨l1,o1,C,b1,_,rfl,P⟩:=m h o q V;obtain⟨T,D,_,c2,Q⟩:=r B U I E;rw[d h q,C]at f;rw[k B I,D]at j;cases f;cases j;have:=c2.lt;simp only[AN]at F;omega
  ·obtain⟨l1,o1,C,b1,_,rfl,P⟩:=m h o q V;obtain⟨T,O,D,b2,_,rfl,Q⟩:=m B U I E;rw[d h q,C]at f;rw[d B I,D]at j;cases f;cases j;have:=M.inj _ _ _ _ _ _ P Q C D F;omega
 ·have aa:H.n+n<=h:=u;rw[d h (by omega),M.fresh (h - H.n) (by show n<=_;omega)];rfl
 ·have aa:h<H.n+n:=u;rcases Nat.lt_or_ge h H.n with q|q
  ·obtain⟨l,f⟩:=R.dense h q;exact⟨l,by rw[k h q];exact f⟩
  ·obtain⟨l,f⟩:=M.dense (h - H.n) (by show _<n;omega);exact⟨AN H.n l,by rw[d h q,f];rfl⟩
 ·obtain⟨o,S⟩:=rH.1 N;rcases Nat.lt_or_ge h H.n with q|q
  ·rw[X h q]at S;rw[k h q]at f;obtain⟨lv,a,b,c⟩:=R.vers h v l (rH.2 ⟨o,S⟩) f;have y:=gN.2 ⟨v,S⟩;obtain⟨l',j,_,ck⟩:=R.live h o y;rw[f]at j;cases j;refine⟨lv,G _ _ a,by rw[W.block _ ck.lt];exact b,?_⟩
   obtain⟨v2,ad⟩:=gN.1 c;exact gN.2 ⟨v2,by rw[X h q];exact ad⟩
  ·obtain⟨x,E,e⟩:=gh h _ q S;cases e;rw[d h q]at f;obtain⟨T,ab,rfl⟩:=Option.map_eq_some_iff.1 f;obtain⟨lv,a,b,c⟩:=M.vers (h - H.n) x.1 T (rH.2 ⟨x.2,E⟩) ab;refine⟨AN H.n lv,K _ _ a,b,?_⟩
   have h3:(Ja n os).get (h - H.n)=some x.2:=gN.2 ⟨x.1,E⟩;rw[c]at h3;have h4:=Option.some.inj h3;exact gN.2 ⟨_,by rw[S,<-h4];rfl⟩
end

theorem XA {a b:Nat×Nat} (h:QJ a b=true):a=b:=by
 obtain⟨f,d⟩:=a;obtain⟨g,e⟩:=b;unfold QJ at h;cases c:Nat.beq d e with
 |false=>simp[c]at h
 |true=>
  simp only[c,cond_true]at h;rw[Nat.eq_of_beq_eq_true h,Nat.eq_of_beq_eq_true c]
theorem Sp {c:dJ} {n l:Nat} {x:ByteArray} (a:n=lI (bJ x)) (b:l=(bJ x).length):Rl c (.str n l) (.string x):=by
 rw[a,b];exact .str x
def isS (a:List GV) (p:Nat×Nat):Bool:=List.casesOn (motive:=λ_=>Bool) a false λu r=>List.casesOn (motive:=λ_=>Bool) r (Option.casesOn (motive:=λ_=>Bool) (GV.asStr u) false λs=>QJ s p) λ_ _=>false
theorem Yd {b:List GV} {p:Nat×Nat} (h:isS b p=true):b=[.str p.1 p.2]:=by
 cases b with
 |nil=>cases h
 | cons u r =>
  cases r with
  |cons _ _=>cases h
  | nil =>
   cases a:GV.asStr u with
   |none=>simp[isS,a]at h
   |some s=>
    have:QJ s p=true:=by simpa [isS,a]using h
    rw[pF a,XA this]
noncomputable section
def YJ (H:GH) (a:List Nat):Option OL:=List.rec (motive:=λ_=>Option OL) (some []) (λh _ b=>ob (H.t.get h) λp=>ob b λr=>some ((h,p.1,p.2)::r)) a
theorem HJ {H:GH}:∀{c:List Nat} {b:OL},YJ H c=some b->∀x∈b,H.t.get x.1=some x.2
 | [],b,h,x,a=>by cases h;cases a
 |h0::c,b,h,x,a=>by
  obtain⟨p,d,h⟩:=aD.1 (show ob (H.t.get h0) (λp=>ob (YJ H c) λr=>some ((h0,p.1,p.2)::r))=some b from h);obtain⟨r,e,h⟩:=aD.1 h;cases h;rcases List.mem_cons.1 a with rfl|a
  ·exact d
  ·exact HJ e x a
def TU (T:Gg) (G:GP) (a f:Nat) (d:List GV) (b:List Nat):Option (GV×Nat×OL):=ob (JG T G a f d H0) λr=>ob (YJ r.2 b) λc=>some (r.1,r.2.n,c)
def shK {R:Type} (k:Nat) (v:GV) (f:GV->R):R:=GV.casesOn (motive_1:=λ_=>R) v (λa b=>f (.int a b)) (λb=>f (.bool b)) (λa b=>f (.str a b)) (λh o=>sn (Nat.add k h) λh=>f (.ptr h o)) (f .pnil) (λh o l s=>sn (Nat.add k h) λh=>f (.sl h o l s)) (f .snil) (λh=>sn (Nat.add k h) λh=>f (.map h)) (λa b c=>f (GT k (.fn a b c))) (f .fnil) (f .inil) (λd=>f (GT k (.agg d))) (λe=>f (GT k (.tup e))) (f .un) (f .bad) (λh=>sn (Nat.add k h) λh=>f (.opn h))
theorem YZ {R:Type} (k:Nat) (v:GV) (f:GV->R):shK k v f=f (GT k v):=by
 cases v<;>simp[shK,vO,GT]
def aeM {R:Type} (k:Nat) (l:List GV):(List GV->R)->R:=List.rec (motive:=λ_=>(List GV->R)->R) (λf=>f []) (λx _ a f=>shK k x λy=>a λr=>f (y::r)) l
theorem Un {R:Type} (k:Nat):∀(l:List GV) (f:List GV->R),aeM k l f=f (VZ k l)
 | [],f=>rfl
 |x::l,f=>by
  show shK k x (λy=>aeM k l λr=>f (y::r))=_;rw[YZ,Un k l];rfl
def aeN {R:Type} (k:Nat) (o:GO) (f:GO->R):R:=GO.casesOn (motive:=λ_=>R) o (λa=>aeM k a λa=>f (.cells a)) (λb=>f (ZI k (.mp b)))
theorem abT {R:Type} (k:Nat) (o:GO) (f:GO->R):aeN k o f=f (ZI k o):=by
 cases o with
 |cells a=>exact Un k a _
 |mp b=>rfl
def aeD {R:Type} (k:Nat) (t:Tr (Nat×GO)) (b:OL):(Tr (Nat×GO)->R)->R:=List.rec (motive:=λ_=>(Tr (Nat×GO)->R)->R) (λf=>f t) (λx _ a f=>a λt=>sn (Nat.add k x.2.1) λv=>sn (Nat.add k x.1) λh=>aeN k x.2.2 λo=>t.setK (some (v,o)) h f) b
theorem Ue {R:Type} (k:Nat) (t:Tr (Nat×GO)):∀(a:OL) (f:Tr (Nat×GO)->R),aeD k t a f=f (PM k t a)
 | [],f=>rfl
 |x::a,f=>by
  show aeD k t a (λt=>sn (Nat.add k x.2.1) λv=>sn (Nat.add k x.1) λh=>aeN k x.2.2 λo=>t.setK (some (v,o)) h f)=_;rw[Ue k t a];simp only[vO,abT,Cj];rfl
def Pr (g:GV) (n:Nat) (a:OL) (H:GH):Option (GV×GH):=sn H.n λk=>shK k g λg=>aeD k H.t a λt=>sn (Nat.add k n) λm=>some (g,⟨m,t⟩)
theorem Yt (g:GV) (n:Nat) (a:OL) (H:GH):Pr g n a H=some (GT H.n g,H.load n a):=by
 unfold Pr;simp only[vO,YZ,Ue];rfl
theorem TV {P:Program} {T:Gg} {G:GP} {gs gs2:yL} (j:gs2.obs=gs.obs) (d:gs2.env=[]) (M:Jx T G.tab) (L:∀m:eB gs2,UG P G T.fns m) {a f n:Nat} {y:List GV} {z:List Value} {O:List Nat} {g:GV} {c:OL} (i:TU T G a f y O=some (g,n,c)) (C:aU P f)
  {m:eB gs} {w:World} {F:dJ} {H o:GH} {B:GV} (Q:oM (λ_=>none) y z) (h:Pr g n c H=some (B,o)) (R:fE m F H w):jY P m F f z w B o:=by
 rw[Yt]at h;cases h;obtain⟨r,D,i⟩:=aD.1 (show ob (JG T G a f y H0) _=some (g,n,c)from i);obtain⟨S,s,i⟩:=aD.1 i;cases i;rw[Gm M]at D;have b:HZ gs2 w λ_=>False:=λp t=>⟨(R.glo p (j▸t)).1,id⟩
 rcases Gl L (H':=r.2) (g:=r.1) D (fE.start (eB.of w b) d) Q with⟨v,E,l,k,_⟩|⟨_,N⟩
 ·have:=C z.toArray w;rw[show(eB.of w b).w=w from rfl,this]at k;cases k
 ·refine .inr ⟨C _ w,N.mono ?_⟩;rintro e E ⟨v,A,rfl,_,I,u⟩;have J:fE (eB.of w b) A (Ja r.2.n c) E:=I.sub Z λh p t=>by
   have:VY c h=some p:=(DY c h).symm.trans t;exact HJ s _ (Nr this)
  obtain⟨l,q,K,x⟩:=R.join J;exact⟨v,l,rfl,q,K,x _ _ u⟩
theorem Vx {P:Program} {T:Gg} {G:GP} {gs:yL} (y:Jx T G.tab) (x:∀H:eB gs,UG P G T.fns H) {a f n:Nat} {m:List GV} {o:List Value} {D:List Nat} {g:GV} {j:OL} (d:TU T G a f m D=some (g,n,j)) (z:aU P f)
  (E:oM (λ_=>none) m o) (B:gs.env=[]) (b:eB gs):Calls P f o.toArray b.w λe q=>∃v c,e = .returned v∧fE b c (Ja n j) q∧Rl c g v:=by
 obtain⟨r,t,d⟩:=aD.1 (show ob (JG T G a f m H0) _=some (g,n,j)from d);obtain⟨F,k,d⟩:=aD.1 d;cases d;rw[Gm y]at t;rcases Gl x (H':=r.2) (g:=r.1) t (fE.start b B) E with⟨v,q,c,i,_⟩|⟨_,A⟩
 ·have:=z o.toArray b.w;rw[this]at i;cases i
 ·refine A.mono ?_;rintro e q ⟨v,s,rfl,_,u,l⟩;exact⟨v,s,rfl,u.sub Z λh p C=>by
   have:VY j h=some p:=(DY j h).symm.trans C;exact HJ k _ (Nr this),l⟩
end
theorem Sa {P:Program} {gs:Nat->yL} {L:List a_} (D:∀w S,(∀h∈L,h.p w S)->∃T,HZ (gs T) w λ_=>False) {f n:Nat} {z:List Value} {g:GV} {y:OL}
  (h:∀T (b:eB (gs T)),Calls P f z.toArray b.w λe s=>∃v c,e = .returned v∧fE b c (Ja n y) s∧Rl c g v) {A:Type} {o:A->Value} {LO:A->List a_}
  (d:∀T (b:eB (gs T)) (B:dJ) (w:World) (V:Value),(∀k,b.mine k->b.w.heap.size<=k)->fE b B (Ja n y) w->Rl B g V->∃x:A,V=o x∧∀q∈LO x,q.p w (λk=>b.w.heap.size<=k)):
  aY P f z.toArray L o (λ_ l=>l) (λx l=>LO x++l):=by
 intro t C H;obtain⟨T,u⟩:=D t C H;refine(h T (.of t u)).mono ?_;rintro e s ⟨v,c,rfl,R,G⟩;obtain⟨x,rfl,F⟩:=d T (.of t u) c s v (λk r=>r.elim id False.elim) R G;refine⟨x,rfl,R.ext,λ_ _=>False,⟨λi m E=>by simp at E,λi k h=>h.elim,λi j k h=>h.elim⟩,λq a=> ?_⟩
 have a:q∈LO x++[]:=a;rw[List.append_nil]at a;exact a_.wide (F q a) (λk r=>⟨.inr (.inl r),λi h=>h.elim⟩)

noncomputable def Iu (s:ByteArray):Nat×Nat:=(lI (bJ s),(bJ s).length)
theorem OZ {a b:ByteArray} (h:Iu a=Iu b):a=b:=by
 have c:=Xz a b;unfold Iu at h;rw[h]at c;have e:QJ (lI (bJ b),(bJ b).length) (lI (bJ b),(bJ b).length)=true:=by simp[QJ]
 rw[e]at c;have d:a.toList=b.toList:=eq_of_beq c.symm;rw[Lib.toList_data,Lib.toList_data]at d;obtain⟨⟨x⟩⟩:=a;obtain⟨⟨y⟩⟩:=b;simp only at d;rw[d]
noncomputable def adP (a:List GV):Option (Nat×Nat):=List.casesOn (motive:=λ_=>Option (Nat×Nat)) a none λc r=>List.casesOn (motive:=λ_=>Option (Nat×Nat)) r c.asStr λ_ _=>none
abbrev aeF:eD ByteArray:=⟨1,Nat.one_pos,λ_ _ a x=>a=[.string x],λh=>by simp[h],λh _=>h⟩
theorem gZ.str {S:Nat->Prop} {g:dJ} {w:World}:gZ S g w adP aeF Iu:=λgs f y a h _=>by
 cases gs with
 |nil=>cases h
 |cons c gs=>
 cases gs with
 |cons _ _=>cases h
 |nil=>
 have h:c.asStr=some y:=h;obtain⟨v,f,rfl,b,a⟩:=a.of_cons;rw[a.of_nil];rw[pF h]at b;obtain⟨x,rfl,d,e⟩:=b.str_inv;exact⟨x,by unfold Iu;rw[<-d,<-e],rfl⟩
theorem abX {c:dJ} {V:Value} {n l:Nat} {s:ByteArray} (h:Rl c (.str n l) V) (e:Iu s=(n,l)):V = .string s:=by
 obtain⟨x,rfl,a,b⟩:=h.str_inv;have:Iu x=Iu s:=by rw[e];unfold Iu;rw[<-a,<-b]
 rw[OZ this]
theorem Kd {c:Type}:∀a b:c,id a=id b->a=b:=λ_ _ h=>h
theorem DV {c d e i:Type} {f:c->e} {g:d->i} (j:∀a b,f a=f b->a=b) (k:∀a b,g a=g b->a=b):∀a b:c×d,(λz:c×d=>(f z.1,g z.2)) a=(λz:c×d=>(f z.1,g z.2)) b->a=b:=λa b h=>by
 obtain⟨l,m⟩:=a;obtain⟨n,o⟩:=b;simp only[Prod.mk.injEq]at h;rw[j _ _ h.1,k _ _ h.2]
theorem Kh {g i:Type} {f:g->i} (e:∀a b,f a=f b->a=b):∀{c d:List g},c.map f=d.map f->c=d
 | [],[],_=>rfl
 | [],_::_,h=>by simp at h
 |_::_,[],h=>by simp at h
 |a::c,b::d,h=>by
  simp only[List.map_cons,List.cons.injEq]at h;rw[e _ _ h.1,Kh e h.2]
end Go.Gx
section
set_option maxRecDepth 100000
namespace Go.Gx
open Go Go.Sx Go.Proofs Go.Proofs.YtlkhndebimcbbaaGreatDoor
def zF (l:oC):List GV:=l.map λn=> .int .i64 (.ofNat n)
abbrev Vo:Nat:=71249362481079977452884316497893485862003781378380186443723211848324143362108177885825419081494821760013661206001097331844441314216469646330948494578433579262219834318486201028918376115292234488190700106942185120577518256511015159373632050200221875266428893346870089151936961848021402711157309556811570579452411680726714441114401627388096496024253845716638330773660915918662884872349758420128557367125203571583786029032399741638474503939646749525176616068912753182428383816770282999284942596549464335299041578590498704846876479973995637544997300808465629673589532931271276867856109758593603349879408733903821463777771303521998656430507938449710980075854559363989016083892713040828720973422783465502057059703922495107079261490020884616910566195303447459199789638099550237825859650229398681345092860498350921460315705906616442288394582691200440280135629162006963382844585911948056220785599387271665395519496413351471157088698250728565328718568235708145832114557345173602352771027404378663854631932098478169816132556163210119982019532849716161103768839540877472227068661770096791273707001174665743715154553128055607401500841088534854391588672059193795601211258321011231050774593156430084765392881009496824427195855467792851940283086600280108372309832209821085536023972216446949998813815478863454932518093775342849783278727011324956570494402720150194198228748565212249332223202955995657936385103356277284401707377096495385107540722377361240699143073602638306000298122043359982192
def mu0:List GV:=[.str Vo 613]
def mg0:GV:=(.tup [(.sl 2345 0 275 4),(.int .i64 (.ofNat 0)),(.int .i64 (.ofNat 0))])
def mo0:OL:=[(2345,2345,.cells (zF [1,0,7,0,1,8,16,0,3,16,17,0,1,18,21,0,1,22,23,0,3,24,25,0,2,26,27,0,3,28,30,0,1,31,32,0,3,32,33,0,1,34,37,0,1,38,39,0,3,40,41,0,1,42,46,0,3,46,47,0,1,48,51,0,1,52,53,0,3,54,55,0,1,56,60,0,3,60,61,0,1,62,65,0,1,66,67,0,3,68,69,0,1,70,74,0,3,74,75,0,1,76,79,0,1,80,81,0,3,82,83,0,2,84,85,0,3,86,88,0,2,89,91,15,3,91,92,0,1,93,96,0,1,97,98,0,3,99,100,0,2,101,102,0,3,103,105,0,2,106,108,15,3,109,110,0,1,111,112,0,3,112,113,0,1,114,118,0,1,119,122,0,3,122,123,0,1,124,128,0,3,129,131,0,3,132,133,0,1,133,134,0,3,135,137,0,2,138,139,0,3,140,142,0,1,143,144,0,3,145,147,0,1,148,152,0,3,152,153,0,3,154,156,0,1,157,158,0,3,159,161,0,2,162,163,0,3,163,164,0,1,165,166,0,3,167,169,0,1,170,174,0,3,174,175,0,1,176,180,0,1,181,184,0,3,184,185,0,3,186,187,0,1,187,191,0,3,192,194,0,3,195,196,0,1,196,197,0,3,198,200,0,3,201,202,0,1,202,205,0,3,205,206,0,1,206,207,0,3,207,208,0,1,208,209,0,3,209,210,0,3,211,212,0,1,213,214,0,3,215,216,0,1,217,220,0,3,220,221,0,1,221,222,0,3,222,223,0,1,223,224,0,3,224,225,0,3,226,227,0,2,228,229,1,3,230,231,0,1,232,233,0,3,233,234,0,3,235,237,0,1,238,239,0,3,240,242,0,1,243,248,0,3,248,249,0,1,249,250,0,3,250,251,0,1,251,252,0,3,253,255,0,1,256,259,0,3,259,260,0,1,260,261,0,3,261,262,0,1,262,263,0,3,263,264,0,3,264,265,0,3,265,266,0,3,269,271,0,1,272,273,0,3,274,276,0,3,277,278,0,1,278,281,0,3,281,282,0,1,282,283,0,3,283,284,0,1,284,285,0,3,285,286,0,3,287,288,0,1,289,290,0,3,291,292,0,1,293,296,0,3,296,297,0,1,297,298,0,3,298,299,0,1,299,300,0,3,300,301,0,3,302,303,0,2,304,305,1,3,306,307,0,1,308,309,0,3,309,310,0,3,310,311,0,1,312,313,0,3,314,316,0,1,317,322,0,3,322,323,0,1,323,324,0,3,324,325,0,1,325,326,0,3,327,329,0,1,330,333,0,3,333,334,0,1,334,335,0,3,335,336,0,1,336,337,0,3,337,338,0,3,338,339,0,3,339,340,0,1,341,345,0,1,346,351,0,3,351,352,0,1,353,357,0,3,358,360,0,3,361,362,0,1,362,363,0,3,364,366,0,1,367,368,0,3,369,371,0,1,372,376,0,3,376,377,0,1,378,379,0,3,380,382,0,3,383,384,0,1,384,385,0,3,385,386,0,1,387,391,0,1,392,396,0,3,396,397,0,3,398,399,0,1,399,403,0,3,404,406,0,1,407,411,0,3,411,412,0,1,412,413,0,3,414,416,0,1,417,418,0,3,419,421,0,3,422,423,0,1,423,424,0,3,424,425,0,1,425,426,0,3,427,429,0,1,430,431,0,3,432,434,0,1,435,436,0,3,437,439,0,3,440,441,0,1,441,442,0,3,442,443,0,1,443,444,0,3,444,445,0,3,445,446,0,3,447,449,0,1,450,451,0,3,452,454,0,1,455,459,0,3,459,460,0,1,460,461,0,3,462,464,0,1,465,466,0,3,467,469,0,1,470,471,0,3,471,472,0,1,472,473,0,3,473,474,0,3,474,475,0,1,476,477,0,3,478,480,0,1,481,485,0,3,485,486,0,1,486,487,0,3,488,490,0,1,491,492,0,3,493,495,0,1,496,497,0,3,497,498,0,1,498,499,0,3,499,500,0,3,500,501,0,1,502,506,0,1,507,513,0,3,513,514,0,1,515,516,0,3,517,519,0,1,520,523,0,3,523,524,0,1,524,525,0,3,525,526,0,1,526,527,0,3,528,530,0,1,531,532,0,3,532,533,0,1,533,537,0,3,538,540,0,3,541,542,0,1,542,543,0,3,543,544,0,1,544,545,0,3,546,548,0,1,549,550,0,3,550,551,0,1,551,552,0,3,553,555,0,1,556,557,0,3,557,558,0,3,559,561,0,1,562,563,0,3,564,566,0,1,567,572,0,3,572,573,0,1,574,575,0,3,576,578,0,1,579,580,0,3,581,582,0,1,583,586,0,3,586,587,0,1,587,588,0,3,588,589,0,1,589,590,0,3,591,593,0,1,594,595,0,3,595,596,0,1,596,600,0,3,601,602,0,1,603,604,0,3,604,605,0,1,605,606,0,3,607,608,0,2,609,610,0,3,610,611,0,3,611,612,0]))]
set_option maxHeartbeats 4000000 in
theorem me0:TU HN gp 4000 69 mu0 [2345]=some (mg0,2346,mo0):=by kernel_rfl
noncomputable def Ka (f:Nat) (a:List GV) (H:GH):Option (GV×GH):=bif Nat.beq f 69 then(bif isS a (Vo,613)then Pr mg0 2346 mo0 H else XQ f a H)else XQ f a H
noncomputable def agH:GP:=⟨vR,gp.cat,Ka,gp.exn⟩
theorem Hz {T:Nat} {k:eB (gl T)} {w:World} {e:dJ} {H i:GH} {g:GV} {d:List GV} {j:fT} {f:Nat} (h:Ka f d H=some (g,i)) (R:fE k e H w) (a:oM e d j):jY Tryz.prog k e f j w g i:=by
 unfold Ka at h;cases b:Nat.beq f 69 with
 |false=>rw[b]at h;exact Nk h R a
 | true =>
  rw[b]at h;cases c:isS d (Vo,613)with
  |false=>rw[c]at h;exact Nk h R a
  |true=>
   rw[c]at h;rw[Nat.eq_of_beq_eq_true b];rw[Yd c]at a;obtain⟨V,rfl,n⟩:=a.one;obtain⟨x,rfl,l,m⟩:=n.str_inv;exact TV (gs:=gl T) (gs2:=gl T) Z Z GL XS me0 Tryz.call69 (oM.cons (Sp l m) .nil) h R
theorem acq {T:Nat} (a:eB (gl T)):UG Tryz.prog agH HN.fns a:=⟨(XS a).tab,(XS a).mixed,(XS a).fns,λh d w c R b=>Hz h R b,(XS a).exn,(XS a).cat⟩
def mu1:List GV:=[.str Vo 613]
def mg1:GV:=(.agg [(.str 8390039475830484595 8),(.sl 2615 0 6 6),(.sl 4519 0 5 3)])
def Yv:OL:=[(2615,2615,.cells [(.str 100 1),(.int .i64 (.ofNat 1)),(.int .i64 (.ofNat 0)),(.int .i64 (.ofNat 0)),(.int .i64 (.ofNat 1)),(.int .i64 (.ofNat 0)),(.str 112 1),(.int .i64 (.ofNat 3)),(.int .i64 (.ofNat 0)),(.int .i64 (.ofNat 0)),(.int .i64 (.ofNat 0)),(.int .i64 (.ofNat 0)),(.str 115 1),(.int .i64 (.ofNat 2)),(.int .i64 (.ofNat 0)),(.int .i64 (.ofNat 0)),(.int .i64 (.ofNat 0)),(.int .i64 (.ofNat 0)),(.str 98 1),(.int .i64 (.ofNat 2)),(.int .i64 (.ofNat 0)),(.int .i64 (.ofNat 0)),(.int .i64 (.ofNat 0)),(.int .i64 (.ofNat 0)),(.str 120 1),(.int .i64 (.ofNat 1)),(.int .i64 (.ofNat 0)),(.int .i64 (.ofNat 15)),(.int .i64 (.ofNat 0)),(.int .i64 (.ofNat 0)),(.str 97 1),(.int .i64 (.ofNat 1)),(.int .i64 (.ofNat 0)),(.int .i64 (.ofNat 0)),(.int .i64 (.ofNat 15)),(.int .i64 (.ofNat 0))]),
 (2739,2739,.cells (zF [41,0,10,0,42,0,36,0,5,0,1,0,36,0,5,1,4,0])),
 (2765,2765,.cells [(.int .i64 (.ofNat 1)),(.int .i64 (.ofNat 0))]),
 (2798,2798,.cells [(.int .i64 (.ofNat 4)),(.int .i64 (.ofNat 0))]),
 (2806,2806,.cells [(.int .i64 (.ofNat 0)),(.sl 2765 0 1 2),(.int .i64 (.ofNat 1)),(.sl 2798 0 1 2)]),
 (3194,3194,.cells (zF [41,0,19,0,10,0,42,0,36,0,5,0,43,0,37,0,24,0,12,0,6,0,33,0,24,0,12,0,1,1,6,0,36,0,5,1,23,0,35,0,12,0,24,0,12,0])),
 (3375,3375,.cells (zF [43,0,37,0,24,0,12,0,6,0,33,0,24,0,12,0,1,1,6,0])),
 (3501,3501,.cells (zF [23,0,35,0,12,0,24,0,12,0])),
 (3509,3509,.cells [(.int .i64 (.ofNat 0)),(.sl 3375 0 10 2),(.int .i64 (.ofNat 1)),(.sl 3501 0 5 2)]),
 (3577,3577,.cells (zF [41,0,10,0,19,0,5,2])),
 (3604,3604,.cells [(.int .i64 (.ofNat 2)),(.int .i64 (.ofNat 0))]),
 (3646,3646,.cells (zF [19,0,5,3])),
 (3654,3654,.cells [(.int .i64 (.ofNat 2)),(.sl 3604 0 1 2),(.int .i64 (.ofNat 3)),(.sl 3646 0 2 2)]),
 (3888,3888,.cells (zF [41,0,19,0,10,0,21,0,41,0,35,0,11,0,5,1,42,0,36,0,12,3,5,3,41,0,5,2,19,0,12,2])),
 (3988,3988,.cells (zF [21,0,41,0,35,0,11,0,5,1,12,2])),
 (4094,4094,.cells (zF [21,0,41,0,35,0,11,0,5,1,12,3])),
 (4102,4102,.cells [(.int .i64 (.ofNat 2)),(.sl 3988 0 6 2),(.int .i64 (.ofNat 3)),(.sl 4094 0 6 2)]),
 (4313,4313,.cells (zF [41,0,5,2,20,0,42,0,36,0,12,1,17,0,41,0,19,0,12,2,35,0,12,3,5,3])),
 (4340,4340,.cells [(.int .i64 (.ofNat 3)),(.int .i64 (.ofNat 0))]),
 (4504,4504,.cells (zF [33,0,5,4,26,0,43,0,35,0,12,1,17,0,12,5,1,0])),
 (4511,4511,.cells [(.int .i64 (.ofNat 2)),(.sl 4340 0 1 2),(.int .i64 (.ofNat 5)),(.sl 4504 0 9 2)]),
 (4519,4519,.cells [(.str 7368564 3),(.sl 2739 0 9 2),(.sl 2806 0 2 2),(.str 7827308 3),(.sl 3194 0 23 2),(.sl 3509 0 2 2),(.str 474214786402 5),(.sl 3577 0 4 2),(.sl 3654 0 2 2),(.str 1701536116 4),(.sl 3888 0 16 2),(.sl 4102 0 2 2),(.str 114844899371366 6),(.sl 4313 0 13 2),(.sl 4511 0 2 2)])]
set_option maxHeartbeats 4000000 in
theorem me1:TU HN agH 4000 19 mu1 [2615,2739,2765,2798,2806,3194,3375,3501,3509,3577,3604,3646,3654,3888,3988,4094,4102,4313,4340,4504,4511,4519]=some (mg1,6842,Yv):=by kernel_rfl
noncomputable def RG (f:Nat) (a:List GV) (H:GH):Option (GV×GH):=bif Nat.beq f 19 then(bif isS a (Vo,613)then Pr mg1 6842 Yv H else Ka f a H)else Ka f a H
noncomputable def agI:GP:=⟨vR,gp.cat,RG,gp.exn⟩
theorem Vm {T:Nat} {k:eB (gl T)} {w:World} {e:dJ} {H i:GH} {g:GV} {d:List GV} {j:fT} {f:Nat} (h:RG f d H=some (g,i)) (R:fE k e H w) (a:oM e d j):jY Tryz.prog k e f j w g i:=by
 unfold RG at h;cases b:Nat.beq f 19 with
 |false=>rw[b]at h;exact Hz h R a
 | true =>
  rw[b]at h;cases c:isS d (Vo,613)with
  |false=>rw[c]at h;exact Hz h R a
  |true=>
   rw[c]at h;rw[Nat.eq_of_beq_eq_true b];rw[Yd c]at a;obtain⟨V,rfl,n⟩:=a.one;obtain⟨x,rfl,l,m⟩:=n.str_inv;exact TV (gs:=gl T) (gs2:=gl T) Z Z GL acq me1 Tryz.call19 (oM.cons (Sp l m) .nil) h R
theorem agG {T:Nat} (a:eB (gl T)):UG Tryz.prog agI HN.fns a:=⟨(XS a).tab,(XS a).mixed,(XS a).fns,λh d w c R b=>Vm h R b,(XS a).exn,(XS a).cat⟩
noncomputable abbrev gp2:GP:=agI
theorem ajK {T:Nat} (a:eB (gl T)):UG Tryz.prog gp2 HN.fns a:=agG a
end Go.Gx
end
namespace Go.Gx
open Go Go.Sx Go.RowKit
structure Hd (n:Nat) (os:OL) (ρ:dJ) (w:World) (S:Nat->Prop):Prop where
 live:∀h o,(Ja n os).get h=some o->∃l,ρ h=some l∧S l.b∧xD ρ w l o
 inj:∀h h' o o' l l',(Ja n os).get h=some o->(Ja n os).get h'=some o'->ρ h=some l->ρ h'=some l'->l.b=l'.b->h=h'
 fresh:∀h,n<=h->ρ h=none
 dense:∀h,h<n->∃l,ρ h=some l
 vers:∀h v l,(Ja n os).ver h=some v->ρ h=some l->∃lv,ρ v=some lv∧w.heap[l.b]? = some lv.x∧(Ja n os).get h=some lv.o
theorem Hd.mono {n:Nat} {p:OL} {f:dJ} {w w':World} {S g:Nat->Prop} (H:Hd n p f w S) (h:∀k,S k->k<w.heap.size->g k∧w'.heap[k]? = w.heap[k]?):Hd n p f w' g:=by
 refine⟨λk o s=> ?_,H.inj,H.fresh,H.dense,λk v l m j=> ?_⟩
 ·obtain⟨l,a,b,c⟩:=H.live k o s;obtain⟨d,e⟩:=h _ b c.lt;exact⟨l,a,d,c.move (dJ.le_refl f) e⟩
 ·obtain⟨u,a,b,c⟩:=H.vers k v l m j;obtain⟨o,t⟩:=rH.1 m;obtain⟨x,i,q,r⟩:=H.live k o (gN.2 ⟨v,t⟩);rw[j]at i;cases i;exact⟨u,a,by rw[(h _ q r.lt).2];exact b,c⟩
theorem fE.hd {gs:yL} {b:eB gs} {n:Nat} {d:OL} {ρ:dJ} {w:World} {S:Nat->Prop} (R:fE b ρ (Ja n d) w) (e:∀k,b.mine k->S k):Hd n d ρ w S:=
 ⟨λh o f=>let ⟨l,a,b,c⟩:=R.live h o f;⟨l,a,e _ b,c⟩,R.inj,R.fresh,R.dense,R.vers⟩
def We (n:Nat) (b:OL) (g:GV) (V:Value):a_ where
 p w S:=∃a,Hd n b a w S∧Rl a g V
 mono:=fun⟨a,h,r⟩ k=>⟨a,h.mono k,r⟩
def Hd.O (n:Nat) (a:OL) (c:dJ) (k:Nat):Prop:=∃h o l,(Ja n a).get h=some o∧c h=some l∧l.b=k
def Hd.base (n:Nat) (os:OL) (ρ:dJ) (w:World):eB noG:=⟨w,Hd.O n os ρ,λ_ h=>absurd h List.not_mem_nil⟩
theorem Hd.rel {n:Nat} {b:OL} {ρ:dJ} {w:World} {S:Nat->Prop} (H:Hd n b ρ w S):fE (Hd.base n b ρ w) ρ (Ja n b) w:=
 ⟨BO.refl w,λh o d=>let ⟨l,a,_,c⟩:=H.live h o d;⟨l,a,.inr ⟨h,o,l,d,a,rfl⟩,c⟩,H.inj,H.fresh,H.dense,H.vers,λi v e=>by simp[Hd.base,noG]at e⟩
noncomputable def Fh (H:GH) (b:OL):Bool:=List.rec (motive:=λ_=>Bool) true (λx _ a=>Option.casesOn (motive:=λ_=>Bool) (H.ver x.1) false λv=>bif Nat.beq v x.2.1 then a else false) b
theorem PY {H:GH}:∀{a:OL},Fh H a=true->∀x∈a,H.ver x.1=some x.2.1
 | [],_,x,b=>by cases b
 | y :: a, h, x, b => by
  have h:Option.casesOn (motive:=λ_=>Bool) (H.ver y.1) false (λv=>bif Nat.beq v y.2.1 then Fh H a else false)=true:=h;cases c:H.ver y.1 with
  |none=>rw[c]at h;cases h
  | some v =>
   rw[c]at h;obtain⟨d,f⟩:=bM.1 (show(bif Nat.beq v y.2.1 then(some (Fh H a))else none)=some true by
    have h:(bif Nat.beq v y.2.1 then Fh H a else false)=true:=h;cases e:Nat.beq v y.2.1<;>rw[e]at h<;>first|cases h|(show some (Fh H a)=some true;rw[show Fh H a=true from h]))
   rcases List.mem_cons.1 b with rfl|b
   ·rw[c,Nat.eq_of_beq_eq_true d]
   ·exact PY (Option.some.inj f) x b
noncomputable def okV (a:OL) (r:OR):Bool:=Option.casesOn (motive:=λ_=>Bool) r false λr=>Option.casesOn (motive:=λ_=>Bool) r.1.asB false λb=>bif b then Fh r.2 a else false
theorem YE {d:OL} {r:OR} (h:okV d r=true):∃a,r=some (.bool true,a)∧Fh a d=true:=by
 cases r with
 |none=>cases h
 | some r =>
  obtain⟨g,a⟩:=r;have h:Option.casesOn (motive:=λ_=>Bool) g.asB false (λb=>bif b then Fh a d else false)=true:=h;cases c:g.asB with
  |none=>rw[c]at h;cases h
  |some b=>
   rw[c]at h;cases b with
   |false=>cases h
   |true=>exact⟨a,by rw[Bz c],h⟩
theorem Vq {P:Program} {G:GP} {x:FT} (F:∀T:eB noG,UG P G x T) {fuel f n:Nat} {d:OL} {g:GV} {V:Value} (H:aU P f) (h:∃r,Ts G x fuel f [g] (Ja n d)=some (.bool true,r)∧Fh r d=true) {w:World} {S:Nat->Prop} (Q:(We n d g V).p w S):
  Calls P f #[V] w λe u=>e = .returned (.bool true)∧MF w u:=by
 obtain⟨U,y,M⟩:=Q;obtain⟨r,D,E⟩:=h;rcases Gl F D y.rel (.cons M .nil)with⟨v,u,W,m,_⟩|⟨_,I⟩
 ·have:=H #[V] w;rw[this]at m;cases m
 ·refine I.mono ?_;rintro e u ⟨v,X,rfl,j,c,N⟩;refine⟨by rw[N.bool_inv],c.ext.os,c.ext.tape,c.ext.output,c.ext.size,λk K=> ?_⟩
  by_cases A:Hd.O n d U k
  ·obtain⟨i,o,l,J,z,rfl⟩:=A;obtain⟨t,q⟩:=gN.1 J;have L:(i,t,o)∈d:=Nr ((DY d i).symm.trans q);obtain⟨R,a,b,_⟩:=y.vers i t l (rH.2 ⟨o,q⟩) z;obtain⟨s,B,C,_⟩:=c.vers i t l (PY E _ L) (j _ _ z);have:R=s:=by have:=j _ _ a;rw[B]at this;exact(Option.some.inj this).symm
   subst this;exact C.trans b.symm
  ·exact c.ext.block k K A
end Go.Gx
namespace Go.Proofs.YtlkhndebimcbbaaGreatDoor
open Go Go.Sx Go.Gx
set_option maxRecDepth 100000
abbrev xE:=ByteArray×(Value×fN)×(Value×List (Int×(Value×fN)))
def Aa (z:xE):fN×List (Int×fN):=(z.2.1.2,z.2.2.2.map λs=>(s.1,s.2.2))
def CM:ByteArray:=(ByteArray.mk #[112,114,111,103,114,97,109,32,115,110,97,112,115,104,111,116,59,10,118,97,114,32,100,32,58,32,48,32,46,46,32,110,59,10,118,97,114,32,112,32,58,32,112,111,114,116,59,10,118,97,114,32,115,32,58,32,98,111,111,108,59,10,118,97,114,32,98,32,58,32,98,111,111,108,59,10,118,97,114,32,120,32,58,32,48,32,46,46,32,49,53,59,10,118,97,114,32,97,32,58,32,48,32,46,46,32,49,53,32,42,32,110,59,10,114,117,108,101,32,116,111,112,58,32,114,111,111,116,32,38,38,32,40,100,32,33,61,32,48,32,124,124,32,112,32,33,61,32,110,111,110,101,41,32,45,62,32,100,32,58,61,32,48,44,32,112,32,58,61,32,110,111,110,101,59,10,114,117,108,101,32,108,111,119,58,32,33,114,111,111,116,32,38,38,32,40,100,32,33,61,32,40,109,105,110,40,113,46,100,41,32,60,32,110,32,63,32,109,105,110,40,113,46,100,41,32,43,32,49,32,58,32,110,41,32,124,124,32,112,32,33,61,32,102,105,114,115,116,40,113,46,100,32,61,61,32,109,105,110,40,113,46,100,41,41,41,10,32,32,45,62,32,100,32,58,61,32,40,109,105,110,40,113,46,100,41,32,60,32,110,32,63,32,109,105,110,40,113,46,100,41,32,43,32,49,32,58,32,110,41,44,32,112,32,58,61,32,102,105,114,115,116,40,113,46,100,32,61,61,32,109,105,110,40,113,46,100,41,41,59,10,114,117,108,101,32,98,101,103,105,110,58,32,114,111,111,116,32,38,38,32,33,115,32,45,62,32,115,32,58,61,32,116,114,117,101,44,32,98,32,58,61,32,33,98,59,10,114,117,108,101,32,116,97,107,101,58,32,33,114,111,111,116,32,38,38,32,115,111,109,101,40,113,32,61,61,32,112,32,38,38,32,40,113,46,98,32,33,61,32,98,32,124,124,32,115,32,38,38,32,33,113,46,115,41,41,32,45,62,32,115,32,58,61,32,115,111,109,101,40,113,32,61,61,32,112,32,38,38,32,113,46,115,41,44,32,98,32,58,61,32,115,111,109,101,40,113,32,61,61,32,112,32,38,38,32,113,46,98,41,59,10,114,117,108,101,32,102,105,110,105,115,104,58,32,115,32,38,38,32,97,108,108,40,113,46,112,32,33,61,32,113,46,98,97,99,107,32,124,124,32,33,113,46,115,32,38,38,32,113,46,98,32,61,61,32,98,41,32,45,62,32,115,32,58,61,32,102,97,108,115,101,44,32,97,32,58,61,32,120,32,43,32,115,117,109,40,113,46,112,32,61,61,32,113,46,98,97,99,107,32,63,32,113,46,97,32,58,32,48,41,59,10])
def HM:Ip:=[((ByteArray.mk #[100]),(1:Int),(0:Int),(0:Int),(1:Int),(0:Int)),((ByteArray.mk #[112]),(3:Int),(0:Int),(0:Int),(0:Int),(0:Int)),((ByteArray.mk #[115]),(2:Int),(0:Int),(0:Int),(0:Int),(0:Int)),((ByteArray.mk #[98]),(2:Int),(0:Int),(0:Int),(0:Int),(0:Int)),((ByteArray.mk #[120]),(1:Int),(0:Int),(15:Int),(0:Int),(0:Int)),((ByteArray.mk #[97]),(1:Int),(0:Int),(0:Int),(15:Int),(0:Int))]
def CL:KU:=[([(41,0),(10,0),(42,0),(36,0),(5,0),(1,0),(36,0),(5,1),(4,0)],[(0,[(1,0)]),(1,[(4,0)])]),([(41,0),(19,0),(10,0),(42,0),(36,0),(5,0),(43,0),(37,0),(24,0),(12,0),(6,0),(33,0),(24,0),(12,0),(1,1),(6,0),(36,0),(5,1),(23,0),(35,0),(12,0),(24,0),(12,0)],[(0,[(43,0),(37,0),(24,0),(12,0),(6,0),(33,0),(24,0),(12,0),(1,1),(6,0)]),(1,[(23,0),(35,0),(12,0),(24,0),(12,0)])]),([(41,0),(10,0),(19,0),(5,2)],[(2,[(2,0)]),(3,[(19,0),(5,3)])]),([(41,0),(19,0),(10,0),(21,0),(41,0),(35,0),(11,0),(5,1),(42,0),(36,0),(12,3),(5,3),(41,0),(5,2),(19,0),(12,2)],[(2,[(21,0),(41,0),(35,0),(11,0),(5,1),(12,2)]),(3,[(21,0),(41,0),(35,0),(11,0),(5,1),(12,3)])]),([(41,0),(5,2),(20,0),(42,0),(36,0),(12,1),(17,0),(41,0),(19,0),(12,2),(35,0),(12,3),(5,3)],[(2,[(3,0)]),(5,[(33,0),(5,4),(26,0),(43,0),(35,0),(12,1),(17,0),(12,5),(1,0)])])]
def acw:List ((Nat×Nat)×fN×List (Int×fN)):=[((7368564,3),[(41,0),(10,0),(42,0),(36,0),(5,0),(1,0),(36,0),(5,1),(4,0)],[(0,[(1,0)]),(1,[(4,0)])]),((7827308,3),[(41,0),(19,0),(10,0),(42,0),(36,0),(5,0),(43,0),(37,0),(24,0),(12,0),(6,0),(33,0),(24,0),(12,0),(1,1),(6,0),(36,0),(5,1),(23,0),(35,0),(12,0),(24,0),(12,0)],[(0,[(43,0),(37,0),(24,0),(12,0),(6,0),(33,0),(24,0),(12,0),(1,1),(6,0)]),(1,[(23,0),(35,0),(12,0),(24,0),(12,0)])]),((474214786402,5),[(41,0),(10,0),(19,0),(5,2)],[(2,[(2,0)]),(3,[(19,0),(5,3)])]),((1701536116,4),[(41,0),(19,0),(10,0),(21,0),(41,0),(35,0),(11,0),(5,1),(42,0),(36,0),(12,3),(5,3),(41,0),(5,2),(19,0),(12,2)],[(2,[(21,0),(41,0),(35,0),(11,0),(5,1),(12,2)]),(3,[(21,0),(41,0),(35,0),(11,0),(5,1),(12,3)])]),((114844899371366,6),[(41,0),(5,2),(20,0),(42,0),(36,0),(12,1),(17,0),(41,0),(19,0),(12,2),(35,0),(12,3),(5,3)],[(2,[(3,0)]),(5,[(33,0),(5,4),(26,0),(43,0),(35,0),(12,1),(17,0),(12,5),(1,0)])])]
def PF (V:Value):a_:=⟨λw S=>(We 6842 Yv mg1 V).p w S,λ{w w' S S'} h k=>by
 rcases h with h
 ·exact((We 6842 Yv mg1 V).mono h k)⟩
noncomputable def WM {R:Type} (D:KU) (k:List xE->Option R):Option R:=open Classical in if h:∃r,∀z:List xE,z.map Aa=D->k z=some r then some (Classical.choose h)else none
theorem UT {R:Type} {D:KU} {k:List xE->Option R} {r:R} (h:WM D k=some r) (z:List xE) (a:z.map Aa=D):k z=some r:=by
 unfold WM at h;split at h
 ·rename_i e;rw[<-Option.some.inj h];exact Classical.choose_spec e z a
 cases h
theorem aae {R:Type} {D:KU} {k:List xE->Option R} {r:R} (h:∀z:List xE,z.map Aa=D->k z=some r):WM D k=some r:=by
 have e:∃r,∀z:List xE,z.map Aa=D->k z=some r:=⟨r,h⟩
 unfold WM;rw[dif_pos e];let z:List xE:=D.map λx=>(ByteArray.empty,(undef,x.1),(undef,x.2.map λs=>(s.1,(undef,s.2))))
 have c:z.map Aa=D:=by
  show(D.map _).map Aa=D;rw[List.map_map]
  conv=>rhs;rw[<-List.map_id D]
  refine List.map_congr_left λx _=>?_;obtain⟨a,b⟩:=x;simp[Aa,Function.comp_def]
 rw[<-Classical.choose_spec e z c,h z c]
def nM (a:Nat) (b:ByteArray):Option Zk:=if b=CM then some ((ByteArray.mk #[115,110,97,112,115,104,111,116]),HM,CL)else none
theorem WW:aU Tryz.prog 19:=Tryz.call19
theorem Tl:aU Tryz.prog 120:=Tryz.call120
theorem PL:Iu CM=(71249362481079977452884316497893485862003781378380186443723211848324143362108177885825419081494821760013661206001097331844441314216469646330948494578433579262219834318486201028918376115292234488190700106942185120577518256511015159373632050200221875266428893346870089151936961848021402711157309556811570579452411680726714441114401627388096496024253845716638330773660915918662884872349758420128557367125203571583786029032399741638474503939646749525176616068912753182428383816770282999284942596549464335299041578590498704846876479973995637544997300808465629673589532931271276867856109758593603349879408733903821463777771303521998656430507938449710980075854559363989016083892713040828720973422783465502057059703922495107079261490020884616910566195303447459199789638099550237825859650229398681345092860498350921460315705906616442288394582691200440280135629162006963382844585911948056220785599387271665395519496413351471157088698250728565328718568235708145832114557345173602352771027404378663854631932098478169816132556163210119982019532849716161103768839540877472227068661770096791273707001174665743715154553128055607401500841088534854391588672059193795601211258321011231050774593156430084765392881009496824427195855467792851940283086600280108372309832209821085536023972216446949998813815478863454932518093775342849783278727011324956570494402720150194198228748565212249332223202955995657936385103356277284401707377096495385107540722377361240699143073602638306000298122043359982192,613):=by kernel_rfl
theorem YK:Iu (ByteArray.mk #[115,110,97,112,115,104,111,116])=(8390039475830484595,8):=by kernel_rfl
theorem YN:Nb (Ja 6842 Yv) 6 (dP 1 adP (dP 1 (dI .i64) (dP 1 (dI .i64) (dP 1 (dI .i64) (dP 1 (dI .i64) (dI .i64)))))) (.sl 2615 0 6 6)=some (HM.map λz=>(Iu z.1,z.2.1,z.2.2.1,z.2.2.2.1,z.2.2.2.2.1,z.2.2.2.2.2)):=by kernel_rfl
theorem VI:Nb (Ja 6842 Yv) 3 (dP 1 adP (dP 1 (dS (Ja 6842 Yv) 2 (dP 1 (dI .i64) (dI .i64))) (dS (Ja 6842 Yv) 2 (dP 1 (dI .i64) (dS (Ja 6842 Yv) 2 (dP 1 (dI .i64) (dI .i64))))))) (.sl 4519 0 5 3)=some acw:=by kernel_rfl
theorem abE:acw.map (λy=>(y.2.1,y.2.2))=CL:=by kernel_rfl
theorem YL (r:Zk) (h:some ((ByteArray.mk #[115,110,97,112,115,104,111,116]),HM,CL)=some r):aY Tryz.prog 19 #[vS CM] [Gb 0 (cellsOf HY w_)] (λx:Value×Value×{z:List xE // z.map Aa=r.2.2}=>Value.agg #[vS r.1,x.1,x.2.1]) (λx l=>l) (λx l=>Sl aR x.1 r.2.1::Sl aJ x.2.1 x.2.2.1::PF (Value.agg #[vS r.1,x.1,x.2.1])::l):=by
 cases h;refine Sa (gs:=gl) (LO:=λx:Value×Value×{z:List xE // z.map Aa=CL}=>[Sl aR x.1 HM,Sl aJ x.2.1 x.2.2.1,PF (Value.agg #[vS (ByteArray.mk #[115,110,97,112,115,104,111,116]),x.1,x.2.1])]) XR (λT b=>Vx GL acq me1 WW (.cons (Sp (x:=CM) (congrArg Prod.fst PL).symm (congrArg Prod.snd PL).symm) .nil) Z b) ?_;intro T b B w V a R g;have y:=g;obtain⟨f,rfl,c,_⟩:=g.agg_inv;obtain⟨C,f,rfl,m,c⟩:=c.of_cons;obtain⟨j,f,rfl,n,c⟩:=c.of_cons;obtain⟨k,rfl,o⟩:=c.one;obtain rfl:=abX m YK;obtain⟨A,v,s⟩:=Cs R a (gZ.pair gZ.str (gZ.pair (gZ.int .i64) (gZ.pair (gZ.int .i64) (gZ.pair (gZ.int .i64) (gZ.pair (gZ.int .i64) (gZ.int .i64)))))) n YN;have e:A=HM:=Kh (DV (λ_ _=>OZ) (DV Kd (DV Kd (DV Kd (DV Kd Kd))))) v;subst e;obtain⟨i,u,t⟩:=Cs (r:=aJ) R a (gZ.pair gZ.str (gZ.pair (gZ.sl R a (gZ.pair (gZ.int .i64) (gZ.int .i64))) (gZ.sl R a (gZ.pair (gZ.int .i64) (gZ.sl R a (gZ.pair (gZ.int .i64) (gZ.int .i64))))))) o VI;have d:i.map Aa=CL:=by
  rw[<-abE,<-u,List.map_map];refine List.map_congr_left λx _=>?_;simp[Aa,Function.comp_def]
 exact⟨(j,k,⟨i,d⟩),rfl,List.forall_mem_cons.2 ⟨s,List.forall_mem_cons.2 ⟨t,List.forall_mem_cons.2 ⟨(⟨B,fE.hd R a,y⟩),λq p=>absurd p List.not_mem_nil⟩⟩⟩⟩
theorem ZB:okV Yv (JG HN gp0 4000 120 [mg1] (Ja 6842 Yv))=true:=by kernel_rfl
theorem IG (a:Nat) {b:ByteArray} (r:Zk) (h:nM a b=some r):aY Tryz.prog 19 #[vS b] [Gb 0 (cellsOf HY w_)] (λx:Value×Value×{z:List xE // z.map Aa=r.2.2}=>Value.agg #[vS r.1,x.1,x.2.1]) (λx l=>l) (λx l=>Sl aR x.1 r.2.1::Sl aJ x.2.1 x.2.2.1::PF (Value.agg #[vS r.1,x.1,x.2.1])::l):=by
 unfold nM at h;by_cases c:b=CM
 ·subst c;exact YL r ((if_pos Z).symm.trans h)
 rw[if_neg c]at h;cases h
theorem YM (f:Nat):nM f CM=some ((ByteArray.mk #[115,110,97,112,115,104,111,116]),HM,CL):=by
 unfold nM;exact if_pos Z
def BE (fuel:Nat) (a:ByteArray×List (ByteArray×Int×Int×Int×Int×Int)×List (xE)):Option Bool:=some true
theorem Ln (a:Nat) {b:ByteArray×List (ByteArray×Int×Int×Int×Int×Int)×List (xE)} (d f:Value) (r:Bool) (h:BE a b=some r):
  aY Tryz.prog 120 #[Value.agg #[vS b.1,d,f]] [Sl aR d b.2.1,Sl aJ f b.2.2,PF (Value.agg #[vS b.1,d,f])] (λx:Unit=>vB (r)) (λx l=>l) (λ_ l=>l):=by
 cases h;intro w S z;have g:Calls Tryz.prog 120 #[Value.agg #[vS b.1,d,f]] w λe o=>e = .returned (.bool true)∧MF w o:=by
  rcases z _ (List.mem_of_getElem? (i:=2) Z)with v
  ·refine Vq (fuel:=4000) ajJ Tl ?_ v;obtain⟨p,n,s⟩:=YE ZB;rw[Gm (G:=gp0) GL]at n;exact⟨p,n,s⟩
 refine g.mono ?_;rintro e o ⟨rfl,c⟩;exact⟨(),rfl,⟨c.os,c.tape,c.output,c.size,λk t _=>c.block k t⟩,λ_ _=>False,⟨λi m u=>by simp at u,λi k h=>h.elim,λi j k h=>h.elim⟩,λq y=>by simp at y⟩
end Go.Proofs.YtlkhndebimcbbaaGreatDoor
namespace Go.Proofs.YtlkhndebimcbbaaGreatDoor
open Go Go.Sx
abbrev ahB:=Er
abbrev PRG:=ByteArray×(List ahB)×(List xE)
abbrev GRF:=List Int×fO
abbrev SCN:=PRG×GRF×Int×bE
abbrev WLK:=SCN×bE×Int×fN
inductive E where
 |lf (o a:Int)
 |un (o:Int) (x:E)
 |ag (o:Int) (x:E)
 |bi (o:Int) (x y:E)
 |ite (x y z:E)
def E.ts:E->fN
 |lf o a=>[(o,a)]
 |un o x=>(o,0)::x.ts
 |ag o x=>(o,0)::x.ts
 |bi o x y=>(o,0)::(x.ts++y.ts)
 |ite x y z=>(43,0)::(x.ts++(y.ts++z.ts))
def E.depth:E->Nat
 |lf _ _=>1
 |un _ x=>x.depth+1
 |ag _ x=>x.depth+1
 |bi _ x y=>max x.depth y.depth+1
 |ite x y z=>max x.depth (max y.depth z.depth)+1
def E.arOk:E->Bool
 |lf o _=>decide (1<=o)&&decide (o<=17)
 |un o x=>decide (18<=o)&&decide (o<=19)&&x.arOk
 |ag o x=>decide (20<=o)&&decide (o<=29)&&x.arOk
 |bi o x y=>decide (30<=o)&&decide (o<=42)&&x.arOk&&y.arOk
 |ite x y z=>x.arOk&&y.arOk&&z.arOk
theorem Tj {b:Type} [Inhabited b] {T a rest:List b} {x:b} {k:Nat} (c:T=a++x::rest) (d:a.length=k):at' T (k:Int)=x:=by
 subst c;exact UV a rest x k d
theorem fC {k:Nat} (h:k<1000000):wI .i64 ((k:Int)+1)=((k+1:Nat):Int):=by rw[wr (by omega) (by omega)];rfl

theorem WO (f:Nat) {o:Int} (a:1<=o) (b:o<=43):wR f o=some (if o<=17 then 0 else if o<=29 then 1 else if o<=42 then 2 else 3):=by
 unfold wR yJ;rw[if_neg (by omega)];simp only[decide_eq_true_eq];rw[if_neg (by omega)];split
 ·rfl
 ·split
  ·rfl
  ·split<;>rfl
theorem Xy {F:Nat} {T c rest:fN} {t:fF} {k m a:Nat} {b:Nat} (d:T=c++t::rest) (g:c.length=k) (i:k<1000) (n:m<3000) (e:wR F t.1=some ((a:Nat):Int)) (f:a<=3) (j:m+a≠0):
  bL (lG F T) (b+1) ((k:Int),(m:Int))=if m+a=1 then some (((k+1:Nat):Int))else bL (lG F T) b (((k+1:Nat):Int),((m+a - 1:Nat):Int)):=by
 have l:k<T.length:=by rw[d];simp;omega
 show lG F T ((k:Int),(m:Int)) (bL (lG F T) b)=_;unfold lG;dsimp only;rw[if_pos (by omega),bZ (by omega),Tj d g,bG e,if_neg (by omega),wr (x:=((a:Nat):Int) - 1) (by omega) (by omega),wr (by omega) (by omega),fC (by omega)];by_cases h:m+a=1
 ·rw[if_pos h,if_pos (by omega)]
 ·rw[if_neg h,if_neg (by omega)];have:(m:Int)+((a:Int) - 1)=((m+a - 1:Nat):Int):=by omega
  rw[this]
theorem aaZ (F:Nat) (T:fN) (H:T.length<=900):∀(e:E),e.arOk=true->∀(c k m:Nat) (d b:fN),T=d++(e.ts++b)->d.length=k->1<=m->m+2*(e.ts++b).length<=1900->e.ts.length<=c->
  bL (lG F T) c ((k:Int),(m:Int))=if m=1 then some (((k+e.ts.length:Nat):Int))else bL (lG F T) (c - e.ts.length) (((k+e.ts.length:Nat):Int),((m - 1:Nat):Int)):=by
 have r:∀{t:fF} {l b d:fN} {c k m:Nat},T=d++((t::l)++b)->d.length=k->(t::l).length<=c->1<=t.1->t.1<=43->1<=m->m+2*((t::l)++b).length<=1900->∀a:Nat,(if t.1<=17 then 0 else if t.1<=29 then 1 else if t.1<=42 then 2 else 3:Int)=a->a<=3->∃f,c=f+1∧
   bL (lG F T) c ((k:Int),(m:Int))=if m+a=1 then some (((k+1:Nat):Int))else bL (lG F T) f (((k+1:Nat):Int),((m+a - 1:Nat):Int)):=by
  intro t l b d c k m n p q v w i j a I B;have A:=congrArg List.length n;simp only[List.length_append,List.length_cons]at A j q;obtain⟨f,rfl⟩:∃f,c=f+1:=⟨c - 1,by omega⟩
  exact⟨f,rfl,Xy (rest:=l++b) (by simpa using n) p (by omega) (by omega) (by rw[WO F v w,I]) B (by omega)⟩
 intro e
 induction e with
 |lf o a=>
  intro g c k m d b n p i j q;simp only[E.arOk,Bool.and_eq_true,decide_eq_true_eq]at g;obtain⟨f,rfl,h⟩:=r (t:=(o,a)) (l:=[]) n p q (by dsimp only;omega) (by dsimp only;omega) i j 0 (by rw[if_pos (by dsimp only;omega)];rfl) (by omega);rw[h];rfl
 |un o x C=>
  intro g c k m d b n p i j q;simp only[E.arOk,Bool.and_eq_true,decide_eq_true_eq]at g;obtain⟨f,rfl,h⟩:=r (t:=(o,0)) (l:=x.ts) n p q (by dsimp only;omega) (by dsimp only;omega) i j 1 (by rw[if_neg (by dsimp only;omega),if_pos (by dsimp only;omega)];rfl) (by omega);simp only[E.ts,List.length_cons]at q j ⊢;rw[h,if_neg (by omega)];have:=C g.2 f (k+1) m (d++[(o,0)]) b (by rw[n];simp[E.ts]) (by simp[p]) i (by simp at j ⊢;omega) (by omega);rw[show m+1 - 1=m by omega,this,show k+1+x.ts.length=k+(x.ts.length+1) by omega,show f+1 - (x.ts.length+1)=f - x.ts.length by omega]
 |ag o x C=>
  intro g c k m d b n p i j q;simp only[E.arOk,Bool.and_eq_true,decide_eq_true_eq]at g;obtain⟨f,rfl,h⟩:=r (t:=(o,0)) (l:=x.ts) n p q (by dsimp only;omega) (by dsimp only;omega) i j 1 (by rw[if_neg (by dsimp only;omega),if_pos (by dsimp only;omega)];rfl) (by omega);simp only[E.ts,List.length_cons]at q j ⊢;rw[h,if_neg (by omega)];have:=C g.2 f (k+1) m (d++[(o,0)]) b (by rw[n];simp[E.ts]) (by simp[p]) i (by simp at j ⊢;omega) (by omega);rw[show m+1 - 1=m by omega,this,show k+1+x.ts.length=k+(x.ts.length+1) by omega,show f+1 - (x.ts.length+1)=f - x.ts.length by omega]
 |bi o x y s u=>
  intro g c k m d b n p i j q;simp only[E.arOk,Bool.and_eq_true,decide_eq_true_eq]at g;obtain⟨f,rfl,h⟩:=r (t:=(o,0)) (l:=x.ts++y.ts) n p q (by dsimp only;omega) (by dsimp only;omega) i j 2 (by rw[if_neg (by dsimp only;omega),if_neg (by dsimp only;omega),if_pos (by dsimp only;omega)];rfl) (by omega);simp only[E.ts,List.length_cons,List.length_append]at q j ⊢;rw[h,if_neg (by omega)];have v:=s g.1.2 f (k+1) (m+1) (d++[(o,0)]) (y.ts++b) (by rw[n];simp[E.ts]) (by simp[p]) (by omega) (by simp at j ⊢;omega) (by omega);have w:=u g.2 (f - x.ts.length) (k+1+x.ts.length) m (d++((o,0)::x.ts)) b (by rw[n];simp[E.ts]) (by simp[p];omega) (by omega) (by simp at j ⊢;omega) (by omega);rw[show m+2 - 1=m+1 by omega,v,if_neg (by omega),show m+1 - 1=m by omega,w,show k+1+x.ts.length+y.ts.length=k+(x.ts.length+y.ts.length+1) by omega,show f+1 - (x.ts.length+y.ts.length+1)=f - x.ts.length - y.ts.length by omega]
 |ite x y z s u D=>
  intro g c k m d b n p i j q;simp only[E.arOk,Bool.and_eq_true,decide_eq_true_eq]at g;obtain⟨f,rfl,h⟩:=r (t:=(43,0)) (l:=x.ts++(y.ts++z.ts)) n p q (by decide) (by decide) i j 3 Z (by omega);simp only[E.ts,List.length_cons,List.length_append]at q j ⊢;rw[h,if_neg (by omega)];have v:=s g.1.1 f (k+1) (m+2) (d++[(43,0)]) (y.ts++z.ts++b) (by rw[n];simp[E.ts]) (by simp[p]) (by omega) (by simp at j ⊢;omega) (by omega);have w:=u g.1.2 (f - x.ts.length) (k+1+x.ts.length) (m+1) (d++((43,0)::x.ts)) (z.ts++b) (by rw[n];simp[E.ts]) (by simp[p];omega) (by omega) (by simp at j ⊢;omega) (by omega);have G:=D g.2 (f - x.ts.length - y.ts.length) (k+1+x.ts.length+y.ts.length) m (d++((43,0)::(x.ts++y.ts))) b (by rw[n];simp[E.ts]) (by simp[p];omega) (by omega) (by simp at j ⊢;omega) (by omega);rw[show m+3 - 1=m+2 by omega,v,if_neg (by omega),show m+2 - 1=m+1 by omega,w,if_neg (by omega),show m+1 - 1=m by omega,G,show k+1+x.ts.length+y.ts.length+z.ts.length=k+(x.ts.length+(y.ts.length+z.ts.length)+1) by omega,show f+1 - (x.ts.length+(y.ts.length+z.ts.length)+1)=f - x.ts.length - y.ts.length - z.ts.length by omega]
theorem adV (F:Nat) (e:E) (d:e.arOk=true) {T b a:fN} {k:Nat} (f:T=b++(e.ts++a)) (i:b.length=k) (j:T.length<=800) (h:e.ts.length<=F):CG F T (k:Int)=some (((k+e.ts.length:Nat):Int)):=by
 have g:1<=e.ts.length:=by cases e<;>simp[E.ts]
 have c:=congrArg List.length f;simp only[List.length_append]at c;unfold CG Bt;rw[if_neg (by omega)];simp only[decide_eq_true_eq];rw[if_neg (by omega)];have:=aaZ F T (by omega) e d F k 1 b a f i (by omega) (by simp;omega) h;rw[if_pos Z]at this;exact this
def As (b:Bool):Int:=if b then 1 else 0
theorem tU (f:Nat) (b:Bool):iR f b=some (As b):=by cases b<;>rfl
theorem EN {a:Type} [Inhabited a] {l:List a} {k:Nat} (h:k<l.length):l.take (k+1)=l.take k++[at' l (k:Int)]:=by
 rw[List.take_add_one,List.getElem?_eq_getElem h,fP,List.getD_eq_getElem?_getD,List.getElem?_eq_getElem h];rfl
theorem lN {a:Type} [Inhabited a] {l:List a} {k:Nat} (h:k<l.length):at' l (k:Int)=l[k]:=by
 rw[fP,List.getD_eq_getElem?_getD,List.getElem?_eq_getElem h];rfl
theorem Gy {p:Nat->Prop}:∀(n:Nat),p n->∃m,m<=n∧p m∧∀j,j<m->¬p j:=by
 intro n
 induction n using Nat.strongRecOn with
 | _ n ih =>
  intro h;by_cases d:∃m,m<n∧p m
  ·obtain⟨m,e,f⟩:=d;obtain⟨k,a,b,c⟩:=ih m e f;exact⟨k,by omega,b,c⟩
  ·exact⟨n,Nat.le_refl n,h,λj g i=>d ⟨j,g,i⟩⟩
theorem TX {g:Type} [DecidableEq g]:∀(c b:List g),c.Nodup->(∀x∈c,x∈b)->c.length<=b.length
 | [],b,_,_=>Nat.zero_le _
 |a::c,b,h,hs=>by
  have d:=hs a List.mem_cons_self;have h:=List.nodup_cons.1 h;have:=TX c (b.erase a) h.2 (λx f=>(List.mem_erase_of_ne (fun(e:x=a)=>h.1 (by rw[<-e];exact f))).2 (hs x (List.mem_cons_of_mem _ f)));rw[List.length_erase_of_mem d]at this;have i:0<b.length:=List.length_pos_of_mem d;simp only[List.length_cons];omega
def nz (x:Int):Bool:=decide (x≠0)
theorem Xo (f:Nat) (l:aO) (h:l.length<f) (e:l.length<=1000):qB f l=some ((l.countP nz:Nat):Int):=by
 unfold qB;have:=dU (step:=qU l) (K:=some ((l.countP nz:Nat):Int)) l.length (λk=>(((l.take k).countP nz:Nat),(k:Int))) (λk b c=>by
  have d:(l.take k).countP nz<=k:=Nat.le_trans List.countP_le_length (by simp;omega);unfold qU tO;dsimp only;rw[if_pos (by omega),bZ (by omega),EN c,List.countP_append,fC (by omega),fC (by omega)];by_cases a:at' l (k:Int)=0
  ·rw[if_neg (by simpa using a)];simp[nz,a]
  ·rw[if_pos a];simp[nz,a]) (λb=>by
  unfold qU xY;dsimp only;rw[if_neg (by omega),List.take_length]) f h
 exact this
theorem Ia (f:Nat) (l:aO) (x:Int) (h:l.length<f) (t:l.length<=1000):rB f l x=some (decide (x∈l)):=by
 have q:∃i:Int,pQ f l x=some i∧(0<=i↔x∈l):=by
  by_cases b:x∈l
  ·obtain⟨i,r,o⟩:=List.mem_iff_getElem.1 b;have a:∃i,i<l.length∧at' l (i:Int)=x∧∀j,j<i->at' l (j:Int)≠x:=by
    obtain⟨m,d,c,s⟩:=Gy (p:=λi=>at' l (i:Int)=x) i (by rw[lN r,o]);exact⟨m,by omega,c,s⟩
   obtain⟨i,r,d,c⟩:=a;refine⟨i,?_,iff_of_true (by omega) b⟩
   unfold pQ;exact dU (step:=jW l x) (K:=some (i:Int)) i (λk=>(k:Int)) (λk n g=>by
    unfold jW;rw[if_pos (by omega),bZ (by omega),if_neg (λe=>c k g e.symm),fC (by omega)]) (λn=>by
    unfold jW;rw[if_pos (by omega),bZ (by omega),if_pos d.symm]) f (by omega)
  ·refine⟨-1,?_,iff_of_false (by omega) b⟩
   unfold pQ;exact dU (step:=jW l x) (K:=some (-1)) l.length (λk=>(k:Int)) (λk n g=>by
    unfold jW;rw[if_pos (by omega),bZ (by omega),if_neg (λe=>b (by rw[e,lN g];exact List.getElem_mem g)),fC (by omega)]) (λn=>by
    unfold jW uP;rw[if_neg (by omega)]) f h
 obtain⟨i,d,c⟩:=q;unfold rB;rw[bG d];by_cases b:x∈l
 ·rw[decide_eq_true b,decide_eq_true (c.2 b)]
 ·rw[decide_eq_false b,decide_eq_false (λe=>b (c.1 e))]
def p_ (l:aO):Int:=match l.findIdx? nz with
 |some i=>(i:Int)
 |none=> -1
theorem rR {l:aO} {i:Nat} (a:i<l.length) (b:at' l (i:Int)≠0) (c:∀j,j<i->at' l (j:Int)=0):p_ l=i:=by
 have:l.findIdx? nz=some i:=by
  rw[List.findIdx?_eq_some_iff_getElem];refine⟨a,by rw[<-lN a];simpa [nz]using b,λj d=> ?_⟩
  have:=c j d;rw[lN (by omega)]at this;simp[nz,this]
 unfold p_;rw[this]
theorem Bh {l:aO} (h:∀j,j<l.length->at' l (j:Int)=0):p_ l = -1:=by
 have:l.findIdx? nz=none:=by
  rw[List.findIdx?_eq_none_iff];intro x b;obtain⟨i,a,rfl⟩:=List.mem_iff_getElem.1 b;have:=h i a;rw[lN a]at this;simp[nz,this]
 unfold p_;rw[this]
theorem XN (f:Nat) (l:aO) (h:l.length<f) (t:l.length<=1000):mQ f l (λq=>oH f q)=some (p_ l):=by
 unfold mQ;by_cases a:∃i,i<l.length∧at' l (i:Int)≠0
 ·obtain⟨i,s,o⟩:=a;obtain⟨m,r,n,b⟩:=Gy (p:=λi=>at' l (i:Int)≠0) i o;have b:∀j,j<m->at' l (j:Int)=0:=λj d=>Decidable.not_not.1 (b j d);rw[rR (by omega) n b];exact dU (step:=fZ l _) (K:=some (m:Int)) m (λk=>(k:Int)) (λk c g=>by
   unfold fZ oH;rw[if_pos (by omega),bZ (by omega),bG Z,if_neg (by simp[b k g]),fC (by omega)]) (λc=>by
   unfold fZ oH;rw[if_pos (by omega),bZ (by omega),bG Z,if_pos (by simpa using n)]) f (by omega)
 ·have a:∀j,j<l.length->at' l (j:Int)=0:=λj d=>Decidable.not_not.1 λe=>a ⟨j,d,e⟩;rw[Bh a];exact dU (step:=fZ l _) (K:=some (-1)) l.length (λk=>(k:Int)) (λk c g=>by
   unfold fZ oH;rw[if_pos (by omega),bZ (by omega),bG Z,if_neg (by simp[a k g]),fC (by omega)]) (λc=>by
   unfold fZ oY;rw[if_neg (by omega)]) f h
def zH (l:aO):Int:=l.foldl min 1073741824
theorem aex (f:Nat) (l:aO) (h:l.length<f) (c:l.length<=1000):bL (sM l) f ((1073741824:Int),(0:Int))=some (zH l):=by
 exact dU (step:=sM l) (K:=some (zH l)) l.length (λk=>((l.take k).foldl min 1073741824,(k:Int))) (λk a b=>by
  unfold sM;dsimp only;rw[if_pos (by omega),bZ (by omega),EN b,List.foldl_append,fC (by omega)];rfl) (λa=>by
  unfold sM Ab;dsimp only;rw[if_neg (by omega),List.take_length];rfl) f h
theorem Nv {l:aO} {x:Int} (h:x∈l):zH l<=x:=by
 have c:∀(l:aO) (a:Int),l.foldl min a<=a∧∀x∈l,l.foldl min a<=x:=by
  intro l
  induction l with
  |nil=>intro a;exact⟨Int.le_refl a,λx b=>by cases b⟩
  |cons y l e=>
   intro a;obtain⟨f,d⟩:=e (min a y);refine⟨by simp only[List.foldl_cons];omega,λx b=> ?_⟩
   rcases List.mem_cons.1 b with rfl|b
   ·simp only[List.foldl_cons];omega
   ·exact d x b
 exact(c l _).2 x h
theorem Km (l:aO):zH l=1073741824∨zH l∈l:=by
 have b:∀(l:aO) (a:Int),l.foldl min a=a∨l.foldl min a∈l:=by
  intro l
  induction l with
  |nil=>intro a;exact .inl Z
  | cons y l ih =>
   intro a;rcases ih (min a y)with h|h
   ·simp only[List.foldl_cons,h];rcases Int.le_total a y with q|q
    ·left;omega
    ·right;rw[show min a y=y by omega];exact List.mem_cons_self
   ·right;exact List.mem_cons_of_mem _ h
 exact b l _
def Ps (l:aO):Nat->Nat->Nat
 |0,k=>k
 |f+1,k=>if((k:Nat):Int)∈l then Ps l f (k+1)else k
def Sb (l:aO):Nat:=Ps l (l.length+1) 0
theorem Yu (l:aO):((Sb l:Nat):Int)∉l∧(∀j,j<Sb l->((j:Nat):Int)∈l)∧Sb l<=l.length:=by
 have key:∀(f k:Nat),(∀j,j<k->((j:Nat):Int)∈l)->(∀j,j<Ps l f k->((j:Nat):Int)∈l)∧(Ps l f k=k+f∨((Ps l f k:Nat):Int)∉l):=by
  intro f
  induction f with
  |zero=>intro k h;exact⟨h,.inl Z⟩
  | succ f ih =>
   intro k h;by_cases hk:((k:Nat):Int)∈l
   ·have:=ih (k+1) (λj hj=>by
     rcases Nat.lt_or_ge j k with q|q
     ·exact h j q
     ·rw[show j=k by omega];exact hk)
    simp only[Ps,if_pos hk];exact⟨this.1,this.2.imp (λe=>by omega) id⟩
   ·simp only[Ps,if_neg hk];exact⟨h,.inr hk⟩
 have hle:∀m,(∀j,j<m->((j:Nat):Int)∈l)->m<=l.length:=λm h=>by
  have:=TX ((List.range m).map λj=>((j:Nat):Int)) l (by
   rw[List.nodup_iff_pairwise_ne,List.pairwise_map];exact(List.nodup_iff_pairwise_ne.1 List.nodup_range).imp (λh e=>h (by omega))) (λx hx=>by
   obtain⟨j,hj,rfl⟩:=List.mem_map.1 hx;exact h j (List.mem_range.1 hj))
  simpa using this
 obtain⟨h1,h2⟩:=key (l.length+1) 0 (λj hj=>by omega);have h3:=hle _ h1;refine⟨?_,h1,h3⟩
 rcases h2 with h2|h2
 ·have:Ps l (l.length+1) 0<=l.length:=h3;omega
 ·exact h2
theorem aew (f:Nat) (l:aO) (h:l.length+2<f) (hl:l.length<=900):Az f l=some ((Sb l:Nat):Int):=by
 obtain⟨h1,h2,h3⟩:=Yu l;unfold Az;exact dU (step:=yQ f l) (K:=some ((Sb l:Nat):Int)) (Sb l) (λk=>(k:Int)) (λk ag hk=>by
  unfold yQ;rw[bG (Ia f l (k:Int) (by omega) (by omega)),if_pos (by simpa using h2 k hk),fC (by omega)]) (λag=>by
  unfold yQ Bg;rw[bG (Ia f l _ (by omega) (by omega)),if_neg (by simpa using h1)]) f (by omega)
def Qb (l:aO):Int:=l.foldl (λa x=>wI .i64 (a+x)) 0
theorem aeP (f:Nat) (l:aO) (h:l.length<f) (c:l.length<=1000):bL (sN f l) f ((0:Int),(0:Int))=Cv f (Qb l):=by
 refine(dU (step:=sN f l) l.length (λk=>(Qb (l.take k),(k:Int))) (λk a b=> ?_) (λa=> ?_) f h).trans Z
 ·unfold sN;dsimp only;rw[if_pos (by omega),bZ (by omega),fC (by omega),EN b];unfold Qb;rw[List.foldl_append];rfl
 ·unfold sN;dsimp only;rw[if_neg (by omega),List.take_length]
def TG (o:Int) (l:aO):Int:=
 if o=20 then As (l.all nz)else if o=21 then As (l.any nz)else if o=22 then((l.countP nz:Nat):Int)else if o=23 then p_ l else if o=24 then zH l else if o=26 then max (-1073741824) (min (Qb l) 1073741824)else((Sb l:Nat):Int)
theorem abg (f:Nat) (o:Int) (l:aO) (hf:40<=f) (hl:l.length<=24) (ho:o=20∨o=21∨o=22∨o=23∨o=24∨o=26∨o=27):Bl f o l=some (TG o l):=by
 have hc:=Xo f l (by omega) (by omega);unfold Bl;rcases ho with rfl|rfl|rfl|rfl|rfl|rfl|rfl
 ·rw[if_pos Z,bG hc,bG (tU f _),TG,if_pos Z];have:(decide (((l.countP nz:Nat):Int)=(l.length:Int)))=l.all nz:=by
   rw[Bool.eq_iff_iff];simp[List.countP_eq_length,Int.ofNat_inj]
  rw[this]
 ·rw[if_neg (by decide),if_pos Z,bG hc,bG (tU f _),TG,if_neg (by decide),if_pos Z];have:(decide ((0:Int)<((l.countP nz:Nat):Int)))=l.any nz:=by
   rw[Bool.eq_iff_iff,decide_eq_true_eq,List.any_eq_true,show((0:Int)<((l.countP nz:Nat):Int))↔0<l.countP nz by omega,List.countP_pos_iff]
  rw[this]
 ·rw[if_neg (by decide),if_neg (by decide),if_pos Z,bG hc];rfl
 ·rw[if_neg (by decide),if_neg (by decide),if_neg (by decide),if_pos Z,bG (XN f l (by omega) (by omega))];rfl
 ·rw[if_neg (by decide),if_neg (by decide),if_neg (by decide),if_neg (by decide),if_pos Z,aex f l (by omega) (by omega)];rfl
 ·rw[if_neg (by decide),if_neg (by decide),if_neg (by decide),if_neg (by decide),if_neg (by decide),if_neg (by decide),if_pos Z,aeP f l (by omega) (by omega)];rfl
 ·rw[if_neg (by decide),if_neg (by decide),if_neg (by decide),if_neg (by decide),if_neg (by decide),if_neg (by decide),if_neg (by decide),if_pos Z,bG (aew f l (by omega) (by omega))];rfl
end Go.Proofs.YtlkhndebimcbbaaGreatDoor