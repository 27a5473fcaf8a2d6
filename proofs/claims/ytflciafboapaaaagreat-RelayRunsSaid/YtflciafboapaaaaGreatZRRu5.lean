/- Models and proofs. Conditions: none. -/
import Derived.Test.YtflciafboapaaaaGreatZRRu4
import Derived.RecoverIn
import Derived.DefersIn
import Derived.Lib.Bytealg
import Derived.Test.YtflciafboapaaaaGreatZRRu2
import Derived.Test.YtflciafboapaaaaGreatZRRu1
set_option linter.unusedVariables false
set_option linter.unusedSimpArgs false
set_option maxHeartbeats 4000000
set_option maxRecDepth 20000
namespace Go.Gx
open Go Go.Sx
section
variable {P:Program} {gs:BY} {w0:f_ gs} {tb:TB}
theorem Qp:tT P w0 (λ_ _ _=>none):=λf b H g a h=>by cases h
theorem Kf:Jg P w0 tb (λ_ _ _ _=>none):=λb c d H a h=>by cases h
theorem aaQ {C:CH} {G:LH} (y:gQ P tb) (Q:P.follows .mixedOrders=true) (k:∀w0:f_ gs,tT P w0 C) (l:Jg P w0 tb G) {f:Nat} {d:Func} {J:List GV} {H:GH} {c:P_} (L:P.funcs[f]? = some d) (A:okF tb d=true) (h:Wd tb C G d J H=some c) (O:c.e = .ret) {t:fK} {w:World} {s:List V0} (R:iD w0 t H w) (E:qJ t J s):
  Calls P f s.toArray w λe u=>∃v a,e = .returned v/\t.le a/\iD w0 a c.H u/\Rl a (VN c.vs) v:=by
 obtain⟨M,N⟩:=QL A;obtain⟨i,D,h⟩:=aD.1 (show ob d.body _=some c from h);obtain⟨K,m,h⟩:=sF h;rw[List.range_eq_range']at m;have r:=Ln m;have S:s.length<=d.ntmps:=by rw[<-E.len,r];exact N
 refine yW L D ?_;have F:mE t d.ntmps K {tmps:=s.toArray++Array.replicate (d.ntmps - s.toArray.size) undef,defers:=[]}:=by
  refine Oy Z (by simp;omega) E (λj v p=> ?_) m;have z:=bK p;rw[Nat.zero_add,zBd (by simpa using z)];simpa using p
 refine EM y Q k l i _ _ _ ⟨K,H⟩ c t _ w _ (M i D) h F R ⟨λI a B u q b n o=> ?_,λid I a B u q b n o=> ?_,λI a B u q b n o=> ?_⟩
 ·obtain⟨x,v,p,g⟩:=IG (fn:=d) y Z n o q;exact Sx.body_end (.inr Z) n.defers g ⟨v,a,rfl,b,by rw[x];exact o,p⟩
 ·have:=CK q;rw[O]at this;cases this
 ·obtain⟨x,v,p,g⟩:=IG (fn:=d) y Z n o q;exact Sx.body_end (.inl Z) n.defers g ⟨v,a,rfl,b,by rw[x];exact o,p⟩
noncomputable def Np (tb:TB) (f:Nat) (a:Func):CH:=λg b H=>bif Nat.beq g f then NP (Wd tb (λ_ _ _=>none) (λ_ _ _ _=>none) a b H)else none
theorem Xg (m:gQ P tb) (p:P.follows .mixedOrders=true) {f:Nat} {c:Func} (k:P.funcs[f]? = some c) (n:bB P f) (i:okF tb c=true):tT P w0 (Np tb f c):=λg r H x j h t w s R q=>by
 unfold Np at h;cases b:Nat.beq g f with
 |false=>rw[b]at h;cases h
 |true=>
 rw[b]at h;have b:=zA7 b;subst b;replace h:NP (Wd tb (λ_ _ _=>none) (λ_ _ _ _=>none) c r H)=some (x,j):=h;unfold NP at h;obtain⟨o,l,a⟩:=aD.1 h;cases d:o.e with
 |normal=>rw[d]at a;cases a
 |exit id=>rw[d]at a;cases a
 |ret=>
  rw[d]at a;cases a;exact .inr ⟨n _ w,aaQ m p (λ_=>Qp) Kf k i l d R q⟩
theorem V_ {id:Nat} {o:Oper} {l:List Oper} {Q:Exit->Act->List Frame->World->Prop} {a:Act} {d:List Frame} {w:World} (x:l.all kB=true) (C:o.guard=none) (r:(execOp a.eval o).run P w = .ok .recover w)
  (q:recoverD d=none) (h:Sx.wpList P (o::l).toArray (λe g t=>Q e g d t) l (a.put o.dst .nilIface) w):(Code.region id (o::l).toArray false).wpSIn (FR none) 0 P Q a d w:=by
 intro b k B f u c;have y:(o::l).toArray[0]? = some o:=by simp
 obtain⟨e,g,t,E,i⟩:=wp_opsIn (F:=FR none) (n:=0) (Q:=λe g t=>Q e g d t) (ops:=(o::l).toArray) (List.range' 1 l.length) (a.put o.dst .nilIface) w
  (by rw[wpOpsIn_eq_wpListIn l 1 (by intro j;simp[Nat.add_comm 1 j])];exact Sx.wpList_in l _ w x h) b k d f u c
 have H:Region.wanted o (yielded (o::l).toArray a.tmps)=true:=by simp[Region.wanted,C]
 have A:(lone (b.atR a (.inRegion (o::l).toArray (0::List.range' 1 l.length)::k)) d w).fenced P (FR none):=fenced_oper u c y (λ_ _=>trivial);have p:=stepGR_op (P:=P) (b:=b) (k:=k) (cs:=d) (w:=w) (rest:=List.range' 1 l.length) y H;rw[f,Oper.semAt_none]at p;have m:∀v,(b.atR a (.inRegion (o::l).toArray (0::List.range' 1 l.length)::k)).finish v=b.atR (a.put o.dst v) (.inRegion (o::l).toArray (List.range' 1 l.length)::k):=by
  intro v;rw[Frame.finish_atR,y];rfl
 have D:(b.atR a (.inRegion (o::l).toArray (0::List.range' 1 l.length)::k)).kind = .deferred:=B;have s:=tryRecover_deferred D d;have G:List.range (o::l).toArray.size=0::List.range' 1 l.length:=by simp[List.range_eq_range',List.range'_succ]
 have z:=stepR_region (P:=P) (b:=b) (a:=a) (k:=k) (cs:=d) (w:=w) (id:=id) (ops:=(o::l).toArray);rw[G]at z;refine⟨e,g,d,t,rfl,E,.of_steps (.head (fenced_calm u c Z) z (.one A (step_lone_go ?_))) i⟩
 rw[p,<-m];simp only[Frame.atR,f]at s ⊢;simp[stepG.apply,r,s,q]
theorem Vl {ch:CH} {lp:LH} (I:gQ P tb) (hm:P.follows .mixedOrders=true) {f:Nat} {i:Func} {id m d:Nat} {o:Oper} {l:List Oper} {b:Code} {U:Cx} {q:P_} {a:Array V0} {w:World}
  (c:∀w0:f_ noG,tT P w0 ch) (p:Jg P (f_.one w) tb lp) (X:P.funcs[f]? = some i) (V:i.body=some (.seq (.region id (o::l).toArray false) b)) (B:o.guard=none) (W:o.dst=some d) (A:d<i.ntmps)
  (u:∀ρ w,(execOp ρ o).run P w = .ok .recover w) (K:l.all (Jx i.ntmps)=true) (hr:Jc tb i.ntmps b=true) (s:i.results = #[]) (aa:a.size<=i.ntmps)
  (h:Hk tb ch (o::l) (evC tb ch lp b m U (IF [])) l ⟨[(d,.inil)],H0⟩=some q) (J:q.e = .normal):
  CallsDIn (FR none) 0 P f a .returning w λe u' E=>∃v,e = .returned v/\u' = .returning/\Nb w E:=by
 have D:l.all kB=true:=zA8.2 λo C=>(vT (zA8.1 K o C)).1;refine callsDIn_of_wpSIn X V trivial λk T M=> ?_;have r:recoverD (k::T)=none:=by simp[recoverD,M]
 refine wpSIn_seq (V_ D B (u _ _) r ?_);have F:mE (λ_=>none) i.ntmps [(d,.inil)] (({tmps:=a++Array.replicate (i.ntmps - a.size) undef,defers:=[]}:Act).put o.dst .nilIface):=by
  rw[W];refine mE.put ⟨rfl,by simp;omega,λt g B=>(by cases B)⟩ A ?_;exact .inil
 refine Ip I (c (f_.one w)) l ⟨[(d,.inil)],H0⟩ _ _ w K F (iD.start (f_.one w) Z) h λs' G S E Y L Q R=> ?_;refine wpSIn_of_wpIn Z ?_;refine EM I hm c p b _ _ _ s' q G S E _ hr Y Q R ⟨λN x H O j n y z=> ?_,λid N x H O j n y z=> ?_,λN x H O j n y z=> ?_⟩
 ·refine⟨y.defers,k.mode,rfl,.tuple #[],?_,_,rfl,M,z.ext.ext⟩
  simp[results,s]
 ·have:=CK j;rw[J]at this;cases this
 ·have:=Ph j;rw[J]at this;cases this
theorem K_ {o:Oper} {l:List Oper} {b:Array Oper} {Q:Exit->Act->World->Prop} {a:Act} {w w':World} {v:V0} (c:o.guard=none) (d:(execOp a.eval o).run P w = .ok (.value v) w') (h:Sx.wpList P b Q l (a.put o.dst v) w'):Sx.wpList P b Q (o::l) a w:=by
 unfold Sx.wpList;rw[if_pos (by simp[Region.wanted,c])];exact .inl (by simp only[Oper.wp,d,Oper.upon];exact h)
theorem RJ {o:Oper} {l:List Oper} {b:Array Oper} {Q:Exit->Act->World->Prop} {a:Act} {w w':World} (c:o.guard=none) (d:(execOp a.eval o).run P w = .ok .skip w') (h:Sx.wpList P b Q l (a.put o.dst undef) w'):Sx.wpList P b Q (o::l) a w:=by
 unfold Sx.wpList;rw[if_pos (by simp[Region.wanted,c])];exact .inl (by simp only[Oper.wp,d,Oper.upon];exact h)
theorem Wa {o:Oper} {l:List Oper} {b:Array Oper} {Q:Exit->Act->World->Prop} {a:Act} {w:World} {f:Nat} {args:Array V0} {S:V0->World->Prop} (d:o.guard=none) (g:(execOp a.eval o).run P w = .ok (.enter f args) w)
  (c:Calls P f args w λe w'=>∃v,e = .returned v/\S v w') (h:∀v w',S v w'->Sx.wpList P b Q l (a.put o.dst v) w'):Sx.wpList P b Q (o::l) a w:=by
 unfold Sx.wpList;rw[if_pos (by simp[Region.wanted,d])];refine .inl ?_;simp only[Oper.wp,g,Oper.upon];refine c.mono ?_;rintro e w' ⟨v,rfl,i⟩;exact h v w' i
theorem adh (N:gQ P tb) {c cc T1 T2 i0 i1 i2 i3 y0 y1 y2 y3 y4 y5 y6 y7:Nat} {p0 p1 p2 p3 p4 p5 p6 p7:String} {e0 e1 e2 e3 e4 e5 e6 e7:Array Edge} {z:Func} (hf:P.funcs[c]? = some z) (ah:bB P c) (ai:bB P cc)
  (hb:z.body=some (.seq (.region i0 #[⟨some 2,.alloc T1,y0,p0,e0,none⟩,⟨some 3,.alloc T2,y1,p1,e1,none⟩] false)
   (.seq (.region i1 #[⟨some 4,.makeFunc (.func cc) #[] #[.tmp 2,.tmp 3],y2,p2,e2,none⟩,⟨none,.defer ⟨.value (.tmp 4),#[],#[]⟩,y3,p3,e3,none⟩] false)
   (.seq (.region i2 #[⟨some 5,.move (.tmp 0),y4,p4,e4,none⟩,⟨some 6,.call ⟨.value (.tmp 5),#[],#[]⟩,y5,p5,e5,none⟩] false)
   (.seq (.region i3 #[⟨none,.store T1 (.tmp 2) (.const (.int .i64 0)),y6,p6,e6,none⟩,⟨none,.store T2 (.tmp 3) (.const (.int .i64 0)),y7,p7,e7,none⟩] false) .ret)))))
  (hn:z.ntmps=7) (U:z.results = #[.cell 2 T1,.cell 3 T2])
  (ab:∀H,rH tb T1 H=some (.ptr H.n 0,H.new (.cells [AH]))) (ac:∀H,rH tb T2 H=some (.ptr H.n 0,H.new (.cells [AH])))
  (af:∀H h c,GH.cells H h=some [c]->lQ tb T1 (.ptr h 0) AH H=some (.un,H.set h (.cells [AH]))) (ag:∀H h c,GH.cells H h=some [c]->lQ tb T2 (.ptr h 0) AH H=some (.un,H.set h (.cells [AH])))
  (ad:∀H h,GH.cells H h=some [AH]->sR tb T1 (.ptr h 0) H=some AH) (ae:∀H h,GH.cells H h=some [AH]->sR tb T2 (.ptr h 0) H=some AH)
  (O:∀o w,o.size=2->CallsDIn (FR none) 0 P cc o .returning w λe u' l=>∃v,e = .returned v/\u' = .returning/\Nb w l)
  {I:fK} {g:Nat} {k j:List V0} {w:World} {H E:GH} {c1 c2:GV} (R:iD w0 I H w) (hc:∀i l,I.le i->iD w0 i ((H.new (.cells [AH])).new (.cells [AH])) l->∃x,mU P w0 i g (k++j) l x E) (h1:E.cells H.n=some [c1]) (L:E.cells (H.n+1)=some [c2]):
  mU P w0 I c [.func (.func g) k.toArray j.toArray] w (.tup [AH,AH]) ((((E.set H.n (.cells [AH])).set (H.n+1) (.cells [AH])).del H.n).del (H.n+1)):=by
 let X:=(E.set H.n (.cells [AH]))
 let u:=X.set (H.n+1) (.cells [AH]);refine .inr ⟨ah _ w,?_⟩;refine Qq (r:=none) (n:=0) (callsIn_of_wp_defers hf hb trivial ?_);rw[hn];obtain⟨b,w1,aq,ak,C,R1,V⟩:=JJ (P:=P) N R (ab H);obtain⟨d,y,J,al,p,R2,W⟩:=JJ (P:=P) N R1 (ac _);obtain⟨x,hx⟩:=hc J y (fK.le_trans C p) R2;refine wpIn_seq (vG Z ?_);refine K_ Z (v:=b) (w':=w1) (by simp[execOp,ak]) ?_;refine K_ Z (v:=d) (w':=y) (by simp[execOp,al]) ?_;show Code.wpIn (FR none) 0 P _ _ (⟨#[.func (.func g) k.toArray j.toArray,undef,b,d,undef,undef,undef],[]⟩:Act) y;refine wpIn_seq (wpIn_region_lit ?_);refine wpListIn_plain Z λK hK=>⟨λ_ _=>trivial,?_⟩
 have hm:(Oper.semAt (FR none).round (⟨#[.func (.func g) k.toArray j.toArray,undef,b,d,undef,undef,undef],[]⟩:Act).eval ⟨some 4,.makeFunc (.func cc) #[] #[.tmp 2,.tmp 3],y2,p2,e2,none⟩).run P y = .ok (.value (.func (.func cc) #[] #[b,d])) y:=by
  rw[show(FR none).round=none from rfl,Oper.semAt_none];simp[execOp,Instr.makeFunc,Act.eval]
 rw[hm];refine hK _ _ ?_;show wpListIn _ _ _ _ _ _ (⟨#[.func (.func g) k.toArray j.toArray,undef,b,d,.func (.func cc) #[] #[b,d],undef,undef],[]⟩:Act) y;refine wpListIn_plain Z λK hK=>⟨λ_ _=>trivial,?_⟩
 have hm:(Oper.semAt (FR none).round (⟨#[.func (.func g) k.toArray j.toArray,undef,b,d,.func (.func cc) #[] #[b,d],undef,undef],[]⟩:Act).eval ⟨none,.defer ⟨.value (.tmp 4),#[],#[]⟩,y3,p3,e3,none⟩).run P y = .ok (.defer ⟨.fn (.func cc) #[b,d],#[]⟩) y:=by
  rw[show(FR none).round=none from rfl,Oper.semAt_none];simp[execOp,resolve,Act.eval,Deferred.ofValue]
 rw[hm];refine hK _ _ ?_;show Code.wpIn (FR none) 0 P _ _ (⟨#[.func (.func g) k.toArray j.toArray,undef,b,d,.func (.func cc) #[] #[b,d],undef,undef],[⟨.fn (.func cc) #[b,d],#[]⟩]⟩:Act) y;refine wpIn_seq (vG Z ?_);refine K_ Z (v:= .func (.func g) k.toArray j.toArray) (w':=y) (by simp[execOp,Act.eval]) ?_;show Sx.wpList _ _ _ _ (⟨#[.func (.func g) k.toArray j.toArray,undef,b,d,.func (.func cc) #[] #[b,d],.func (.func g) k.toArray j.toArray,undef],[⟨.fn (.func cc) #[b,d],#[]⟩]⟩:Act) y;have go:∀v D m,J.le m->iD w0 m E D->Code.wpIn (FR none) 0 P (.seq (.region i3 #[⟨none,.store T1 (.tmp 2) (.const (.int .i64 0)),y6,p6,e6,none⟩,⟨none,.store T2 (.tmp 3) (.const (.int .i64 0)),y7,p7,e7,none⟩] false) .ret) (bodyPostDIn (FR none) 0 P z λe l=>∃v i,e = .returned v/\I.le i/\iD w0 i (((u).del H.n).del (H.n+1)) l/\Rl i (.tup [AH,AH]) v) (⟨#[.func (.func g) k.toArray j.toArray,undef,b,d,.func (.func cc) #[] #[b,d],.func (.func g) k.toArray j.toArray,v],[⟨.fn (.func cc) #[b,d],#[]⟩]⟩:Act) D:=by
  intro v D m a M;have hz:∀I,Rl I AH (.int .i64 0):=λI=> .int _ _;obtain⟨_,w4,ar,am,q,R4⟩:=JK (P:=P) (T:=T1) N M ((V.le p).le a) (hz _) (af _ _ _ h1);have aa:X.cells (H.n+1)=some [c2]:=by
   rw[jU]at L ⊢;rw[tU,if_neg (by omega)];exact L
  obtain⟨_,w5,Y,an,s,R5⟩:=JK (P:=P) (T:=T2) N R4 ((W.le a).le q) (hz _) (ag _ _ _ aa);refine wpIn_seq (vG Z ?_);refine RJ Z (w':=w4) (by simp[execOp,Act.eval,am]) ?_;refine RJ Z (w':=w5) (by simp[execOp,Act.eval,Act.put,an]) ?_;refine wpIn_ret ?_;show LeavesIn (FR none) 0 P z #[.func (.func g) k.toArray j.toArray,undef,b,d,.func (.func cc) #[] #[b,d],.func (.func g) k.toArray j.toArray,v] _ [⟨.fn (.func cc) #[b,d],#[]⟩] .returning w5;refine leavesIn_cons (f:=cc) (args:= #[b,d]) (by simp) (by simp[FR,Fence.wide]) (by simp[invoke,ai _ w5]) (λ_ _=>trivial) ?_;refine(O #[b,d] w5 Z).mono ?_;rintro e u' w6 ⟨x6,rfl,rfl,Q⟩;have R6:=R5.ext' Q;have F:mE Y 7 [(2,.ptr H.n 0),(3,.ptr (H.n+1) 0)] (⟨#[.func (.func g) k.toArray j.toArray,undef,b,d,.func (.func cc) #[] #[b,d],.func (.func g) k.toArray j.toArray,v],[]⟩:Act):=by
   refine⟨rfl,rfl,λt g B=> ?_⟩
   rw[CQ]at B;by_cases L:t=2
   ·rw[if_pos L]at B;cases B;rw[L];exact(((V.le p).le a).le q).le s
   ·rw[if_neg L,CQ]at B;by_cases h3:t=3
    ·rw[if_pos h3]at B;cases B;rw[h3];exact((W.le a).le q).le s
    ·rw[if_neg h3]at B;cases B
  have G:Tl tb ⟨z.results.toList,0,[]⟩ ⟨[(2,.ptr H.n 0),(3,.ptr (H.n+1) 0)],u⟩=some ⟨.ret,[AH,AH],u⟩:=by
   rw[U];have q1:sR tb T1 (.ptr H.n 0) (u)=some AH:=ad _ _ (by rw[jU,tU,if_neg (by omega),tU,if_pos Z]);have q2:sR tb T2 (.ptr (H.n+1) 0) (u)=some AH:=ae _ _ (by rw[jU,tU,if_pos Z]);show ob (ob (sR tb T1 (.ptr H.n 0) _) λv=>ob (ob (sR tb T2 (.ptr (H.n+1) 0) _) λv=>ob (some []) λvs=>some (v::vs)) λvs=>some (v::vs)) _=_;rw[q1,q2];rfl
  obtain⟨_,v6,ap,ao⟩:=IG (fn:=z) (P:=P) N Z F R6 G;exact⟨v6,ao,v6,Y,rfl,fK.le_trans C (fK.le_trans p (fK.le_trans a (fK.le_trans q s))),(R6.del _).del _,ap⟩
 rcases hx with⟨v,D,m,hr,a,M,_⟩|⟨hr,A⟩
 ·refine K_ Z (v:=v) (w':=D) (by simpa [execOp,resolve,Act.eval,Deferred.ofValue,invoke]using hr) ?_;exact go v D m a M
 ·refine Wa Z (f:=g) (args:=(k++j).toArray) (S:=λv l=>∃i,J.le i/\iD w0 i E l) (by simpa [execOp,resolve,Act.eval,Deferred.ofValue,invoke]using hr) (A.mono ?_) λv D ⟨m,a,M⟩=>go v D m a M;rintro e l ⟨v,i,rfl,aj,R',_⟩;exact⟨v,rfl,i,aj,R'⟩
end
noncomputable section
def SR (n c a:Nat):Nat->Option Nat:=Nat.rec (motive:=λ_=>Nat->Option Nat) (λ_=>none) (λ_ b i=>Bool.casesOn (motive:=λ_=>Option Nat) (Nat.beq (Nat.mod (Nat.shiftRight n (Nat.mul 8 i)) 256) c) (b (Nat.succ i)) (some i)) a
def ahu (k:IntKind):Bool:=match k with
 | .u8=>true
 |_=>false
def XK (b f:Nat) (d:List GV):Option GV:=bif Nat.beq f b then List.casesOn (motive:=λ_=>Option GV) d none (λa r=>List.casesOn (motive:=λ_=>Option GV) r none λc r=>List.casesOn (motive:=λ_=>Option GV) r (ob a.asStr λs=>ob c.asI λp=>ob (asN p.2) λk=>
 bif ahu p.1 then(bif Nat.blt k 256 then Option.casesOn (motive:=λ_=>Option GV) (SR s.1 k s.2 0) (some (.int .i64 (.negSucc 0))) (λi=>some (.int .i64 (.ofNat i)))else none)else none) λ_ _=>none)else none
theorem Uj (x:List UInt8) (c:Nat) (m:c<256):∀k i,i+k=x.length->(match SR (mT x) c k i with|none=>(-1:Int)|some j=>(j:Int))=(if Lib.indexByte (x.drop i) c.toUInt8 = -1 then -1 else Lib.indexByte (x.drop i) c.toUInt8+i)
 |0,i,h=>by
  rw[List.drop_of_length_le (by omega)];simp[SR,Lib.indexByte]
 | k + 1, i, h => by
  have o:=Uj x c m k (i+1) (by omega);have g:i<x.length:=by omega
  have e:SR (mT x) c (k+1) i=Bool.casesOn (motive:=λ_=>Option Nat) (Nat.beq (Nat.mod (Nat.shiftRight (mT x) (Nat.mul 8 i)) 256) c) (SR (mT x) c k (i+1)) (some i):=rfl;rw[e,Ud x i g,List.drop_eq_getElem_cons g];have a:(x[i]).toNat=c↔x[i]=c.toUInt8:=by
   rw[<-UInt8.toNat_inj];have:c.toUInt8.toNat=c:=by simp[Nat.toUInt8];omega
   rw[this]
  unfold Lib.indexByte;cases d:Nat.beq (x[i]).toNat c with
  |true=>
   have:=a.1 (zA7 d);simp[this]
  | false =>
   have f:¬x[i]=c.toUInt8:=λl=>by
    have:=a.2 l;rw[this]at d;simp at d
   have n:=Lib.indexByte_ge (x.drop (i+1)) c.toUInt8;simp only[beq_iff_eq,f,if_false];rw[o];by_cases b:Lib.indexByte (x.drop (i+1)) c.toUInt8 = -1
   ·simp[b]
   ·rw[if_neg b,if_neg b,if_neg (by omega)]
    push_cast;omega
section
variable {P:Program} {gs:BY} {w0:f_ gs}
theorem aaW {u:Nat} {l:Func} (F:P.funcs[u]? = some l) (e:(l.name == "runtime.NumGoroutine")=false) (D:l.body.isNone=true) (I:Extern.findNext l=none) (E:Extern.find l=some Extern.BytealgIndexByte.indexByte)
  {f:Nat} {i:List GV} {g:GV} (h:XK u f i=some g) (q:fK) (w:World) (o:List V0) (H:GH) (R:iD w0 q H w) (m:qJ q i o):mU P w0 q f o w g H:=by
 unfold XK at h;replace h:=bY.1 h;have C:=zA7 h.1;replace h:=h.2;subst C;cases i with
 |nil=>cases h
 |cons a i=>
 cases i with
 |nil=>cases h
 |cons c i=>
 cases i with
 |cons _ _=>cases h
 |nil=>
 obtain⟨s,L,h⟩:=aD.1 (show ob a.asStr _=some g from h);obtain⟨p,J,h⟩:=aD.1 h;obtain⟨k,G,h⟩:=aD.1 h;obtain⟨x,h⟩:=bY.1 h;obtain⟨d,h⟩:=bY.1 h;obtain⟨v,o,rfl,y,m⟩:=m.of_cons;obtain⟨N,o,rfl,b,m⟩:=m.of_cons;rw[m.of_nil];rw[qT L]at y;rw[nI J]at b;obtain⟨S,rfl,A,M⟩:=y.str_inv;have b:=b.int_inv;subst b;have t:p.1 = .u8:=by cases K:p.1<;>rw[K]at x<;>first|rfl|cases x
 have r:p.2=(k:Int):=HF G;have d:k<256:=by simpa using d
 refine .inl ⟨.int .i64 (Lib.indexByte S.data.toList p.2.toNat.toUInt8),w,q,?_,fK.le_refl _,R,?_⟩
 ·rw[run_callFunc_extern F e D I E,t,Lib.run_indexByteString];rfl
 ·have n:=Uj (bV S) k d s.2 0 (by omega);rw[A]at h;rw[List.drop_zero]at n;have B:Lib.indexByte S.data.toList p.2.toNat.toUInt8=(match SR (mT (bV S)) k s.2 0 with|none=>(-1:Int)|some j=>(j:Int)):=by
   rw[n,r];have:bV S=S.data.toList:=rfl;rw[this];simp only[zAi];split
   ·assumption
   ·omega
  rw[B];cases z:SR (mT (bV S)) k s.2 0 with
  |none=>rw[z]at h;cases h;exact .int _ _
  |some j=>rw[z]at h;cases h;exact .int _ _
end
end
noncomputable section
def adp {a:Type} (c:Nat) (d:List GV->Option a) (n:Nat):List GV->Option (List a):=Nat.rec (motive:=λ_=>List GV->Option (List a)) (λ_=>some []) (λ_ e b=>ob (d (b.take c)) λy=>ob (e (b.drop c)) λf=>some (y::f)) n
def SD {b:Type} (H:GH) (a:Nat) (d:List GV->Option b) (v:GV):Option (List b):=ob (vH H a v) λp=>bif Nat.ble p.1 1099511627776 then adp a d p.1 p.2 else none
def dI (k:IntKind) (a:List GV):Option Int:=List.casesOn (motive:=λ_=>Option Int) a none λc r=>List.casesOn (motive:=λ_=>Option Int) r (ob c.asI λp=>bif decide (p.1=k)then some p.2 else none) λ_ _=>none
def dP {b c:Type} (n:Nat) (d:List GV->Option b) (e:List GV->Option c) (a:List GV):Option (b×c):=ob (d (a.take n)) λx=>ob (e (a.drop n)) λy=>some (x,y)
def dS {a:Type} (H:GH) (e:Nat) (d:List GV->Option a) (b:List GV):Option (List a):=List.casesOn (motive:=λ_=>Option (List a)) b none λc r=>List.casesOn (motive:=λ_=>Option (List a)) r (SD H e d c) λ_ _=>none
end
section
variable {P:Program} {gs:BY} {w0:f_ gs} {w:World} {ρ:fK} {H:GH} {S:Nat->Prop}
def All (_:Nat):Prop:=True
def jZ {b c:Type} (S:Nat->Prop) (ρ:fK) (w:World) (d:List GV->Option c) (r:eJ b) (e:b->c):Prop:=∀gs a y,qJ ρ gs a->d gs=some y->gs.length=r.sz->∃z,e z=y/\r.R w S a z
theorem jZ.int (k:IntKind):jZ S ρ w (dI k) (eJ.int k) id:=λgs f y b h _=>by
 cases gs with
 |nil=>cases h
 |cons c gs=>
 cases gs with
 |cons _ _=>cases h
 |nil=>
 obtain⟨p,e,h⟩:=aD.1 (show ob c.asI _=some y from h);obtain⟨a,h⟩:=bY.1 h;cases h;obtain⟨v,f,rfl,d,b⟩:=b.of_cons;rw[b.of_nil];rw[nI e]at d;rw[d.int_inv];have a:=zB2 a;exact⟨p.2,rfl,by rw[a];rfl⟩
theorem jZ.pair {q t b c:Type} {d:List GV->Option b} {e:List GV->Option c} {r:eJ q} {s:eJ t} {m:q->b} {n:t->c} (u:jZ S ρ w d r m) (A:jZ S ρ w e s n):jZ S ρ w (dP r.sz d e) (eJ.pair r s) (λz=>(m z.1,n z.2)):=λgs l y f h p=>by
 obtain⟨x,B,h⟩:=aD.1 (show ob (d (gs.take r.sz)) _=some y from h);obtain⟨F,j,h⟩:=aD.1 h;cases h;have p:gs.length=r.sz+s.sz:=p;have E:=f.len;obtain⟨z,rfl,C⟩:=u _ (l.take r.sz) _ (by simpa using f.sub 0 r.sz) B (by simp;omega);obtain⟨D,rfl,k⟩:=A _ (l.drop r.sz) _ ⟨by simp;omega,λi g v o a=>by rw[zAt]at o a;exact f.at' _ _ _ o a⟩ j (by simp;omega);exact⟨(z,D),rfl,_,_,(zBc r.sz l).symm,C,k⟩
theorem Uc {C D:Type} {d:List GV->Option D} {r:eJ C} {E:C->D} (F:jZ S ρ w d r E) (b:Nat):∀(n:Nat) (f:List GV) (m:List V0) (a:Nat) (l:List D),adp r.sz d n f=some l->qJ ρ f m->f.length=n*r.sz->(∀(j:Nat) x,m[j]? = some x->w.cell? ⟨b,a+j,none⟩=some x)->
  ∃p:List C,p.map E=l/\p.length=n/\∀(i:Nat) z,p[i]? = some z->∃q,(∀(j:Nat) e,q[j]? = some e->w.cell? ⟨b,a+(i*r.sz+j),none⟩=some e)/\r.R w S q z
 |0,f,m,a,l,h,hr,hl,hc=>by
  cases h;exact⟨[],rfl,rfl,λi z t=>by simp at t⟩
 | n + 1, f, m, a, l, h, hr, hl, hc => by
  obtain⟨y,M,h⟩:=aD.1 (show ob (d (f.take r.sz)) (λy=>ob (adp r.sz d n (f.drop r.sz)) λl=>some (y::l))=some l from h);obtain⟨B,s,h⟩:=aD.1 h;cases h;rw[Nat.succ_mul]at hl;have O:=hr.len;obtain⟨z,rfl,t⟩:=F _ (m.take r.sz) _ (by simpa using hr.sub 0 r.sz) M (by simp;omega);obtain⟨p,rfl,u,A⟩:=Uc F b n (f.drop r.sz) (m.drop r.sz) (a+r.sz) B s ⟨by simp;omega,λi g v G o=>by rw[zAt]at G o;exact hr.at' _ _ _ G o⟩ (by simp;omega) (λj x J=>by
   rw[zAt]at J;rw[Nat.add_assoc];exact hc _ _ J)
  refine⟨z::p,rfl,by simp[u],λi N c=> ?_⟩
  cases i with
  | zero =>
   simp at c;subst c;refine⟨_,λj e k=> ?_,t⟩
   rw[zAs]at k;by_cases I:j<r.sz
   ·rw[if_pos I]at k;have:=hc j e k;simpa using this
   ·rw[if_neg I]at k;cases k
  |succ i=>
   simp at c;obtain⟨q,K,L⟩:=A i N c;refine⟨q,λj e k=> ?_,L⟩
   have:=K j e k;rw[Nat.succ_mul];rw[show a+(i*r.sz+r.sz+j)=a+r.sz+(i*r.sz+j) by omega];exact this
theorem Qs (R:iD w0 ρ H w) {v:GV} {V:V0} {B:Nat} {p:Nat×List GV} (t:Rl ρ v V) (h:vH H B v=some p):
  p.2.length=p.1*B/\∃a c,V = .slice a p.1 c/\p.1<=c/\(p.1=0\/∃b i o,a=some ⟨b,i,none⟩/\w0.mine b/\qJ ρ p.2 o/\∀(j:Nat) x,o[j]? = some x->w.cell? ⟨b,i+j,none⟩=some x):=by
 obtain⟨o,C⟩:=EK R t h;refine⟨by rw[C.rel.len,C.len],?_⟩
 obtain⟨f,c,y,D,F⟩:=C.val;refine⟨f,c,y,D,?_⟩
 rcases F with⟨_,m,_⟩|⟨A,rfl,d⟩
 ·exact .inl m
 ·by_cases m:p.1=0
  ·exact .inl m
  ·refine .inr ?_;unfold vH at h;cases z:v.isSnil with
   |true=>rw[z]at h;cases h;exact absurd Z m
   | false =>
    rw[z]at h;obtain⟨s,I,h⟩:=aD.1 (show ob v.asS _=some p from h);rw[DF I,y]at t;obtain⟨l,u,K,G,e,E,n⟩:=t.sl_inv;injection e with k M N;injection k with k;rcases n with n|⟨n,_⟩
    ·omega
    ·rw[n]at k;subst k;have r:w0.mine l.b:=by
      obtain⟨_,h⟩:=bY.1 h;obtain⟨L,q,_⟩:=aD.1 h;obtain⟨O,g,r,_⟩:=R.live _ _ (jU.1 q);rw[G]at g;cases g;exact r
     exact⟨l.b,l.off+s.2.1,o,rfl,r,C.rel,λj x J=>by have:=d j x J;rwa[fF]at this⟩
theorem Im {m n:Type} {d:List GV->Option n} {r:eJ m} {o:m->n} (R:iD w0 ρ H w) (t:∀k,w0.mine k->S k) (u:jZ S ρ w d r o) {v:GV} {V:V0} {j:List n} (B:Rl ρ v V) (h:SD H r.sz d v=some j):∃l:List m,l.map o=j/\FC r w S V l:=by
 obtain⟨p,z,h⟩:=aD.1 (show ob (vH H r.sz v) _=some j from h);obtain⟨g,h⟩:=bY.1 h;have g:p.1<=1099511627776:=by simpa using g
 obtain⟨i,a,f,rfl,E,x⟩:=Qs R B z;rcases x with q|⟨b,e,D,rfl,y,A,c⟩
 ·rw[q]at h;cases h;exact⟨[],rfl,a,f,by rw[q];rfl,by simp,.inl Z⟩
 ·obtain⟨l,rfl,s,C⟩:=Uc u b p.1 p.2 D e j h A i c;exact⟨l,rfl,some ⟨b,e,none⟩,f,by rw[s],by rw[s];omega,.inr ⟨b,e,rfl,t b y,C⟩⟩
theorem jZ.sl {e f:Type} {d:List GV->Option f} {r:eJ e} {b:e->f} (R:iD w0 ρ H w) (g:∀k,w0.mine k->S k) (i:jZ S ρ w d r b):jZ S ρ w (dS H r.sz d) (eJ.sl r) (λz=>z.2.map b):=λgs vs y a h n=>by
 cases gs with
 |nil=>cases h
 |cons c gs=>
 cases gs with
 |cons _ _=>cases h
 |nil=>
 have h:SD H r.sz d c=some y:=h;obtain⟨v,vs,rfl,j,a⟩:=a.of_cons;rw[a.of_nil];obtain⟨m,rfl,l⟩:=Im R g i j h;exact⟨(v,m),rfl,rfl,l⟩
end
noncomputable section
def xM {c:Type} (e:Nat) (g:c->List GV) (a:List (List c)):GH->List GV×GH:=List.rec (motive:=λ_=>GH->List GV×GH) (λH=>([],H)) (λb _ d H=>let r:=d (H.new (.cells (b.flatMap g)));(.sl H.n 0 b.length e::r.1,r.2)) a
end
section
variable {P:Program} {gs:BY} {w0:f_ gs} {w:World} {ρ:fK} {H:GH}
def He (ρ:fK) (H:GH) (B:Nat->Prop):Prop:=∀h o l,H.get h=some o->ρ h=some l->¬B l.b
theorem He.mono {B b:Nat->Prop} (h:He ρ H B) (f:∀k,b k->B k):He ρ H b:=λa o l c d e=>h a o l c d (f _ e)
theorem He.start (R:iD w0 ρ H w):He ρ H (λk=>w.heap.size<=k):=λh o l b c e=>by
 obtain⟨f,a,_,d⟩:=R.live h o b;rw[c]at a;cases a;have:=d.lt;omega
theorem Jt {N:Type} {e:bM N} {d:List N} {cs:List GV} {v:V0} {B F:Nat->Prop} (R:iD w0 ρ H w) (A:He ρ H B) (U:∀k,B k->w0.mine k) (s:∀k,F k->B k) (V:AV e w F v d) (E:d≠[]) (t:qJ ρ cs (cellsOf e d)):
  ∃f,ρ.le f/\iD w0 f (H.new (.cells cs)) w/\Rl f (.sl H.n 0 d.length e.sz) v/\He f (H.new (.cells cs)) (λk=>B k/\¬F k):=by
 obtain⟨_,y,W⟩:=V;rcases W with⟨_,S⟩|⟨b,p,r,T,c,rfl,C,I,D,G,a⟩
 ·exact absurd S E
 have M:(cellsOf e d).length=d.length*e.sz:=by
  rw[<-a];simp;have:d.length*e.sz<=r*e.sz:=zAr _ D;omega
 have u:ρ.le (ρ.upd H.n ⟨b,p,c.size,.cells c T (0,0),.cells cs⟩):=Ba (R.fresh _ (zAe _));have J:d.length*e.sz<=r*e.sz:=zAr _ D;obtain⟨_,O⟩:=R.new (o:= .cells cs) (l:=⟨b,p,c.size,.cells c T (0,0),.cells cs⟩) R.ext (λh o' Y j m=>⟨rfl,λQ=>A h o' Y j m (by rw[Q];exact s _ C)⟩) (U _ (s _ C)) ⟨c,T,I,rfl,by
   show p+cs.length<=c.size;have:=t.len;omega,λi g j=>by
   obtain⟨x,q,X⟩:=t.get j;refine⟨x,?_,X.le u,zA8.1 y x (zA0 q)⟩
   rw[<-a,zAs]at q;by_cases K:i<d.length*e.sz
   ·rw[if_pos K,zAt,zAk]at q;exact q
   ·rw[if_neg K]at q;cases q⟩ I
 refine⟨_,u,O,.sl (by simp[fK.upd];rfl) D (.inr ⟨rfl,G⟩),λh o l j m L=> ?_⟩
 rw[rO]at j;by_cases z:h=H.n
 ·rw[z]at m;simp[fK.upd]at m;subst m;exact L.2 C
 ·rw[if_neg z]at j;simp only[fK.upd,if_neg z]at m;exact A h o l j m L.1
theorem OI {b:Type} {e:bM b} {g:b->List GV} (c:∀x,qJ ρ (g x) (e.enc x)):∀a:List b,qJ ρ (a.flatMap g) (cellsOf e a)
 | []=> .nil
 |x::a=>(c x).append (OI c a)
theorem LD {o:Type} {e:bM o} {g:o->List GV} (r:∀ρ x,qJ ρ (g x) (e.enc x)):∀(a:List (List o)) (vs:List V0) (G:Nat->Nat->Prop) (B:Nat->Prop) (ρ:fK) (H:GH),iD w0 ρ H w->He ρ H B->(∀k,B k->w0.mine k)->vs.length=a.length->
  (∀xs∈a,xs≠[])->(∀i v xs,vs[i]? = some v->a[i]? = some xs->AV e w (G i) v xs)->(∀i k,G i k->B k)->(∀i j k,G i k->G j k->i=j)->
  ∃c,ρ.le c/\iD w0 c (xM e.sz g a H).2 w/\qJ c (xM e.sz g a H).1 vs/\He c (xM e.sz g a H).2 (λk=>B k/\∀i,¬G i k)
 | [],vs,G,B,ρ,H,R,A,hB,hl,_,h1,h2,h3=>by
  have:vs=[]:=zAn hl;subst this;exact⟨ρ,fK.le_refl _,R,.nil,A.mono λk b=>b.1⟩
 |xs::a,[],G,B,ρ,H,R,A,hB,hl,_,h1,h2,h3=>by simp at hl
 |xs::a,v::vs,G,B,ρ,H,R,A,hB,hl,hne,h1,h2,h3=>by
  obtain⟨p,f,u,F,s⟩:=Jt R A hB (h2 0) (h1 0 v xs Z Z) (hne xs (by simp)) (OI (r ρ) xs);obtain⟨q,d,z,l,t⟩:=LD r a vs (λi=>G (i+1)) _ p _ u s (λk b=>hB k b.1) (by simpa using hl) (λy I=>hne y (by simp[I])) (λi J n h m=>h1 (i+1) J n (by simpa using h) (by simpa using m)) (λi k b=>⟨h2 _ k b,λC=>by have:=h3 _ _ k b C;omega⟩) (λi j k D E=>by have:=h3 _ _ k D E;omega);refine⟨q,fK.le_trans f d,z,.cons (F.le d) l,t.mono λk b=>⟨⟨b.1,b.2 0⟩,λi=>b.2 (i+1)⟩⟩
theorem NO:∀vs:List V0,cellsOf bM.raw vs=vs
 | []=>rfl
 |v::vs=>by show v::cellsOf bM.raw vs=_;rw[NO vs]
end
section
variable {P:Program} {gs:BY} {w0:f_ gs} {w:World} {ρ:fK} {H:GH}
theorem SQ {f:Nat} {a:List V0} {L:List bH} {V:V0} {g:GV} (c:bB P f) (d:bD P f a.toArray L (λ_:Unit=>V) (λ_ l=>l) (λ_ l=>l)) (R:iD w0 ρ H w) (b:∀h∈L,h.p w All) (i:∀ρ,Rl ρ g V):mU P w0 ρ f a w g H:=by
 refine .inr ⟨c _ w,(d w All b).mono ?_⟩;rintro e j ⟨_,rfl,t⟩;exact⟨V,ρ,rfl,fK.le_refl _,R.ext' t.old.ext,i _⟩
theorem SP {V W:Type} {e:bM V} {g:V->List GV} {q:bM W} {s:W->List GV} (hg:∀ρ x,qJ ρ (g x) (e.enc x)) (I:∀ρ x,qJ ρ (s x) (q.enc x)) {f:Nat} {S:List V0} {L:List bH} {r:List V×List (List W)} (C:r.1≠[]) (D:r.2≠[]) (h3:∀U∈r.2,U≠[]) (hb:bB P f)
  (hm:bD P f S.toArray L (λx:V0×V0×List V0=>Value.agg #[x.1,x.2.1]) (λx l=>Ar e x.1 r.1::Ar bM.raw x.2.1 x.2.2::gN q x.2.2 r.2::l) (λ_ l=>l)) (R:iD w0 ρ H w) (hL:∀h∈L,h.p w All):
  mU P w0 ρ f S w (.agg [.sl H.n 0 r.1.length e.sz,.sl (xM q.sz s r.2 (H.new (.cells (r.1.flatMap g)))).2.n 0 r.2.length 1]) ((xM q.sz s r.2 (H.new (.cells (r.1.flatMap g)))).2.new (.cells (xM q.sz s r.2 (H.new (.cells (r.1.flatMap g)))).1)):=by
 refine .inr ⟨hb _ w,(hm w All hL).mono ?_⟩;rintro en A ⟨x,rfl,t⟩;obtain⟨F,O,_⟩:=t.own;have q0:AV _ A (F 0) x.1 r.1:=O.res 0 _ Z;have q1:AV bM.raw A (F 1) x.2.1 x.2.2:=O.res 1 _ Z;obtain⟨z,G,q2,Q,q4⟩:(gN q x.2.2 r.2).p A (F 2):=O.res 2 _ Z;have R':=R.ext' t.old.ext;have E:∀i k,F i k->w.heap.size<=k:=λi k c=>by
  rcases(O.rng i k c).1 with h|h
  ·exact h
  exact h.elim
 obtain⟨X,y,R1,K,A1⟩:=Jt (B:=λk=>w.heap.size<=k) R' (λa o l C D=>He.start R a o l C D) (λk c=> .inl (zB1 R.ext.size c)) (E 0) q0 C (OI (hg ρ) r.1);obtain⟨ad,j,R2,M,A2⟩:=LD I r.2 x.2.2 G _ X _ R1 A1 (λk c=> .inl (zB1 R.ext.size c.1)) z h3 q2 (λi k c=>⟨E _ _ (Q i k c),λu=>by have:=O.dis _ _ k (Q i k c) u;omega⟩) q4;have J:x.2.2≠[]:=λu=>by rw[u]at z;exact D (zAn z.symm)
 obtain⟨Y,m,R3,N,_⟩:=Jt (cs:=(xM q.sz s r.2 (H.new (.cells (r.1.flatMap g)))).1) (F:=F 1) R2 A2 (λk c=> .inl (zB1 R.ext.size c.1.1)) (λk c=>⟨⟨E _ _ c,λu=>by have:=O.dis _ _ k c u;omega⟩,λi hi=>by have:=O.dis _ _ k c (Q i k hi);omega⟩) q1 J (by rw[NO];exact M);refine⟨_,Y,rfl,fK.le_trans y (fK.le_trans j m),R3,?_⟩
 refine Ie (vs:=[x.1,x.2.1]) (.cons ((K.le j).le m) (.cons (by rw[<-z];exact N) .nil)) λv hv=>?_;have d:∀{γ:Type} {e:bM γ} {F:Nat->Prop} {v:V0} {U:List γ},AV e A F v U->one v=true:=λh=>by
  obtain⟨_,_,h⟩:=h;rcases h with⟨rfl,_⟩|⟨b,ac,aa,T,ab,rfl,_⟩<;>rfl
 simp at hv;rcases hv with rfl|rfl
 ·exact d q0
 exact d q1
end
noncomputable section
def Nq (H:GH) (v:GV):Option (List Int):=SD H 1 (dI .i64) v
def Xq (H:GH) (v:GV):Option (List (List (Int×Int))):=SD H 1 (dS H 2 (dP 1 (dI .i64) (dI .i64))) v
def Xp (H:GH) (v:GV):Option (List Int×List (List (Int×Int))):=ob v.asA λc=>List.casesOn (motive:=λ_=>Option (List Int×List (List (Int×Int)))) c none λa r=>List.casesOn (motive:=λ_=>Option (List Int×List (List (Int×Int)))) r none λb r=>List.casesOn (motive:=λ_=>Option (List Int×List (List (Int×Int)))) r (ob (Nq H a) λx=>ob (Xq H b) λy=>some (x,y)) λ_ _=>none
end
section
variable {P:Program} {gs:BY} {w0:f_ gs} {w:World} {ρ:fK} {H:GH}
theorem Il (R:iD w0 ρ H w) {v:GV} {V:V0} {a:List Int} (b:Rl ρ v V) (h:Nq H v=some a):(Sl (eJ.int .i64) V a).p w All:=by
 obtain⟨d,rfl,c⟩:=Im R (λ_ _=>trivial) (jZ.int .i64) b h;rw[List.map_id];exact c
theorem Vq (R:iD w0 ρ H w) {v:GV} {V:V0} {b:List (List (Int×Int))} (c:Rl ρ v V) (h:Xq H v=some b):∃a,(S2 (eJ.pair (eJ.int .i64) (eJ.int .i64)) V a b).p w All:=by
 obtain⟨a,rfl,d⟩:=Im R (λ_ _=>trivial) (jZ.sl R (λ_ _=>trivial) (jZ.pair (jZ.int .i64) (jZ.int .i64))) c h;exact⟨a,d,by simp⟩
theorem Vp (R:iD w0 ρ H w) {v:GV} {V:V0} {p:List Int×List (List (Int×Int))} (j:Rl ρ v V) (h:Xp H v=some p):∃e f i,V = .agg #[e,f]/\(Sl (eJ.int .i64) e p.1).p w All/\(S2 (eJ.pair (eJ.int .i64) (eJ.int .i64)) f i p.2).p w All:=by
 obtain⟨c,g,h⟩:=aD.1 (show ob v.asA _=some p from h);rw[Lo g]at j;obtain⟨k,rfl,d,_⟩:=j.agg_inv;cases c with
 |nil=>cases h
 |cons a c=>
 cases c with
 |nil=>cases h
 |cons b c=>
 cases c with
 |cons _ _=>cases h
 |nil=>
 obtain⟨x,n,h⟩:=aD.1 (show ob (Nq H a) _=some p from h);obtain⟨y,o,h⟩:=aD.1 h;cases h;obtain⟨e,k,rfl,l,d⟩:=d.of_cons;obtain⟨f,k,rfl,m,d⟩:=d.of_cons;rw[d.of_nil];obtain⟨i,q⟩:=Vq R m o;exact⟨e,f,i,rfl,Il R l n,q⟩
end
noncomputable section
section
variable {α R:Type}
def a0 (a:List α) (k:Option R):Option R:=List.casesOn (motive:=λ_=>Option R) a k (λ_ _=>none)
def a1 (b:List α) (k:α->Option R):Option R:=List.casesOn (motive:=λ_=>Option R) b none λa r=>a0 r (k a)
def a2 (b:List α) (k:α->α->Option R):Option R:=List.casesOn (motive:=λ_=>Option R) b none λa r=>a1 r (k a)
def a3 (b:List α) (k:α->α->α->Option R):Option R:=List.casesOn (motive:=λ_=>Option R) b none λa r=>a2 r (k a)
def a4 (b:List α) (k:α->α->α->α->Option R):Option R:=List.casesOn (motive:=λ_=>Option R) b none λa r=>a3 r (k a)
def a5 (us:List α) (k:α->α->α->α->α->Option R):Option R:=List.casesOn (motive:=λ_=>Option R) us none λa r=>a4 r (k a)
def a6 (b:List α) (k:α->α->α->α->α->α->Option R):Option R:=List.casesOn (motive:=λ_=>Option R) b none λa r=>a5 r (k a)
theorem ZJ {a:List α} {k:Option R} {r:R} (h:a0 a k=some r):a=[]/\k=some r:=by
 cases a with
 |nil=>exact⟨rfl,h⟩
 |cons _ _=>cases h
theorem TF {a:List α} {k:α->Option R} {r:R} (h:a1 a k=some r):∃x,a=[x]/\k x=some r:=by
 cases a with
 |nil=>cases h
 |cons x a=>obtain⟨rfl,h⟩:=ZJ h;exact⟨x,rfl,h⟩
theorem TG {a:List α} {k:α->α->Option R} {r:R} (h:a2 a k=some r):∃x y,a=[x,y]/\k x y=some r:=by
 cases a with
 |nil=>cases h
 |cons x a=>obtain⟨y,rfl,h⟩:=TF h;exact⟨x,y,rfl,h⟩
theorem ZK {a:List α} {k:α->α->α->Option R} {r:R} (h:a3 a k=some r):∃x y z,a=[x,y,z]/\k x y z=some r:=by
 cases a with
 |nil=>cases h
 |cons x a=>obtain⟨y,z,rfl,h⟩:=TG h;exact⟨x,y,z,rfl,h⟩
theorem ZL {a:List α} {k:α->α->α->α->Option R} {r:R} (h:a4 a k=some r):∃x y z u,a=[x,y,z,u]/\k x y z u=some r:=by
 cases a with
 |nil=>cases h
 |cons x a=>obtain⟨y,z,u,rfl,h⟩:=ZK h;exact⟨x,y,z,u,rfl,h⟩
theorem ZM {a:List α} {k:α->α->α->α->α->Option R} {r:R} (h:a5 a k=some r):∃x y z u v,a=[x,y,z,u,v]/\k x y z u v=some r:=by
 cases a with
 |nil=>cases h
 |cons x a=>obtain⟨y,z,u,v,rfl,h⟩:=ZL h;exact⟨x,y,z,u,v,rfl,h⟩
theorem ZN {a:List α} {k:α->α->α->α->α->α->Option R} {r:R} (h:a6 a k=some r):∃x y z u v w,a=[x,y,z,u,v,w]/\k x y z u v w=some r:=by
 cases a with
 |nil=>cases h
 |cons x a=>obtain⟨y,z,u,v,w,rfl,h⟩:=ZM h;exact⟨x,y,z,u,v,w,rfl,h⟩
end
def dSc (k:IntKind) (v:GV):Option Int:=ob v.asI λp=>bif eqK p.1 k then some p.2 else none
def aeF (H:GH) (v:GV):Option (Int×List Int×List Int×List Int×Bool×Bool):=ob v.asA λg=>a6 g λa b c d e f=>ob (dSc .i64 a) λn=>ob (Nq H b) λx=>ob (Nq H c) λy=>ob (Nq H d) λz=>ob e.asB λp=>ob f.asB λq=>some (n,x,y,z,p,q)
def gI (n:Int):List GV:=[.int .i64 n]
def gP (p:Int×Int):List GV:=[.int .i64 p.1,.int .i64 p.2]
def fcI {R:Type} (l:List Int):(List Int->R)->R:=List.rec (motive:=λ_=>(List Int->R)->R) (λk=>k []) (λx _ a k=>fi x λx=>a λr=>k (x::r)) l
def fcP {R:Type} (l:List (Int×Int)):(List (Int×Int)->R)->R:=List.rec (motive:=λ_=>(List (Int×Int)->R)->R) (λk=>k []) (λx _ c k=>fi x.1 λa=>fi x.2 λb=>c λr=>k ((a,b)::r)) l
def fcR {R:Type} (l:List (List (Int×Int))):(List (List (Int×Int))->R)->R:=List.rec (motive:=λ_=>(List (List (Int×Int))->R)->R) (λk=>k []) (λx _ a k=>fcP x λx=>a λr=>k (x::r)) l
theorem XA {R:Type}:∀(l:List Int) (k:List Int->R),fcI l k=k l
 | [],k=>rfl
 |x::l,k=>by
  show fi x (λx=>fcI l λr=>k (x::r))=_;rw[Nw,XA l]
theorem XC {R:Type}:∀(l:List (Int×Int)) (k:List (Int×Int)->R),fcP l k=k l
 | [],k=>rfl
 |x::l,k=>by
  show fi x.1 (λa=>fi x.2 λb=>fcP l λr=>k ((a,b)::r))=_;rw[Nw,Nw,XC l]
theorem XD {R:Type}:∀(l:List (List (Int×Int))) (k:List (List (Int×Int))->R),fcR l k=k l
 | [],k=>rfl
 |x::l,k=>by
  show fcP x (λx=>fcR l λr=>k (x::r))=_;rw[XC,XD l]
def ace (b:Bool) (H:GH):OR:=Bool.casesOn (motive:=λ_=>OR) b (some (.bool false,H)) (some (.bool true,H))
def Td (r:List Int×List (List (Int×Int))) (H:GH):OR:=fcI r.1 λx=>fcR r.2 λy=>bif Nat.beq x.length 0 then none else bif Nat.beq y.length 0 then none else bif y.any λl=>Nat.beq l.length 0 then none else
 fc (x.flatMap gI) λl=>H.newK (.cells l) λh a=>fc (xM 2 gP y a).1 λd=>sn x.length λn=>sn y.length λm=>(xM 2 gP y a).2.newK (.cells d) λc b=>some (.agg [.sl h 0 n 1,.sl c 0 m 1],b)
end
section
variable {P:Program} {gs:BY} {w0:f_ gs} {w:World} {ρ:fK} {H H':GH} {g:GV}
theorem qJ.one {x:GV} {vs:List V0} (h:qJ ρ [x] vs):∃V,vs=[V]/\Rl ρ x V:=by
 obtain⟨v,vs,rfl,a,b⟩:=h.of_cons;rw[b.of_nil];exact⟨v,rfl,a⟩
theorem Xr {k:IntKind} {v:GV} {V:V0} {n:Int} (a:Rl ρ v V) (h:dSc k v=some n):V = .int k n:=by
 obtain⟨p,c,h⟩:=aD.1 (show ob v.asI _=some n from h);obtain⟨b,h⟩:=bY.1 h;cases h;rw[nI c]at a;rw[a.int_inv,Jn b]
theorem WN {v:GV} {V:V0} {b:Bool} (a:Rl ρ v V) (h:v.asB=some b):V = .bool b:=by
 rw[DD h]at a;exact a.bool_inv
theorem aaL (R:iD w0 ρ H w) {v:GV} {V:V0} {p:Int×List Int×List Int×List Int×Bool×Bool} (l:Rl ρ v V) (h:aeF H v=some p):
  ∃m o s,V = .agg #[.int .i64 p.1,m,o,s,.bool p.2.2.2.2.1,.bool p.2.2.2.2.2]/\(Sl (eJ.int .i64) m p.2.1).p w All/\(Sl (eJ.int .i64) o p.2.2.1).p w All/\(Sl (eJ.int .i64) s p.2.2.2.1).p w All:=by
 obtain⟨T,k,h⟩:=aD.1 (show ob v.asA _=some p from h);obtain⟨a,b,c,d,e,f,rfl,h⟩:=ZN h;obtain⟨n,I,h⟩:=aD.1 h;obtain⟨x,L,h⟩:=aD.1 h;obtain⟨y,M,h⟩:=aD.1 h;obtain⟨z,N,h⟩:=aD.1 h;obtain⟨q,J,h⟩:=aD.1 h;obtain⟨r,K,h⟩:=aD.1 h;cases h;rw[Lo k]at l;obtain⟨j,rfl,i,_⟩:=l.agg_inv;obtain⟨U,j,rfl,B,i⟩:=i.of_cons;obtain⟨O,j,rfl,C,i⟩:=i.of_cons;obtain⟨Q,j,rfl,D,i⟩:=i.of_cons;obtain⟨S,j,rfl,E,i⟩:=i.of_cons;obtain⟨W,j,rfl,F,i⟩:=i.of_cons;obtain⟨X,rfl,G⟩:=i.one;have t:=Xr B I;have u:=WN F J;have A:=WN G K;subst t u A;exact⟨O,Q,S,rfl,Il R C L,Il R D M,Il R E N⟩
theorem Tc {b:Bool} (h:ace b H=some (g,H')):g = .bool b/\H'=H:=by
 cases b<;>cases h<;>exact⟨rfl,rfl⟩
theorem QK {r:List Int×List (List (Int×Int))} (h:Td r H=some (g,H')):r.1≠[]/\r.2≠[]/\(∀a∈r.2,a≠[])/\
  g = .agg [.sl H.n 0 r.1.length 1,.sl (xM 2 gP r.2 (H.new (.cells (r.1.flatMap gI)))).2.n 0 r.2.length 1]/\H'=(xM 2 gP r.2 (H.new (.cells (r.1.flatMap gI)))).2.new (.cells (xM 2 gP r.2 (H.new (.cells (r.1.flatMap gI)))).1):=by
 unfold Td at h;rw[XA,XD]at h;obtain⟨b,h⟩:=lI.1 h;obtain⟨c,h⟩:=lI.1 h;obtain⟨d,h⟩:=lI.1 h;rw[Qv,jQ,Qv,yM,yM,jQ]at h;cases h;refine⟨λe=>(by rw[e]at b;cases b),λe=>(by rw[e]at c;cases c),λa f e=>?_,rfl,rfl⟩
 have:=List.any_eq_false.1 d a f;rw[e]at this;exact this Z
theorem aeK (ρ:fK) (x:Int):qJ ρ (gI x) [.int .i64 x]:= .cons (.int _ _) .nil
theorem aeL (ρ:fK) (x:Int×Int):qJ ρ (gP x) [.int .i64 x.1,.int .i64 x.2]:= .cons (.int _ _) (.cons (.int _ _) .nil)
theorem XM (w:World) (S:Nat->Prop) (_:∀h∈([]:List bH),h.p w S):∃_:Nat,JN noG w λ_=>False:=⟨0,λ_ h=>absurd h zB7⟩
theorem OW {gs:Nat->BY} {f:Nat} {V:V0} {L:List bH} (q:∀w S,(∀h∈L,h.p w S)->∃T,JN (gs T) w λ_=>False) (r:bB P f) (y:∀ρ d,Rl ρ g d->d=V) (h:∀T (b:f_ (gs T)),mU P b (λ_=>none) f [] b.w g H'):bD P f #[] L (λ_:Unit=>V) (λ_ l=>l) (λ_ l=>l):=by
 intro w0 o z;obtain⟨T,n⟩:=q w0 o z;rcases h T (.of w0 n)with⟨v,A,c,a,_⟩|⟨_,s⟩
 ·have x:=r #[] w0;rw[show([]:List V0).toArray = #[]from rfl]at a;rw[show(f_.of w0 n).w=w0 from rfl,x]at a;cases a
 refine s.mono ?_;rintro e A ⟨v,c,rfl,_,R,a⟩;exact⟨(),by rw[y _ _ a],R.ext,λ_ _=>False,⟨λi m u=>by simp at u,λi k h=>h.elim,λi j k h=>h.elim⟩,λf t=>by simp at t⟩
section
variable {tb:TB} {T:TypeId}
theorem TI (h:DZ tb T=some [AH]) (H:GH):rH tb T H=some (.ptr H.n 0,H.new (.cells [AH])):=by
 unfold rH;rw[h];show H.newK (.cells [AH]) (λh H'=>some (GV.ptr h 0,H'))=_;rw[jQ]
theorem UC {t:Ty} (h:tb T=some t) (e:t.size=1) (H:GH) (k:Nat) (c:GV) (d:GH.cells H k=some [c]):lQ tb T (.ptr k 0) AH H=some (.un,H.set k (.cells [AH])):=by
 show ob (H.cells k) (λb=>ob (tb T) λt=>bif Nat.beq 1 t.size then bif Nat.beq t.size 0 then none else ob (Is [AH] 0 b) λa=>H.setK k (.cells a) λH'=>some (GV.un,H')else none)=_;rw[d,h];show(bif Nat.beq 1 t.size then bif Nat.beq t.size 0 then none else ob (Is [AH] 0 [c]) λa=>H.setK k (.cells a) λH'=>some (GV.un,H')else none)=_;rw[e];show H.setK k (.cells [AH]) (λH'=>some (GV.un,H'))=_;rw[AW]
theorem Yb {t:Ty} (h:tb T=some t) (b:Bb t.desc=false) (H:GH) (k:Nat) (c:GH.cells H k=some [AH]):sR tb T (.ptr k 0) H=some AH:=by
 show ob (H.cells k) (λa=>ob (tb T) λt=>Du t a 0)=_;rw[c,h];show Du t [AH] 0=_;unfold Du;rw[b];rfl
end
def OE (a:Func):List Oper:=match a.body with
 |some (.seq (.region _ ops _) _)=>ops.toList
 |_=>[]
def Xe (a:Func):Code:=match a.body with
 |some (.seq _ c)=>c
 |_=> .skip
def aaI (a:Func):Nat:=match OE a with
 |o::_=>o.dst.getD 0
 | []=>0
def okN (r:RS):Bool:=match r with
 |some o=>match o.e with
  | .normal=>true
  |_=>false
 |none=>false
theorem Yl {r:RS} (h:okN r=true):∃a,r=some a/\a.e = .normal:=by
 unfold okN at h;cases r with
 |none=>cases h
 |some o=>
  refine⟨o,rfl,?_⟩
  cases b:o.e<;>simp only[b]at h<;>first|rfl|cases h
def okT (r:OR):Bool:=match r with
 |some (.bool true,_)=>true
 |_=>false
theorem Ym {r:OR} (h:okT r=true):∃H',r=some (.bool true,H'):=by
 unfold okT at h;split at h
 ·exact⟨_,rfl⟩
 ·cases h
end
end Go.Gx
namespace Go.Proofs.YtflciafboapaaaaGreat
open Go.Sx
def oW (a:Unit):Option Bool:=
 some (true)
def jX (d:bQ) (a:Int×List (Bool)) (c:(Int×List (Bool))->Option Bool) (b:Bool):Option Bool:=
 if b=true then(some (false))else(ck ((0<=(at' d a.1)/\(at' d a.1)<((256:Nat):Int))/\a.2.length=256) (c ((wI .i64 (a.1+(1:Int))),(List.set a.2 (Int.toNat (at' d a.1)) true))))
def iQ (b:bQ) (a:Int×List (Bool)) (c:(Int×List (Bool))->Option Bool):Option Bool:=
 if a.1<(b.length:Int)then(ck (0<=a.1/\a.1<(b.length:Int)) (if(at' b a.1)<(0:Int)then(jX b a c (true))else(if(255:Int)<(at' b a.1)then(jX b a c (true))else(ck ((0<=(at' b a.1)/\(at' b a.1)<((256:Nat):Int))/\a.2.length=256) (jX b a c ((at' a.2 (at' b a.1))))))))else(oW (()))
def kT (U:Nat) (a:bQ):Option Bool:=
 bJ (iQ a) U ((0:Int),(List.replicate 256 false))
theorem ZZ:bB Tryz.prog 115:=Tryz.call115
theorem Gi (U:Nat) {d:bQ} (n:V0) (r:Bool) (h:kT U d=some r):
  bD Tryz.prog 115 #[n] [Sl aN n d] (λx:Unit=>vB (r)) (λx l=>l) (λ_ l=>l):=by
 refine bD.of Tryz.func115 Z Tryz.ntmps115 Z λc=>?_;unfold kT at h;refine aU<|aC Z<|aO<|aU ?_;refine aK (aP.alloc (cs:=cellsOf EBo (List.replicate 256 false)) Z (by kernel_rfl)) Z λm=>?_;refine aO<|aL<|eR (λk=>oW k=some r) (λk o=>[]) (λk o=>[]) ?_ ?_
 ·refine aU<|aA Z<|iH (cA Z) Z<|aA Z<|aO<|aS<|fI (iQ d) (λa p=>[(3,vP m),(6,n),(7,vI (d.length:Int)),(8,vI (a.1))]) (λa p=>[bL m (cellsOf EBo a.2) 202]) ((0:Int),(List.replicate 256 false)) () h SF (aZ.refl _) ?_;intro q a p h;refine aU<|cV Z<|aO<|aL ?_;refine eN h Z (λh=>?_) λh=>?_
  ·refine cL<|aL<|aS<|aU<|cU h λg h=>aB (bE Z Z (cA Z) Z Z g) Z<|aB (cK Z (cA Z) Z Z Z eY g) Z<|aC Z<|aO<|aL<|aL<|eR (λb=>jX d a (bJ (iQ d) q) b=some r) (λb f=>[(3,vP m),(5,vI (at' d a.1)),(6,n),(7,vI (d.length:Int)),(8,vI (a.1)),(22,vB (b))]) (λb f=>[bL m (cellsOf EBo a.2) 202]) ?_ ?_
   ·refine aQ<|aA Z<|cV Z<|aA Z ?_;refine BZ h Z (λ_ h=>?_) λ_ h=>?_
    ·refine aM Z<|aM Z<|dR Z<|aA Z<|aM Z<|aM Z<|aM Z<|dR Z<|aO ?_;exact fT (true) () h SF Z
    refine dC Z<|aT Z (tH Z Z) Z<|eV Z<|aA Z ?_;refine BZ h Z (λ_ h=>?_) λ_ h=>?_
    ·refine aM Z<|aM Z<|aM Z<|dR Z<|aO ?_;exact fT (true) () h SF Z
    refine dC Z<|cU h λj h=>aT Z (pY Z Z Z Z Z j.1) Z<|aT Z (Vd (e:=EBo) Z (aF.res 0 Z) Z Z Z Z j) Z<|eV Z<|aO ?_;exact fT ((at' a.2 (at' d a.1))) () h SF Z
   intro b f h;refine tC h Z (λ_ h=>?_) λ_ h=>?_
   ·refine aU<|aC Z<|aO<|aR<|aG<|bI<|aG<|aG<|bI<|aG ?_;cases h;exact nH Z
   refine cL<|aQ<|aA Z<|cU h λi h=>aB (pY Z Z Z Z Z i.1) Z<|Ld 0 (e:=EBo) true i Z Z Z Z Z Z Z<|fJ<|lL<|aQ<|cP Z<|aA Z<|aO ?_;exact xY ((wI .i64 (a.1+(1:Int))),(List.set a.2 (Int.toNat (at' d a.1)) true)) () h SF Z
  refine fG ?_;exact cI () (()) h SF .nil (aI.refl _ _)
 intro k o h;unfold oW at h;refine aU<|aC Z<|aO<|aR ?_;cases h;exact iZ Z
def xZ (c:(List ((Int×Int)×Int))) (a:(Int×Int)×Int) (b:Option Bool):Option Bool:=
 if(Option.getD (nU (a.1.2,a.1.1) c) (0:Int))≠a.2 then(some (false))else(b)
def kF (a:(List ((Int×Int)×Int))):Option Bool:=
 MJ (xZ a) (some (true)) a
def oA (b:Kn) (a:NX->Option Bool) (c:(List ((Int×Int)×Int))):Option Bool:=
 a ((wI .i64 (b.1+(1:Int))),c)
def kG (e:hJ) (b a:Kn) (c:NX->Option Bool) (d:Bool):Option Bool:=
 if d=true then(some (false))else(if(Option.isSome (nU (b.1,((at' (at' e b.1) a.1).1)) a.2))=true then(some (false))else(c ((wI .i64 (a.1+(1:Int))),(EW (b.1,((at' (at' e b.1) a.1).1)) ((at' (at' e b.1) a.1).2) a.2))))
def jC (d:hJ) (a b:Kn) (c:NX->Option Bool) (e:Bool):Option Bool:=
 if e=true then(some (false))else(if((at' (at' d a.1) b.1).2)<(1:Int)then(kG d a b c (true))else(kG d a b c (decide ((15:Int)<((at' (at' d a.1) b.1).2)))))
def dV (d:hJ) (a:Kn) (e:NX->Option Bool) (b:Kn) (c:NX->Option Bool):Option Bool:=
 if b.1<((at' d a.1).length:Int)then(ck (0<=b.1/\b.1<((at' d a.1).length:Int)) (if((at' (at' d a.1) b.1).1)<(0:Int)then(jC d a b c (true))else(if(d.length:Int)<=((at' (at' d a.1) b.1).1)then(jC d a b c (true))else(jC d a b c (decide (((at' (at' d a.1) b.1).1)=a.1))))))else(oA a e (b.2))
def eP (U:Nat) (c:hJ) (a:Kn) (b:NX->Option Bool):Option Bool:=
 if a.1<(c.length:Int)then(ck (0<=a.1/\a.1<(c.length:Int)) (bJ (dV c a b) U ((0:Int),a.2)))else(kF (a.2))
def iV (U:Nat) (a:hJ):Option Bool:=
 bJ (eP U a) U ((0:Int),([]:List ((Int×Int)×Int)))
theorem Z_:bB Tryz.prog 116:=Tryz.call116
theorem IQ (U:Nat) {f:hJ} (n:V0) (F:lE) (r:Bool) (h:iV U f=some r):
  bD Tryz.prog 116 #[n] [S2 aX n F f] (λx:Unit=>vB (r)) (λx l=>l) (λ_ l=>l):=by
 refine bD.of Tryz.func116 Z Tryz.ntmps116 Z λc=>?_;unfold iV at h;refine aU<|aC Z<|aO<|aU<|aK (aP.makeMap oQ Rz) Z λk=>aC Z<|aO<|aL<|eR (λq=>kF q=some r) (λq H=>[(3,Value.map (some k))]) (λq H=>[Mp oQ Rz k q]) ?_ ?_
 ·refine aU<|aA Z<|aB (dU Z (cA Z) Z) Z<|aA Z<|aO<|aS<|fI (eP U f) (λd y=>[(0,n),(3,Value.map (some k)),(14,n),(15,vI (f.length:Int)),(16,vI (d.1))]) (λd y=>[Mp oQ Rz k d.2]) ((0:Int),([]:List ((Int×Int)×Int))) () h SF (aZ.refl _) ?_;intro t d y h;refine aU<|cV Z<|aO<|aL ?_;refine eN h Z (λh=>?_) λh=>?_
  ·refine cL<|aL<|eR (λm=>oA d (bJ (eP U f) t) m=some r) (λm z=>[(0,n),(3,Value.map (some k)),(14,n),(15,vI (f.length:Int)),(16,vI (d.1))]) (λm z=>[Mp oQ Rz k m]) ?_ ?_
   ·refine aS<|aU<|aA Z<|cU h λj h=>aB (bN Z Z (cA Z) Z Z j) Z<|aB (bT Z (cA Z) Z Z j) Z<|aC Z<|aC Z<|aO<|aU<|aA Z<|aB (fE Z (zBh (cA Z) j.1 j.2) Z) Z<|aA Z<|aO<|aS<|fI (dV f d (bJ (eP U f) t)) (λe A=>[(0,n),(3,Value.map (some k)),(4,vI (d.1)),(14,n),(15,vI (f.length:Int)),(16,vI (d.1)),(21,(at' F d.1).1),(22,vI ((at' f d.1).length:Int)),(23,vI (e.1))]) (λe A=>[Mp oQ Rz k e.2]) ((0:Int),d.2) () h SF (aZ.refl _) ?_;intro E e A h;refine aU<|cV Z<|aO<|aL ?_;refine eN h Z (λh=>?_) λh=>?_
    ·refine cL<|aL<|aS<|aU<|cU h λD h=>aB (bE Z Z (zBh (cA Z) j.1 j.2) Z Z D) Z<|aB (gU (cs:=[vI ((at' (at' f d.1) e.1).1),vI ((at' (at' f d.1) e.1).2)]) Z (zBh (cA Z) j.1 j.2) cW Z Z Z Z D) Z<|aK (aP.alloc (cs:=Wi) Z Z) Z λs=>cG 0 (vs:=[vI ((at' (at' f d.1) e.1).1),vI ((at' (at' f d.1) e.1).2)]) Z Z Z Z Z Z<|aO<|aL<|aL<|eR (λo=>jC f d e (bJ (dV f d (bJ (eP U f) t)) E) o=some r) (λo B=>[(0,n),(3,Value.map (some k)),(4,vI (d.1)),(7,vP s),(14,n),(15,vI (f.length:Int)),(16,vI (d.1)),(21,(at' F d.1).1),(22,vI ((at' f d.1).length:Int)),(23,vI (e.1)),(42,vB (o))]) (λo B=>[bL s [vI ((at' (at' f d.1) e.1).1),vI ((at' (at' f d.1) e.1).2)] 80,Mp oQ Rz k e.2]) ?_ ?_
     ·refine aQ<|bU Z<|dQ 0 Z<|cV Z<|aA Z ?_;refine BZ h Z (λ_ h=>?_) λ_ h=>?_
      ·refine aM Z<|aM Z<|aM Z<|aM Z<|aM Z<|dR Z<|aA Z<|aM Z<|aM Z<|aM Z<|aM Z<|dR Z<|aO ?_;exact fT (true) () h SF Z
      refine aT Z (cR Z Z Z Z Z) Z<|aT Z (dL 0 Z Z Z Z Z) Z<|dC Z<|aT Z (dU Z (cA Z) Z) Z<|aT Z (yV Z Z) Z<|eV Z<|aA Z ?_;refine BZ h Z (λ_ h=>?_) λ_ h=>?_
      ·refine aM Z<|aM Z<|aM Z<|aM Z<|dR Z<|aO ?_;exact fT (true) () h SF Z
      refine aT Z (cR Z Z Z Z Z) Z<|aT Z (dL 0 Z Z Z Z Z) Z<|dC Z<|aT Z (JV Z Z) Z<|eV Z<|aO ?_;exact fT (decide (((at' (at' f d.1) e.1).1)=d.1)) () h SF Z
     intro o B h;refine tC h Z (λ_ h=>?_) λ_ h=>?_
     ·refine aU<|aC Z<|aO<|aR<|aG<|bI<|aG<|aG<|bI<|bI<|aG<|aG<|bI<|aG ?_;cases h;exact nH Z
     refine cL<|aL<|aL<|eR (λp=>kG f d e (bJ (dV f d (bJ (eP U f) t)) E) p=some r) (λp C=>[(0,n),(3,Value.map (some k)),(4,vI (d.1)),(7,vP s),(14,n),(15,vI (f.length:Int)),(16,vI (d.1)),(21,(at' F d.1).1),(22,vI ((at' f d.1).length:Int)),(23,vI (e.1)),(50,vB (p))]) (λp C=>[bL s [vI ((at' (at' f d.1) e.1).1),vI ((at' (at' f d.1) e.1).2)] 80,Mp oQ Rz k e.2]) ?_ ?_
     ·refine aQ<|bU Z<|dQ 0 Z<|cV Z<|aA Z ?_;refine BZ h Z (λ_ h=>?_) λ_ h=>?_
      ·refine aM Z<|aM Z<|aM Z<|dR Z<|aO ?_;exact fT (true) () h SF Z
      refine aT Z (cR Z Z Z Z Z) Z<|aT Z (dL 0 Z Z Z Z Z) Z<|aT Z (tH Z Z) Z<|eV Z<|aO ?_;exact fT (decide ((15:Int)<((at' (at' f d.1) e.1).2))) () h SF Z
     intro p C h;refine tC h Z (λ_ h=>?_) λ_ h=>?_
     ·refine aU<|aC Z<|aO<|aR<|aG<|bI<|aG<|aG<|bI<|bI<|aG<|aG<|bI<|aG ?_;cases h;exact nH Z
     refine cL<|aU<|aA Z<|bU Z<|dQ 0 Z ?_;refine aB (DC (r:=Value.agg #[vI (d.1),vI ((at' (at' f d.1) e.1).1)]) Z Z (by intro w;simp[Instr.build,Instr.fill,eZ,eF,dO,e_,fC,eG,fR])) Z ?_;refine aK (aP.alloc (cs:=Wi) Z Z) Z λK=>cG 0 (vs:=[vI (d.1),vI ((at' (at' f d.1) e.1).1)]) Z Z Z Z Z Z<|aO<|aL<|aU<|aA Z<|dM 0 Z ?_;refine aB (Qj 2 ((d.1,((at' (at' f d.1) e.1).1))) (u:=vI (Option.getD (nU (d.1,((at' (at' f d.1) e.1).1)) e.2) (0:Int))) OT Z Z Z Z Z (by cases nU ((d.1,((at' (at' f d.1) e.1).1))) e.2<;>rfl)) Z ?_;refine aA Z<|jJ Z<|jJ Z<|aC Z<|aC Z<|aO<|aU<|aA Z<|aO ?_;refine tC h Z (λ_ h=>?_) λ_ h=>?_
     ·refine aU<|aC Z<|aO<|aR<|aG<|bI<|aG<|aG<|bI<|bI<|aG<|aG<|bI<|aG ?_;cases h;exact nH Z
     refine cL<|aQ<|aA Z<|dM 0 Z<|bU Z<|dQ 1 Z<|PU 2 ((d.1,((at' (at' f d.1) e.1).1))) ((at' (at' f d.1) e.1).2) OT Z Z Z Z Z<|fJ<|lL<|aQ<|cP Z<|aA Z<|aO ?_;exact iG ((wI .i64 (e.1+(1:Int))),(EW (d.1,((at' (at' f d.1) e.1).1)) ((at' (at' f d.1) e.1).2) e.2)) () h SF (aZ.ix [2] Z Z) (aI.refl _ _)
    refine rP<|fX<|fX<|yQ<|lL ?_;exact fT (e.2) () h SF Z
   intro m z h;unfold oA at h;refine aQ<|cP Z<|aA Z<|aO ?_;exact xY ((wI .i64 (d.1+(1:Int))),m) () h SF Z
  refine fG ?_;exact fT (d.2) () h SF Z
 intro q H h;unfold kF at h;refine aL<|aU<|aA Z<|aK (aP.range 0 Z Z Z) Z λI=>aO<|aS<|ZE [(3,Value.map (some k)),(69,vP I)] [It I k (q.length) ([]),Mp oQ Rz k q] [S2 aX n F f] SF (aZ.refl _) (aI.refl _ _) ?_;refine UY (xZ q) 1 0 (by intro a b x;unfold xZ;repeat' split;all_goals first|rfl|contradiction|simp_all) h Z Z Z Z Z Z ?_ ?_
 ·skip
  intro g N G M v h;refine aS<|aU<|aK (aP.entry 1 0 v Z Z Z) Z λL=>jJ Z<|jJ Z<|aK (aP.alloc (cs:=Wi) Z Z) Z λJ=>cG 0 (vs:=[vI (g.1.1),vI (g.1.2)]) Z Z Z Z Z Z<|aC Z<|aO<|aU<|aA Z ?_;refine aB (pY (i:=1) Z Z Z Z Z (by decide)) Z ?_;refine dQ 0 Z ?_;refine aB (pY (i:=0) Z Z Z Z Z (by decide)) Z ?_;refine dQ 0 Z ?_;refine aB (DC (r:=Value.agg #[vI (g.1.2),vI (g.1.1)]) Z Z (by intro w;simp[Instr.build,Instr.fill,eZ,eF,dO,e_,fC,eG,fR])) Z ?_;refine aB (Qj 2 ((g.1.2,g.1.1)) (u:=vI (Option.getD (nU (g.1.2,g.1.1) q) (0:Int))) OT Z Z Z Z Z (by cases nU ((g.1.2,g.1.1)) q<;>rfl)) Z ?_;refine aA Z<|k_ Z<|aO ?_;refine eN h Z (λh=>?_) λh=>?_
  ·refine aU<|aC Z<|aO<|aR<|bI<|aG<|bI<|aG ?_;cases h;exact nH Z
  refine eM<|lL ?_;exact R_ h SF (aZ.ix [1,2] Z Z) (aI.refl _ _)
 intro G h;refine yQ<|Gt<|aU<|aC Z<|aO<|aR ?_;cases h;exact nH Z
def qZ (a:Bool):Option Bool:=
 some (a)
def qY (U:Nat) (b:cO) (c:Bool):Option Bool:=
 if c=true then(some (false))else(Option.bind (kT U b.1) λd=>(if d=true then(Option.bind (iV U b.2) λa=>(qZ (a)))else(qZ (false))))
def iK (U:Nat) (a:cO):Option Bool:=
 if(a.1.length:Int)<(1:Int)then(qY U a (true))else(if(24:Int)<(a.1.length:Int)then(qY U a (true))else(qY U a (decide ((a.2.length:Int)≠(a.1.length:Int)))))
theorem Su:bB Tryz.prog 72:=Tryz.call72
theorem DV (U:Nat) {p0:cO} (f g:V0) (o:lE) (r:Bool) (h:iK U p0=some r):
  bD Tryz.prog 72 #[Value.agg #[f,g]] [Sl aN f p0.1,S2 aX g o p0.2] (λx:Unit=>vB (r)) (λx l=>l) (λ_ l=>l):=by
 refine bD.of Tryz.func72 Z Tryz.ntmps72 Z λc=>?_;refine aU<|aK (aP.box (cs:=[f,g]) Z Z) Z λk=>aC Z<|aO<|aU<|bU Z<|dQ 0 Z<|iH (cA Z) Z<|aC Z<|aO<|aL<|aL<|eR (λb=>qY U p0 b=some r) (λb m=>[(1,vP k),(19,vB (b))]) (λb m=>[bL k [f,g] 31]) ?_ ?_
 ·refine aQ<|aA Z<|cV Z<|aA Z ?_;refine BZ h Z (λ_ h=>?_) λ_ h=>?_
  ·refine aM Z<|aM Z<|dR Z<|aA Z<|aM Z<|aM Z<|aM Z<|aM Z<|aM Z<|dR Z<|aO ?_;exact fT (true) () h SF Z
  refine dC Z<|aT Z (tH Z Z) Z<|eV Z<|aA Z ?_;refine BZ h Z (λ_ h=>?_) λ_ h=>?_
  ·refine aM Z<|aM Z<|aM Z<|aM Z<|aM Z<|dR Z<|aO ?_;exact fT (true) () h SF Z
  refine aT Z (cR Z Z Z Z Z) Z<|aT Z (dL 0 Z Z Z Z Z) Z<|aT Z (dU Z (mM Z) Z) Z<|dC Z<|aT Z (BP Z Z) Z<|eV Z<|aO ?_;exact fT (decide ((p0.2.length:Int)≠(p0.1.length:Int))) () h SF Z
 intro b m h;refine tC h Z (λ_ h=>?_) λ_ h=>?_
 ·refine aU<|aC Z<|aO<|aR<|aG ?_;cases h;exact nH Z
 refine cL<|aL<|eR (λd=>qZ d=some r) (λd n=>[(2,vB (d))]) (λd n=>[]) ?_ ?_
 ·refine aQ<|bU Z<|dQ 0 Z<|eT h λp i h=>aK (zBg ZZ (Gi U f p i) Z (iN [0] Z)) Z λq=>aA Z ?_;refine tD (by exact rfl) (by exact rfl) (λa=>?_) (λa=>?_)
  ·have h:=Iv a h;refine aT Z (cR Z Z Z Z Z) Z<|aT Z (dL 0 Z Z Z Z Z) Z<|eT h λe j h=>qH Z (zBg Z_ (IQ U g o e j) Z (iN [1] Z)) Z λs=>dR Z<|aC Z<|aO ?_;exact cI (e) () h SF .nil (aI.refl _ _)
  have h:=FA a h;refine aM Z<|aM Z<|aM Z<|eV Z<|aC Z<|aO ?_;exact cI (false) () h SF .nil (aI.refl _ _)
 intro d n h;unfold qZ at h;refine aR ?_;cases h;exact iZ Z
def sT (a:Int):Option (Int):=
 some (a)
def eQ (U:Nat) (b a:Int):Option (Int):=
 if a<(1:Int)then(some (0:Int))else(ck (a≠0) (if(Int.tmod b a)<(0:Int)then(sT (wI .i64 ((Int.tmod b a)+a)))else(sT (Int.tmod b a))))
theorem Bc:bB Tryz.prog 13:=Tryz.call13
theorem g_ (U:Nat) {d b:Int} (r:Int) (h:eQ U d b=some r):
  bD Tryz.prog 13 #[vI (d),vI (b)] [] (λx:Unit=>vI (r)) (λx l=>l) (λ_ l=>l):=by
 refine bD.of Tryz.func13 Z Tryz.ntmps13 Z λc=>?_;refine aU<|aC Z<|aO<|aL<|aU<|aA Z<|cV Z<|aO ?_;refine eN h Z (λh=>?_) λh=>?_
 ·refine aU<|aC Z<|aO<|aR<|aG ?_;cases h;exact iZ Z
 refine cL<|aU<|aA Z<|aA Z<|cU h λf h=>aB (Nm Z Z f) Z<|aC Z<|aO<|aL<|eR (λa=>sT a=some r) (λa e=>[(0,vI (a))]) (λa e=>[]) ?_ ?_
 ·refine aU<|aA Z<|cV Z<|aO ?_;refine eN h Z (λh=>?_) λh=>?_
  ·refine aQ<|aA Z<|aA Z<|cP Z<|aC Z<|aO ?_;exact fT (wI .i64 ((Int.tmod d b)+b)) () h SF Z
  refine cL ?_;exact fT (Int.tmod d b) () h SF Z
 intro a e h;unfold sT at h;refine aU<|aA Z<|aC Z<|aO<|aR ?_;cases h;exact iZ Z
def uM (U:Nat) (b:bQ) (a:Int):Option (Int):=
 if a<(b.length:Int)then(ck (0<=a/\a<(b.length:Int)) (some (at' b a)))else(some (0:Int))
theorem Lp:bB Tryz.prog 65:=Tryz.call65
theorem Db (U:Nat) {b:bQ} {d:Int} (e:V0) (r:Int) (h:uM U b d=some r):
  bD Tryz.prog 65 #[e,vI (d)] [Sl aN e b] (λx:Unit=>vI (r)) (λx l=>l) (λ_ l=>l):=by
 refine bD.of Tryz.func65 Z Tryz.ntmps65 Z λc=>?_;refine aU<|aC Z<|aO<|aL<|aU<|aA Z<|aA Z<|iH (cA Z) Z<|cV Z<|aO ?_;refine eN h Z (λh=>?_) λh=>?_
 ·refine aU<|aA Z<|aA Z<|cU h λa h=>aB (bE Z Z (cA Z) Z Z a) Z<|aB (cK Z (cA Z) Z Z Z eY a) Z<|aC Z<|aO<|aR<|aG ?_;cases h;exact iZ Z
 refine cL<|aU<|aC Z<|aO<|aR ?_;cases h;exact iZ Z
def pM (b:Int) (a:bQ):Option wA:=
 some ((a,(List.replicate (Int.toNat (wI .i64 ((1:Int)+b))) ([]:fL))))
def uE (a:Int×bQ) (c:(Int×bQ)->Option wA) (b:Int):Option wA:=
 ck ((a.2.length:Int)+(List.length ([b]):Int)<=1099511627) (c ((wI .i64 (a.1+(1:Int))),(a.2++[b])))
def mI (b:i_->Option wA) (a:gK):Option wA:=
 b (a.1,(wI .i64 (a.2+(1:Int))))
def mJ (b:Int×bQ) (d:(Int×bQ)->Option wA) (a:gK) (c:i_->Option wA):Option wA:=
 if a.2<b.1 then(ck (0<=a.2/\a.2<(b.2.length:Int)) (if(at' b.2 a.2)=a.1 then(ck ((256:Int)≠0) (mI c ((Int.tmod (wI .i64 (a.1+(1:Int))) (256:Int)),(-1:Int))))else(mI c (a.1,a.2))))else(uE b d (a.1))
def kP (U:Nat) (f:AT) (e:Int) (a:Int×bQ) (b:(Int×bQ)->Option wA):Option wA:=
 if a.1<(wI .i64 ((1:Int)+e))then(Option.bind (uM U f.2.2.2.1 a.1) λc=>(Option.bind (eQ U c (256:Int)) λd=>(bJ (mJ a b) U (d,(0:Int)))))else(pM e (a.2))
def qO (U:Nat) (b:AT) (c:Int):Option wA:=
 Option.bind (eQ U (wI .i64 (b.1 - (1:Int))) c) λa=>(ck (0<=(wI .i64 ((1:Int)+a))/\(wI .i64 ((1:Int)+a))<=1099511627) (bJ (kP U b a) U ((0:Int),([]:bQ))))
theorem acX:bB Tryz.prog 63:=Tryz.call63
theorem Hc (U:Nat) {k:AT} {p1:Int} (R S Q:V0) (r:Fy) (h:qO U k p1=some r):
  bD Tryz.prog 63 #[Value.agg #[vI (k.1),R,S,Q,vB (k.2.2.2.2.1),vB (k.2.2.2.2.2)],vI (p1)] [Sl aN R k.2.1,Sl aN S k.2.2.1,Sl aN Q k.2.2.2.1] (λx:V0×V0×List V0=>Value.agg #[x.1,x.2.1]) (λx l=>Ar fW x.1 r.1::Ar bM.raw x.2.1 x.2.2::gN b_ x.2.2 r.2::l) (λ_ l=>l):=by
 refine bD.of Tryz.func63 Z Tryz.ntmps63 Z λc=>?_;refine aU<|aK (aP.box (cs:=[vI (k.1),R,S,Q,vB (k.2.2.2.2.1),vB (k.2.2.2.2.2)]) Z Z) Z λF=>let t:=bL F [vI (k.1),R,S,Q,vB (k.2.2.2.2.1),vB (k.2.2.2.2.2)] 24;aK (aP.alloc (cs:=[cT,cT]) Z Z) Z λE=>let s:=bL E [cT,cT] 31;aO<|aU<|bU Z<|dQ 1 Z<|aB (nY Z Z) Z<|aA Z<|eT h λP w4 h=>let p:=(wI .i64 ((1:Int)+P));let C:=(Int.toNat p);let y:=(List.replicate C (cT));let o:=gN b_ y (List.replicate C ([]:fL));aK (zBg Bc (g_ U P w4) Z .nil) Z λx5=>cP Z<|aC Z<|aO<|aU<|aA Z<|cU h λj6 h=>bW (BN b_ C)<|aK (A_ (e:=bM.raw) (cT) Z Z Z Z j6 Z Z Z) Z λv=>let q:=Ar bM.raw v y;bF (vM (fP (i:=0) (j:=1) Z Z cW)) λT=>?_
 refine aB (Ow (r:=Value.agg #[cT,v]) Z (by intro w;simp[Instr.build,Instr.fill,eZ,eF,dO,e_,fC,eG,fR,iY T])) Z ?_;refine aK (aP.alloc (cs:=[cT,cT]) Z Z) Z λu=>bF (vM (fP (i:=1) (j:=2) Z Z cW)) λJ=>cG 0 (vs:=[cT,v]) Z Z (gJ Z (gJ J Z)) Z Z Z<|aO<|aL<|EV (B:=V0) (λn=>pM P n=some r) (λn m=>[(4,vP E),(6,vP u)]) (λn m=>[bL u [m,v] 31,q,o,s,Ar fW m n]) ?_ ?_
 ·refine aU<|aC Z<|aO<|aS<|bW (eX fW)<|fI (B:=V0) (kP U k P) (λa g=>[(2,vP F),(4,vP E),(5,vI p),(6,vP u),(7,vI (a.1))]) (λa g=>[bL u [g,v] 31,q,o,s,t,Ar fW g a.2]) ((0:Int),([]:bQ)) (cT) h SF (aZ.ix [1,2,3,4,5,0] Z Z) ?_;intro X a g h;let D:=Ar fW g a.2;let A:=bL u [g,v] 31;let z:=(bJ (kP U k P) X)
  refine aL<|aU<|aA Z<|aA Z<|cV Z<|aO ?_;refine eN h Z (λh=>?_) λh=>?_
  ·refine cL<|aL<|aS<|aU<|bU Z<|dQ 4 Z<|aA Z<|eT h λaa ac h=>aK (zBg Lp (Db U Q aa ac) Z (iN [2] Z)) Z λaf=>eT h λO ad h=>aK (zBg Bc (g_ U O ad) Z .nil) Z λag=>aC Z<|aO<|aL<|eR (λb=>uE a z b=some r) (λb G=>[(2,vP F),(4,vP E),(5,vI p),(6,vP u),(7,vI (a.1)),(8,vI (b))]) (λb G=>[A,q,o,s,t,D]) ?_ ?_
   ·refine aU<|aC Z<|aO<|aS<|fI (mJ a z) (λd H=>[(2,vP F),(4,vP E),(5,vI p),(6,vP u),(7,vI (a.1)),(8,vI (d.1)),(9,vI (d.2))]) (λd H=>[A,q,o,s,t,D]) (O,(0:Int)) () h SF (aZ.refl _) ?_;intro Y d H h;refine aL<|aU<|aA Z<|aA Z<|cV Z<|aO ?_;refine eN h Z (λh=>?_) λh=>?_
    ·refine cL<|aL<|eR (λf=>mI (bJ (mJ a z) Y) f=some r) (λf I=>[(2,vP F),(4,vP E),(5,vI p),(6,vP u),(7,vI (a.1)),(8,vI (f.1)),(9,vI (f.2))]) (λf I=>[A,q,o,s,t,D]) ?_ ?_
     ·refine aS<|aU<|bU Z<|dQ 0 Z<|aA Z<|cU h λN h=>aB (bE Z Z (cB (aF.res 5 Z) jA) Z Z N) Z<|aB (cK Z (cB (aF.res 5 Z) jA) Z Z Z eY N) Z<|aA Z<|cC Z<|aO ?_;refine eN h Z (λh=>?_) λh=>?_
      ·refine aQ<|aA Z<|cP Z<|cU h λW h=>aB (Nm Z Z W) Z<|aC Z<|aC Z<|fJ<|lL ?_;exact fT ((Int.tmod (wI .i64 (d.1+(1:Int))) (256:Int)),(-1:Int)) () h SF Z
      refine eM<|lL ?_;exact fT (d.1,d.2) () h SF Z
     intro f I h;unfold mI at h;refine aQ<|aA Z<|cP Z<|aC Z<|aO ?_;exact xY (f.1,(wI .i64 (f.2+(1:Int)))) () h SF Z
    refine fG ?_;exact fT (d.1) () h SF Z
   intro b G h;refine aQ<|bU Z<|dQ 0 Z<|aA Z<|aK (cM (e:=fW) ([b]) [(0,vI (b))] Z Z Z Z (jO (vI (b)) Z) Z Z Z) Z λae=>cU h λV h=>aK (dN 6 jA Z Z Z (cB (aF.res 0 Z) jA) Z Z Z Z V Z) Z λab=>bU Z<|bF (Know.one ((cB (aF.res 6 Z) jA))) λM=>pJ 1 Z Z M Z Z Z<|fJ<|lL<|aQ<|aA Z<|cP Z<|aC Z<|aO ?_;exact iG ((wI .i64 (a.1+(1:Int))),(a.2++[b])) (ab) h SF (aZ.ix [1,2,3,4,5,6] Z Z) (aI.refl _ _)
  refine fG ?_;exact cI (a.2) (g) h SF (aZ.ix [0,1,2,3,5] Z Z) (aI.refl _ _)
 intro n m h;unfold pM at h;refine aU<|dM 0 Z<|bF (Know.one ((cB (aF.res 4 Z) jA))) λK=>bF (vM (fP (i:=1) (j:=2) Z Z cW)) λL=>cG 3 (vs:=[m,v]) Z Z (gJ K (gJ L Z)) Z Z Z<|aO<|aR ?_;cases h;exact iS (m,v,y) Z Z (RV.cell 3 Z Z Z Z) (aZ.ix [4,1,2] Z Z) aI.nil
def xW (a:Unit):Option Bool:=
 some (false)
def Co (c:cO) (a e b:Int) (d:(Int)->Option Bool):Option Bool:=
 ck (0<=a/\a<(c.2.length:Int)) (if b<((at' c.2 a).length:Int)then(ck (0<=a/\a<(c.2.length:Int)) (ck (0<=b/\b<((at' c.2 a).length:Int)) (if((at' (at' c.2 a) b).1)=e then(some (true))else(d (wI .i64 (b+(1:Int)))))))else(xW (())))
def oG (U:Nat) (a:cO) (b c:Int):Option Bool:=
 bJ (Co a b c) U (0:Int)
theorem ZV:bB Tryz.prog 106:=Tryz.call106
theorem Ml (U:Nat) {g:cO} {i j:Int} (k m:V0) (q:lE) (r:Bool) (h:oG U g i j=some r):
  bD Tryz.prog 106 #[Value.agg #[k,m],vI (i),vI (j)] [Sl aN k g.1,S2 aX m q g.2] (λx:Unit=>vB (r)) (λx l=>l) (λ_ l=>l):=by
 refine bD.of Tryz.func106 Z Tryz.ntmps106 Z λc=>?_;unfold oG at h;refine aU<|aK (aP.box (cs:=[k,m]) Z Z) Z λn=>aC Z<|aO<|aL<|eR (λd=>xW d=some r) (λd o=>[]) (λd o=>[]) ?_ ?_
 ·refine aU<|aC Z<|aO<|aS<|fI (Co g i j) (λe p=>[(1,vI (i)),(2,vI (j)),(3,vP n),(7,vI (e))]) (λe p=>[bL n [k,m] 31]) (0:Int) () h SF (aZ.refl _) ?_;intro s e p h;refine aL<|aU<|aA Z<|bU Z<|dQ 0 Z<|aA Z<|cU h λf h=>aB (bN Z Z (mM Z) Z Z f) Z<|aB (bT Z (mM Z) Z Z f) Z<|aB (fE Z (zBh (mM Z) f.1 f.2) Z) Z<|cV Z<|aO ?_;refine eN h Z (λh=>?_) λh=>?_
  ·refine cL<|aL<|aS<|aU<|bU Z<|dQ 0 Z<|aA Z<|cU h λa h=>aB (bN Z Z (mM Z) Z Z a) Z<|aB (bT Z (mM Z) Z Z a) Z<|aA Z<|cU h λb h=>aB (bE Z Z (zBh (mM Z) a.1 a.2) Z Z b) Z<|aB (cZ Z Z Z Z Z) Z<|aB (eL Z (zBh (mM Z) a.1 a.2) Z Z Z gT b) Z<|aA Z<|cC Z<|aO ?_;refine eN h Z (λh=>?_) λh=>?_
   ·refine aU<|aC Z<|aO<|aR<|bI<|aG<|aG<|bI<|aG ?_;cases h;exact nH Z
   refine eM<|lL<|aQ<|aA Z<|cP Z<|aC Z<|aO ?_;exact xY (wI .i64 (e+(1:Int))) () h SF Z
  refine fG ?_;exact cI () (()) h SF .nil (aI.refl _ _)
 intro d o h;unfold xW at h;refine aU<|aC Z<|aO<|aR ?_;cases h;exact iZ Z
def qL (f:AT) (c:cO) (a b d:Int) (e:Bool):Option (hJ):=
 if e=true then(some (c.2))else(if f.2.2.2.2.2=true then(ck (0<=a/\a<(c.2.length:Int)) (ck ((List.length ([(b,d)]):Int)+((at' c.2 a).length:Int)<=1099511627) (ck (0<=a/\a<(c.2.length:Int)) (ck (0<=b/\b<((List.set c.2 (Int.toNat a) (([(b,d)])++(at' c.2 a))).length:Int)) (ck ((List.length ([(a,d)]):Int)+((at' (List.set c.2 (Int.toNat a) (([(b,d)])++(at' c.2 a))) b).length:Int)<=1099511627) (ck (0<=b/\b<((List.set c.2 (Int.toNat a) (([(b,d)])++(at' c.2 a))).length:Int)) (some (List.set (List.set c.2 (Int.toNat a) (([(b,d)])++(at' c.2 a))) (Int.toNat b) (([(a,d)])++(at' (List.set c.2 (Int.toNat a) (([(b,d)])++(at' c.2 a))) b))))))))))else(ck (0<=a/\a<(c.2.length:Int)) (ck (0<=b/\b<(c.2.length:Int)) (ck (((at' c.2 a).length:Int)+(List.length ([(b,d)]):Int)<=1099511627) (ck (((at' c.2 b).length:Int)+(List.length ([(a,d)]):Int)<=1099511627) (ck (Int.toNat a≠Int.toNat b) (ck (0<=a/\a<((List.set (List.set c.2 (Int.toNat a) ((at' c.2 a)++([(b,d)]))) (Int.toNat b) ((at' c.2 b)++([(a,d)]))).length:Int)) (ck (0<=b/\b<((List.set (List.set c.2 (Int.toNat a) ((at' c.2 a)++([(b,d)]))) (Int.toNat b) ((at' c.2 b)++([(a,d)]))).length:Int)) (some (List.set (List.set c.2 (Int.toNat a) ((at' c.2 a)++([(b,d)]))) (Int.toNat b) ((at' c.2 b)++([(a,d)]))))))))))))
def oC (U:Nat) (e:AT) (a:cO) (b c f:Int):Option (hJ):=
 if b=c then(qL e a b c f (true))else(Option.bind (oG U ((a.1,a.2)) b c) λd=>(qL e a b c f (d)))
theorem Xb:bB Tryz.prog 64:=Tryz.call64
theorem CZ (U:Nat) {a:AT} {G:cO} {m n d:Int} (J K L H D:V0) (E:fY) (r:hJ) (h:oC U a G m n d=some r):
  B_ Tryz.prog 64 #[Value.agg #[vI (a.1),J,K,L,vB (a.2.2.2.2.1),vB (a.2.2.2.2.2)],Value.agg #[H,D],vI (m),vI (n),vI (d)] [Ar bM.raw D E,gN b_ E G.2] [Sl aN J a.2.1,Sl aN K a.2.2.1,Sl aN L a.2.2.2.1,Sl aN H G.1] (λx:fY=>Value.tuple #[]) (λx l=>Ar bM.raw D x::gN b_ x r::l):=by
 let ae:=Value.agg #[vI (m),vI (d)];let ad:=Value.agg #[vI (n),vI (d)];refine B_.of (vs:=[Value.agg #[vI (a.1),J,K,L,vB (a.2.2.2.2.1),vB (a.2.2.2.2.2)],Value.agg #[H,D],vI (m),vI (n),vI (d)]) Tryz.func64 Z Tryz.ntmps64 Z λc=>?_;refine aU<|aK (aP.box (cs:=[vI (a.1),J,K,L,vB (a.2.2.2.2.1),vB (a.2.2.2.2.2)]) Z Z) Z λb1=>aK (aP.box (cs:=[H,D]) Z Z) Z λb2=>aO<|aL<|aL<|kU (B:=Unit) (λI=>qL a G m n d I=some r) (λI b5=>[(2,vI (m)),(3,vI (n)),(4,vI (d)),(5,vP b1),(6,vP b2),(20,vB (I))]) (λI b5=>[bL b2 [H,D] 31,bL b1 [vI (a.1),J,K,L,vB (a.2.2.2.2.1),vB (a.2.2.2.2.2)] 24,Ar bM.raw D E,gN b_ E G.2]) (λI b5=>[Sl aN J a.2.1,Sl aN K a.2.2.1,Sl aN L a.2.2.2.1,Sl aN H G.1]) ?_ ?_
 ·refine aQ<|aA Z<|aA Z<|cC Z<|aA Z ?_;refine BZ h Z (λ_ h=>?_) λ_ h=>?_
  ·refine aM Z<|aM Z<|aM Z<|aM Z<|dR Z<|aO ?_;exact fT (true) () h SF Z
  refine aT Z (gV 0 Z Z Z Z) Z<|dC Z<|dC Z<|eT h λaf ac h=>qH Z (zBg ZV (Ml U H D (List.zip E G.2) af ac) Z (aI.cons (Dh Z) (aI.cons (fP (i:=2) (j:=3) Z Z cW) .nil))) Z λau=>eV Z<|aO ?_;exact fT (af) () h SF Z
 intro I b5 h;refine tC h Z (λ_ h=>?_) λ_ h=>?_
 ·refine aR<|aG ?_;cases h;exact KD (E) Z Z .ret (.inl Z) (aZ.ix [2,3] Z Z) aI.nil
 refine cL<|aU<|aA Z<|aA Z ?_;refine aB (DC (r:=Value.agg #[vI (n),vI (d)]) Z Z (by intro w;simp[Instr.build,Instr.fill,eZ,eF,dO,e_,fC,eG,fR])) Z ?_;refine aA Z<|aA Z ?_;refine aB (DC (r:=Value.agg #[vI (m),vI (d)]) Z Z (by intro w;simp[Instr.build,Instr.fill,eZ,eF,dO,e_,fC,eG,fR])) Z ?_;refine aK (aP.alloc (cs:=Wi) Z Z) Z λb7=>aK (aP.alloc (cs:=Wi) Z Z) Z λb8=>cG 1 (vs:=[vI (n),vI (d)]) Z Z Z Z Z Z<|cG 0 (vs:=[vI (m),vI (d)]) Z Z Z Z Z Z<|aO<|aL<|aU<|bU Z<|dQ 3 Z<|aO ?_;refine tC h Z (λ_ h=>?_) λ_ h=>?_
 ·refine aL ?_;refine sW [0,1,0,0,8,0,32,0,224,480,1016,2047,4095] 11 mixedOrders ?_;refine cH Z<|fO 2 Z<|aV Z<|jD 1 Z<|zBi Z Z Z (cM (e:=b_) ([((n,d))]) [(0,ad)] Z Z Z Z (Iq (vI (n)) (vI (d))) Z Z Z) Z (λan=>(mC [([3],[])] Z)) λan=>gC Z (cR Z Z Z Z Z)<|aY Z (aZ.cons 3 Z .nil) .nil (dL 0 Z Z Z Z Z) (aJ.h (aZ.ix [2] Z Z) .nil aJ.z)<|gC Z (eO Z)<|cU h λt h=>a_ (dX 6 Z) λM=>?_;refine aY Z (aZ.cons 5 Z .nil) .nil (tZ 0 Z Z Z Z Z t.1 (by have y:=t.2;have A:=M;(try simp only[zA1]at y);(try simp only[zA1]at A);(try simp only[zA1]);omega)) (aJ.h (aZ.ix [4] Z Z) .nil aJ.z) ?_;refine a_ (dX 6 Z) λN=>aY Z (aZ.cons 5 Z .nil) .nil (gW 0 Z Z N Z Z t) (aJ.h (aZ.ix [4] Z Z) .nil aJ.z)<|cU h λaj h=>zBi Z Z Z (dN 0 cW Z Z Z (aF.row (j:=6) Z cW t.1 t.2) Z Z Z Z aj Z) Z (λag=>(mC [([3],[])] Z)) λag=>bP 11 Z Z<|cU h λu h=>aB (bN Z Z (fP (i:=5) (j:=6) Z Z cW) Z Z u) Z<|bF (Know.one ((cB (aF.res 0 Z) cW))) λX=>bW (CN (k:=m) 6 0 Z Z Z u) ?_;refine AX 4 5 ⟨u.1,by first|exact u.2|simpa using u.2⟩ Z Z Z Z Z (by simp) X Z ?_;refine aO<|aL ?_;refine sW [0,1,0,0,8,0,32,0,224,480,1016,2047,4095] 11 mixedOrders ?_;refine cH Z<|fO 2 Z<|aV Z<|jD 0 Z<|zBi Z Z Z (cM (e:=b_) ([((m,d))]) [(0,ae)] Z Z Z Z (Iq (vI (m)) (vI (d))) Z Z Z) Z (λao=>(mC [([3],[])] Z)) λao=>gC Z (cR Z Z Z Z Z)<|aY Z (aZ.cons 3 Z .nil) .nil (dL 0 Z Z Z Z Z) (aJ.h (aZ.ix [2] Z Z) .nil aJ.z)<|gC Z (eO Z)<|cU h λp h=>a_ (dX 6 Z) λO=>?_;refine aY Z (aZ.cons 5 Z .nil) .nil (tZ 0 Z Z Z Z Z p.1 (by have y:=p.2;have A:=O;(try simp only[zA1]at y);(try simp only[zA1]at A);(try simp only[zA1]);omega)) (aJ.h (aZ.ix [4] Z Z) .nil aJ.z) ?_;refine a_ (dX 6 Z) λP=>aY Z (aZ.cons 5 Z .nil) .nil (gW 0 Z Z P Z Z p) (aJ.h (aZ.ix [4] Z Z) .nil aJ.z)<|cU h λak h=>zBi Z Z Z (dN 0 cW Z Z Z (aF.row (j:=6) Z cW p.1 (by first|exact p.2|simpa using p.2)) Z Z Z Z ak Z) Z (λah=>(mC [([3],[])] Z)) λah=>?_;refine bP 11 Z Z<|cU h λv h=>aB (bN Z Z (fP (i:=5) (j:=6) Z Z cW) Z Z v) Z<|bF (Know.one ((cB (aF.res 0 Z) cW))) λY=>bW (CN (k:=n) 6 0 Z Z Z v) ?_;refine AX 4 5 ⟨v.1,by first|exact v.2|simpa using v.2⟩ Z Z Z Z Z (by simp) Y Z ?_;refine aO<|aR<|aG ?_;cases h;exact KD (List.set (List.set E (Int.toNat m) ag) (Int.toNat n) ah) Z Z .ret (.inl Z) (aZ.ix [4,5] Z Z) aI.nil
 refine cL<|cU h λq h=>cU h λC h=>cU h λF h=>cU h λal h=>cU h λam h=>cU h λf h=>cU h λg h=>Ea [0,1,0,0,8,0,0,64,0,448,960,0,2048,8128,0,16384,0,114688,245760,0,524288,2097088,4194247,8388551,16777215,33554431] 24 [[0,1,2,3,4,5,6,7,8,9,10,11,14,15,16,17,18,19,12,13,20,21,22,23,24,25],[0,1,2,3,4,5,6,7,8,9,10,11,14,15,16,17,18,19,12,20,13,21,22,23,24,25],[0,1,2,3,4,5,6,7,8,9,10,11,14,15,16,17,18,19,20,12,13,21,22,23,24,25]] mixedOrders (by decide +kernel) (by decide +kernel) ?_;intro o ho;simp only[zAm,zB7,or_false]at ho;rcases ho with rfl|rfl|rfl
 all_goals
  iterate 24 first
   |refine aY (i:=0) Z .nil .nil (cR Z Z Z Z Z) aJ.z ?_
   |refine aY (i:=1) Z (aZ.cons 2 Z .nil) .nil (dL 0 Z Z Z Z Z) aJ.z ?_
   |refine aY (i:=2) Z .nil .nil (eO Z) aJ.z ?_
   |refine aY (i:=3) Z .nil .nil (cR Z Z Z Z Z) aJ.z ?_
   |refine aY (i:=4) Z (aZ.cons 2 Z .nil) .nil (dL 0 Z Z Z Z Z) aJ.z ?_
   |refine aY (i:=5) Z .nil .nil (eO Z) aJ.z ?_
   |refine aY (i:=6) Z .nil .nil (cR Z Z Z Z Z) aJ.z ?_
   |refine aY (i:=7) Z (aZ.cons 2 Z .nil) .nil (dL 0 Z Z Z Z Z) aJ.z ?_
   |refine aY (i:=8) Z .nil .nil (eO Z) aJ.z ?_
   |refine a_ (dX 5 Z) λQ=>?_
    refine aY (i:=9) Z (aZ.cons 4 Z .nil) .nil (tZ 0 Z Z Z Z Z q.1 (by have y:=q.2;have A:=Q;(try simp only[zA1]at y);(try simp only[zA1]at A);(try simp only[zA1]);omega)) aJ.z ?_
   |refine a_ (dX 5 Z) λR=>?_
    refine aY (i:=10) Z (aZ.cons 4 Z .nil) .nil (gW 0 Z Z R Z Z q) aJ.z ?_
   |refine aY (i:=11) Z (aZ.cons 1 Z .nil) .nil (gV 0 Z Z Z Z) aJ.z ?_
   |refine zBi (i:=12) Z Z Z (cM (e:=b_) ([((n,d))]) [(0,ad)] Z Z Z Z (Iq (vI (n)) (vI (d))) Z Z Z) Z (λap=>(by first|exact pX.h (aZ.ix [1] Z Z) .nil (mC [([5],[]),([5],[]),([3],[]),([5],[]),([5],[]),([3],[]),([3],[]),([3],[])] Z)|exact pX.h (aZ.ix [2] Z Z) .nil (mC [([6],[]),([6],[]),([4],[]),([6],[]),([6],[]),([4],[]),([4],[]),([4],[])] Z))) λap=>?_
   |first
     |refine zBi (i:=13) Z Z Z (sG 6 cW Z Z Z (cB (aF.res 0 Z) cW) Z Z Z Z q F Z) Z (λs=>(mC [([1],[]),([5],[]),([5],[]),([3],[]),([3],[]),([3],[])] Z)) λs=>?_
     |refine zBi (i:=13) Z Z Z (sG 7 cW Z Z Z (cB (aF.res 1 Z) cW) Z Z Z Z q F Z) Z (λs=>(mC [([2],[]),([6],[]),([6],[]),([4],[]),([4],[]),([4],[])] Z)) λs=>?_
     |refine zBi (i:=13) Z Z Z (sG 7 cW Z Z Z (cB (aF.res 0 Z) cW) Z Z Z Z q F Z) Z (λs=>(mC [([2],[]),([6],[]),([6],[]),([4],[]),([4],[]),([4],[])] Z)) λs=>?_
   |refine aY (i:=14) Z .nil .nil (cR Z Z Z Z Z) aJ.z ?_
   |refine aY (i:=15) Z (aZ.cons 2 Z .nil) .nil (dL 0 Z Z Z Z Z) aJ.z ?_
   |refine aY (i:=16) Z .nil .nil (eO Z) aJ.z ?_
   |refine a_ (dX 5 Z) λS=>?_
    refine aY (i:=17) Z (aZ.cons 4 Z .nil) .nil (tZ 0 Z Z Z Z Z C.1 (by have y:=C.2;have A:=S;(try simp only[zA1]at y);(try simp only[zA1]at A);(try simp only[zA1]);omega)) aJ.z ?_
   |refine a_ (dX 5 Z) λT=>?_
    refine aY (i:=18) Z (aZ.cons 4 Z .nil) .nil (gW 0 Z Z T Z Z C) aJ.z ?_
   |refine aY (i:=19) Z (aZ.cons 0 Z .nil) .nil (gV 0 Z Z Z Z) aJ.z ?_
   |refine zBi (i:=20) Z Z Z (cM (e:=b_) ([((m,d))]) [(0,ae)] Z Z Z Z (Iq (vI (m)) (vI (d))) Z Z Z) Z (λaq=>(by first|exact pX.b Z (mC [([6],[]),([6],[]),([4],[]),([3],[]),([6],[]),([6],[]),([4],[]),([4],[]),([4],[])] Z)|exact pX.b Z (mC [([5],[]),([5],[]),([3],[]),([2],[]),([5],[]),([5],[]),([3],[]),([3],[]),([3],[])] Z))) λaq=>?_
   |refine zBi (i:=21) Z Z Z (Kp (j:=m) 7 cW Z Z Z (by first|exact cB (aF.res 0 Z) cW|exact cB (aF.res 1 Z) cW) Z Z Z Z C al Z am) Z (λai=>(mC [([4],[]),([4],[])] Z)) λai=>?_
   |refine a_ (dX 7 Z) λV=>?_
    refine aY (i:=22) Z (aZ.cons 6 Z .nil) .nil (tZ 0 Z Z Z Z Z f.1 (by have y:=f.2;have A:=V;(try simp only[zA1]at y);(try simp only[zA1]at A);(try simp only[zA1]);omega)) (EQ Z) ?_
   |refine a_ (Om (k:=m) (j:=n) 7 Z (by omega) ⟨f.1,by first|exact f.2|simpa using f.2⟩) λaa=>?_
    refine Ia (i:=23) Z Z Z (MC 6 7 ⟨f.1,by first|exact f.2|simpa using f.2⟩ Z Z Z Z (by simp) aa Z) (λar=>(mC [([4],[])] Z)) λar=>?_
  refine bP 24 Z Z<|bF (dX 7 Z) λW=>?_;refine aB (tZ 6 Z Z Z Z Z g.1 (by have y:=g.2;have A:=W;(try simp only[zA1]at y);(try simp only[zA1]at A);(try simp only[zA1]);omega)) Z ?_;refine bF (JO 7 (k:=n) Z ⟨g.1,by first|exact g.2|simpa using g.2⟩) λab=>?_;refine AX 6 7 ⟨g.1,by first|exact g.2|simpa using g.2⟩ Z Z Z Z Z (by simp) ab Z ?_;refine fJ ?_;cases h;exact KD (List.set (List.set E (Int.toNat m) s) (Int.toNat n) ai) Z Z .normal (.inr Z) (aZ.ix [6,7] Z Z) aI.nil
def qK (b:Fy) (a:hJ):Option wA:=
 some ((b.1,a))
def wC (U:Nat) (b:AT) (i:Fy) (a:Int×hJ) (c:(Int×hJ)->Option wA):Option wA:=
 if a.1<(a.2.length:Int)then(Option.bind (uM U b.2.1 (wI .i64 (a.1 - (1:Int)))) λd=>(Option.bind (eQ U d a.1) λe=>(Option.bind (uM U b.2.2.1 (wI .i64 (a.1 - (1:Int)))) λf=>(Option.bind (eQ U f (15:Int)) λg=>(Option.bind (oC U ((b.1,b.2.1,b.2.2.1,b.2.2.2.1,b.2.2.2.2.1,b.2.2.2.2.2)) ((i.1,a.2)) e a.1 (wI .i64 ((1:Int)+g))) λh=>(c ((wI .i64 (a.1+(1:Int))),h)))))))else(qK i (a.2))
def oB (U:Nat) (a:AT) (c:Int):Option wA:=
 Option.bind (qO U ((a.1,a.2.1,a.2.2.1,a.2.2.2.1,a.2.2.2.2.1,a.2.2.2.2.2)) c) λb=>(bJ (wC U a b) U ((1:Int),b.2))
theorem WQ:bB Tryz.prog 24:=Tryz.call24
theorem CY (U:Nat) {p0:AT} {p1:Int} (n o p:V0) (r:Fy) (h:oB U p0 p1=some r):
  bD Tryz.prog 24 #[Value.agg #[vI (p0.1),n,o,p,vB (p0.2.2.2.2.1),vB (p0.2.2.2.2.2)],vI (p1)] [Sl aN n p0.2.1,Sl aN o p0.2.2.1,Sl aN p p0.2.2.2.1] (λx:V0×V0×List V0=>Value.agg #[x.1,x.2.1]) (λx l=>Ar fW x.1 r.1::Ar bM.raw x.2.1 x.2.2::gN b_ x.2.2 r.2::l) (λ_ l=>l):=by
 refine bD.of Tryz.func24 Z Tryz.ntmps24 Z λc=>?_;refine aU<|aK (aP.box (cs:=[vI (p0.1),n,o,p,vB (p0.2.2.2.2.1),vB (p0.2.2.2.2.2)]) Z Z) Z λR=>let t:=bL R [vI (p0.1),n,o,p,vB (p0.2.2.2.2.1),vB (p0.2.2.2.2.2)] 24;aK (aP.alloc (cs:=[cT,cT]) Z Z) Z λw=>let k:=bL w [cT,cT] 31;aO<|aU<|dM 1 Z<|aA Z<|eT h λu T h=>aK (zBg acX (Hc U n o p u T) Z (iN [0,1,2] Z)) Z λd=>let m:=Ar fW d.1 u.1;aK (aP.alloc (cs:=[cT,cT]) Z Z) Z λy=>let g:=bL y [d.1,d.2.1] 31;bF (Know.one ((cB (aF.res 1 Z) jA))) λA=>bF (vM (fP (i:=2) (j:=3) Z Z cW)) λC=>cG 0 (vs:=[d.1,d.2.1]) Z Z (gJ A (gJ C Z)) Z Z Z<|aO<|aL<|EV (B:=fY) (λe=>qK u e=some r) (λe f=>[(4,vP w),(5,vP y)]) (λe f=>[g,m,Ar bM.raw d.2.1 f,gN b_ f e,k]) ?_ ?_
 ·refine aU<|aC Z<|aO<|aS<|fI (B:=fY) (wC U p0 u) (λb a=>[(2,vP R),(4,vP w),(5,vP y),(6,vI (b.1))]) (λb a=>[g,m,Ar bM.raw d.2.1 a,gN b_ a b.2,k,t]) ((1:Int),u.2) (d.2.2) h SF (aZ.refl _) ?_;intro S b a h;refine aL<|aU<|aA Z<|bU Z<|dQ 0 Z<|aB (dU Z (fP (i:=2) (j:=3) Z Z cW) Z) Z<|cV Z<|aO ?_;refine eN h Z (λh=>?_) λh=>?_
  ·refine cL<|aL<|aS ?_;refine sW [0,0,0,4,0,16,60,0,252,0,0,1024,0,4096,15868,32252,65020,131071] 17 mixedOrders ?_;refine jD 5 Z<|jD 0 Z<|cH Z<|fO 5 Z<|aV Z<|gC Z (nY Z Z)<|eT h λD H h=>zBi Z Z Z (zBg Lp (Db U n D H) Z (iN [0] Z)) Z (λM=>(mC [([0],[]),([5],[])] Z)) λM=>gC Z (eO Z)<|eT h λE I h=>zBi Z Z Z (zBg Bc (g_ U E I) Z .nil) Z (λN=>(mC [([0],[]),([5],[])] Z)) λN=>gC Z (eO Z)<|gC Z (cR Z Z Z Z Z)<|aY Z (aZ.cons 5 Z .nil) .nil (dL 0 Z Z Z Z Z) (aJ.h (aZ.ix [5] Z Z) .nil (aJ.h (aZ.ix [5] Z Z) .nil aJ.z))<|gC Z (eO Z)<|gC Z (nY Z Z)<|eT h λF J h=>zBi Z Z Z (zBg Lp (Db U o F J) Z (iN [1] Z)) Z (λO=>(mC [([0],[]),([5],[])] Z)) λO=>eT h λG K h=>zBi Z Z Z (zBg Bc (g_ U G K) Z .nil) Z (λP=>(mC [([0],[]),([5],[])] Z)) λP=>gC Z (yT Z Z)<|bP 17 Z Z<|eT h λv L h=>aK (EF (Min:=[Ar bM.raw d.2.1 a,gN b_ a b.2]) (Mr:=[g,m,k,t]) Xb (CZ U n o p d.1 d.2.1 a v L) Z (aZ.ix [2,3,0,1,4,5] Z Z) (aI.cons (cA Z) (aI.cons (mM Z) (aI.cons (yP Z) (aI.cons (cB (aF.res 1 Z) jA) .nil)))) (λ_ _=>rfl)) Z λQ=>fJ<|lL<|aQ<|aA Z<|cP Z<|aC Z<|aO ?_;exact iG ((wI .i64 (b.1+(1:Int))),v) (Q) h SF (aZ.ix [2,3,0,1,4,5] Z Z) (aI.refl _ _)
  refine fG ?_;exact cI (b.2) (a) h SF (aZ.ix [0,1,2,3,4] Z Z) (aI.refl _ _)
 intro e f h;unfold qK at h;refine aU<|dM 0 Z<|bF (Know.one ((cB (aF.res 1 Z) jA))) λq=>bF (vM (fP (i:=2) (j:=3) Z Z cW)) λs=>cG 4 (vs:=[d.1,d.2.1]) Z Z (gJ q (gJ s Z)) Z Z Z<|aO<|aR ?_;cases h;exact iS (d.1,d.2.1,f) Z Z (RV.cell 4 Z Z Z Z) (aZ.ix [1,2,3] Z Z) aI.nil
end Go.Proofs.YtflciafboapaaaaGreat
section
set_option maxRecDepth 100000
namespace Go.Gx
open Go Go.Sx Go.Proofs Go.Proofs.YtflciafboapaaaaGreat
noncomputable section
def aeX (a:List GV) (H:GH):OR:=a1 a λb=>ob (Xp H b) λp0=>ob (iK 1000 p0) λr=>ace r H
def aeW (a:List GV) (H:GH):OR:=a2 a λb c=>ob (aeF H b) λp0=>ob (dSc .i64 c) λp1=>ob (oB 1000 p0 p1) λr=>Td r H
def XL (f:Nat) (a:List GV) (H:GH):Option (GV×GH):=bif Nat.beq f 72 then aeX a H else bif Nat.beq f 24 then aeW a H else none
abbrev gl:Nat->BY:=λ_:Nat=>noG
def gp:GP:=⟨xG,94,XL,XK 265⟩
section
variable {T:Nat} {w0:f_ (gl T)} {w:World} {ρ:fK} {H H':GH} {g:GV} {us:List GV} {vs:List V0}
theorem aba (h:aeX us H=some (g,H')) (R:iD w0 ρ H w) (m:qJ ρ us vs):mU Tryz.prog w0 ρ 72 vs w g H':=by
 obtain⟨p,rfl,h⟩:=TF h;obtain⟨j,c,h⟩:=aD.1 h;obtain⟨r,l,h⟩:=aD.1 h;obtain⟨o,rfl,d⟩:=m.one;obtain⟨e,i,n,rfl,a,b⟩:=Vp R d c;obtain⟨rfl,rfl⟩:=Tc h;exact SQ Su (DV 1000 (p0:=j) e i n r l) R (List.forall_mem_cons.2 ⟨a,List.forall_mem_cons.2 ⟨b,λf k=>absurd k zB7⟩⟩) λρ=> .bool _
theorem aa_ (h:aeW us H=some (g,H')) (R:iD w0 ρ H w) (i:qJ ρ us vs):mU Tryz.prog w0 ρ 24 vs w g H':=by
 obtain⟨z,A,rfl,h⟩:=TG h;obtain⟨o,d,h⟩:=aD.1 h;obtain⟨p,e,h⟩:=aD.1 h;obtain⟨r,v,h⟩:=aD.1 h;obtain⟨x,vs,rfl,j,i⟩:=i.of_cons;obtain⟨y,rfl,k⟩:=i.one;obtain⟨l,m,n,rfl,a,b,c⟩:=aaL R j d;obtain rfl:=Xr k e;obtain⟨q,s,t,rfl,rfl⟩:=QK h;exact SP aeK aeL q s t WQ (CY 1000 (p0:=o) (p1:=p) l m n r v) R (List.forall_mem_cons.2 ⟨a,List.forall_mem_cons.2 ⟨b,List.forall_mem_cons.2 ⟨c,λf u=>absurd u zB7⟩⟩⟩)
theorem OO {f:Nat} (h:XL f us H=some (g,H')) (R:iD w0 ρ H w) (c:qJ ρ us vs):mU Tryz.prog w0 ρ f vs w g H':=by
 unfold XL at h;cases a:Nat.beq f 72 with
 |true=>rw[a]at h;rw[zA7 a];exact aba h R c
 |false=>
 rw[a]at h;cases b:Nat.beq f 24 with
 |true=>rw[b]at h;rw[zA7 b];exact aa_ h R c
 |false=>
 rw[b]at h;cases h
end
theorem adv:aeH Tryz.prog xG=true:=by kernel_rfl
theorem KX:gQ Tryz.prog xG:=⟨Rv,adu adv⟩
theorem adP {a:BY} (b:f_ a):tT Tryz.prog b (Np xG 148 Tryz.f148):=Xg KX mixedOrders Tryz.func148 Tryz.call148 (by kernel_rfl)
theorem adq (a:Array V0) (w:World) (c:a.size=2):CallsDIn (FR none) 0 Tryz.prog 147 a .returning w λe f g=>∃v,e = .returned v/\f = .returning/\Nb w g:=by
 obtain⟨d,h,b⟩:=Yl (r:=Hk xG (Np xG 148 Tryz.f148) (OE Tryz.f147) (evC xG (Np xG 148 Tryz.f148) (λ_ _ _ _=>none) (Xe Tryz.f147) 0 ⟨[],0,[]⟩ (IF [])) (OE Tryz.f147).tail ⟨[(aaI Tryz.f147,.inil)],H0⟩) (by kernel_rfl);exact Vl (ch:=Np xG 148 Tryz.f148) (lp:=λ_ _ _ _=>none) KX mixedOrders adP Kf Tryz.func147 Z Z Z (by decide +kernel) (λi w=>by simp[execOp,resolve,invoke,builtin]) (by kernel_rfl) (by kernel_rfl) Z (by rw[c];decide +kernel) h b
theorem aeN {i:BY} {a:FuncId->List GV->GH->Option (GV×GH)} (o:∀(b:f_ i) {f us H g H'},a f us H=some (g,H')->∀c w d,iD b c H w->qJ c us d->mU Tryz.prog b c f d w g H') (b:f_ i):TD Tryz.prog ⟨xG,94,a,XK 265⟩ Ha.fns b:=by
 refine⟨KX,mixedOrders,λh=> ?_,o b,λh c w d H R n=>aaW Tryz.func265 Z Z Z Z h c w d H R n,λR l j k=> ?_⟩
 ·obtain⟨e,m,h⟩:=aD.1 (show ob (Uy _) _=some _ from h);cases h;obtain⟨p,q,r⟩:=YA m;exact⟨p,q,QL r⟩
 ·exact adh (tb:=xG) (T1:=3) (T2:=47) (cc:=147) KX Tryz.func94 Tryz.call94 Tryz.call147 Z Z Z (TI (by kernel_rfl)) (TI (by kernel_rfl)) (UC Z Z) (UC Z Z) (Yb Z Z) (Yb Z Z) adq R l j k
theorem RQ {T:Nat} (a:f_ (gl T)):TD Tryz.prog gp Ha.fns a:=aeN (λa f d H g c h i w e R b=>OO h R b) a
def gp0:GP:=⟨xG,94,λ_ _ _=>none,XK 265⟩
theorem aeM (a:f_ noG):TD Tryz.prog gp0 Ha.fns a:=aeN (λa f c H g b h=>by cases h) a
end
end Go.Gx
end
namespace Go.Gx
open Go Go.Sx Go.RowKit
mutual
def IK (k:Nat):GV->GV
 | .ptr h o=> .ptr (k+h) o
 | .sl h o l s=> .sl (k+h) o l s
 | .map h=> .map (k+h)
 | .fn f a b=> .fn f (Wh k a) (Wh k b)
 | .agg cs=> .agg (Wh k cs)
 | .tup vs=> .tup (Wh k vs)
 | .int a b=> .int a b
 | .bool b=> .bool b
 | .str a b=> .str a b
 | .pnil=> .pnil
 | .snil=> .snil
 | .fnil=> .fnil
 | .inil=> .inil
 | .un=> .un
 | .bad=> .bad
 | .opn h=> .opn (k+h)
def Wh (k:Nat):List GV->List GV
 | []=>[]
 |v::r=>IK k v::Wh k r
end
theorem Pn (k:Nat):∀(l:List GV) (i:Nat),(Wh k l)[i]? = (l[i]?).map (IK k)
 | [],i=>rfl
 |v::r,0=>rfl
 |v::r,i+1=>by simpa [Wh]using Pn k r i
theorem GN (k:Nat):∀(l:List GV),(Wh k l).length=l.length
 | []=>rfl
 |v::r=>by simp[Wh,GN k r]
def Zx (k:Nat):GO->GO
 | .cells cs=> .cells (Wh k cs)
 | .mp es=> .mp (es.map λe=>(IK k e.1,IK k e.2))
def CX (k:Nat) (l:Nh):Nh:={l with o:=Zx k l.o}
theorem Rl.shift {y e:fK} {k:Nat} (c:∀h l,y h=some l->e (k+h)=some (CX k l)) {g:GV} {v:V0} (h:Rl y g v):Rl e (IK k g) v:=by
 have d:∀{u:List GV} {j:fY},(∀(i:Nat) g v,u[i]? = some g->j[i]? = some v->Rl e (IK k g) v)->∀(i:Nat) g v,(Wh k u)[i]? = some g->j[i]? = some v->Rl e g v:=by
  intro u j D i g v x E;rw[Pn]at x;obtain⟨z,A,rfl⟩:=Option.map_eq_some_iff.1 x;exact D i z v A E
 induction h with
 |int a n=>simp only[IK];exact .int a n
 |bool b=>simp only[IK];exact .bool b
 |str s=>simp only[IK];exact .str s
 |ptr t h=>simp only[IK];exact .ptr (l:=CX k _) t (c _ _ h)
 |pnil=>simp only[IK];exact .pnil
 |sl h C B=>simp only[IK];exact .sl (l:=CX k _) (c _ _ h) C B
 |snil=>simp only[IK];exact .snil
 |map h=>simp only[IK];exact .map (l:=CX k _) (c _ _ h)
 |fn f m w o G q r=>simp only[IK];exact .fn f (by rw[GN];exact m) (d q) (by rw[GN];exact o) (d r)
 |fnil=>simp only[IK];exact .fnil
 |inil=>simp only[IK];exact .inil
 |agg m w o p=>simp only[IK];exact .agg (by rw[GN];exact m) (d p) o
 |tup m w p=>simp only[IK];exact .tup (by rw[GN];exact m) (d p)
 |un=>simp only[IK];exact .un
 |bad v=>simp only[IK];exact .bad v
 |opn v h F=>simp only[IK];exact .opn (l:=CX k _) v (c _ _ h) F
abbrev OL:=List (Nat×Nat×GO)
def Wg:OL->Nat->Option (Nat×GO)
 | [],_=>none
 |x::r,h=>if h=x.1 then some x.2 else Wg r h
theorem OV {b:OL} {h:Nat} {p:Nat×GO} (a:Wg b h=some p):(h,p)∈b:=by
 induction b with
 |nil=>cases a
 |cons x r c=>
  simp only[Wg]at a;split at a
  ·rename_i e;cases a;subst e;exact zAf
  ·exact zAl _ (c a)
noncomputable def QR (k:Nat) (t:Tr (Nat×GO)):OL->Tr (Nat×GO)
 | []=>t
 |x::r=>(QR k t r).set (some (k+x.2.1,Zx k x.2.2)) (k+x.1)
noncomputable def abq:OL->Tr (Nat×GO)
 | []=> .lf
 |x::r=>(abq r).set (some x.2) x.1
theorem Gb:∀(a:OL) (h:Nat),(abq a).get h=Wg a h
 | [],h=>rfl
 |x::r,h=>by
  show((abq r).set (some x.2) x.1).get h=_;rw[tY];simp only[Wg];split
  ·rfl
  ·exact Gb r h
theorem LX (k:Nat) (t:Tr (Nat×GO)):∀(b:OL) (h:Nat),(QR k t b).get h=if k<=h then(match Wg b (h - k)with|some p=>some (k+p.1,Zx k p.2)|none=>t.get h)else t.get h
 | [],h=>by simp[QR,Wg]
 | x :: r, h => by
  show((QR k t r).set (some (k+x.2.1,Zx k x.2.2)) (k+x.1)).get h=_;rw[tY,LX k t r h];by_cases e:h=k+x.1
  ·subst e;rw[if_pos Z,if_pos (by omega)];simp[Wg]
  ·rw[if_neg e];by_cases a:k<=h
   ·rw[if_pos a,if_pos a];simp only[Wg];rw[if_neg (show¬h - k=x.1 by omega)]
   ·rw[if_neg a,if_neg a]
noncomputable def Ku (n:Nat) (a:OL):GH:=⟨n,abq a⟩
noncomputable def GH.load (H:GH) (n:Nat) (a:OL):GH:=⟨H.n+n,QR H.n H.t a⟩
section
variable {gs:BY} {w0:f_ gs} {w w':World} {ρ ρ2:fK} {H:GH} {n:Nat} {os:OL}
theorem jB {H:GH} {h:Nat} {o:GO}:H.get h=some o↔∃v,H.t.get h=some (v,o):=by
 unfold GH.get;cases c:H.t.get h with
 |none=>simp[ob]
 |some p=>obtain⟨a,b⟩:=p;simp[ob]
theorem tV {H:GH} {h v:Nat}:H.ver h=some v↔∃o,H.t.get h=some (v,o):=by
 unfold GH.ver;cases c:H.t.get h with
 |none=>simp[ob]
 |some p=>obtain⟨a,b⟩:=p;simp[ob]
theorem iD.sub {d:GH} (R:iD w0 ρ H w) (z:d.n=H.n) (m:∀h p,d.t.get h=some p->H.t.get h=some p):iD w0 ρ d w:=by
 have g:∀h o,d.get h=some o->H.get h=some o:=λh o i=>by
  obtain⟨v,j⟩:=jB.1 i;exact jB.2 ⟨v,m _ _ j⟩
 refine⟨R.ext,λh o i=>R.live h o (g h o i),λh q o y l u e f=>R.inj h q o y l u (g _ _ e) (g _ _ f),λh r=>R.fresh h (by omega),λh r=>R.dense h (by omega),λh v l j s=> ?_,R.env⟩
 obtain⟨o,k⟩:=tV.1 j;obtain⟨x,a,b,c⟩:=R.vers h v l (tV.2 ⟨o,m _ _ k⟩) s;refine⟨x,a,b,?_⟩
 have e:=jB.2 ⟨v,k⟩;have f:=g _ _ e;rw[c]at f;cases f;exact e
theorem AI.shift {l:Nh} {o:GO} {f:fK} {k:Nat} (d:∀h l,ρ2 h=some l->f (k+h)=some (CX k l)) (h:AI ρ2 w l o):AI f w (CX k l) (Zx k o):=by
 cases o with
 |cells z=>
  obtain⟨j,T,r,s,t,y⟩:=h;refine⟨j,T,r,s,by rw[GN];exact t,λi g e=> ?_⟩
  rw[Pn]at e;obtain⟨p,q,rfl⟩:=Option.map_eq_some_iff.1 e;obtain⟨v,a,b,c⟩:=y i p q;exact⟨v,a,b.shift d,c⟩
 |mp A=>
  obtain⟨x,u,r,s,t⟩:=h;refine⟨x,u,r,by simpa [Zx]using s,λi g e=> ?_⟩
  rw[List.getElem?_map]at e;obtain⟨p,q,rfl⟩:=Option.map_eq_some_iff.1 e;obtain⟨m,a,b,c⟩:=t i p q;exact⟨m,a,b.shift d,c.shift d⟩
theorem iD.join {Y:BY} {hb:JN Y w λ_=>False} (R:iD w0 ρ H w) (M:iD (f_.of w hb) ρ2 (Ku n os) w'):
  ∃s:fK,ρ.le s/\iD w0 s (H.load n os) w'/\∀g v,Rl ρ2 g v->Rl s (IK H.n g) v:=by
 let s:fK:=λh=>if h<H.n then ρ h else(ρ2 (h - H.n)).map (CX H.n);have G:ρ.le s:=λh l f=>by
  have ac:h<H.n:=by
   rcases zAu h H.n with q|q
   ·exact q
   ·rw[R.fresh h q]at f;cases f
  show(if h<H.n then ρ h else _)=_;rw[if_pos ac];exact f
 have K:∀h l,ρ2 h=some l->s (H.n+h)=some (CX H.n l):=λh l f=>by
  show(if H.n+h<H.n then _ else _)=_;rw[if_neg (by omega),show H.n+h - H.n=h by omega,f];rfl
 have k:∀h,h<H.n->s h=ρ h:=λh u=>by show(if h<H.n then ρ h else _)=_;rw[if_pos u]
 have d:∀h,H.n<=h->s h=(ρ2 (h - H.n)).map (CX H.n):=λh u=>by show(if h<H.n then ρ h else _)=_;rw[if_neg (by omega)]
 have J:∀h,H.n<=h->H.t.get h=none:=λh u=>by
  cases y:H.t.get h with
  |none=>rfl
  |some p=>exact absurd (R.lt (jB.2 ⟨p.1,y⟩)) (by omega)
 have X:∀h,h<H.n->(H.load n os).t.get h=H.t.get h:=λh u=>by
  show(QR H.n H.t os).get h=_;rw[LX,if_neg (by omega)]
 have gh:∀h p,H.n<=h->(H.load n os).t.get h=some p->∃x,(Ku n os).t.get (h - H.n)=some x/\p=(H.n+x.1,Zx H.n x.2):=λh p u hp=>by
  have A:(QR H.n H.t os).get h=some p:=hp;rw[LX,if_pos u,J h u]at A;cases hk:Wg os (h - H.n)with
  |none=>rw[hk]at A;cases A
  |some x=>rw[hk]at A;cases A;exact⟨x,(Gb os _).trans hk,rfl⟩
 have W:Nb w w':=M.ext.ext;have L:∀l:Nh,(f_.of w hb).mine l.b->w.heap.size<=l.b:=λl h=>by
  rcases h with h|h
  ·exact h
  ·exact h.elim
 have r:∀h o,h<H.n->(H.load n os).get h=some o->∃l,ρ h=some l/\w0.mine l.b/\AI ρ w l o/\H.get h=some o:=λh o u y=>by
  obtain⟨v,N⟩:=jB.1 y;rw[X h u]at N;have z:=jB.2 ⟨v,N⟩;obtain⟨l,a,b,c⟩:=R.live h o z;exact⟨l,a,b,c,z⟩
 have m:∀h o,H.n<=h->(H.load n os).get h=some o->∃l O,ρ2 (h - H.n)=some l/\w.heap.size<=l.b/\AI ρ2 w' l O/\o=Zx H.n O/\(Ku n os).get (h - H.n)=some O:=λh o u y=>by
  obtain⟨v,N⟩:=jB.1 y;obtain⟨x,E,e⟩:=gh h _ u N;cases e;have z:(Ku n os).get (h - H.n)=some x.2:=jB.2 ⟨x.1,E⟩;obtain⟨l,a,b,c⟩:=M.live _ _ z;exact⟨l,x.2,a,L l b,c,rfl,z⟩
 refine⟨s,G,⟨R.ext.trans W,λh o y=> ?_,λh B o U l l' V E f j F=> ?_,λh u=> ?_,λh u=> ?_,λh v l N f=> ?_,λi v e=>let ⟨l,a,b⟩:=R.env i v e;⟨l,G _ _ a,b⟩⟩,λg v y=>y.shift K⟩
 ·rcases zAu h H.n with q|q
  ·obtain⟨l,a,b,c,_⟩:=r h o q y;exact⟨l,by rw[k h q];exact a,b,c.move G (W.block _ c.lt)⟩
  ·obtain⟨l,O,a,b,c,rfl,_⟩:=m h o q y;exact⟨CX H.n l,by rw[d h q,a];rfl,.inl (zB1 R.ext.size b),c.shift K⟩
 ·rcases zAu h H.n with q|q<;>rcases zAu B H.n with I|I
  ·obtain⟨l1,C,_,_,P⟩:=r h o q V;obtain⟨T,D,_,_,Q⟩:=r B U I E;rw[k h q,C]at f;rw[k B I,D]at j;cases f;cases j;exact R.inj h B o U _ _ P Q C D F
  ·obtain⟨l1,C,_,c1,P⟩:=r h o q V;obtain⟨T,O,D,b2,_,rfl,Q⟩:=m B U I E;rw[k h q,C]at f;rw[d B I,D]at j;cases f;cases j;have:=c1.lt;simp only[CX]at F;omega
  ·obtain⟨l1,o1,C,b1,_,rfl,P⟩:=m h o q V;obtain⟨T,D,_,c2,Q⟩:=r B U I E;rw[d h q,C]at f;rw[k B I,D]at j;cases f;cases j;have:=c2.lt;simp only[CX]at F;omega
  ·obtain⟨l1,o1,C,b1,_,rfl,P⟩:=m h o q V;obtain⟨T,O,D,b2,_,rfl,Q⟩:=m B U I E;rw[d h q,C]at f;rw[d B I,D]at j;cases f;cases j;have:=M.inj _ _ _ _ _ _ P Q C D F;omega
 ·have aa:H.n+n<=h:=u;rw[d h (by omega),M.fresh (h - H.n) (by show n<=_;omega)];rfl
 ·have aa:h<H.n+n:=u;rcases zAu h H.n with q|q
  ·obtain⟨l,f⟩:=R.dense h q;exact⟨l,by rw[k h q];exact f⟩
  ·obtain⟨l,f⟩:=M.dense (h - H.n) (by show _<n;omega);exact⟨CX H.n l,by rw[d h q,f];rfl⟩
 ·obtain⟨o,S⟩:=tV.1 N;rcases zAu h H.n with q|q
  ·rw[X h q]at S;rw[k h q]at f;obtain⟨lv,a,b,c⟩:=R.vers h v l (tV.2 ⟨o,S⟩) f;have y:=jB.2 ⟨v,S⟩;obtain⟨l',j,_,ck⟩:=R.live h o y;rw[f]at j;cases j;refine⟨lv,G _ _ a,by rw[W.block _ ck.lt];exact b,?_⟩
   obtain⟨v2,ad⟩:=jB.1 c;exact jB.2 ⟨v2,by rw[X h q];exact ad⟩
  ·obtain⟨x,E,e⟩:=gh h _ q S;cases e;rw[d h q]at f;obtain⟨T,ab,rfl⟩:=Option.map_eq_some_iff.1 f;obtain⟨lv,a,b,c⟩:=M.vers (h - H.n) x.1 T (tV.2 ⟨x.2,E⟩) ab;refine⟨CX H.n lv,K _ _ a,b,?_⟩
   have h3:(Ku n os).get (h - H.n)=some x.2:=jB.2 ⟨x.1,E⟩;rw[c]at h3;have h4:=Option.some.inj h3;exact jB.2 ⟨_,by rw[S,<-h4];rfl⟩
end
theorem Xx {a b:Nat×Nat} (h:RP a b=true):a=b:=by
 obtain⟨f,d⟩:=a;obtain⟨g,e⟩:=b;unfold RP at h;cases c:Nat.beq d e with
 |false=>simp[c]at h
 |true=>
  simp only[c,cond_true]at h;rw[zA7 h,zA7 c]
theorem Pj {c:fK} {n l:Nat} {x:ByteArray} (a:n=mT (bV x)) (b:l=(bV x).length):Rl c (.str n l) (.string x):=by
 rw[a,b];exact .str x
def isS (a:List GV) (p:Nat×Nat):Bool:=List.casesOn (motive:=λ_=>Bool) a false λu r=>List.casesOn (motive:=λ_=>Bool) r (Option.casesOn (motive:=λ_=>Bool) (GV.asStr u) false λs=>RP s p) λ_ _=>false
theorem SS {b:List GV} {p:Nat×Nat} (h:isS b p=true):b=[.str p.1 p.2]:=by
 cases b with
 |nil=>cases h
 | cons u r =>
  cases r with
  |cons _ _=>cases h
  | nil =>
   cases a:GV.asStr u with
   |none=>simp[isS,a]at h
   |some s=>
    have:RP s p=true:=by simpa [isS,a]using h
    rw[qT a,Xx this]
noncomputable section
def Yp (H:GH) (a:List Nat):Option OL:=List.rec (motive:=λ_=>Option OL) (some []) (λh _ b=>ob (H.t.get h) λp=>ob b λr=>some ((h,p.1,p.2)::r)) a
theorem Jy {H:GH}:∀{c:List Nat} {b:OL},Yp H c=some b->∀x∈b,H.t.get x.1=some x.2
 | [],b,h,x,a=>by cases h;cases a
 |h0::c,b,h,x,a=>by
  obtain⟨p,d,h⟩:=aD.1 (show ob (H.t.get h0) (λp=>ob (Yp H c) λr=>some ((h0,p.1,p.2)::r))=some b from h);obtain⟨r,e,h⟩:=aD.1 h;cases h;rcases zAm.1 a with rfl|a
  ·exact d
  ·exact Jy e x a
def QB (T:If) (G:GP) (a f:Nat) (d:List GV) (b:List Nat):Option (GV×Nat×OL):=ob (JW T G a f d H0) λr=>ob (Yp r.2 b) λc=>some (r.1,r.2.n,c)
def shK {R:Type} (k:Nat) (v:GV) (f:GV->R):R:=GV.casesOn (motive_1:=λ_=>R) v (λa b=>f (.int a b)) (λb=>f (.bool b)) (λa b=>f (.str a b)) (λh o=>sn (Nat.add k h) λh=>f (.ptr h o)) (f .pnil) (λh o l s=>sn (Nat.add k h) λh=>f (.sl h o l s)) (f .snil) (λh=>sn (Nat.add k h) λh=>f (.map h)) (λa b c=>f (IK k (.fn a b c))) (f .fnil) (f .inil) (λd=>f (IK k (.agg d))) (λe=>f (IK k (.tup e))) (f .un) (f .bad) (λh=>sn (Nat.add k h) λh=>f (.opn h))
theorem YN {R:Type} (k:Nat) (v:GV) (f:GV->R):shK k v f=f (IK k v):=by
 cases v<;>simp[shK,yM,IK]
def adZ {R:Type} (k:Nat) (l:List GV):(List GV->R)->R:=List.rec (motive:=λ_=>(List GV->R)->R) (λf=>f []) (λx _ a f=>shK k x λy=>a λr=>f (y::r)) l
theorem UB {R:Type} (k:Nat):∀(l:List GV) (f:List GV->R),adZ k l f=f (Wh k l)
 | [],f=>rfl
 |x::l,f=>by
  show shK k x (λy=>adZ k l λr=>f (y::r))=_;rw[YN,UB k l];rfl
def ad_ {R:Type} (k:Nat) (o:GO) (f:GO->R):R:=GO.casesOn (motive:=λ_=>R) o (λa=>adZ k a λa=>f (.cells a)) (λb=>f (Zx k (.mp b)))
theorem abD {R:Type} (k:Nat) (o:GO) (f:GO->R):ad_ k o f=f (Zx k o):=by
 cases o with
 |cells a=>exact UB k a _
 |mp b=>rfl
def adO {R:Type} (k:Nat) (t:Tr (Nat×GO)) (b:OL):(Tr (Nat×GO)->R)->R:=List.rec (motive:=λ_=>(Tr (Nat×GO)->R)->R) (λf=>f t) (λx _ a f=>a λt=>sn (Nat.add k x.2.1) λv=>sn (Nat.add k x.1) λh=>ad_ k x.2.2 λo=>t.setK (some (v,o)) h f) b
theorem Uv {R:Type} (k:Nat) (t:Tr (Nat×GO)):∀(a:OL) (f:Tr (Nat×GO)->R),adO k t a f=f (QR k t a)
 | [],f=>rfl
 |x::a,f=>by
  show adO k t a (λt=>sn (Nat.add k x.2.1) λv=>sn (Nat.add k x.1) λh=>ad_ k x.2.2 λo=>t.setK (some (v,o)) h f)=_;rw[Uv k t a];simp only[yM,abD,EI];rfl
def NJ (g:GV) (n:Nat) (a:OL) (H:GH):Option (GV×GH):=sn H.n λk=>shK k g λg=>adO k H.t a λt=>sn (Nat.add k n) λm=>some (g,⟨m,t⟩)
theorem Yf (g:GV) (n:Nat) (a:OL) (H:GH):NJ g n a H=some (IK H.n g,H.load n a):=by
 unfold NJ;simp only[yM,YN,Uv];rfl
theorem OY {P:Program} {T:If} {G:GP} {gs gs2:BY} (j:gs2.obs=gs.obs) (d:gs2.env=[]) (M:Lj T G.tab) (L:∀m:f_ gs2,TD P G T.fns m) {a f n:Nat} {y:List GV} {z:List V0} {O:List Nat} {g:GV} {c:OL} (i:QB T G a f y O=some (g,n,c)) (C:bB P f)
  {m:f_ gs} {w:World} {F:fK} {H o:GH} {B:GV} (Q:qJ (λ_=>none) y z) (h:NJ g n c H=some (B,o)) (R:iD m F H w):mU P m F f z w B o:=by
 rw[Yf]at h;cases h;obtain⟨r,D,i⟩:=aD.1 (show ob (JW T G a f y H0) _=some (g,n,c)from i);obtain⟨S,s,i⟩:=aD.1 i;cases i;rw[FM M]at D;have b:JN gs2 w λ_=>False:=λp t=>⟨(R.glo p (j▸t)).1,id⟩
 rcases Ij L (H':=r.2) (g:=r.1) D (iD.start (f_.of w b) d) Q with⟨v,E,l,k,_⟩|⟨_,N⟩
 ·have:=C z.toArray w;rw[show(f_.of w b).w=w from rfl,this]at k;cases k
 ·refine .inr ⟨C _ w,N.mono ?_⟩;rintro e E ⟨v,A,rfl,_,I,u⟩;have J:iD (f_.of w b) A (Ku r.2.n c) E:=I.sub Z λh p t=>by
   have:Wg c h=some p:=(Gb c h).symm.trans t;exact Jy s _ (OV this)
  obtain⟨l,q,K,x⟩:=R.join J;exact⟨v,l,rfl,q,K,x _ _ u⟩
theorem VH {P:Program} {T:If} {G:GP} {gs:BY} (y:Lj T G.tab) (x:∀H:f_ gs,TD P G T.fns H) {a f n:Nat} {m:List GV} {o:List V0} {D:List Nat} {g:GV} {j:OL} (d:QB T G a f m D=some (g,n,j)) (z:bB P f)
  (E:qJ (λ_=>none) m o) (B:gs.env=[]) (b:f_ gs):Calls P f o.toArray b.w λe q=>∃v c,e = .returned v/\iD b c (Ku n j) q/\Rl c g v:=by
 obtain⟨r,t,d⟩:=aD.1 (show ob (JW T G a f m H0) _=some (g,n,j)from d);obtain⟨F,k,d⟩:=aD.1 d;cases d;rw[FM y]at t;rcases Ij x (H':=r.2) (g:=r.1) t (iD.start b B) E with⟨v,q,c,i,_⟩|⟨_,A⟩
 ·have:=z o.toArray b.w;rw[this]at i;cases i
 ·refine A.mono ?_;rintro e q ⟨v,s,rfl,_,u,l⟩;exact⟨v,s,rfl,u.sub Z λh p C=>by
   have:Wg j h=some p:=(Gb j h).symm.trans C;exact Jy k _ (OV this),l⟩
end
theorem Ta {P:Program} {gs:Nat->BY} {L:List bH} (D:∀w S,(∀h∈L,h.p w S)->∃T,JN (gs T) w λ_=>False) {f n:Nat} {z:List V0} {g:GV} {y:OL}
  (h:∀T (b:f_ (gs T)),Calls P f z.toArray b.w λe s=>∃v c,e = .returned v/\iD b c (Ku n y) s/\Rl c g v) {A:Type} {o:A->V0} {LO:A->List bH}
  (d:∀T (b:f_ (gs T)) (B:fK) (w:World) (V:V0),(∀k,b.mine k->b.w.heap.size<=k)->iD b B (Ku n y) w->Rl B g V->∃x:A,V=o x/\∀q∈LO x,q.p w (λk=>b.w.heap.size<=k)):
  bD P f z.toArray L o (λ_ l=>l) (λx l=>LO x++l):=by
 intro t C H;obtain⟨T,u⟩:=D t C H;refine(h T (.of t u)).mono ?_;rintro e s ⟨v,c,rfl,R,G⟩;obtain⟨x,rfl,F⟩:=d T (.of t u) c s v (λk r=>r.elim id False.elim) R G;refine⟨x,rfl,R.ext,λ_ _=>False,⟨λi m E=>by simp at E,λi k h=>h.elim,λi j k h=>h.elim⟩,λq a=> ?_⟩
 have a:q∈LO x++[]:=a;rw[List.append_nil]at a;exact bH.wide (F q a) (λk r=>⟨.inr (.inl r),λi h=>h.elim⟩)
noncomputable def Ks (s:ByteArray):Nat×Nat:=(mT (bV s),(bV s).length)
theorem Qt {a b:ByteArray} (h:Ks a=Ks b):a=b:=by
 have c:=Xw a b;unfold Ks at h;rw[h]at c;have e:RP (mT (bV b),(bV b).length) (mT (bV b),(bV b).length)=true:=by simp[RP]
 rw[e]at c;have d:a.toList=b.toList:=eq_of_beq c.symm;rw[Lib.toList_data,Lib.toList_data]at d;obtain⟨⟨x⟩⟩:=a;obtain⟨⟨y⟩⟩:=b;simp only at d;rw[d]
noncomputable def ado (a:List GV):Option (Nat×Nat):=List.casesOn (motive:=λ_=>Option (Nat×Nat)) a none λc r=>List.casesOn (motive:=λ_=>Option (Nat×Nat)) r c.asStr λ_ _=>none
abbrev adR:eJ ByteArray:=⟨1,Nat.one_pos,λ_ _ a x=>a=[.string x],λh=>by simp[h],λh _=>h⟩
theorem jZ.str {S:Nat->Prop} {g:fK} {w:World}:jZ S g w ado adR Ks:=λgs f y a h _=>by
 cases gs with
 |nil=>cases h
 |cons c gs=>
 cases gs with
 |cons _ _=>cases h
 |nil=>
 have h:c.asStr=some y:=h;obtain⟨v,f,rfl,b,a⟩:=a.of_cons;rw[a.of_nil];rw[qT h]at b;obtain⟨x,rfl,d,e⟩:=b.str_inv;exact⟨x,by unfold Ks;rw[<-d,<-e],rfl⟩
theorem abE {c:fK} {V:V0} {n l:Nat} {s:ByteArray} (h:Rl c (.str n l) V) (e:Ks s=(n,l)):V = .string s:=by
 obtain⟨x,rfl,a,b⟩:=h.str_inv;have:Ks x=Ks s:=by rw[e];unfold Ks;rw[<-a,<-b]
 rw[Qt this]
theorem LE {c:Type}:∀a b:c,id a=id b->a=b:=λ_ _ h=>h
theorem FW {c d e i:Type} {f:c->e} {g:d->i} (j:∀a b,f a=f b->a=b) (k:∀a b,g a=g b->a=b):∀a b:c×d,(λz:c×d=>(f z.1,g z.2)) a=(λz:c×d=>(f z.1,g z.2)) b->a=b:=λa b h=>by
 obtain⟨l,m⟩:=a;obtain⟨n,o⟩:=b;simp only[Prod.mk.injEq]at h;rw[j _ _ h.1,k _ _ h.2]
theorem LM {g i:Type} {f:g->i} (e:∀a b,f a=f b->a=b):∀{c d:List g},c.map f=d.map f->c=d
 | [],[],_=>rfl
 | [],_::_,h=>by simp at h
 |_::_,[],h=>by simp at h
 |a::c,b::d,h=>by
  simp only[zBf,List.cons.injEq]at h;rw[e _ _ h.1,LM e h.2]
end Go.Gx
section
set_option maxRecDepth 100000
namespace Go.Gx
open Go Go.Sx Go.Proofs Go.Proofs.YtflciafboapaaaaGreat
def DJ (l:List Nat):List GV:=l.map λn=> .int .i64 (.ofNat n)
abbrev Vy:Nat:=694347383405035167176194822044002167647348297245143836294131327360569184365737968126329793190405493482344988959786894529281874176313558490826984968606246471080877494789011164177302286245049115990372077200403708013402509049695102382306818228322771982393217707961675795842989522967358188456979690970385641764651692123905212872060252986787261095913761171524319417829960073087282171735954781095584211454070868651197802307499032207784732548677135855370816834395925866565744265665207222116462978656831551281803369594549094313899917189094449793580303100413293807281703359455343358032385010591122950381170540903283024219015264429781225548838463523961460985867279886747768292538941600374435537547606801203451863138856874214221985847324684911821162203478916645432183221957952246405198551766390813582263330814856421060931063538327705289539381453604124378675808245139143432472308435888706790881913041858159371579898941504693382735800866132567585648297324557324259377338335589867496172224785527092219321786217240867672863735135282467984287700917091573592223335919998225525998760454851250566578735079287735788708791643295000326126232361921241672605532036970180138036720200852591755851876944948989006655553778101348782543140787492202909107220094451130950110838909564269255896107391729847775988160006180135088428875437003457029393388116238549331043434132085245837242978425384584307620834728433727603286891896652071775522271400294050822192304926936532738004063480601437530384204200137077770219811423516471932909178094747412144444130601465298819927667613537532820414148444100189654789199224116680942469602618485657465279305789375435049996248655599547014628641465268294388905743491636110899724336907966066866112157649229705572388001827019957074910716085437328022127866406657227453040
def mu0:List GV:=[.str Vy 733]
def mg0:GV:=(.tup [(.sl 2969 0 348 4),(.int .i64 (.ofNat 0)),(.int .i64 (.ofNat 0))])
def mo0:OL:=[(2969,2969,.cells (DJ [1,0,7,0,1,8,14,0,3,14,15,0,1,16,19,0,1,20,24,0,3,25,26,0,2,27,28,0,3,29,31,0,1,32,35,0,3,35,36,0,1,37,40,0,1,41,42,0,3,43,44,0,2,45,46,0,3,47,49,0,1,50,51,0,3,52,53,0,2,54,55,1,3,55,56,0,1,57,60,0,1,61,62,0,3,63,64,0,1,65,69,0,3,69,70,0,1,71,75,0,1,76,79,0,3,79,80,0,1,81,83,0,3,84,85,0,1,86,87,0,3,88,90,0,1,91,94,0,3,94,95,0,1,95,96,0,3,96,97,0,1,97,98,0,3,99,100,0,2,101,102,1,3,103,104,0,1,105,106,0,3,107,108,0,1,109,110,0,3,110,111,0,1,111,115,0,3,116,117,0,1,118,119,0,3,120,121,0,1,122,123,0,3,123,124,0,1,124,125,0,3,126,127,0,3,128,129,0,1,129,132,0,3,133,134,0,2,135,136,1,3,136,137,0,3,138,139,0,1,140,141,0,3,141,142,0,3,143,145,0,3,146,147,0,1,147,151,0,3,152,154,0,1,155,157,0,3,158,160,0,1,161,162,0,3,163,165,0,2,166,167,0,3,168,170,0,1,171,172,0,3,173,175,0,1,176,180,0,3,180,181,0,3,182,184,0,1,185,189,0,3,190,192,0,1,193,195,0,3,195,196,0,1,197,198,0,3,199,201,0,2,202,203,0,3,203,204,0,1,205,206,0,3,207,209,0,1,210,214,0,3,214,215,0,1,216,220,0,1,221,225,0,3,225,226,0,1,227,229,0,3,230,231,0,1,232,233,0,3,234,235,0,1,236,239,0,3,239,240,0,1,240,241,0,3,241,242,0,1,242,243,0,3,244,245,0,2,246,247,1,3,248,249,0,1,250,251,0,3,252,253,0,1,254,255,0,3,255,256,0,1,256,260,0,3,261,262,0,1,263,264,0,3,265,266,0,1,267,268,0,3,268,269,0,1,269,270,0,3,271,272,0,3,273,274,0,1,274,277,0,3,278,279,0,2,280,281,1,3,281,282,0,3,283,284,0,1,285,286,0,3,286,287,0,3,288,290,0,3,291,292,0,1,292,296,0,3,297,299,0,1,300,303,0,3,303,304,0,1,304,305,0,3,305,306,0,1,306,307,0,3,308,309,0,2,310,311,1,3,312,313,0,1,314,315,0,3,316,317,0,1,318,319,0,3,319,320,0,1,320,324,0,3,325,326,0,1,327,328,0,3,329,330,0,1,331,332,0,3,332,333,0,1,333,334,0,3,335,336,0,3,337,338,0,1,338,341,0,3,342,343,0,2,344,345,1,3,345,346,0,3,347,348,0,1,349,350,0,3,350,351,0,3,352,353,0,1,354,355,0,3,356,358,0,1,359,360,0,3,361,363,0,1,364,367,0,3,367,368,0,1,368,369,0,3,369,370,0,1,370,371,0,3,372,373,0,2,374,375,1,3,376,377,0,1,378,379,0,3,380,381,0,1,382,383,0,3,383,384,0,1,384,388,0,3,389,390,0,1,391,392,0,3,393,394,0,1,395,396,0,3,396,397,0,1,397,398,0,3,399,400,0,3,401,402,0,1,402,405,0,3,406,407,0,2,408,409,1,3,409,410,0,3,411,412,0,1,413,414,0,3,414,415,0,3,416,417,0,1,418,419,0,3,420,421,0,2,422,423,1,3,424,426,0,1,427,428,0,3,429,431,0,1,432,437,0,3,437,438,0,1,438,439,0,3,439,440,0,1,440,444,0,3,445,446,0,1,447,448,0,3,449,450,0,1,451,452,0,3,452,453,0,1,453,454,0,3,455,457,0,1,458,461,0,3,461,462,0,1,462,463,0,3,463,464,0,1,464,465,0,3,466,467,0,2,468,469,1,3,470,471,0,1,472,473,0,3,474,475,0,1,476,477,0,3,477,478,0,1,478,482,0,3,483,484,0,1,485,486,0,3,487,488,0,1,489,490,0,3,490,491,0,1,491,492,0,3,493,494,0,3,495,496,0,1,496,499,0,3,500,501,0,2,502,503,1,3,503,504,0,3,505,506,0,1,507,508,0,3,508,509,0,3,509,510,0,3,510,511,0,3,514,516,0,1,517,521,0,3,522,524,0,1,525,528,0,3,528,529,0,1,529,530,0,3,530,531,0,1,531,532,0,3,533,534,0,2,535,536,1,3,537,538,0,1,539,540,0,3,541,542,0,1,543,544,0,3,544,545,0,1,545,549,0,3,550,551,0,1,552,553,0,3,554,555,0,1,556,557,0,3,557,558,0,1,558,559,0,3,560,561,0,3,562,563,0,1,563,566,0,3,567,568,0,2,569,570,1,3,570,571,0,3,572,573,0,1,574,575,0,3,575,576,0,3,577,578,0,1,579,580,0,3,580,581,0,1,582,583,0,3,584,586,0,1,587,590,0,3,590,591,0,1,591,592,0,3,592,593,0,1,593,594,0,3,595,596,0,2,597,598,1,3,599,600,0,1,601,602,0,3,603,604,0,1,605,606,0,3,606,607,0,1,607,611,0,3,612,613,0,1,614,615,0,3,616,617,0,1,618,619,0,3,619,620,0,1,620,621,0,3,622,623,0,3,624,625,0,1,625,628,0,3,629,630,0,2,631,632,1,3,632,633,0,3,634,635,0,1,636,637,0,3,637,638,0,3,639,640,0,1,641,642,0,3,643,644,0,2,645,646,1,3,646,647,0,1,648,649,0,3,650,652,0,1,653,658,0,3,658,659,0,1,659,660,0,3,660,661,0,1,661,665,0,3,666,667,0,1,668,669,0,3,670,671,0,1,672,673,0,3,673,674,0,1,674,675,0,3,676,678,0,1,679,682,0,3,682,683,0,1,683,684,0,3,684,685,0,1,685,686,0,3,687,688,0,2,689,690,1,3,691,692,0,1,693,694,0,3,695,696,0,1,697,698,0,3,698,699,0,1,699,703,0,3,704,705,0,1,706,707,0,3,708,709,0,1,710,711,0,3,711,712,0,1,712,713,0,3,714,715,0,3,716,717,0,1,717,720,0,3,721,722,0,2,723,724,1,3,724,725,0,3,726,727,0,1,728,729,0,3,729,730,0,3,730,731,0,3,731,732,0]))]
set_option maxHeartbeats 4000000 in
theorem me0:QB Ha gp 4000 93 mu0 [2969]=some (mg0,2970,mo0):=by kernel_rfl
noncomputable def LB (f:Nat) (a:List GV) (H:GH):Option (GV×GH):=bif Nat.beq f 93 then(bif isS a (Vy,733)then NJ mg0 2970 mo0 H else XL f a H)else XL f a H
noncomputable def aeR:GP:=⟨xG,gp.cat,LB,gp.exn⟩
theorem Jq {T:Nat} {k:f_ (gl T)} {w:World} {e:fK} {H i:GH} {g:GV} {d:List GV} {j:fY} {f:Nat} (h:LB f d H=some (g,i)) (R:iD k e H w) (a:qJ e d j):mU Tryz.prog k e f j w g i:=by
 unfold LB at h;cases b:Nat.beq f 93 with
 |false=>rw[b]at h;exact OO h R a
 | true =>
  rw[b]at h;cases c:isS d (Vy,733)with
  |false=>rw[c]at h;exact OO h R a
  |true=>
   rw[c]at h;rw[zA7 b];rw[SS c]at a;obtain⟨V,rfl,n⟩:=a.one;obtain⟨x,rfl,l,m⟩:=n.str_inv;exact OY (gs:=gl T) (gs2:=gl T) Z Z Fb RQ me0 Tryz.call93 (qJ.cons (Pj l m) .nil) h R
theorem aeO {T:Nat} (a:f_ (gl T)):TD Tryz.prog aeR Ha.fns a:=⟨(RQ a).tab,(RQ a).mixed,(RQ a).fns,λh d w c R b=>Jq h R b,(RQ a).exn,(RQ a).cat⟩
end Go.Gx
end
section
set_option maxRecDepth 100000
namespace Go.Gx
open Go Go.Sx Go.Proofs Go.Proofs.YtflciafboapaaaaGreat
abbrev adA:Nat:=6706143830449764899556809608818904919804074884937111603718476495539622089622860971527792587791047894922729163212717263328395231852300855536488424978955807703755604513825873373095632290149847090083112304426652546340939400726262280257803792487332445892473582856512649637013408585975292850644760247287299230258062944610265801223788397479914840704983105145953743025358843726328641031619437354017789814719882883570583131354112070717477863523377784965938515931160728579383844655360852857429048595849656685311997067516701048769715945338084683118784715135226216982869351630641616464718832441949492048937096570154901286325463543707328254906190863546417377904
def mu1:List GV:=[.str adA 270]
def mg1:GV:=(.agg [(.str 7562850 3),(.sl 1176 0 2 6),(.sl 2078 0 2 3)])
def mo1:OL:=[(1176,1176,.cells [(.str 100 1),(.int .i64 (.ofNat 1)),(.int .i64 (.ofNat 0)),(.int .i64 (.ofNat 0)),(.int .i64 (.ofNat 1)),(.int .i64 (.ofNat 0)),(.str 112 1),(.int .i64 (.ofNat 3)),(.int .i64 (.ofNat 0)),(.int .i64 (.ofNat 0)),(.int .i64 (.ofNat 0)),(.int .i64 (.ofNat 0))]),
 (1300,1300,.cells (DJ [41,0,10,0,42,0,36,0,5,0,1,0,36,0,5,1,4,0])),
 (1326,1326,.cells [(.int .i64 (.ofNat 1)),(.int .i64 (.ofNat 0))]),
 (1359,1359,.cells [(.int .i64 (.ofNat 4)),(.int .i64 (.ofNat 0))]),
 (1367,1367,.cells [(.int .i64 (.ofNat 0)),(.sl 1326 0 1 2),(.int .i64 (.ofNat 1)),(.sl 1359 0 1 2)]),
 (1755,1755,.cells (DJ [41,0,19,0,10,0,42,0,36,0,5,0,43,0,37,0,24,0,12,0,6,0,33,0,24,0,12,0,1,1,6,0,36,0,5,1,23,0,35,0,12,0,24,0,12,0])),
 (1936,1936,.cells (DJ [43,0,37,0,24,0,12,0,6,0,33,0,24,0,12,0,1,1,6,0])),
 (2062,2062,.cells (DJ [23,0,35,0,12,0,24,0,12,0])),
 (2070,2070,.cells [(.int .i64 (.ofNat 0)),(.sl 1936 0 10 2),(.int .i64 (.ofNat 1)),(.sl 2062 0 5 2)]),
 (2078,2078,.cells [(.str 7368564 3),(.sl 1300 0 9 2),(.sl 1367 0 2 2),(.str 7827308 3),(.sl 1755 0 23 2),(.sl 2070 0 2 2)])]
set_option maxHeartbeats 4000000 in
theorem me1:QB Ha aeR 4000 9 mu1 [1176,1300,1326,1359,1367,1755,1936,2062,2070,2078]=some (mg1,3136,mo1):=by kernel_rfl
noncomputable def LC (f:Nat) (a:List GV) (H:GH):Option (GV×GH):=bif Nat.beq f 9 then(bif isS a (adA,270)then NJ mg1 3136 mo1 H else LB f a H)else LB f a H
noncomputable def aeS:GP:=⟨xG,gp.cat,LC,gp.exn⟩
theorem Jr {T:Nat} {k:f_ (gl T)} {w:World} {e:fK} {H i:GH} {g:GV} {d:List GV} {j:fY} {f:Nat} (h:LC f d H=some (g,i)) (R:iD k e H w) (a:qJ e d j):mU Tryz.prog k e f j w g i:=by
 unfold LC at h;cases b:Nat.beq f 9 with
 |false=>rw[b]at h;exact Jq h R a
 | true =>
  rw[b]at h;cases c:isS d (adA,270)with
  |false=>rw[c]at h;exact Jq h R a
  |true=>
   rw[c]at h;rw[zA7 b];rw[SS c]at a;obtain⟨V,rfl,n⟩:=a.one;obtain⟨x,rfl,l,m⟩:=n.str_inv;exact OY (gs:=gl T) (gs2:=gl T) Z Z Fb aeO me1 Tryz.call9 (qJ.cons (Pj l m) .nil) h R
theorem abY {T:Nat} (a:f_ (gl T)):TD Tryz.prog aeS Ha.fns a:=⟨(RQ a).tab,(RQ a).mixed,(RQ a).fns,λh d w c R b=>Jr h R b,(RQ a).exn,(RQ a).cat⟩
end Go.Gx
end
section
set_option maxRecDepth 100000
namespace Go.Gx
open Go Go.Sx Go.Proofs Go.Proofs.YtflciafboapaaaaGreat
def mu2:List GV:=[.str Vy 733]
def mg2:GV:=(.agg [(.str 125779801367916 6),(.sl 3126 0 3 6),(.sl 5744 0 2 3)])
def VJ:OL:=[(3126,3126,.cells [(.str 1684104556 4),(.int .i64 (.ofNat 1)),(.int .i64 (.ofNat 0)),(.int .i64 (.ofNat 0)),(.int .i64 (.ofNat 0)),(.int .i64 (.ofNat 1)),(.str 100 1),(.int .i64 (.ofNat 1)),(.int .i64 (.ofNat 0)),(.int .i64 (.negSucc 0)),(.int .i64 (.ofNat 1)),(.int .i64 (.ofNat 0)),(.str 112 1),(.int .i64 (.ofNat 3)),(.int .i64 (.ofNat 0)),(.int .i64 (.ofNat 0)),(.int .i64 (.ofNat 0)),(.int .i64 (.ofNat 0))]),
 (3538,3538,.cells (DJ [41,0,38,0,30,0,8,0,6,0,24,0,43,0,37,0,33,0,12,1,1,1,6,0,33,0,30,0,12,0,6,0,12,1,30,0,33,0,7,0,1,1,6,0,42,0,42,0,36,0,5,0,8,0,36,0,5,1,1,0,36,0,5,2,4,0])),
 (3565,3565,.cells [(.int .i64 (.ofNat 8)),(.int .i64 (.ofNat 0))]),
 (3597,3597,.cells [(.int .i64 (.ofNat 1)),(.int .i64 (.ofNat 0))]),
 (3630,3630,.cells [(.int .i64 (.ofNat 4)),(.int .i64 (.ofNat 0))]),
 (3638,3638,.cells [(.int .i64 (.ofNat 0)),(.sl 3565 0 1 2),(.int .i64 (.ofNat 1)),(.sl 3597 0 1 2),(.int .i64 (.ofNat 2)),(.sl 3630 0 1 2)]),
 (4847,4847,.cells (DJ [41,0,39,0,30,0,8,0,6,0,24,0,43,0,37,0,33,0,12,1,1,1,6,0,33,0,30,0,12,0,6,0,12,1,30,0,33,0,7,0,1,1,6,0,42,0,42,0,36,0,5,0,31,0,24,0,43,0,37,0,33,0,12,1,1,1,6,0,33,0,30,0,12,0,6,0,12,1,30,0,33,0,7,0,1,1,6,0,6,0,36,0,5,1,33,0,32,0,24,0,43,0,37,0,33,0,12,1,1,1,6,0,33,0,30,0,12,0,6,0,12,1,30,0,33,0,7,0,1,1,6,0,6,0,1,1,36,0,5,2,23,0,35,0,33,0,30,0,12,0,6,0,12,1,24,0,43,0,37,0,33,0,12,1,1,1,6,0,33,0,30,0,12,0,6,0,12,1,30,0,33,0,7,0,1,1,6,0])),
 (5104,5104,.cells (DJ [31,0,24,0,43,0,37,0,33,0,12,1,1,1,6,0,33,0,30,0,12,0,6,0,12,1,30,0,33,0,7,0,1,1,6,0,6,0])),
 (5385,5385,.cells (DJ [33,0,32,0,24,0,43,0,37,0,33,0,12,1,1,1,6,0,33,0,30,0,12,0,6,0,12,1,30,0,33,0,7,0,1,1,6,0,6,0,1,1])),
 (5728,5728,.cells (DJ [23,0,35,0,33,0,30,0,12,0,6,0,12,1,24,0,43,0,37,0,33,0,12,1,1,1,6,0,33,0,30,0,12,0,6,0,12,1,30,0,33,0,7,0,1,1,6,0])),
 (5736,5736,.cells [(.int .i64 (.ofNat 0)),(.sl 5104 0 19 2),(.int .i64 (.ofNat 1)),(.sl 5385 0 21 2),(.int .i64 (.ofNat 2)),(.sl 5728 0 24 2)]),
 (5744,5744,.cells [(.str 7239535 3),(.sl 3538 0 33 2),(.sl 3638 0 3 2),(.str 1852403562 4),(.sl 4847 0 94 2),(.sl 5736 0 3 2)])]
set_option maxHeartbeats 4000000 in
theorem me2:QB Ha aeS 4000 9 mu2 [3126,3538,3565,3597,3630,3638,4847,5104,5385,5728,5736,5744]=some (mg2,9723,VJ):=by kernel_rfl
noncomputable def SK (f:Nat) (a:List GV) (H:GH):Option (GV×GH):=bif Nat.beq f 9 then(bif isS a (Vy,733)then NJ mg2 9723 VJ H else LC f a H)else LC f a H
noncomputable def aeT:GP:=⟨xG,gp.cat,SK,gp.exn⟩
theorem Vv {T:Nat} {k:f_ (gl T)} {w:World} {e:fK} {H i:GH} {g:GV} {d:List GV} {j:fY} {f:Nat} (h:SK f d H=some (g,i)) (R:iD k e H w) (a:qJ e d j):mU Tryz.prog k e f j w g i:=by
 unfold SK at h;cases b:Nat.beq f 9 with
 |false=>rw[b]at h;exact Jr h R a
 | true =>
  rw[b]at h;cases c:isS d (Vy,733)with
  |false=>rw[c]at h;exact Jr h R a
  |true=>
   rw[c]at h;rw[zA7 b];rw[SS c]at a;obtain⟨V,rfl,n⟩:=a.one;obtain⟨x,rfl,l,m⟩:=n.str_inv;exact OY (gs:=gl T) (gs2:=gl T) Z Z Fb abY me2 Tryz.call9 (qJ.cons (Pj l m) .nil) h R
theorem aeP {T:Nat} (a:f_ (gl T)):TD Tryz.prog aeT Ha.fns a:=⟨(RQ a).tab,(RQ a).mixed,(RQ a).fns,λh d w c R b=>Vv h R b,(RQ a).exn,(RQ a).cat⟩
noncomputable abbrev gp2:GP:=aeT
theorem ahn {T:Nat} (a:f_ (gl T)):TD Tryz.prog gp2 Ha.fns a:=aeP a
end Go.Gx
end
namespace Go.Gx
open Go Go.Sx Go.RowKit
structure Hd (n:Nat) (os:OL) (ρ:fK) (w:World) (S:Nat->Prop):Prop where
 live:∀h o,(Ku n os).get h=some o->∃l,ρ h=some l/\S l.b/\AI ρ w l o
 inj:∀h h' o o' l l',(Ku n os).get h=some o->(Ku n os).get h'=some o'->ρ h=some l->ρ h'=some l'->l.b=l'.b->h=h'
 fresh:∀h,n<=h->ρ h=none
 dense:∀h,h<n->∃l,ρ h=some l
 vers:∀h v l,(Ku n os).ver h=some v->ρ h=some l->∃lv,ρ v=some lv/\w.heap[l.b]? = some lv.x/\(Ku n os).get h=some lv.o
theorem Hd.mono {n:Nat} {p:OL} {f:fK} {w w':World} {S g:Nat->Prop} (H:Hd n p f w S) (h:∀k,S k->k<w.heap.size->g k/\w'.heap[k]? = w.heap[k]?):Hd n p f w' g:=by
 refine⟨λk o s=> ?_,H.inj,H.fresh,H.dense,λk v l m j=> ?_⟩
 ·obtain⟨l,a,b,c⟩:=H.live k o s;obtain⟨d,e⟩:=h _ b c.lt;exact⟨l,a,d,c.move (fK.le_refl f) e⟩
 ·obtain⟨u,a,b,c⟩:=H.vers k v l m j;obtain⟨o,t⟩:=tV.1 m;obtain⟨x,i,q,r⟩:=H.live k o (jB.2 ⟨v,t⟩);rw[j]at i;cases i;exact⟨u,a,by rw[(h _ q r.lt).2];exact b,c⟩
theorem iD.hd {gs:BY} {b:f_ gs} {n:Nat} {d:OL} {ρ:fK} {w:World} {S:Nat->Prop} (R:iD b ρ (Ku n d) w) (e:∀k,b.mine k->S k):Hd n d ρ w S:=
 ⟨λh o f=>let ⟨l,a,b,c⟩:=R.live h o f;⟨l,a,e _ b,c⟩,R.inj,R.fresh,R.dense,R.vers⟩
def Wn (n:Nat) (b:OL) (g:GV) (V:V0):bH where
 p w S:=∃a,Hd n b a w S/\Rl a g V
 mono:=fun⟨a,h,r⟩ k=>⟨a,h.mono k,r⟩
def Hd.O (n:Nat) (a:OL) (c:fK) (k:Nat):Prop:=∃h o l,(Ku n a).get h=some o/\c h=some l/\l.b=k
def Hd.base (n:Nat) (a:OL) (ρ:fK) (w:World):f_ noG:=⟨w,Hd.O n a ρ,λ_ h=>absurd h zB7⟩
theorem Hd.rel {n:Nat} {b:OL} {ρ:fK} {w:World} {S:Nat->Prop} (H:Hd n b ρ w S):iD (Hd.base n b ρ w) ρ (Ku n b) w:=
 ⟨Eb.refl w,λh o d=>let ⟨l,a,_,c⟩:=H.live h o d;⟨l,a,.inr ⟨h,o,l,d,a,rfl⟩,c⟩,H.inj,H.fresh,H.dense,H.vers,λi v e=>by simp[Hd.base,noG]at e⟩
noncomputable def Hp (H:GH) (b:OL):Bool:=List.rec (motive:=λ_=>Bool) true (λx _ a=>Option.casesOn (motive:=λ_=>Bool) (H.ver x.1) false λv=>bif Nat.beq v x.2.1 then a else false) b
theorem Ra {H:GH}:∀{a:OL},Hp H a=true->∀x∈a,H.ver x.1=some x.2.1
 | [],_,x,b=>by cases b
 | y :: a, h, x, b => by
  have h:Option.casesOn (motive:=λ_=>Bool) (H.ver y.1) false (λv=>bif Nat.beq v y.2.1 then Hp H a else false)=true:=h;cases c:H.ver y.1 with
  |none=>rw[c]at h;cases h
  | some v =>
   rw[c]at h;obtain⟨d,f⟩:=bY.1 (show(bif Nat.beq v y.2.1 then(some (Hp H a))else none)=some true by
    have h:(bif Nat.beq v y.2.1 then Hp H a else false)=true:=h;cases e:Nat.beq v y.2.1<;>rw[e]at h<;>first|cases h|(show some (Hp H a)=some true;rw[show Hp H a=true from h]))
   rcases zAm.1 b with rfl|b
   ·rw[c,zA7 d]
   ·exact Ra (Option.some.inj f) x b
noncomputable def okV (a:OL) (r:OR):Bool:=Option.casesOn (motive:=λ_=>Bool) r false λr=>Option.casesOn (motive:=λ_=>Bool) r.1.asB false λb=>bif b then Hp r.2 a else false
theorem QM {d:OL} {r:OR} (h:okV d r=true):∃a,r=some (.bool true,a)/\Hp a d=true:=by
 cases r with
 |none=>cases h
 | some r =>
  obtain⟨g,a⟩:=r;have h:Option.casesOn (motive:=λ_=>Bool) g.asB false (λb=>bif b then Hp a d else false)=true:=h;cases c:g.asB with
  |none=>rw[c]at h;cases h
  |some b=>
   rw[c]at h;cases b with
   |false=>cases h
   |true=>exact⟨a,by rw[DD c],h⟩
theorem ND {P:Program} {G:GP} {x:FT} (F:∀T:f_ noG,TD P G x T) {fuel f n:Nat} {d:OL} {g:GV} {V:V0} (H:bB P f) (h:∃r,TZ G x fuel f [g] (Ku n d)=some (.bool true,r)/\Hp r d=true) {w:World} {S:Nat->Prop} (Q:(Wn n d g V).p w S):
  Calls P f #[V] w λe u=>e = .returned (.bool true)/\Nb w u:=by
 obtain⟨U,y,M⟩:=Q;obtain⟨r,D,E⟩:=h;rcases Ij F D y.rel (.cons M .nil)with⟨v,u,W,m,_⟩|⟨_,I⟩
 ·have:=H #[V] w;rw[this]at m;cases m
 ·refine I.mono ?_;rintro e u ⟨v,X,rfl,j,c,N⟩;refine⟨by rw[N.bool_inv],c.ext.os,c.ext.tape,c.ext.output,c.ext.size,λk K=> ?_⟩
  by_cases A:Hd.O n d U k
  ·obtain⟨i,o,l,J,z,rfl⟩:=A;obtain⟨t,q⟩:=jB.1 J;have L:(i,t,o)∈d:=OV ((Gb d i).symm.trans q);obtain⟨R,a,b,_⟩:=y.vers i t l (tV.2 ⟨o,q⟩) z;obtain⟨s,B,C,_⟩:=c.vers i t l (Ra E _ L) (j _ _ z);have:R=s:=by have:=j _ _ a;rw[B]at this;exact(Option.some.inj this).symm
   subst this;exact C.trans b.symm
  ·exact c.ext.block k K A
end Go.Gx
namespace Go.Proofs.YtflciafboapaaaaGreat
open Go Go.Sx Go.Gx
set_option maxRecDepth 100000
abbrev yI:=ByteArray×(V0×fL)×(V0×List (Int×(V0×fL)))
def AE (z:yI):fL×List (Int×fL):=(z.2.1.2,z.2.2.2.map λs=>(s.1,s.2.2))
def HQ:ByteArray:=(ByteArray.mk #[112,114,111,103,114,97,109,32,108,101,97,100,101,114,59,10,118,97,114,32,108,101,97,100,32,58,32,48,32,46,46,32,105,100,115,59,10,118,97,114,32,100,32,58,32,48,32,46,46,32,110,32,45,32,49,59,10,118,97,114,32,112,32,58,32,112,111,114,116,59,10,114,117,108,101,32,111,119,110,58,32,105,100,32,42,32,110,32,60,61,32,109,105,110,40,113,46,100,32,43,32,49,32,60,32,110,32,63,32,113,46,108,101,97,100,32,42,32,110,32,43,32,113,46,100,32,58,32,40,105,100,115,32,43,32,49,41,32,42,32,110,41,32,38,38,32,40,108,101,97,100,32,33,61,32,105,100,32,124,124,32,100,32,33,61,32,48,32,124,124,32,112,32,33,61,32,110,111,110,101,41,32,45,62,32,108,101,97,100,32,58,61,32,105,100,44,32,100,32,58,61,32,48,44,32,112,32,58,61,32,110,111,110,101,59,10,114,117,108,101,32,106,111,105,110,58,32,105,100,32,42,32,110,32,62,32,109,105,110,40,113,46,100,32,43,32,49,32,60,32,110,32,63,32,113,46,108,101,97,100,32,42,32,110,32,43,32,113,46,100,32,58,32,40,105,100,115,32,43,32,49,41,32,42,32,110,41,32,38,38,32,40,108,101,97,100,32,33,61,32,109,105,110,40,113,46,100,32,43,32,49,32,60,32,110,32,63,32,113,46,108,101,97,100,32,42,32,110,32,43,32,113,46,100,32,58,32,40,105,100,115,32,43,32,49,41,32,42,32,110,41,32,47,32,110,32,124,124,32,100,32,33,61,32,109,105,110,40,113,46,100,32,43,32,49,32,60,32,110,32,63,32,113,46,108,101,97,100,32,42,32,110,32,43,32,113,46,100,32,58,32,40,105,100,115,32,43,32,49,41,32,42,32,110,41,32,37,32,110,32,43,32,49,32,124,124,32,112,32,33,61,32,102,105,114,115,116,40,113,46,108,101,97,100,32,42,32,110,32,43,32,113,46,100,32,61,61,32,109,105,110,40,113,46,100,32,43,32,49,32,60,32,110,32,63,32,113,46,108,101,97,100,32,42,32,110,32,43,32,113,46,100,32,58,32,40,105,100,115,32,43,32,49,41,32,42,32,110,41,41,41,10,32,32,45,62,32,108,101,97,100,32,58,61,32,109,105,110,40,113,46,100,32,43,32,49,32,60,32,110,32,63,32,113,46,108,101,97,100,32,42,32,110,32,43,32,113,46,100,32,58,32,40,105,100,115,32,43,32,49,41,32,42,32,110,41,32,47,32,110,44,32,100,32,58,61,32,109,105,110,40,113,46,100,32,43,32,49,32,60,32,110,32,63,32,113,46,108,101,97,100,32,42,32,110,32,43,32,113,46,100,32,58,32,40,105,100,115,32,43,32,49,41,32,42,32,110,41,32,37,32,110,32,43,32,49,44,32,112,32,58,61,32,102,105,114,115,116,40,113,46,108,101,97,100,32,42,32,110,32,43,32,113,46,100,32,61,61,32,109,105,110,40,113,46,100,32,43,32,49,32,60,32,110,32,63,32,113,46,108,101,97,100,32,42,32,110,32,43,32,113,46,100,32,58,32,40,105,100,115,32,43,32,49,41,32,42,32,110,41,41,59,10])
def Jz:AC:=[((ByteArray.mk #[108,101,97,100]),(1:Int),(0:Int),(0:Int),(0:Int),(1:Int)),((ByteArray.mk #[100]),(1:Int),(0:Int),(-1:Int),(1:Int),(0:Int)),((ByteArray.mk #[112]),(3:Int),(0:Int),(0:Int),(0:Int),(0:Int))]
def GK:Rs:=[([(41,0),(38,0),(30,0),(8,0),(6,0),(24,0),(43,0),(37,0),(33,0),(12,1),(1,1),(6,0),(33,0),(30,0),(12,0),(6,0),(12,1),(30,0),(33,0),(7,0),(1,1),(6,0),(42,0),(42,0),(36,0),(5,0),(8,0),(36,0),(5,1),(1,0),(36,0),(5,2),(4,0)],[(0,[(8,0)]),(1,[(1,0)]),(2,[(4,0)])]),([(41,0),(39,0),(30,0),(8,0),(6,0),(24,0),(43,0),(37,0),(33,0),(12,1),(1,1),(6,0),(33,0),(30,0),(12,0),(6,0),(12,1),(30,0),(33,0),(7,0),(1,1),(6,0),(42,0),(42,0),(36,0),(5,0),(31,0),(24,0),(43,0),(37,0),(33,0),(12,1),(1,1),(6,0),(33,0),(30,0),(12,0),(6,0),(12,1),(30,0),(33,0),(7,0),(1,1),(6,0),(6,0),(36,0),(5,1),(33,0),(32,0),(24,0),(43,0),(37,0),(33,0),(12,1),(1,1),(6,0),(33,0),(30,0),(12,0),(6,0),(12,1),(30,0),(33,0),(7,0),(1,1),(6,0),(6,0),(1,1),(36,0),(5,2),(23,0),(35,0),(33,0),(30,0),(12,0),(6,0),(12,1),(24,0),(43,0),(37,0),(33,0),(12,1),(1,1),(6,0),(33,0),(30,0),(12,0),(6,0),(12,1),(30,0),(33,0),(7,0),(1,1),(6,0)],[(0,[(31,0),(24,0),(43,0),(37,0),(33,0),(12,1),(1,1),(6,0),(33,0),(30,0),(12,0),(6,0),(12,1),(30,0),(33,0),(7,0),(1,1),(6,0),(6,0)]),(1,[(33,0),(32,0),(24,0),(43,0),(37,0),(33,0),(12,1),(1,1),(6,0),(33,0),(30,0),(12,0),(6,0),(12,1),(30,0),(33,0),(7,0),(1,1),(6,0),(6,0),(1,1)]),(2,[(23,0),(35,0),(33,0),(30,0),(12,0),(6,0),(12,1),(24,0),(43,0),(37,0),(33,0),(12,1),(1,1),(6,0),(33,0),(30,0),(12,0),(6,0),(12,1),(30,0),(33,0),(7,0),(1,1),(6,0)])])]
def acf:List ((Nat×Nat)×fL×List (Int×fL)):=[((7239535,3),[(41,0),(38,0),(30,0),(8,0),(6,0),(24,0),(43,0),(37,0),(33,0),(12,1),(1,1),(6,0),(33,0),(30,0),(12,0),(6,0),(12,1),(30,0),(33,0),(7,0),(1,1),(6,0),(42,0),(42,0),(36,0),(5,0),(8,0),(36,0),(5,1),(1,0),(36,0),(5,2),(4,0)],[(0,[(8,0)]),(1,[(1,0)]),(2,[(4,0)])]),((1852403562,4),[(41,0),(39,0),(30,0),(8,0),(6,0),(24,0),(43,0),(37,0),(33,0),(12,1),(1,1),(6,0),(33,0),(30,0),(12,0),(6,0),(12,1),(30,0),(33,0),(7,0),(1,1),(6,0),(42,0),(42,0),(36,0),(5,0),(31,0),(24,0),(43,0),(37,0),(33,0),(12,1),(1,1),(6,0),(33,0),(30,0),(12,0),(6,0),(12,1),(30,0),(33,0),(7,0),(1,1),(6,0),(6,0),(36,0),(5,1),(33,0),(32,0),(24,0),(43,0),(37,0),(33,0),(12,1),(1,1),(6,0),(33,0),(30,0),(12,0),(6,0),(12,1),(30,0),(33,0),(7,0),(1,1),(6,0),(6,0),(1,1),(36,0),(5,2),(23,0),(35,0),(33,0),(30,0),(12,0),(6,0),(12,1),(24,0),(43,0),(37,0),(33,0),(12,1),(1,1),(6,0),(33,0),(30,0),(12,0),(6,0),(12,1),(30,0),(33,0),(7,0),(1,1),(6,0)],[(0,[(31,0),(24,0),(43,0),(37,0),(33,0),(12,1),(1,1),(6,0),(33,0),(30,0),(12,0),(6,0),(12,1),(30,0),(33,0),(7,0),(1,1),(6,0),(6,0)]),(1,[(33,0),(32,0),(24,0),(43,0),(37,0),(33,0),(12,1),(1,1),(6,0),(33,0),(30,0),(12,0),(6,0),(12,1),(30,0),(33,0),(7,0),(1,1),(6,0),(6,0),(1,1)]),(2,[(23,0),(35,0),(33,0),(30,0),(12,0),(6,0),(12,1),(24,0),(43,0),(37,0),(33,0),(12,1),(1,1),(6,0),(33,0),(30,0),(12,0),(6,0),(12,1),(30,0),(33,0),(7,0),(1,1),(6,0)])])]
def PF (V:V0):bH:=⟨λw S=>(Wn 9723 VJ mg2 V).p w S,λ{w w' S S'} h k=>by
 rcases h with h
 ·exact((Wn 9723 VJ mg2 V).mono h k)⟩
noncomputable def WL {R:Type} (D:Rs) (k:List yI->Option R):Option R:=open Classical in if h:∃r,∀z:List yI,z.map AE=D->k z=some r then some (Classical.choose h)else none
theorem Vf {R:Type} {D:Rs} {k:List yI->Option R} {r:R} (h:WL D k=some r) (z:List yI) (a:z.map AE=D):k z=some r:=by
 unfold WL at h;split at h
 ·rename_i e;rw[<-Option.some.inj h];exact Classical.choose_spec e z a
 cases h
theorem ZQ {R:Type} {D:Rs} {k:List yI->Option R} {r:R} (h:∀z:List yI,z.map AE=D->k z=some r):WL D k=some r:=by
 have e:∃r,∀z:List yI,z.map AE=D->k z=some r:=⟨r,h⟩
 unfold WL;rw[dif_pos e];let z:List yI:=D.map λx=>(ByteArray.empty,(undef,x.1),(undef,x.2.map λs=>(s.1,(undef,s.2))))
 have c:z.map AE=D:=by
  show(D.map _).map AE=D;rw[List.map_map]
  conv=>rhs;rw[<-List.map_id D]
  refine List.map_congr_left λx _=>?_;obtain⟨a,b⟩:=x;simp[AE,Function.comp_def]
 rw[<-Classical.choose_spec e z c,h z c]
def sO (a:Nat) (b:ByteArray):Option Y_:=if b=HQ then some ((ByteArray.mk #[108,101,97,100,101,114]),Jz,GK)else none
theorem abX:bB Tryz.prog 9:=Tryz.call9
theorem TR:bB Tryz.prog 168:=Tryz.call168
theorem QQ:Ks HQ=(694347383405035167176194822044002167647348297245143836294131327360569184365737968126329793190405493482344988959786894529281874176313558490826984968606246471080877494789011164177302286245049115990372077200403708013402509049695102382306818228322771982393217707961675795842989522967358188456979690970385641764651692123905212872060252986787261095913761171524319417829960073087282171735954781095584211454070868651197802307499032207784732548677135855370816834395925866565744265665207222116462978656831551281803369594549094313899917189094449793580303100413293807281703359455343358032385010591122950381170540903283024219015264429781225548838463523961460985867279886747768292538941600374435537547606801203451863138856874214221985847324684911821162203478916645432183221957952246405198551766390813582263330814856421060931063538327705289539381453604124378675808245139143432472308435888706790881913041858159371579898941504693382735800866132567585648297324557324259377338335589867496172224785527092219321786217240867672863735135282467984287700917091573592223335919998225525998760454851250566578735079287735788708791643295000326126232361921241672605532036970180138036720200852591755851876944948989006655553778101348782543140787492202909107220094451130950110838909564269255896107391729847775988160006180135088428875437003457029393388116238549331043434132085245837242978425384584307620834728433727603286891896652071775522271400294050822192304926936532738004063480601437530384204200137077770219811423516471932909178094747412144444130601465298819927667613537532820414148444100189654789199224116680942469602618485657465279305789375435049996248655599547014628641465268294388905743491636110899724336907966066866112157649229705572388001827019957074910716085437328022127866406657227453040,733):=by kernel_rfl
theorem Yq:Ks (ByteArray.mk #[108,101,97,100,101,114])=(125779801367916,6):=by kernel_rfl
theorem Yt:SD (Ku 9723 VJ) 6 (dP 1 ado (dP 1 (dI .i64) (dP 1 (dI .i64) (dP 1 (dI .i64) (dP 1 (dI .i64) (dI .i64)))))) (.sl 3126 0 3 6)=some (Jz.map λz=>(Ks z.1,z.2.1,z.2.2.1,z.2.2.2.1,z.2.2.2.2.1,z.2.2.2.2.2)):=by kernel_rfl
theorem VP:SD (Ku 9723 VJ) 3 (dP 1 ado (dP 1 (dS (Ku 9723 VJ) 2 (dP 1 (dI .i64) (dI .i64))) (dS (Ku 9723 VJ) 2 (dP 1 (dI .i64) (dS (Ku 9723 VJ) 2 (dP 1 (dI .i64) (dI .i64))))))) (.sl 5744 0 2 3)=some acf:=by kernel_rfl
theorem abp:acf.map (λy=>(y.2.1,y.2.2))=GK:=by kernel_rfl
theorem Yr (r:Y_) (h:some ((ByteArray.mk #[108,101,97,100,101,114]),Jz,GK)=some r):bD Tryz.prog 9 #[vS HQ] [] (λx:V0×V0×{z:List yI // z.map AE=r.2.2}=>Value.agg #[vS r.1,x.1,x.2.1]) (λx l=>l) (λx l=>Sl aH x.1 r.2.1::Sl aE x.2.1 x.2.2.1::PF (Value.agg #[vS r.1,x.1,x.2.1])::l):=by
 cases h;refine Ta (gs:=gl) (LO:=λx:V0×V0×{z:List yI // z.map AE=GK}=>[Sl aH x.1 Jz,Sl aE x.2.1 x.2.2.1,PF (Value.agg #[vS (ByteArray.mk #[108,101,97,100,101,114]),x.1,x.2.1])]) XM (λT b=>VH Fb abY me2 abX (.cons (Pj (x:=HQ) (congrArg Prod.fst QQ).symm (congrArg Prod.snd QQ).symm) .nil) Z b) ?_;intro T b B w V a R g;have y:=g;obtain⟨f,rfl,c,_⟩:=g.agg_inv;obtain⟨C,f,rfl,m,c⟩:=c.of_cons;obtain⟨j,f,rfl,n,c⟩:=c.of_cons;obtain⟨k,rfl,o⟩:=c.one;obtain rfl:=abE m Yq;obtain⟨A,v,s⟩:=Im R a (jZ.pair jZ.str (jZ.pair (jZ.int .i64) (jZ.pair (jZ.int .i64) (jZ.pair (jZ.int .i64) (jZ.pair (jZ.int .i64) (jZ.int .i64)))))) n Yt;have e:A=Jz:=LM (FW (λ_ _=>Qt) (FW LE (FW LE (FW LE (FW LE LE))))) v;subst e;obtain⟨i,u,t⟩:=Im (r:=aE) R a (jZ.pair jZ.str (jZ.pair (jZ.sl R a (jZ.pair (jZ.int .i64) (jZ.int .i64))) (jZ.sl R a (jZ.pair (jZ.int .i64) (jZ.sl R a (jZ.pair (jZ.int .i64) (jZ.int .i64))))))) o VP;have d:i.map AE=GK:=by
  rw[<-abp,<-u,List.map_map];refine List.map_congr_left λx _=>?_;simp[AE,Function.comp_def]
 exact⟨(j,k,⟨i,d⟩),rfl,List.forall_mem_cons.2 ⟨s,List.forall_mem_cons.2 ⟨t,List.forall_mem_cons.2 ⟨(⟨B,iD.hd R a,y⟩),λq p=>absurd p zB7⟩⟩⟩⟩
theorem Zq:okV VJ (JW Ha gp0 4000 168 [mg2] (Ku 9723 VJ))=true:=by kernel_rfl
theorem KA (a:Nat) {b:ByteArray} (r:Y_) (h:sO a b=some r):bD Tryz.prog 9 #[vS b] [] (λx:V0×V0×{z:List yI // z.map AE=r.2.2}=>Value.agg #[vS r.1,x.1,x.2.1]) (λx l=>l) (λx l=>Sl aH x.1 r.2.1::Sl aE x.2.1 x.2.2.1::PF (Value.agg #[vS r.1,x.1,x.2.1])::l):=by
 unfold sO at h;by_cases c:b=HQ
 ·subst c;exact Yr r ((if_pos Z).symm.trans h)
 rw[if_neg c]at h;cases h
theorem Ys (f:Nat):sO f HQ=some ((ByteArray.mk #[108,101,97,100,101,114]),Jz,GK):=by
 unfold sO;exact if_pos Z
theorem TS:bB Tryz.prog 169:=Tryz.call169
theorem VT:okV VJ (JW Ha gp0 4000 169 [mg2] (Ku 9723 VJ))=true:=by kernel_rfl
def DL (fuel:Nat) (a:ByteArray×List (ByteArray×Int×Int×Int×Int×Int)×List (yI)):Option Bool:=some true
theorem MP (a:Nat) {b:ByteArray×List (ByteArray×Int×Int×Int×Int×Int)×List (yI)} (d f:V0) (r:Bool) (h:DL a b=some r):
  bD Tryz.prog 169 #[Value.agg #[vS b.1,d,f]] [Sl aH d b.2.1,Sl aE f b.2.2,PF (Value.agg #[vS b.1,d,f])] (λx:Unit=>vB (r)) (λx l=>l) (λ_ l=>l):=by
 cases h;intro w S z;have g:Calls Tryz.prog 169 #[Value.agg #[vS b.1,d,f]] w λe o=>e = .returned (.bool true)/\Nb w o:=by
  rcases z _ (zA0 (i:=2) rfl)with v
  ·refine ND (fuel:=4000) aeM TS ?_ v;obtain⟨p,n,s⟩:=QM VT;rw[FM (G:=gp0) Fb]at n;exact⟨p,n,s⟩
 refine g.mono ?_;rintro e o ⟨rfl,c⟩;exact⟨(),rfl,⟨c.os,c.tape,c.output,c.size,λk t _=>c.block k t⟩,λ_ _=>False,⟨λi m u=>by simp at u,λi k h=>h.elim,λi j k h=>h.elim⟩,λq y=>by simp at y⟩
def DR (fuel:Nat) (a:ByteArray×List (ByteArray×Int×Int×Int×Int×Int)×List (yI)):Option Bool:=some true
theorem MZ (a:Nat) {b:ByteArray×List (ByteArray×Int×Int×Int×Int×Int)×List (yI)} (d f:V0) (r:Bool) (h:DR a b=some r):
  bD Tryz.prog 168 #[Value.agg #[vS b.1,d,f]] [Sl aH d b.2.1,Sl aE f b.2.2,PF (Value.agg #[vS b.1,d,f])] (λx:Unit=>vB (r)) (λx l=>l) (λ_ l=>l):=by
 cases h;intro w S z;have g:Calls Tryz.prog 168 #[Value.agg #[vS b.1,d,f]] w λe o=>e = .returned (.bool true)/\Nb w o:=by
  rcases z _ (zA0 (i:=2) rfl)with v
  ·refine ND (fuel:=4000) aeM TR ?_ v;obtain⟨p,n,s⟩:=QM Zq;rw[FM (G:=gp0) Fb]at n;exact⟨p,n,s⟩
 refine g.mono ?_;rintro e o ⟨rfl,c⟩;exact⟨(),rfl,⟨c.os,c.tape,c.output,c.size,λk t _=>c.block k t⟩,λ_ _=>False,⟨λi m u=>by simp at u,λi k h=>h.elim,λi j k h=>h.elim⟩,λq y=>by simp at y⟩
end Go.Proofs.YtflciafboapaaaaGreat
namespace Go.Proofs.YtflciafboapaaaaGreat
open Go Go.Sx
abbrev ahd:=Gq
abbrev PRG:=ByteArray×(List ahd)×(List yI)
abbrev GRF:=List Int×hJ
abbrev SCN:=PRG×GRF×Int×bO
abbrev WLK:=SCN×bO×Int×fL
inductive E where
 |lf (o a:Int)
 |un (o:Int) (x:E)
 |ag (o:Int) (x:E)
 |bi (o:Int) (x y:E)
 |ite (x y z:E)
def E.ts:E->fL
 |lf o a=>[(o,a)]
 |un o x=>(o,0)::x.ts
 |ag o x=>(o,0)::x.ts
 |bi o x y=>(o,0)::(x.ts++y.ts)
 |ite x y z=>(43,0)::(x.ts++(y.ts++z.ts))
def E.depth:E->Nat
 |lf _ _=>1
 |un _ x=>x.depth+1
 |ag _ x=>x.depth+1
 |bi _ x y=>max x.depth y.depth+1
 |ite x y z=>max x.depth (max y.depth z.depth)+1
def E.arOk:E->Bool
 |lf o _=>decide (1<=o)&&decide (o<=17)
 |un o x=>decide (18<=o)&&decide (o<=19)&&x.arOk
 |ag o x=>decide (20<=o)&&decide (o<=29)&&x.arOk
 |bi o x y=>decide (30<=o)&&decide (o<=42)&&x.arOk&&y.arOk
 |ite x y z=>x.arOk&&y.arOk&&z.arOk
theorem TK {b:Type} [Inhabited b] {T a rest:List b} {x:b} {k:Nat} (c:T=a++x::rest) (d:a.length=k):at' T (k:Int)=x:=by
 subst c;exact Vh a rest x k d
theorem dD {k:Nat} (h:k<1000000):wI .i64 ((k:Int)+1)=((k+1:Nat):Int):=by rw[wr (by omega) (by omega)];rfl
theorem WM (f:Nat) {o:Int} (a:1<=o) (b:o<=43):zP f o=some (if o<=17 then 0 else if o<=29 then 1 else if o<=42 then 2 else 3):=by
 unfold zP BL;rw[if_neg (by omega)];simp only[zAa];rw[if_neg (by omega)];split
 ·rfl
 ·split
  ·rfl
  ·split<;>rfl
theorem Xv {F:Nat} {T c rest:fL} {t:gK} {k m a b:Nat} (d:T=c++t::rest) (g:c.length=k) (i:k<1000) (n:m<3000) (e:zP F t.1=some ((a:Nat):Int)) (f:a<=3) (j:m+a≠0):
  bJ (mR F T) (b+1) ((k:Int),(m:Int))=if m+a=1 then some (((k+1:Nat):Int))else bJ (mR F T) b (((k+1:Nat):Int),((m+a - 1:Nat):Int)):=by
 have l:k<T.length:=by rw[d];simp;omega
 show mR F T ((k:Int),(m:Int)) (bJ (mR F T) b)=_;unfold mR;dsimp only;rw[if_pos (by omega),cF (by omega),TK d g,bG e,if_neg (by omega),wr (x:=((a:Nat):Int) - 1) (by omega) (by omega),wr (by omega) (by omega),dD (by omega)];by_cases h:m+a=1
 ·rw[if_pos h,if_pos (by omega)]
 ·rw[if_neg h,if_neg (by omega)];have:(m:Int)+((a:Int) - 1)=((m+a - 1:Nat):Int):=by omega
  rw[this]
theorem aaM (F:Nat) (T:fL) (H:T.length<=900):∀(e:E),e.arOk=true->∀(c k m:Nat) (d b:fL),T=d++(e.ts++b)->d.length=k->1<=m->m+2*(e.ts++b).length<=1900->e.ts.length<=c->
  bJ (mR F T) c ((k:Int),(m:Int))=if m=1 then some (((k+e.ts.length:Nat):Int))else bJ (mR F T) (c - e.ts.length) (((k+e.ts.length:Nat):Int),((m - 1:Nat):Int)):=by
 have r:∀{t:gK} {l b d:fL} {c k m:Nat},T=d++((t::l)++b)->d.length=k->(t::l).length<=c->1<=t.1->t.1<=43->1<=m->m+2*((t::l)++b).length<=1900->∀a:Nat,(if t.1<=17 then 0 else if t.1<=29 then 1 else if t.1<=42 then 2 else 3:Int)=a->a<=3->∃f,c=f+1/\
   bJ (mR F T) c ((k:Int),(m:Int))=if m+a=1 then some (((k+1:Nat):Int))else bJ (mR F T) f (((k+1:Nat):Int),((m+a - 1:Nat):Int)):=by
  intro t l b d c k m n p q v w i j a I B;have A:=congrArg List.length n;simp only[zA4,zA9]at A j q;obtain⟨f,rfl⟩:∃f,c=f+1:=⟨c - 1,by omega⟩
  exact⟨f,rfl,Xv (rest:=l++b) (by simpa using n) p (by omega) (by omega) (by rw[WM F v w,I]) B (by omega)⟩
 intro e
 induction e with
 |lf o a=>
  intro g c k m d b n p i j q;simp only[E.arOk,zA6,zAa]at g;obtain⟨f,rfl,h⟩:=r (t:=(o,a)) (l:=[]) n p q (by dsimp only;omega) (by dsimp only;omega) i j 0 (by rw[if_pos (by dsimp only;omega)];rfl) (by omega);rw[h];rfl
 |un o x C=>
  intro g c k m d b n p i j q;simp only[E.arOk,zA6,zAa]at g;obtain⟨f,rfl,h⟩:=r (t:=(o,0)) (l:=x.ts) n p q (by dsimp only;omega) (by dsimp only;omega) i j 1 (by rw[if_neg (by dsimp only;omega),if_pos (by dsimp only;omega)];rfl) (by omega);simp only[E.ts,zA9]at q j ⊢;rw[h,if_neg (by omega)];have:=C g.2 f (k+1) m (d++[(o,0)]) b (by rw[n];simp[E.ts]) (by simp[p]) i (by simp at j ⊢;omega) (by omega);rw[show m+1 - 1=m by omega,this,show k+1+x.ts.length=k+(x.ts.length+1) by omega,show f+1 - (x.ts.length+1)=f - x.ts.length by omega]
 |ag o x C=>
  intro g c k m d b n p i j q;simp only[E.arOk,zA6,zAa]at g;obtain⟨f,rfl,h⟩:=r (t:=(o,0)) (l:=x.ts) n p q (by dsimp only;omega) (by dsimp only;omega) i j 1 (by rw[if_neg (by dsimp only;omega),if_pos (by dsimp only;omega)];rfl) (by omega);simp only[E.ts,zA9]at q j ⊢;rw[h,if_neg (by omega)];have:=C g.2 f (k+1) m (d++[(o,0)]) b (by rw[n];simp[E.ts]) (by simp[p]) i (by simp at j ⊢;omega) (by omega);rw[show m+1 - 1=m by omega,this,show k+1+x.ts.length=k+(x.ts.length+1) by omega,show f+1 - (x.ts.length+1)=f - x.ts.length by omega]
 |bi o x y s u=>
  intro g c k m d b n p i j q;simp only[E.arOk,zA6,zAa]at g;obtain⟨f,rfl,h⟩:=r (t:=(o,0)) (l:=x.ts++y.ts) n p q (by dsimp only;omega) (by dsimp only;omega) i j 2 (by rw[if_neg (by dsimp only;omega),if_neg (by dsimp only;omega),if_pos (by dsimp only;omega)];rfl) (by omega);simp only[E.ts,zA9,zA4]at q j ⊢;rw[h,if_neg (by omega)];have v:=s g.1.2 f (k+1) (m+1) (d++[(o,0)]) (y.ts++b) (by rw[n];simp[E.ts]) (by simp[p]) (by omega) (by simp at j ⊢;omega) (by omega);have w:=u g.2 (f - x.ts.length) (k+1+x.ts.length) m (d++((o,0)::x.ts)) b (by rw[n];simp[E.ts]) (by simp[p];omega) (by omega) (by simp at j ⊢;omega) (by omega);rw[show m+2 - 1=m+1 by omega,v,if_neg (by omega),show m+1 - 1=m by omega,w,show k+1+x.ts.length+y.ts.length=k+(x.ts.length+y.ts.length+1) by omega,show f+1 - (x.ts.length+y.ts.length+1)=f - x.ts.length - y.ts.length by omega]
 |ite x y z s u D=>
  intro g c k m d b n p i j q;simp only[E.arOk,zA6,zAa]at g;obtain⟨f,rfl,h⟩:=r (t:=(43,0)) (l:=x.ts++(y.ts++z.ts)) n p q (by decide) (by decide) i j 3 Z (by omega);simp only[E.ts,zA9,zA4]at q j ⊢;rw[h,if_neg (by omega)];have v:=s g.1.1 f (k+1) (m+2) (d++[(43,0)]) (y.ts++z.ts++b) (by rw[n];simp[E.ts]) (by simp[p]) (by omega) (by simp at j ⊢;omega) (by omega);have w:=u g.1.2 (f - x.ts.length) (k+1+x.ts.length) (m+1) (d++((43,0)::x.ts)) (z.ts++b) (by rw[n];simp[E.ts]) (by simp[p];omega) (by omega) (by simp at j ⊢;omega) (by omega);have G:=D g.2 (f - x.ts.length - y.ts.length) (k+1+x.ts.length+y.ts.length) m (d++((43,0)::(x.ts++y.ts))) b (by rw[n];simp[E.ts]) (by simp[p];omega) (by omega) (by simp at j ⊢;omega) (by omega);rw[show m+3 - 1=m+2 by omega,v,if_neg (by omega),show m+2 - 1=m+1 by omega,w,if_neg (by omega),show m+1 - 1=m by omega,G,show k+1+x.ts.length+y.ts.length+z.ts.length=k+(x.ts.length+(y.ts.length+z.ts.length)+1) by omega,show f+1 - (x.ts.length+(y.ts.length+z.ts.length)+1)=f - x.ts.length - y.ts.length - z.ts.length by omega]
theorem adr (F:Nat) (e:E) (d:e.arOk=true) {T b a:fL} {k:Nat} (f:T=b++(e.ts++a)) (i:b.length=k) (j:T.length<=800) (h:e.ts.length<=F):EU F T (k:Int)=some (((k+e.ts.length:Nat):Int)):=by
 have g:1<=e.ts.length:=by cases e<;>simp[E.ts]
 have c:=congrArg List.length f;simp only[zA4]at c;unfold EU Dx;rw[if_neg (by omega)];simp only[zAa];rw[if_neg (by omega)];have:=aaM F T (by omega) e d F k 1 b a f i (by omega) (by simp;omega) h;rw[if_pos Z]at this;exact this
def Qn (b:Bool):Int:=if b then 1 else 0
theorem xE (f:Nat) (b:Bool):kA f b=some (Qn b):=by cases b<;>rfl
theorem nW {a:Type} [Inhabited a] {l:List a} {k:Nat} (h:k<l.length):l.take (k+1)=l.take k++[at' l (k:Int)]:=by
 rw[List.take_add_one,zA2 h,mV,zAd,zA2 h];rfl
theorem jS {a:Type} [Inhabited a] {l:List a} {k:Nat} (h:k<l.length):at' l (k:Int)=l[k]:=by
 rw[mV,zAd,zA2 h];rfl
theorem NG {p:Nat->Prop}:∀(n:Nat),p n->∃m,m<=n/\p m/\∀j,j<m->¬p j:=by
 intro n
 induction n using Nat.strongRecOn with
 | _ n ih =>
  intro h;by_cases d:∃m,m<n/\p m
  ·obtain⟨m,e,f⟩:=d;obtain⟨k,a,b,c⟩:=ih m e f;exact⟨k,by omega,b,c⟩
  ·exact⟨n,zAe n,h,λj g i=>d ⟨j,g,i⟩⟩
theorem Ur {g:Type} [DecidableEq g]:∀(c b:List g),c.Nodup->(∀x∈c,x∈b)->c.length<=b.length
 | [],b,_,_=>Nat.zero_le _
 |a::c,b,h,hs=>by
  have d:=hs a zAf;have h:=List.nodup_cons.1 h;have:=Ur c (b.erase a) h.2 (λx f=>(List.mem_erase_of_ne (fun(e:x=a)=>h.1 (by rw[<-e];exact f))).2 (hs x (zAl _ f)));rw[List.length_erase_of_mem d]at this;have i:0<b.length:=List.length_pos_of_mem d;simp only[zA9];omega
def nz (x:Int):Bool:=decide (x≠0)
theorem Xn (f:Nat) (l:bQ) (h:l.length<f) (e:l.length<=1000):rU f l=some ((l.countP nz:Nat):Int):=by
 unfold rU;have:=dJ (step:=sV l) (K:=some ((l.countP nz:Nat):Int)) l.length (λk=>(((l.take k).countP nz:Nat),(k:Int))) (λk b c=>by
  have d:(l.take k).countP nz<=k:=zB1 List.countP_le_length (by simp;omega);unfold sV wM;dsimp only;rw[if_pos (by omega),cF (by omega),nW c,List.countP_append,dD (by omega),dD (by omega)];by_cases a:at' l (k:Int)=0
  ·rw[if_neg (by simpa using a)];simp[nz,a]
  ·rw[if_pos a];simp[nz,a]) (λb=>by
  unfold sV Bm;dsimp only;rw[if_neg (by omega),zB3]) f h
 exact this
theorem JZ (f:Nat) (l:bQ) (x:Int) (h:l.length<f) (t:l.length<=1000):tK f l x=some (decide (x∈l)):=by
 have q:∃i:Int,rA f l x=some i/\(0<=i↔x∈l):=by
  by_cases b:x∈l
  ·obtain⟨i,r,o⟩:=List.mem_iff_getElem.1 b;have a:∃i,i<l.length/\at' l (i:Int)=x/\∀j,j<i->at' l (j:Int)≠x:=by
    obtain⟨m,d,c,s⟩:=NG (p:=λi=>at' l (i:Int)=x) i (by rw[jS r,o]);exact⟨m,by omega,c,s⟩
   obtain⟨i,r,d,c⟩:=a;refine⟨i,?_,iff_of_true (by omega) b⟩
   unfold rA;exact dJ (step:=lN l x) (K:=some (i:Int)) i (λk=>(k:Int)) (λk n g=>by
    unfold lN;rw[if_pos (by omega),cF (by omega),if_neg (λe=>c k g e.symm),dD (by omega)]) (λn=>by
    unfold lN;rw[if_pos (by omega),cF (by omega),if_pos d.symm]) f (by omega)
  ·refine⟨-1,?_,iff_of_false (by omega) b⟩
   unfold rA;exact dJ (step:=lN l x) (K:=some (-1)) l.length (λk=>(k:Int)) (λk n g=>by
    unfold lN;rw[if_pos (by omega),cF (by omega),if_neg (λe=>b (by rw[e,jS g];exact zBe g)),dD (by omega)]) (λn=>by
    unfold lN xT;rw[if_neg (by omega)]) f h
 obtain⟨i,d,c⟩:=q;unfold tK;rw[bG d];by_cases b:x∈l
 ·rw[zA5 b,zA5 (c.2 b)]
 ·rw[zA3 b,zA3 (λe=>b (c.1 e))]
def h_ (l:bQ):Int:=match l.findIdx? nz with
 |some i=>(i:Int)
 |none=> -1
theorem Dq {l:bQ} {i:Nat} (a:i<l.length) (b:at' l (i:Int)≠0) (c:∀j,j<i->at' l (j:Int)=0):h_ l=i:=by
 have:l.findIdx? nz=some i:=by
  rw[List.findIdx?_eq_some_iff_getElem];refine⟨a,by rw[<-jS a];simpa [nz]using b,λj d=> ?_⟩
  have:=c j d;rw[jS (by omega)]at this;simp[nz,this]
 unfold h_;rw[this]
theorem Dp {l:bQ} (h:∀j,j<l.length->at' l (j:Int)=0):h_ l = -1:=by
 have:l.findIdx? nz=none:=by
  rw[List.findIdx?_eq_none_iff];intro x b;obtain⟨i,a,rfl⟩:=List.mem_iff_getElem.1 b;have:=h i a;rw[jS a]at this;simp[nz,this]
 unfold h_;rw[this]
theorem XH (f:Nat) (l:bQ) (h:l.length<f) (t:l.length<=1000):oF f l (λq=>p_ f q)=some (h_ l):=by
 unfold oF;by_cases a:∃i,i<l.length/\at' l (i:Int)≠0
 ·obtain⟨i,s,o⟩:=a;obtain⟨m,r,n,b⟩:=NG (p:=λi=>at' l (i:Int)≠0) i o;have b:∀j,j<m->at' l (j:Int)=0:=λj d=>zAx.1 (b j d);rw[Dq (by omega) n b];exact dJ (step:=iP l _) (K:=some (m:Int)) m (λk=>(k:Int)) (λk c g=>by
   unfold iP p_;rw[if_pos (by omega),cF (by omega),bG Z,if_neg (by simp[b k g]),dD (by omega)]) (λc=>by
   unfold iP p_;rw[if_pos (by omega),cF (by omega),bG Z,if_pos (by simpa using n)]) f (by omega)
 ·have a:∀j,j<l.length->at' l (j:Int)=0:=λj d=>zAx.1 λe=>a ⟨j,d,e⟩;rw[Dp a];exact dJ (step:=iP l _) (K:=some (-1)) l.length (λk=>(k:Int)) (λk c g=>by
   unfold iP p_;rw[if_pos (by omega),cF (by omega),bG Z,if_neg (by simp[a k g]),dD (by omega)]) (λc=>by
   unfold iP qR;rw[if_neg (by omega)]) f h
def OZ (l:bQ):Int:=l.foldl min 1073741824
theorem adM (f:Nat) (l:bQ) (h:l.length<f) (c:l.length<=1000):bJ (vJ l) f ((1073741824:Int),(0:Int))=some (OZ l):=by
 exact dJ (step:=vJ l) (K:=some (OZ l)) l.length (λk=>((l.take k).foldl min 1073741824,(k:Int))) (λk a b=>by
  unfold vJ;dsimp only;rw[if_pos (by omega),cF (by omega),nW b,List.foldl_append,dD (by omega)];rfl) (λa=>by
  unfold vJ Cu;dsimp only;rw[if_neg (by omega),zB3];rfl) f h
def QC (l:bQ):Nat->Nat->Nat
 |0,k=>k
 |f+1,k=>if((k:Nat):Int)∈l then QC l f (k+1)else k
def LP (l:bQ):Nat:=QC l (l.length+1) 0
theorem LQ (l:bQ):((LP l:Nat):Int)∉l/\(∀j,j<LP l->((j:Nat):Int)∈l)/\LP l<=l.length:=by
 have key:∀(f k:Nat),(∀j,j<k->((j:Nat):Int)∈l)->(∀j,j<QC l f k->((j:Nat):Int)∈l)/\(QC l f k=k+f\/((QC l f k:Nat):Int)∉l):=by
  intro f
  induction f with
  |zero=>intro k h;exact⟨h,.inl Z⟩
  | succ f ih =>
   intro k h;by_cases hk:((k:Nat):Int)∈l
   ·have:=ih (k+1) (λj hj=>by
     rcases zAu j k with q|q
     ·exact h j q
     ·rw[show j=k by omega];exact hk)
    simp only[QC,if_pos hk];exact⟨this.1,this.2.imp (λe=>by omega) id⟩
   ·simp only[QC,if_neg hk];exact⟨h,.inr hk⟩
 have hle:∀m,(∀j,j<m->((j:Nat):Int)∈l)->m<=l.length:=λm h=>by
  have:=Ur ((List.range m).map λj=>((j:Nat):Int)) l (by
   rw[List.nodup_iff_pairwise_ne,List.pairwise_map];exact(List.nodup_iff_pairwise_ne.1 List.nodup_range).imp (λh e=>h (by omega))) (λx hx=>by
   obtain⟨j,hj,rfl⟩:=zB9.1 hx;exact h j (zAp.1 hj))
  simpa using this
 obtain⟨h1,h2⟩:=key (l.length+1) 0 (λj hj=>by omega);have h3:=hle _ h1;refine⟨?_,h1,h3⟩
 rcases h2 with h2|h2
 ·have:QC l (l.length+1) 0<=l.length:=h3;omega
 ·exact h2
theorem adL (f:Nat) (l:bQ) (h:l.length+2<f) (hl:l.length<=900):CV f l=some ((LP l:Nat):Int):=by
 obtain⟨h1,h2,h3⟩:=LQ l;unfold CV;exact dJ (step:=BQ f l) (K:=some ((LP l:Nat):Int)) (LP l) (λk=>(k:Int)) (λk ag hk=>by
  unfold BQ;rw[bG (JZ f l (k:Int) (by omega) (by omega)),if_pos (by simpa using h2 k hk),dD (by omega)]) (λag=>by
  unfold BQ Do;rw[bG (JZ f l _ (by omega) (by omega)),if_neg (by simpa using h1)]) f (by omega)
def abF (l:bQ):Int:=l.foldl (λa x=>wI .i64 (a+x)) 0
theorem aea (f:Nat) (l:bQ) (h:l.length<f) (c:l.length<=1000):bJ (vK f l) f ((0:Int),(0:Int))=EN f (abF l):=by
 refine(dJ (step:=vK f l) l.length (λk=>(abF (l.take k),(k:Int))) (λk a b=> ?_) (λa=> ?_) f h).trans Z
 ·unfold vK;dsimp only;rw[if_pos (by omega),cF (by omega),dD (by omega),nW b];unfold abF;rw[List.foldl_append];rfl
 ·unfold vK;dsimp only;rw[if_neg (by omega),zB3]
def Ir (o:Int) (l:bQ):Int:=
 if o=20 then Qn (l.all nz)else if o=21 then Qn (l.any nz)else if o=22 then((l.countP nz:Nat):Int)else if o=23 then h_ l else if o=24 then OZ l else if o=26 then max (-1073741824) (min (abF l) 1073741824)else((LP l:Nat):Int)
theorem aaV (f:Nat) (o:Int) (l:bQ) (hf:40<=f) (hl:l.length<=24) (ho:o=20\/o=21\/o=22\/o=23\/o=24\/o=26\/o=27):Dt f o l=some (Ir o l):=by
 have hc:=Xn f l (by omega) (by omega);unfold Dt;rcases ho with rfl|rfl|rfl|rfl|rfl|rfl|rfl
 ·rw[if_pos Z,bG hc,bG (xE f _),Ir,if_pos Z];have:(decide (((l.countP nz:Nat):Int)=(l.length:Int)))=l.all nz:=by
   rw[Bool.eq_iff_iff];simp[List.countP_eq_length,Int.ofNat_inj]
  rw[this]
 ·rw[if_neg (by decide),if_pos Z,bG hc,bG (xE f _),Ir,if_neg (by decide),if_pos Z];have:(decide ((0:Int)<((l.countP nz:Nat):Int)))=l.any nz:=by
   rw[Bool.eq_iff_iff,zAa,List.any_eq_true,show((0:Int)<((l.countP nz:Nat):Int))↔0<l.countP nz by omega,List.countP_pos_iff]
  rw[this]
 ·rw[if_neg (by decide),if_neg (by decide),if_pos Z,bG hc];rfl
 ·rw[if_neg (by decide),if_neg (by decide),if_neg (by decide),if_pos Z,bG (XH f l (by omega) (by omega))];rfl
 ·rw[if_neg (by decide),if_neg (by decide),if_neg (by decide),if_neg (by decide),if_pos Z,adM f l (by omega) (by omega)];rfl
 ·rw[if_neg (by decide),if_neg (by decide),if_neg (by decide),if_neg (by decide),if_neg (by decide),if_neg (by decide),if_pos Z,aea f l (by omega) (by omega)];rfl
 ·rw[if_neg (by decide),if_neg (by decide),if_neg (by decide),if_neg (by decide),if_neg (by decide),if_neg (by decide),if_neg (by decide),if_pos Z,bG (adL f l (by omega) (by omega))];rfl
end Go.Proofs.YtflciafboapaaaaGreat
namespace Go.Proofs.YtflciafboapaaaaGreat
open Go.Sx
def Cd (a:Unit):Option (Int):=
 some (-1:Int)
def xL (c:cO) (d e a:Int) (b:(Int)->Option (Int)):Option (Int):=
 if a<((at' c.2 d).length:Int)then(ck (0<=a/\a<((at' c.2 d).length:Int)) (if((at' (at' c.2 d) a).1)=e then(some (a))else(b (wI .i64 (a+(1:Int))))))else(Cd (()))
def mO (U:Nat) (b:cO) (a c:Int):Option (Int):=
 ck (0<=a/\a<(b.2.length:Int)) (bJ (xL b a c) U (0:Int))
theorem TO:bB Tryz.prog 110:=Tryz.call110
theorem Gj (U:Nat) {p0:cO} {p1 p2:Int} (f g:V0) (k:lE) (r:Int) (h:mO U p0 p1 p2=some r):
  bD Tryz.prog 110 #[Value.agg #[f,g],vI (p1),vI (p2)] [Sl aN f p0.1,S2 aX g k p0.2] (λx:Unit=>vI (r)) (λx l=>l) (λ_ l=>l):=by
 refine bD.of Tryz.func110 Z Tryz.ntmps110 Z λc=>?_;refine aU<|aK (aP.box (cs:=[f,g]) Z Z) Z λn=>aC Z<|aO<|aL<|eR (λe=>Cd e=some r) (λe i=>[]) (λe i=>[]) ?_ ?_
 ·refine aU<|bU Z<|dQ 0 Z<|aA Z<|cU h λb h=>aB (bN Z Z (mM Z) Z Z b) Z<|aB (bT Z (mM Z) Z Z b) Z<|aB (fE Z (zBh (mM Z) b.1 b.2) Z) Z<|aA Z<|aO<|aS<|fI (xL p0 p1 p2) (λa j=>[(2,vI (p2)),(13,(at' k p1).1),(14,vI ((at' p0.2 p1).length:Int)),(15,vI (a))]) (λa j=>[]) (0:Int) () h SF .nil ?_;intro o a j h;refine aU<|cV Z<|aO<|aL ?_;refine eN h Z (λh=>?_) λh=>?_
  ·refine cL<|aL<|aS<|aU<|aA Z<|cU h λd h=>aB (bE Z Z (zBh (mM Z) b.1 b.2) Z Z d) Z<|aB (gU (cs:=[vI ((at' (at' p0.2 p1) a).1),vI ((at' (at' p0.2 p1) a).2)]) Z (zBh (mM Z) b.1 b.2) cW Z Z Z Z d) Z<|aK (aP.alloc (cs:=Wi) Z Z) Z λm=>aC Z<|cG 0 (vs:=[vI ((at' (at' p0.2 p1) a).1),vI ((at' (at' p0.2 p1) a).2)]) Z Z Z Z Z Z<|aO<|aU<|bU Z<|dQ 0 Z<|aA Z<|cC Z<|aO ?_;refine eN h Z (λh=>?_) λh=>?_
   ·refine aU<|aA Z<|aC Z<|aO<|aR<|bI<|aG<|aG<|bI<|aG ?_;cases h;exact nH Z
   refine eM<|lL<|aQ<|cP Z<|aA Z<|aO ?_;exact iG (wI .i64 (a+(1:Int))) () h SF .nil (aI.refl _ _)
  refine fG ?_;exact fT () (()) h SF Z
 intro e i h;unfold Cd at h;refine aU<|aC Z<|aO<|aR ?_;cases h;exact iZ Z
def BV (a:Bool):Option Bool:=
 some (a)
def gX (U:Nat) (a b c:Int):Option Bool:=
 if b<=a then(BV (decide (a<=c)))else(BV (false))
theorem uF:bB Tryz.prog 54:=Tryz.call54
theorem jH (U:Nat) {b f d:Int} (r:Bool) (h:gX U b f d=some r):
  bD Tryz.prog 54 #[vI (b),vI (f),vI (d)] [] (λx:Unit=>vB (r)) (λx l=>l) (λ_ l=>l):=by
 refine bD.of Tryz.func54 Z Tryz.ntmps54 Z λc=>?_;refine aU<|aC Z<|aO<|aL<|eR (λa=>BV a=some r) (λa e=>[(6,vB (a))]) (λa e=>[]) ?_ ?_
 ·refine aQ<|aA Z<|aA Z<|aB (yV Z Z) Z<|aA Z ?_;refine BZ h Z (λ_ h=>?_) λ_ h=>?_
  ·refine dC Z<|dC Z<|aT Z (Cp Z Z) Z<|dR Z<|aC Z<|aO ?_;exact fT (decide (b<=d)) () h SF Z
  refine aM Z<|aM Z<|aM Z<|eV Z<|aC Z<|aO ?_;exact fT (false) () h SF Z
 intro a e h;unfold BV at h;refine aR ?_;cases h;exact iZ Z
def qP (a:Unit):Option Bool:=
 some (true)
def qQ (b:Int) (a:(Int)->Option Bool) (c:Unit):Option Bool:=
 a (wI .i64 (b+(1:Int)))
def jT (d:fL) (b:Int) (e:(Int)->Option Bool) (a:Int) (c:(Int)->Option Bool):Option Bool:=
 if a<b then(ck (0<=a/\a<(d.length:Int)) (ck (0<=b/\b<(d.length:Int)) (if((at' d a).1)=((at' d b).1)then(some (false))else(c (wI .i64 (a+(1:Int)))))))else(qQ b e (()))
def lJ (U:Nat) (d:fL) (c:Int) (b:(Int)->Option Bool) (a:Bool):Option Bool:=
 if a=true then(some (false))else(bJ (jT d c b) U (0:Int))
def iO (U:Nat) (b:fL) (f g a:Int) (c:(Int)->Option Bool):Option Bool:=
 if a<(b.length:Int)then(ck (0<=a/\a<(b.length:Int)) (Option.bind (gX U ((at' b a).1) (0:Int) (wI .i64 (g - (1:Int)))) λd=>(if(!d)=true then(lJ U b a c (true))else(ck (0<=a/\a<(b.length:Int)) (if((at' b a).1)=f then(lJ U b a c (true))else(ck (0<=a/\a<(b.length:Int)) (Option.bind (gX U ((at' b a).2) (1:Int) (15:Int)) λe=>(lJ U b a c ((!e))))))))))else(qP (()))
def lZ (U:Nat) (a:fL) (b c:Int):Option Bool:=
 bJ (iO U a b c) U (0:Int)
theorem aaa:bB Tryz.prog 117:=Tryz.call117
theorem HV (U:Nat) {i:fL} {e f:Int} (j:V0) (r:Bool) (h:lZ U i e f=some r):
  bD Tryz.prog 117 #[j,vI (e),vI (f)] [Sl aX j i] (λx:Unit=>vB (r)) (λx l=>l) (λ_ l=>l):=by
 refine bD.of Tryz.func117 Z Tryz.ntmps117 Z λc=>?_;unfold lZ at h;refine aU<|aC Z<|aO<|aL<|eR (λv=>qP v=some r) (λv D=>[]) (λv D=>[]) ?_ ?_
 ·refine aU<|aC Z<|aO<|aS<|fI (iO U i e f) (λd E=>[(0,j),(1,vI (e)),(2,vI (f)),(7,vI (d))]) (λd E=>[]) (0:Int) () h SF (aZ.refl _) ?_;intro y d E h;refine aL<|aU<|aA Z<|aA Z<|iH (cA Z) Z<|cV Z<|aO ?_;refine eN h Z (λh=>?_) λh=>?_
  ·refine cL<|aL<|eR (λw=>qQ d (bJ (iO U i e f) y) w=some r) (λw k=>[(0,j),(1,vI (e)),(2,vI (f)),(7,vI (d))]) (λw k=>[]) ?_ ?_
   ·refine aS<|aL<|aL<|eR (λa=>lJ U i d (bJ (iO U i e f) y) a=some r) (λa m=>[(0,j),(1,vI (e)),(2,vI (f)),(7,vI (d)),(41,vB (a))]) (λa m=>[]) ?_ ?_
    ·refine aQ<|aA Z<|aA Z<|cU h λq h=>aB (bE Z Z (cA Z) Z Z q) Z<|aB (cZ Z Z Z Z Z) Z<|aB (eL Z (cA Z) Z Z Z gT q) Z<|aA Z<|aB (nY Z Z) Z<|eT h λA B h=>aK (zBg uF (jH U A B) Z .nil) Z λG=>aB (kM Z) Z<|aA Z ?_;refine tD (by exact rfl) (by exact rfl) (λb=>?_) (λb=>?_)
     ·have h:=Iv b h;refine aM Z<|aM Z<|aM Z<|aM Z<|aM Z<|aM Z<|aM Z<|dR Z<|aA Z<|aM Z<|aM Z<|aM Z<|aM Z<|aM Z<|aM Z<|aM Z<|dR Z<|aO ?_;exact fT (true) () h SF Z
     have h:=FA b h;refine dC Z<|dC Z<|cU h λs h=>aT Z (bE Z Z (cA Z) Z Z s) Z<|aT Z (cZ Z Z Z Z Z) Z<|aT Z (eL Z (cA Z) Z Z Z gT s) Z<|dC Z<|aT Z (JV Z Z) Z<|eV Z<|aA Z ?_;refine BZ h Z (λ_ h=>?_) λ_ h=>?_
     ·refine aM Z<|aM Z<|aM Z<|aM Z<|aM Z<|aM Z<|aM Z<|dR Z<|aO ?_;exact fT (true) () h SF Z
     refine dC Z<|dC Z<|cU h λt h=>aT Z (bE Z Z (cA Z) Z Z t) Z<|aT Z (cZ Z Z Z Z Z) Z<|aT Z (eL Z (cA Z) Z Z Z EG t) Z<|eT h λu C h=>qH Z (zBg uF (jH U u C) Z .nil) Z λH=>aT Z (kM Z) Z<|eV Z<|aO ?_;exact fT ((!u)) () h SF Z
    intro a m h;refine tC h Z (λ_ h=>?_) λ_ h=>?_
    ·refine aU<|aC Z<|aO<|aR<|aG<|bI<|aG<|aG<|bI<|aG ?_;cases h;exact iZ Z
    refine cL<|aU<|aC Z<|aO<|aS<|fI (jT i d (bJ (iO U i e f) y)) (λg n=>[(0,j),(1,vI (e)),(2,vI (f)),(7,vI (d)),(8,vI (g))]) (λg n=>[]) (0:Int) () h SF (aZ.refl _) ?_;intro F g n h;refine aL<|aU<|aA Z<|aA Z<|cV Z<|aO ?_;refine eN h Z (λh=>?_) λh=>?_
    ·refine cL<|aL<|aS<|aL ?_;refine sW [0,0,3,7,15,0,0,96,224,480,1023] 10 mixedOrders ?_;refine aV Z<|aV Z<|cU h λo h=>aY Z .nil (fN 0 Z) (bE Z Z (cA Z) Z Z o) aJ.z<|gC Z (cZ Z Z Z Z Z)<|aY Z .nil (fN 0 Z) (eL Z (cA Z) Z Z Z gT o) aJ.z<|aV Z<|aV Z<|cU h λp h=>aY Z .nil (fN 0 Z) (bE Z Z (cA Z) Z Z p) aJ.z<|gC Z (cZ Z Z Z Z Z)<|aY Z .nil (fN 0 Z) (eL Z (cA Z) Z Z Z gT p) aJ.z<|bP 10 Z Z<|cC Z<|aO ?_;refine eN h Z (λh=>?_) λh=>?_
     ·refine aU<|aC Z<|aO<|aR<|bI<|aG<|aG<|bI<|bI<|aG<|aG<|bI<|aG ?_;cases h;exact iZ Z
     refine eM<|lL<|aQ<|aA Z<|cP Z<|aC Z<|aO ?_;exact xY (wI .i64 (g+(1:Int))) () h SF Z
    refine rP<|fX<|fX<|yQ<|lL ?_;exact fT () (()) h SF Z
   intro w k h;unfold qQ at h;refine aQ<|aA Z<|cP Z<|aC Z<|aO ?_;exact xY (wI .i64 (d+(1:Int))) () h SF Z
  refine fG ?_;exact fT () (()) h SF Z
 intro v D h;unfold qP at h;refine aU<|aC Z<|aO<|aR ?_;cases h;exact iZ Z
def DT (a:Unit):Option (Int):=
 some (-1:Int)
def Bu (c:cO) (a e b:Int) (d:(Int)->Option (Int)):Option (Int):=
 ck (0<=a/\a<(c.2.length:Int)) (if b<((at' c.2 a).length:Int)then(ck (0<=a/\a<(c.2.length:Int)) (ck (0<=b/\b<((at' c.2 a).length:Int)) (if((at' (at' c.2 a) b).1)=e then(some (b))else(d (wI .i64 (b+(1:Int)))))))else(DT (())))
def rW (U:Nat) (a:cO) (b c:Int):Option (Int):=
 bJ (Bu a b c) U (0:Int)
theorem OA:bB Tryz.prog 118:=Tryz.call118
theorem Fi (U:Nat) {g:cO} {i j:Int} (k m:V0) (q:lE) (r:Int) (h:rW U g i j=some r):
  bD Tryz.prog 118 #[Value.agg #[k,m],vI (i),vI (j)] [Sl aN k g.1,S2 aX m q g.2] (λx:Unit=>vI (r)) (λx l=>l) (λ_ l=>l):=by
 refine bD.of Tryz.func118 Z Tryz.ntmps118 Z λc=>?_;unfold rW at h;refine aU<|aK (aP.box (cs:=[k,m]) Z Z) Z λn=>aC Z<|aO<|aL<|eR (λd=>DT d=some r) (λd o=>[]) (λd o=>[]) ?_ ?_
 ·refine aU<|aC Z<|aO<|aS<|fI (Bu g i j) (λe p=>[(1,vI (i)),(2,vI (j)),(3,vP n),(7,vI (e))]) (λe p=>[bL n [k,m] 31]) (0:Int) () h SF (aZ.refl _) ?_;intro s e p h;refine aL<|aU<|aA Z<|bU Z<|dQ 0 Z<|aA Z<|cU h λf h=>aB (bN Z Z (mM Z) Z Z f) Z<|aB (bT Z (mM Z) Z Z f) Z<|aB (fE Z (zBh (mM Z) f.1 f.2) Z) Z<|cV Z<|aO ?_;refine eN h Z (λh=>?_) λh=>?_
  ·refine cL<|aL<|aS<|aU<|bU Z<|dQ 0 Z<|aA Z<|cU h λa h=>aB (bN Z Z (mM Z) Z Z a) Z<|aB (bT Z (mM Z) Z Z a) Z<|aA Z<|cU h λb h=>aB (bE Z Z (zBh (mM Z) a.1 a.2) Z Z b) Z<|aB (cZ Z Z Z Z Z) Z<|aB (eL Z (zBh (mM Z) a.1 a.2) Z Z Z gT b) Z<|aA Z<|cC Z<|aO ?_;refine eN h Z (λh=>?_) λh=>?_
   ·refine aU<|aA Z<|aC Z<|aO<|aR<|bI<|aG<|aG<|bI<|aG ?_;cases h;exact nH Z
   refine eM<|lL<|aQ<|aA Z<|cP Z<|aC Z<|aO ?_;exact xY (wI .i64 (e+(1:Int))) () h SF Z
  refine fG ?_;exact cI () (()) h SF .nil (aI.refl _ _)
 intro d o h;unfold DT at h;refine aU<|aC Z<|aO<|aR ?_;cases h;exact iZ Z
def zO (U:Nat) (a:ByteArray) (b c d:Int):Option ((ByteArray×Int×Int×Int×Int×Int)):=
 some ((a,(1:Int),(0:Int),b,c,d))
theorem WY:bB Tryz.prog 45:=Tryz.call45
theorem Gm (U:Nat) {a:ByteArray} {b d e:Int} (r:UH) (h:zO U a b d e=some r):
  bD Tryz.prog 45 #[vS (a),vI (b),vI (d),vI (e)] [] (λx:Unit=>Value.agg #[vS (r.1),vI (r.2.1),vI (r.2.2.1),vI (r.2.2.2.1),vI (r.2.2.2.2.1),vI (r.2.2.2.2.2)]) (λx l=>l) (λ_ l=>l):=by
 refine bD.of Tryz.func45 Z Tryz.ntmps45 Z λc=>?_;unfold zO at h;refine aU<|aK (aP.alloc (cs:=vD0) Z Z) Z λf=>aO<|aU<|aA Z<|aA Z<|aA Z<|aA Z ?_;refine aB (Y.bld5 (r:=Value.agg #[vS (a),vI (1:Int),vI (0:Int),vI (b),vI (d),vI (e)]) Z Z Z Z Z (by intro w;simp[Instr.build,Instr.fill,eZ,eF,dO,e_,fC,eG,fR])) Z ?_;refine cG 0 (vs:=[vS (a),vI (1:Int),vI (0:Int),vI (b),vI (d),vI (e)]) Z Z Z Z Z Z<|aO<|aR ?_;cases h;exact iS () Z Z (RV.cell 0 Z Z Z Z) .nil aI.nil
def Ch (U:Nat) (a:ByteArray):Option ((ByteArray×Int×Int×Int×Int×Int)):=
 some ((a,(3:Int),(0:Int),(0:Int),(0:Int),(0:Int)))
theorem acS:bB Tryz.prog 46:=Tryz.call46
theorem Ky (U:Nat) {a:ByteArray} (r:UH) (h:Ch U a=some r):
  bD Tryz.prog 46 #[vS (a)] [] (λx:Unit=>Value.agg #[vS (r.1),vI (r.2.1),vI (r.2.2.1),vI (r.2.2.2.1),vI (r.2.2.2.2.1),vI (r.2.2.2.2.2)]) (λx l=>l) (λ_ l=>l):=by
 refine bD.of Tryz.func46 Z Tryz.ntmps46 Z λc=>?_;unfold Ch at h;refine aU<|aK (aP.alloc (cs:=vD0) Z Z) Z λb=>aO<|aU<|aA Z ?_;refine aB (DC (r:=Value.agg #[vS (a),vI (3:Int),vI (0:Int),vI (0:Int),vI (0:Int),vI (0:Int)]) Z Z (by intro w;simp[Instr.build,Instr.fill,eZ,eF,dO,e_,fC,eG,fR])) Z ?_;refine cG 0 (vs:=[vS (a),vI (3:Int),vI (0:Int),vI (0:Int),vI (0:Int),vI (0:Int)]) Z Z Z Z Z Z<|aO<|aR ?_;cases h;exact iS () Z Z (RV.cell 0 Z Z Z Z) .nil aI.nil
def Dr (a:Int):Option (Int):=
 some (a)
def Ds (c:bQ) (a:gK) (b:i_->Option (Int)):Option (Int):=
 if a.2<(c.length:Int)then(ck (0<=a.2/\a.2<(c.length:Int)) (b ((max a.1 (at' c a.2)),(wI .i64 (a.2+(1:Int))))))else(Dr (a.1))
def El (a:Nat) (b:bQ):Option (Int):=
 bJ (Ds b) a ((-1:Int),(0:Int))
end Go.Proofs.YtflciafboapaaaaGreat