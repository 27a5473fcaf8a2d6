/- Models and proofs. Conditions: none. -/
import Derived.Test.YtgciopekomcbfaaGreatDoorZTMA6
import Derived.Test.YtgciopekomcbfaaGreatDoorZTMA5
set_option linter.unusedVariables false
set_option linter.unusedSimpArgs false
set_option maxHeartbeats 4000000
set_option maxRecDepth 20000
open Go.Proofs.Tryz
section
set_option maxRecDepth 100000
namespace Go.Gx
open Go Go.Sx Go.Proofs Go.Proofs.YtgciopekomcbfaaGreatDoor
def mu2:V6 GV:=[.str Ys 733]
def mg2:GV:=(.agg [(.str 125779801367916 6),(.sl 3126 0 3 6),(.sl 5744 0 2 3)])
def mo2:OL:=[(3126,3126,.cells [(.str 1684104556 4),(.int .i64 (.ofNat 1)),(.int .i64 (.ofNat 0)),(.int .i64 (.ofNat 0)),(.int .i64 (.ofNat 0)),(.int .i64 (.ofNat 1)),(.str 100 1),(.int .i64 (.ofNat 1)),(.int .i64 (.ofNat 0)),(.int .i64 (.negSucc 0)),(.int .i64 (.ofNat 1)),(.int .i64 (.ofNat 0)),(.str 112 1),(.int .i64 (.ofNat 3)),(.int .i64 (.ofNat 0)),(.int .i64 (.ofNat 0)),(.int .i64 (.ofNat 0)),(.int .i64 (.ofNat 0))]),
 (3538,3538,.cells (Dv [41,0,38,0,30,0,8,0,6,0,24,0,43,0,37,0,33,0,12,1,1,1,6,0,33,0,30,0,12,0,6,0,12,1,30,0,33,0,7,0,1,1,6,0,42,0,42,0,36,0,5,0,8,0,36,0,5,1,1,0,36,0,5,2,4,0])),
 (3565,3565,.cells [(.int .i64 (.ofNat 8)),(.int .i64 (.ofNat 0))]),
 (3597,3597,.cells [(.int .i64 (.ofNat 1)),(.int .i64 (.ofNat 0))]),
 (3630,3630,.cells [(.int .i64 (.ofNat 4)),(.int .i64 (.ofNat 0))]),
 (3638,3638,.cells [(.int .i64 (.ofNat 0)),(.sl 3565 0 1 2),(.int .i64 (.ofNat 1)),(.sl 3597 0 1 2),(.int .i64 (.ofNat 2)),(.sl 3630 0 1 2)]),
 (4847,4847,.cells (Dv [41,0,39,0,30,0,8,0,6,0,24,0,43,0,37,0,33,0,12,1,1,1,6,0,33,0,30,0,12,0,6,0,12,1,30,0,33,0,7,0,1,1,6,0,42,0,42,0,36,0,5,0,31,0,24,0,43,0,37,0,33,0,12,1,1,1,6,0,33,0,30,0,12,0,6,0,12,1,30,0,33,0,7,0,1,1,6,0,6,0,36,0,5,1,33,0,32,0,24,0,43,0,37,0,33,0,12,1,1,1,6,0,33,0,30,0,12,0,6,0,12,1,30,0,33,0,7,0,1,1,6,0,6,0,1,1,36,0,5,2,23,0,35,0,33,0,30,0,12,0,6,0,12,1,24,0,43,0,37,0,33,0,12,1,1,1,6,0,33,0,30,0,12,0,6,0,12,1,30,0,33,0,7,0,1,1,6,0])),
 (5104,5104,.cells (Dv [31,0,24,0,43,0,37,0,33,0,12,1,1,1,6,0,33,0,30,0,12,0,6,0,12,1,30,0,33,0,7,0,1,1,6,0,6,0])),
 (5385,5385,.cells (Dv [33,0,32,0,24,0,43,0,37,0,33,0,12,1,1,1,6,0,33,0,30,0,12,0,6,0,12,1,30,0,33,0,7,0,1,1,6,0,6,0,1,1])),
 (5728,5728,.cells (Dv [23,0,35,0,33,0,30,0,12,0,6,0,12,1,24,0,43,0,37,0,33,0,12,1,1,1,6,0,33,0,30,0,12,0,6,0,12,1,30,0,33,0,7,0,1,1,6,0])),
 (5736,5736,.cells [(.int .i64 (.ofNat 0)),(.sl 5104 0 19 2),(.int .i64 (.ofNat 1)),(.sl 5385 0 21 2),(.int .i64 (.ofNat 2)),(.sl 5728 0 24 2)]),
 (5744,5744,.cells [(.str 7239535 3),(.sl 3538 0 33 2),(.sl 3638 0 3 2),(.str 1852403562 4),(.sl 4847 0 94 2),(.sl 5736 0 3 2)])]
set_option maxHeartbeats 4000000 in
theorem me2:SP FI ajz 4000 6 mu2 [3126,3538,3565,3597,3630,3638,4847,5104,5385,5728,5736,5744]=some (mg2,9723,mo2):=by kernel_rfl
noncomputable def UU (f:Nat) (a:V6 GV) (H:GH):V1 (GV×GH):=bif Nat.beq f 6 then(bif isS a (Ys,733)then OC mg2 9723 mo2 H else My f a H)else My f a H
noncomputable def ajA:GP:=⟨vX,gp.cat,UU,gp.exn⟩
theorem Yq {T:Nat} {k:fM (gl T)} {w:V2} {e:eZ} {H i:GH} {g:GV} {d:V6 GV} {j:e_} {f:Nat} (h:UU f d H=some (g,i)) (R:gQ k e H w) (a:qE e d j):lK prog k e f j w g i:=by
 unfold UU at h;cases b:Nat.beq f 6 with
 |false=>rw[b]at h;exact Jx h R a
 | true =>
  rw[b]at h;cases c:isS d (Ys,733)with
  |false=>rw[c]at h;exact Jx h R a
  |true=>
   rw[c]at h;rw[zA6 b];rw[Vd c]at a;obtain⟨V,rfl,n⟩:=a.one;obtain⟨x,rfl,l,m⟩:=n.str_inv;exact Qt (gs:=gl T) (gs2:=gl T) Z Z De agk me2 call6 (qE.cons (Na l m) .nil) h R
theorem ajw {T:Nat} (a:fM (gl T)):VU prog ajA FI.fns a:=⟨(Uh a).tab,(Uh a).mixed,(Uh a).fns,λh d w c R b=>Yq h R b,(Uh a).exn,(Uh a).cat⟩
noncomputable abbrev gp2:GP:=ajA
theorem ame {T:Nat} (a:fM (gl T)):VU prog gp2 FI.fns a:=ajw a
end Go.Gx
end
namespace Go.Gx
open Go Go.Sx Go.RowKit
structure Hd (n:Nat) (os:OL) (ρ:eZ) (w:World) (S:Nat->Prop):Prop where
 live:∀h o,(HU n os).get h=some o->∃l,ρ h=some l/\S l.b/\Ak ρ w l o
 inj:∀h h' o o' l l',(HU n os).get h=some o->(HU n os).get h'=some o'->ρ h=some l->ρ h'=some l'->l.b=l'.b->h=h'
 fresh:∀h,n<=h->ρ h=none
 dense:∀h,h<n->∃l,ρ h=some l
 vers:∀h v l,(HU n os).ver h=some v->ρ h=some l->∃lv,ρ v=some lv/\w.heap[l.b]? = some lv.x/\(HU n os).get h=some lv.o
theorem Hd.mono {n:Nat} {p:OL} {f:eZ} {w w':V2} {S g:Nat->Prop} (H:Hd n p f w S) (h:∀k,S k->k<w.heap.size->g k/\w'.heap[k]? = w.heap[k]?):Hd n p f w' g:=by
 refine⟨λk o s=> ?_,H.inj,H.fresh,H.dense,λk v l m j=> ?_⟩
 .obtain⟨l,a,b,c⟩:=H.live k o s;obtain⟨d,e⟩:=h _ b c.lt;exact⟨l,a,d,c.move (eZ.le_refl f) e⟩
 .obtain⟨u,a,b,c⟩:=H.vers k v l m j;obtain⟨o,t⟩:=tT.1 m;obtain⟨x,i,q,r⟩:=H.live k o (iV.2 ⟨v,t⟩);rw[j]at i;cases i;exact⟨u,a,by rw[(h _ q r.lt).2];exact b,c⟩
theorem gQ.hd {gs:AZ} {b:fM gs} {n:Nat} {d:OL} {ρ:eZ} {w:V2} {S:Nat->Prop} (R:gQ b ρ (HU n d) w) (e:∀k,b.mine k->S k):Hd n d ρ w S:=
 ⟨λh o f=>let ⟨l,a,b,c⟩:=R.live h o f;⟨l,a,e _ b,c⟩,R.inj,R.fresh,R.dense,R.vers⟩
def Rj (n:Nat) (b:OL) (g:GV) (V:V0):aZ where
 p w S:=∃a,Hd n b a w S/\Rl a g V
 mono:=fun⟨a,h,r⟩ k=>⟨a,h.mono k,r⟩
def Hd.O (n:Nat) (a:OL) (c:eZ) (k:Nat):Prop:=∃h o l,(HU n a).get h=some o/\c h=some l/\l.b=k
def Hd.base (n:Nat) (os:OL) (ρ:eZ) (w:V2):fM noG:=⟨w,Hd.O n os ρ,λ_ h=>absurd h zB8⟩
theorem Hd.rel {n:Nat} {b:OL} {ρ:eZ} {w:V2} {S:Nat->Prop} (H:Hd n b ρ w S):gQ (Hd.base n b ρ w) ρ (HU n b) w:=
 ⟨DI.refl w,λh o d=>let ⟨l,a,_,c⟩:=H.live h o d;⟨l,a,.inr ⟨h,o,l,d,a,rfl⟩,c⟩,H.inj,H.fresh,H.dense,H.vers,λi v e=>by simp[Hd.base,noG]at e⟩
noncomputable def Hj (H:GH) (b:OL):V4:=List.rec (motive:=λ_=>V4) true (λx _ a=>Option.casesOn (motive:=λ_=>V4) (H.ver x.1) false λv=>bif Nat.beq v x.2.1 then a else false) b
theorem Tv {H:GH}:∀{a:OL},Hj H a=true->∀x∈a,H.ver x.1=some x.2.1
 | [],_,x,b=>by cases b
 | y :: a, h, x, b => by
  have h:Option.casesOn (motive:=λ_=>V4) (H.ver y.1) false (λv=>bif Nat.beq v y.2.1 then Hj H a else false)=true:=h;cases c:H.ver y.1 with
  |none=>rw[c]at h;cases h
  | some v =>
   rw[c]at h;obtain⟨d,f⟩:=bV.1 (show(bif Nat.beq v y.2.1 then(some (Hj H a))else none)=some true by
    have h:(bif Nat.beq v y.2.1 then Hj H a else false)=true:=h;cases e:Nat.beq v y.2.1<;>rw[e]at h<;>first|cases h|(show some (Hj H a)=some true;rw[show Hj H a=true from h]))
   rcases zAo.1 b with rfl|b
   .rw[c,zA6 d]
   .exact Tv (Option.some.inj f) x b
noncomputable def okV (a:OL) (r:OR):V4:=Option.casesOn (motive:=λ_=>V4) r false λr=>Option.casesOn (motive:=λ_=>V4) r.1.asB false λb=>bif b then Hj r.2 a else false
theorem Tc {d:OL} {r:OR} (h:okV d r=true):∃a,r=some (.bool true,a)/\Hj a d=true:=by
 cases r with
 |none=>cases h
 | some r =>
  obtain⟨g,a⟩:=r;have h:Option.casesOn (motive:=λ_=>V4) g.asB false (λb=>bif b then Hj a d else false)=true:=h;cases c:g.asB with
  |none=>rw[c]at h;cases h
  |some b=>
   rw[c]at h;cases b with
   |false=>cases h
   |true=>exact⟨a,by rw[Do c],h⟩
theorem Ov {P:Program} {G:GP} {x:FT} (F:∀T:fM noG,VU P G x T) {fuel f n:Nat} {d:OL} {g:GV} {V:V0} (H:aU P f) (h:∃r,WC G x fuel f [g] (HU n d)=some (.bool true,r)/\Hj r d=true) {w:V2} {S:Nat->Prop} (Q:(Rj n d g V).p w S):
  Calls P f #[V] w λe u=>e = .returned (.bool true)/\Ph w u:=by
 obtain⟨U,y,M⟩:=Q;obtain⟨r,D,E⟩:=h;rcases Il F D y.rel (.cons M .nil)with⟨v,u,W,m,_⟩|⟨_,I⟩
 .have:=H #[V] w;rw[this]at m;cases m
 .refine I.mono ?_;rintro e u ⟨v,X,rfl,j,c,N⟩;refine⟨by rw[N.bool_inv],c.ext.os,c.ext.tape,c.ext.output,c.ext.size,λk K=> ?_⟩
  by_cases A:Hd.O n d U k
  .obtain⟨i,o,l,J,z,rfl⟩:=A;obtain⟨t,q⟩:=iV.1 J;have L:(i,t,o)∈d:=Qn ((FH d i).symm.trans q);obtain⟨R,a,b,_⟩:=y.vers i t l (tT.2 ⟨o,q⟩) z;obtain⟨s,B,C,_⟩:=c.vers i t l (Tv E _ L) (j _ _ z);have:R=s:=by have:=j _ _ a;rw[B]at this;exact(Option.some.inj this).symm
   subst this;exact C.trans b.symm
  .exact c.ext.block k K A
end Go.Gx