/- Models and proofs. Conditions: none. -/
import Derived.Test.YtcnnfkapmjhnaaaGreatDoorZTTr6
import Derived.Test.YtcnnfkapmjhnaaaGreatDoorZTTr5
set_option linter.unusedVariables false
set_option linter.unusedSimpArgs false
set_option maxHeartbeats 4000000
set_option maxRecDepth 20000
section
set_option maxRecDepth 100000
namespace Go.Gx
open Go Go.Sx Go.Proofs Go.Proofs.YtcnnfkapmjhnaaaGreatDoor
def mu3:List GV:=[.str WR 646]
def mg3:GV:=(.agg [(.str 128038971140471 6),(.sl 2633 0 2 6),(.sl 4835 0 2 3)])
def ZC:OL:=[(2633,2633,.cells [(.str 120 1),(.int .i64 (.ofNat 1)),(.int .i64 (.ofNat 0)),(.int .i64 (.ofNat 0)),(.int .i64 (.ofNat 16)),(.int .i64 (.ofNat 0)),(.str 112 1),(.int .i64 (.ofNat 3)),(.int .i64 (.ofNat 0)),(.int .i64 (.ofNat 0)),(.int .i64 (.ofNat 0)),(.int .i64 (.ofNat 0))]),
 (2757,2757,.cells (Ax [41,0,10,0,42,0,36,0,5,0,1,0,36,0,5,1,4,0])),
 (2783,2783,.cells [(.int .i64 (.ofNat 1)),(.int .i64 (.ofNat 0))]),
 (2816,2816,.cells [(.int .i64 (.ofNat 4)),(.int .i64 (.ofNat 0))]),
 (2824,2824,.cells [(.int .i64 (.ofNat 0)),(.sl 2783 0 1 2),(.int .i64 (.ofNat 1)),(.sl 2816 0 1 2)]),
 (3862,3862,.cells (Ax [41,0,19,0,10,0,42,0,36,0,5,0,43,0,37,0,24,0,43,0,39,0,33,0,12,0,1,1,30,0,16,0,6,0,33,0,12,0,1,1,30,0,16,0,6,0,30,0,1,16,6,0,24,0,43,0,39,0,33,0,12,0,1,1,30,0,16,0,6,0,33,0,12,0,1,1,30,0,16,0,6,0,30,0,1,16,6,0,36,0,5,1,23,0,35,0,43,0,39,0,33,0,12,0,1,1,30,0,16,0,6,0,33,0,12,0,1,1,30,0,16,0,6,0,24,0,43,0,39,0,33,0,12,0,1,1,30,0,16,0,6,0,33,0,12,0,1,1,30,0,16,0,6,0])),
 (4368,4368,.cells (Ax [43,0,37,0,24,0,43,0,39,0,33,0,12,0,1,1,30,0,16,0,6,0,33,0,12,0,1,1,30,0,16,0,6,0,30,0,1,16,6,0,24,0,43,0,39,0,33,0,12,0,1,1,30,0,16,0,6,0,33,0,12,0,1,1,30,0,16,0,6,0,30,0,1,16,6,0])),
 (4819,4819,.cells (Ax [23,0,35,0,43,0,39,0,33,0,12,0,1,1,30,0,16,0,6,0,33,0,12,0,1,1,30,0,16,0,6,0,24,0,43,0,39,0,33,0,12,0,1,1,30,0,16,0,6,0,33,0,12,0,1,1,30,0,16,0,6,0])),
 (4827,4827,.cells [(.int .i64 (.ofNat 0)),(.sl 4368 0 38 2),(.int .i64 (.ofNat 1)),(.sl 4819 0 31 2)]),
 (4835,4835,.cells [(.str 7368564 3),(.sl 2757 0 9 2),(.sl 2824 0 2 2),(.str 7827308 3),(.sl 3862 0 77 2),(.sl 4827 0 2 2)])]
set_option maxHeartbeats 4000000 in
theorem me3:Oe Eo ahh 4000 7 mu3 [2633,2757,2783,2816,2824,3862,4368,4819,4827,4835]=some (mg3,8053,ZC):=by kernel_rfl
noncomputable def TK (f:Nat) (a:List GV) (H:GH):Option (GV×GH):=bif Nat.beq f 7 then(bif Zj a (WR,646)then Mt mg3 8053 ZC H else Mk f a H)else Mk f a H
noncomputable def ahi:GP:=⟨wC,gp.cat,TK,gp.exn⟩
theorem WP {T:Nat} {k:fC (gl T)} {w:World} {e:eP} {H i:GH} {g:GV} {d:List GV} {j:jB} {f:Nat} (h:TK f d H=some (g,i)) (R:gF k e H w) (a:qL e d j):kN Tryz.prog k e f j w g i:=by
 unfold TK at h;cases b:Nat.beq f 7 with
 |false=>rw[b]at h;exact Jq h R a
 | true =>
  rw[b]at h;cases c:Zj d (WR,646)with
  |false=>rw[c]at h;exact Jq h R a
  |true=>
   rw[c]at h;rw[zA2 b];rw[Px c]at a;obtain⟨V,rfl,n⟩:=a.one;obtain⟨x,rfl,l,m⟩:=n.str_inv;exact Ld (gs:=gl T) (gs2:=gl T) Z Z Ad adZ me3 Tryz.call7 (qL.cons (HC l m) .nil) h R
theorem ahe {T:Nat} (a:fC (gl T)):Tb Tryz.prog ahi Eo.fns a:=⟨(Nl a).tab,(Nl a).mixed,(Nl a).fns,λh d w c R b=>WP h R b,(Nl a).exn,(Nl a).cat⟩
noncomputable abbrev gp2:GP:=ahi
theorem aiU {T:Nat} (a:fC (gl T)):Tb Tryz.prog gp2 Eo.fns a:=ahe a
end Go.Gx
end
namespace Go.Gx
open Go Go.Sx Go.RowKit
structure Hd (n:Nat) (os:OL) (ρ:eP) (w:World) (S:Nat->Prop):Prop where
 live:∀h o,(EV n os).get h=some o->∃l,ρ h=some l∧S l.b∧Aj ρ w l o
 inj:∀h h' o o' l l',(EV n os).get h=some o->(EV n os).get h'=some o'->ρ h=some l->ρ h'=some l'->l.b=l'.b->h=h'
 fresh:∀h,n<=h->ρ h=none
 dense:∀h,h<n->∃l,ρ h=some l
 vers:∀h v l,(EV n os).ver h=some v->ρ h=some l->∃lv,ρ v=some lv∧w.heap[l.b]? = some lv.x∧(EV n os).get h=some lv.o
theorem Hd.mono {n:Nat} {p:OL} {f:eP} {w w':World} {S g:Nat->Prop} (H:Hd n p f w S) (h:∀k,S k->k<w.heap.size->g k∧w'.heap[k]? = w.heap[k]?):Hd n p f w' g:=by
 refine⟨λk o s=> ?_,H.inj,H.fresh,H.dense,λk v l m j=> ?_⟩
 ·obtain⟨l,a,b,c⟩:=H.live k o s;obtain⟨d,e⟩:=h _ b c.lt;exact⟨l,a,d,c.move (eP.le_refl f) e⟩
 ·obtain⟨u,a,b,c⟩:=H.vers k v l m j;obtain⟨o,t⟩:=tZ.1 m;obtain⟨x,i,q,r⟩:=H.live k o (iI.2 ⟨v,t⟩);rw[j]at i;cases i;exact⟨u,a,by rw[(h _ q r.lt).2];exact b,c⟩
theorem gF.hd {gs:AP} {b:fC gs} {n:Nat} {d:OL} {ρ:eP} {w:World} {S:Nat->Prop} (R:gF b ρ (EV n d) w) (e:∀k,b.mine k->S k):Hd n d ρ w S:=
 ⟨λh o f=>let ⟨l,a,b,c⟩:=R.live h o f;⟨l,a,e _ b,c⟩,R.inj,R.fresh,R.dense,R.vers⟩
def Ln (n:Nat) (b:OL) (g:GV) (V:Value):bF where
 p w S:=∃a,Hd n b a w S∧Rl a g V
 mono:=fun⟨a,h,r⟩ k=>⟨a,h.mono k,r⟩
def Hd.O (n:Nat) (a:OL) (c:eP) (k:Nat):Prop:=∃h o l,(EV n a).get h=some o∧c h=some l∧l.b=k
def Hd.base (n:Nat) (os:OL) (ρ:eP) (w:World):fC noG:=⟨w,Hd.O n os ρ,λ_ h=>absurd h zB3⟩
theorem Hd.rel {n:Nat} {b:OL} {ρ:eP} {w:World} {S:Nat->Prop} (H:Hd n b ρ w S):gF (Hd.base n b ρ w) ρ (EV n b) w:=
 ⟨Dk.refl w,λh o d=>let ⟨l,a,_,c⟩:=H.live h o d;⟨l,a,.inr ⟨h,o,l,d,a,rfl⟩,c⟩,H.inj,H.fresh,H.dense,H.vers,λi v e=>by simp[Hd.base,noG]at e⟩
noncomputable def GZ (H:GH) (b:OL):Bool:=List.rec (motive:=λ_=>Bool) true (λx _ a=>Option.casesOn (motive:=λ_=>Bool) (H.ver x.1) false λv=>bif Nat.beq v x.2.1 then a else false) b
theorem Sg {H:GH}:∀{a:OL},GZ H a=true->∀x∈a,H.ver x.1=some x.2.1
 | [],_,x,b=>by cases b
 | y :: a, h, x, b => by
  have h:Option.casesOn (motive:=λ_=>Bool) (H.ver y.1) false (λv=>bif Nat.beq v y.2.1 then GZ H a else false)=true:=h;cases c:H.ver y.1 with
  |none=>rw[c]at h;cases h
  | some v =>
   rw[c]at h;obtain⟨d,f⟩:=bU.1 (show(bif Nat.beq v y.2.1 then(some (GZ H a))else none)=some true by
    have h:(bif Nat.beq v y.2.1 then GZ H a else false)=true:=h;cases e:Nat.beq v y.2.1<;>rw[e]at h<;>first|cases h|(show some (GZ H a)=some true;rw[show GZ H a=true from h]))
   rcases zAk.1 b with rfl|b
   ·rw[c,zA2 d]
   ·exact Sg (Option.some.inj f) x b
noncomputable def okV (a:OL) (r:OR):Bool:=Option.casesOn (motive:=λ_=>Bool) r false λr=>Option.casesOn (motive:=λ_=>Bool) r.1.asB false λb=>bif b then GZ r.2 a else false
theorem MB {d:OL} {r:OR} (h:okV d r=true):∃a,r=some (.bool true,a)∧GZ a d=true:=by
 cases r with
 |none=>cases h
 | some r =>
  obtain⟨g,a⟩:=r;have h:Option.casesOn (motive:=λ_=>Bool) g.asB false (λb=>bif b then GZ a d else false)=true:=h;cases c:g.asB with
  |none=>rw[c]at h;cases h
  |some b=>
   rw[c]at h;cases b with
   |false=>cases h
   |true=>exact⟨a,by rw[CX c],h⟩
theorem Js {P:Program} {G:GP} {x:FT} (F:∀T:fC noG,Tb P G x T) {fuel f n:Nat} {d:OL} {g:GV} {V:Value} (H:aS P f) (h:∃r,Vb G x fuel f [g] (EV n d)=some (.bool true,r)∧GZ r d=true) {w:World} {S:Nat->Prop} (Q:(Ln n d g V).p w S):
  Calls P f #[V] w λe u=>e = .returned (.bool true)∧OE w u:=by
 obtain⟨U,y,M⟩:=Q;obtain⟨r,D,E⟩:=h;rcases Ie F D y.rel (.cons M .nil)with⟨v,u,W,m,_⟩|⟨_,I⟩
 ·have:=H #[V] w;rw[this]at m;cases m
 ·refine I.mono ?_;rintro e u ⟨v,X,rfl,j,c,N⟩;refine⟨by rw[N.bool_inv],c.ext.os,c.ext.tape,c.ext.output,c.ext.size,λk K=> ?_⟩
  by_cases A:Hd.O n d U k
  ·obtain⟨i,o,l,J,z,rfl⟩:=A;obtain⟨t,q⟩:=iI.1 J;have L:(i,t,o)∈d:=PD ((FA d i).symm.trans q);obtain⟨R,a,b,_⟩:=y.vers i t l (tZ.2 ⟨o,q⟩) z;obtain⟨s,B,C,_⟩:=c.vers i t l (Sg E _ L) (j _ _ z);have:R=s:=by have:=j _ _ a;rw[B]at this;exact(Option.some.inj this).symm
   subst this;exact C.trans b.symm
  ·exact c.ext.block k K A
end Go.Gx