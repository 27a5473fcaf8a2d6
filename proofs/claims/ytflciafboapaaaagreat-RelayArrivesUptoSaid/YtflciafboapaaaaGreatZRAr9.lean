/- Models and proofs. Conditions: none. -/
import Derived.Test.YtflciafboapaaaaGreatZRAr8
set_option linter.unusedVariables false
set_option linter.unusedSimpArgs false
set_option maxHeartbeats 4000000
set_option maxRecDepth 20000
open Go.Proofs.Tryz
section
set_option maxRecDepth 100000
namespace Go.Gx
open Go Go.Sx Go.Proofs Go.Proofs.YtflciafboapaaaaGreat
def mu5:V6 GV:=[.str Za 733]
def mg5:GV:=(.agg [(.str 125779801367916 6),(.sl 3126 0 3 6),(.sl 5744 0 2 3)])
def mo5:OL:=[(3126,3126,.cells [(.str 1684104556 4),(.int .i64 (.ofNat 1)),(.int .i64 (.ofNat 0)),(.int .i64 (.ofNat 0)),(.int .i64 (.ofNat 0)),(.int .i64 (.ofNat 1)),(.str 100 1),(.int .i64 (.ofNat 1)),(.int .i64 (.ofNat 0)),(.int .i64 (.negSucc 0)),(.int .i64 (.ofNat 1)),(.int .i64 (.ofNat 0)),(.str 112 1),(.int .i64 (.ofNat 3)),(.int .i64 (.ofNat 0)),(.int .i64 (.ofNat 0)),(.int .i64 (.ofNat 0)),(.int .i64 (.ofNat 0))]),
 (3538,3538,.cells (sX [41,0,38,0,30,0,8,0,6,0,24,0,43,0,37,0,33,0,12,1,1,1,6,0,33,0,30,0,12,0,6,0,12,1,30,0,33,0,7,0,1,1,6,0,42,0,42,0,36,0,5,0,8,0,36,0,5,1,1,0,36,0,5,2,4,0])),
 (3565,3565,.cells [(.int .i64 (.ofNat 8)),(.int .i64 (.ofNat 0))]),
 (3597,3597,.cells [(.int .i64 (.ofNat 1)),(.int .i64 (.ofNat 0))]),
 (3630,3630,.cells [(.int .i64 (.ofNat 4)),(.int .i64 (.ofNat 0))]),
 (3638,3638,.cells [(.int .i64 (.ofNat 0)),(.sl 3565 0 1 2),(.int .i64 (.ofNat 1)),(.sl 3597 0 1 2),(.int .i64 (.ofNat 2)),(.sl 3630 0 1 2)]),
 (4847,4847,.cells (sX [41,0,39,0,30,0,8,0,6,0,24,0,43,0,37,0,33,0,12,1,1,1,6,0,33,0,30,0,12,0,6,0,12,1,30,0,33,0,7,0,1,1,6,0,42,0,42,0,36,0,5,0,31,0,24,0,43,0,37,0,33,0,12,1,1,1,6,0,33,0,30,0,12,0,6,0,12,1,30,0,33,0,7,0,1,1,6,0,6,0,36,0,5,1,33,0,32,0,24,0,43,0,37,0,33,0,12,1,1,1,6,0,33,0,30,0,12,0,6,0,12,1,30,0,33,0,7,0,1,1,6,0,6,0,1,1,36,0,5,2,23,0,35,0,33,0,30,0,12,0,6,0,12,1,24,0,43,0,37,0,33,0,12,1,1,1,6,0,33,0,30,0,12,0,6,0,12,1,30,0,33,0,7,0,1,1,6,0])),
 (5104,5104,.cells (sX [31,0,24,0,43,0,37,0,33,0,12,1,1,1,6,0,33,0,30,0,12,0,6,0,12,1,30,0,33,0,7,0,1,1,6,0,6,0])),
 (5385,5385,.cells (sX [33,0,32,0,24,0,43,0,37,0,33,0,12,1,1,1,6,0,33,0,30,0,12,0,6,0,12,1,30,0,33,0,7,0,1,1,6,0,6,0,1,1])),
 (5728,5728,.cells (sX [23,0,35,0,33,0,30,0,12,0,6,0,12,1,24,0,43,0,37,0,33,0,12,1,1,1,6,0,33,0,30,0,12,0,6,0,12,1,30,0,33,0,7,0,1,1,6,0])),
 (5736,5736,.cells [(.int .i64 (.ofNat 0)),(.sl 5104 0 19 2),(.int .i64 (.ofNat 1)),(.sl 5385 0 21 2),(.int .i64 (.ofNat 2)),(.sl 5728 0 24 2)]),
 (5744,5744,.cells [(.str 7239535 3),(.sl 3538 0 33 2),(.sl 3638 0 3 2),(.str 1852403562 4),(.sl 4847 0 94 2),(.sl 5736 0 3 2)])]
set_option maxHeartbeats 4000000 in
theorem me5:LN Ct ajU 4000 9 mu5 [3126,3538,3565,3597,3630,3638,4847,5104,5385,5728,5736,5744]=some (mg5,9723,mo5):=by kernel_rfl
noncomputable def Vv (f:Nat) (a:V6 GV) (H:GH):V1 (GV×GH):=bif Nat.beq f 9 then(bif VC a (Za,733)then JC mg5 9723 mo5 H else NI f a H)else NI f a H
noncomputable def ajV:GP:=⟨tW,gp.cat,Vv,gp.exn⟩
theorem YY {T:Nat} {k:fO (gl T)} {w:V2} {e:fE} {H i:GH} {g:GV} {d:V6 GV} {j:gE} {f:Nat} (h:Vv f d H=some (g,i)) (R:g_ k e H w) (a:pX e d j):kW prog k e f j w g i:=by
 unfold Vv at h;cases b:Nat.beq f 9 with
 |false=>rw[b]at h;exact KE h R a
 | true =>
  rw[b]at h;cases c:VC d (Za,733)with
  |false=>rw[c]at h;exact KE h R a
  |true=>
   rw[c]at h;rw[zA5 b];rw[KJ c]at a;obtain⟨V,rfl,n⟩:=a.one;obtain⟨x,rfl,l,m⟩:=n.str_inv;exact HC (gs:=gl T) (gs2:=gl T) Z Z tD ags me5 call9 (pX.cons (El l m) .nil) h R
theorem ajP {T:Nat} (a:fO (gl T)):Sp prog ajV Ct.fns a:=⟨(IN a).tab,(IN a).mixed,(IN a).fns,λh d w c R b=>YY h R b,(IN a).exn,(IN a).cat⟩
noncomputable abbrev gp2:GP:=ajV
theorem amw {T:Nat} (a:fO (gl T)):Sp prog gp2 Ct.fns a:=ajP a
end Go.Gx
end
namespace Go.Gx
open Go Go.Sx Go.RowKit
structure Hd (n:Nat) (os:OL) (ρ:fE) (w:World) (S:Nat->Prop):Prop where
 live:∀h o,(Eo n os).get h=some o->∃l,ρ h=some l/\S l.b/\Bl ρ w l o
 inj:∀h h' o o' l l',(Eo n os).get h=some o->(Eo n os).get h'=some o'->ρ h=some l->ρ h'=some l'->l.b=l'.b->h=h'
 fresh:∀h,n<=h->ρ h=none
 dense:∀h,h<n->∃l,ρ h=some l
 vers:∀h v l,(Eo n os).ver h=some v->ρ h=some l->∃lv,ρ v=some lv/\w.heap[l.b]?=some lv.x/\(Eo n os).get h=some lv.o
theorem Hd.mono {n:Nat} {p:OL} {f:fE} {w w':V2} {S g:Nat->Prop} (H:Hd n p f w S) (h:∀k,S k->k<w.heap.size->g k/\w'.heap[k]?=w.heap[k]?):Hd n p f w' g:=by
 refine⟨λk o s=>?_,H.inj,H.fresh,H.dense,λk v l m j=>?_⟩
 .have⟨l,a,b,c⟩:=H.live k o s;have⟨d,e⟩:=h _ b c.lt;exact⟨l,a,d,c.move (fE.le_refl f) e⟩
 .have⟨u,a,b,c⟩:=H.vers k v l m j;have⟨o,t⟩:=uR.1 m;have⟨x,i,q,r⟩:=H.live k o (iW.2 ⟨v,t⟩);rw[j]at i;cases i;exact⟨u,a,by rw[(h _ q r.lt).2];exact b,c⟩
theorem g_.hd {gs:Cf} {b:fO gs} {n:Nat} {d:OL} {ρ:fE} {w:V2} {S:Nat->Prop} (R:g_ b ρ (Eo n d) w) (e:∀k,b.mine k->S k):Hd n d ρ w S:=
 ⟨λh o f=>let ⟨l,a,b,c⟩:=R.live h o f;⟨l,a,e _ b,c⟩,R.inj,R.fresh,R.dense,R.vers⟩
def IZ (n:Nat) (b:OL) (g:GV) (V:V0):a_ where
 p w S:=∃a,Hd n b a w S/\Rl a g V
 mono:=fun⟨a,h,r⟩ k=>⟨a,h.mono k,r⟩
def Hd.O (n:Nat) (a:OL) (c:fE) (k:Nat):Prop:=∃h o l,(Eo n a).get h=some o/\c h=some l/\l.b=k
def Hd.base (n:Nat) (a:OL) (ρ:fE) (w:V2):fO noG:=⟨w,Hd.O n a ρ,λ_ h=>absurd h zAz⟩
theorem Hd.rel {n:Nat} {b:OL} {ρ:fE} {w:V2} {S:Nat->Prop} (H:Hd n b ρ w S):g_ (Hd.base n b ρ w) ρ (Eo n b) w:=
 ⟨Es.refl w,λh o d=>let ⟨l,a,_,c⟩:=H.live h o d;⟨l,a,.inr ⟨h,o,l,d,a,rfl⟩,c⟩,H.inj,H.fresh,H.dense,H.vers,λi v e=>by simp[Hd.base,noG]at e⟩
noncomputable def Ir (H:GH) (b:OL):V4:=List.rec (motive:=λ_=>V4) true (λx _ a=>Option.casesOn (motive:=λ_=>V4) (H.ver x.1) false λv=>bif Nat.beq v x.2.1 then a else false) b
theorem Ui {H:GH}:∀{a:OL},Ir H a=true->∀x∈a,H.ver x.1=some x.2.1
 | [],_,x,b=>by cases b
 | y :: a, h, x, b =>by
  have h:Option.casesOn (motive:=λ_=>V4) (H.ver y.1) false (λv=>bif Nat.beq v y.2.1 then Ir H a else false)=true:=h;cases c:H.ver y.1 with
  |none=>rw[c]at h;cases h
  | some v =>
   rw[c]at h;have⟨d,f⟩:=bV.1 (show(bif Nat.beq v y.2.1 then(some (Ir H a))else none)=some true by
    have h:(bif Nat.beq v y.2.1 then Ir H a else false)=true:=h;cases e:Nat.beq v y.2.1<;>rw[e]at h<;>first|cases h|(show some (Ir H a)=some true;rw[show Ir H a=true from h]))
   rcases zAn.1 b with rfl|b
   .rw[c,zA5 d]
   .exact Ui (Option.some.inj f) x b
noncomputable def okV (a:OL) (r:OR):V4:=Option.casesOn (motive:=λ_=>V4) r false λr=>Option.casesOn (motive:=λ_=>V4) r.1.asB false λb=>bif b then Ir r.2 a else false
theorem JF {d:OL} {r:OR} (h:okV d r=true):∃a,r=some (.bool true,a)/\Ir a d=true:=by
 cases r with
 |none=>cases h
 | some r =>
  have⟨g,a⟩:=r;have h:Option.casesOn (motive:=λ_=>V4) g.asB false (λb=>bif b then Ir a d else false)=true:=h;cases c:g.asB with
  |none=>rw[c]at h;cases h
  |some b=>
   rw[c]at h;cases b with
   |false=>cases h
   |true=>exact⟨a,by rw[Ef c],h⟩
theorem Hx {P:Program} {G:GP} {x:FT} (F:∀T:fO noG,Sp P G x T) {fuel f n:Nat} {d:OL} {g:GV} {V:V0} (H:aU P f) (h:∃r,Xg G x fuel f [g] (Eo n d)=some (.bool true,r)/\Ir r d=true) {w:V2} {S:Nat->Prop} (Q:(IZ n d g V).p w S):
  Calls P f #[V] w λe u=>e = .returned (.bool true)/\Qx w u:=by
 have⟨U,y,M⟩:=Q;have⟨r,D,E⟩:=h;rcases Jn F D y.rel (.cons M .nil)with⟨v,u,W,m,_⟩|⟨_,I⟩
 .have:=H #[V] w;rw[this]at m;cases m
 .refine I.mono ?_;rintro e u ⟨v,X,rfl,j,c,N⟩;refine⟨by rw[N.bool_inv],c.ext.os,c.ext.tape,c.ext.output,c.ext.size,λk K=>?_⟩
  by_cases A:Hd.O n d U k
  .obtain⟨i,o,l,J,z,rfl⟩:=A;have⟨t,q⟩:=iW.1 J;have L:(i,t,o)∈d:=Ro ((GI d i).symm.trans q);have⟨R,a,b,_⟩:=y.vers i t l (uR.2 ⟨o,q⟩) z;have⟨s,B,C,_⟩:=c.vers i t l (Ui E _ L) (j _ _ z);have:R=s:=by have:=j _ _ a;rw[B]at this;exact(Option.some.inj this).symm
   subst this;exact C.trans b.symm
  .exact c.ext.block k K A
end Go.Gx