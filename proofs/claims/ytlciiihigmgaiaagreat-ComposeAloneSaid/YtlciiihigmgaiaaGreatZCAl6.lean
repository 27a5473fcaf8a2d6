/- Models and proofs. Conditions: none. -/
import Derived.Test.YtlciiihigmgaiaaGreatZCAl5
import Derived.Test.YtlciiihigmgaiaaGreatZCAl2
import Derived.Test.YtlciiihigmgaiaaGreatZCAl1
set_option linter.unusedVariables false
set_option linter.unusedSimpArgs false
set_option maxHeartbeats 4000000
set_option maxRecDepth 20000
section
set_option maxRecDepth 100000
namespace Go.Gx
open Go Go.Sx Go.Proofs Go.Proofs.YtlciiihigmgaiaaGreat
def xD (l:List Nat):List GV:=l.map fun n=> .int .i64 (.ofNat n)
abbrev Un:Nat:=647805783445292858354124216707972104362217227416401506789551968550453547782289666464486871061303458493704209666026882594163169793806493880997404652969386840707963198018939744880
def mu0:List GV:=[.str Un 74]
def Ql:GV:=(.agg [(.str 97 1),(.sl 336 0 1 6),(.sl 520 0 1 3)])
def Il:OL:=[(336,336,.cells [(.str 120 1),(.int .i64 (.ofNat 1)),(.int .i64 (.ofNat 0)),(.int .i64 (.ofNat 3)),(.int .i64 (.ofNat 0)),(.int .i64 (.ofNat 0))]),
 (459,459,.cells (xD [41,0,37,0,5,0,1,3,20,0,40,0,12,0,5,0])),
 (505,505,.cells (xD [33,0,5,0,1,1])),
 (512,512,.cells [(.int .i64 (.ofNat 0)),(.sl 505 0 3 2)]),
 (520,520,.cells [(.str 28789 2),(.sl 459 0 8 2),(.sl 512 0 1 2)])]
set_option maxHeartbeats 4000000 in
theorem me0:FX sR gp 4000 6 mu0 [336,459,505,512,520]=some (Ql,780,Il):=by kernel_rfl
noncomputable def Eg (f:Nat) (us:List GV) (H:GH):Option (GV×GH):=bif Nat.beq f 6 then(bif Om us (Un,74)then Ep Ql 780 Il H else Oh f us H)else Oh f us H
noncomputable def VI:GP:=⟨oK,gp.cat,Eg,gp.exn⟩
theorem Ci {T:Nat} {w0:cM (gl T)} {w:World} {ρ:cS} {H H':GH} {g:GV} {us:List GV} {vs:iN} {f:Nat} (h:Eg f us H=some (g,H')) (R:dU w0 ρ H w) (hr:mQ ρ us vs):kM Tryz.prog w0 ρ f vs w g H':=by
 unfold Eg at h
 cases e1:Nat.beq f 6 with
 |false=>rw[e1]at h;exact GN h R hr
 | true =>
  rw[e1]at h
  cases e2:Om us (Un,74)with
  |false=>rw[e2]at h;exact GN h R hr
  |true=>
   rw[e2]at h;rw[Nat.eq_of_beq_eq_true e1]
   rw[GU e2]at hr
   obtain⟨V,rfl,hv⟩:=hr.one
   obtain⟨x,rfl,e3,e4⟩:=hv.str_inv
   exact Dr (gs:=gl T) (gs2:=gl T) rfl rfl kA EW me0 Tryz.call6 (mQ.cons (zB e3 e4) .nil) h R
theorem SP {T:Nat} (w0:cM (gl T)):Jg Tryz.prog VI sR.fns w0:=⟨(EW w0).tab,(EW w0).mixed,(EW w0).fns,fun h ρ w vs R hr=>Ci h R hr,(EW w0).exn,(EW w0).cat⟩
abbrev Uo:Nat:=712272115893357900056717403868120724801684719701724299276182496252039131930115384465000697525308180077002657679626628487685401639418085514115521743463493484126159263630349479954543729930864
def mu1:List GV:=[.str Uo 79]
def OM:GV:=(.agg [(.str 98 1),(.sl 381 0 2 6),(.sl 508 0 1 3)])
def Im:OL:=[(381,381,.cells [(.str 120 1),(.int .i64 (.ofNat 1)),(.int .i64 (.ofNat 0)),(.int .i64 (.ofNat 3)),(.int .i64 (.ofNat 0)),(.int .i64 (.ofNat 0)),(.str 121 1),(.int .i64 (.ofNat 1)),(.int .i64 (.ofNat 0)),(.int .i64 (.ofNat 2)),(.int .i64 (.ofNat 0)),(.int .i64 (.ofNat 0))]),
 (448,448,.cells (xD [36,0,5,1,32,0,5,0,1,3])),
 (492,492,.cells (xD [32,0,5,0,1,3])),
 (500,500,.cells [(.int .i64 (.ofNat 1)),(.sl 492 0 3 2)]),
 (508,508,.cells [(.str 6645107 3),(.sl 448 0 5 2),(.sl 500 0 1 2)])]
set_option maxHeartbeats 4000000 in
theorem me1:FX sR VI 4000 6 mu1 [381,448,492,500,508]=some (OM,717,Im):=by kernel_rfl
noncomputable def Eh (f:Nat) (us:List GV) (H:GH):Option (GV×GH):=bif Nat.beq f 6 then(bif Om us (Uo,79)then Ep OM 717 Im H else Eg f us H)else Eg f us H
noncomputable def VJ:GP:=⟨oK,gp.cat,Eh,gp.exn⟩
theorem Cj {T:Nat} {w0:cM (gl T)} {w:World} {ρ:cS} {H H':GH} {g:GV} {us:List GV} {vs:iN} {f:Nat} (h:Eh f us H=some (g,H')) (R:dU w0 ρ H w) (hr:mQ ρ us vs):kM Tryz.prog w0 ρ f vs w g H':=by
 unfold Eh at h
 cases e1:Nat.beq f 6 with
 |false=>rw[e1]at h;exact Ci h R hr
 | true =>
  rw[e1]at h
  cases e2:Om us (Uo,79)with
  |false=>rw[e2]at h;exact Ci h R hr
  |true=>
   rw[e2]at h;rw[Nat.eq_of_beq_eq_true e1]
   rw[GU e2]at hr
   obtain⟨V,rfl,hv⟩:=hr.one
   obtain⟨x,rfl,e3,e4⟩:=hv.str_inv
   exact Dr (gs:=gl T) (gs2:=gl T) rfl rfl kA SP me1 Tryz.call6 (mQ.cons (zB e3 e4) .nil) h R
theorem SQ {T:Nat} (w0:cM (gl T)):Jg Tryz.prog VJ sR.fns w0:=⟨(EW w0).tab,(EW w0).mixed,(EW w0).fns,fun h ρ w vs R hr=>Cj h R hr,(EW w0).exn,(EW w0).cat⟩
abbrev Up:Nat:=25527409811890773712901309956580134777752467770370391054623098631591392843260948247781125873274301557467071387084239634849157823793842690769212604789760395870595881835571473047569099022029565063169543169668621643125716206830487188517071500897794410801955286158417300124333313633222834131006064
def mu2:List GV:=[.str Up 122]
def Qm:GV:=(.agg [(.str 99 1),(.sl 468 0 2 6),(.sl 724 0 2 3)])
def Io:OL:=[(468,468,.cells [(.str 112 1),(.int .i64 (.ofNat 3)),(.int .i64 (.ofNat 0)),(.int .i64 (.ofNat 0)),(.int .i64 (.ofNat 0)),(.int .i64 (.ofNat 0)),(.str 122 1),(.int .i64 (.ofNat 2)),(.int .i64 (.ofNat 0)),(.int .i64 (.ofNat 0)),(.int .i64 (.ofNat 0)),(.int .i64 (.ofNat 0))]),
 (553,553,.cells (xD [36,0,5,0,23,0,12,1])),
 (615,615,.cells (xD [23,0,12,1])),
 (623,623,.cells [(.int .i64 (.ofNat 0)),(.sl 615 0 2 2)]),
 (681,681,.cells (xD [36,0,5,1,10,0])),
 (708,708,.cells [(.int .i64 (.ofNat 10)),(.int .i64 (.ofNat 0))]),
 (716,716,.cells [(.int .i64 (.ofNat 1)),(.sl 708 0 1 2)]),
 (724,724,.cells [(.str 7170401 3),(.sl 553 0 4 2),(.sl 623 0 1 2),(.str 110386807469428 6),(.sl 681 0 3 2),(.sl 716 0 1 2)])]
set_option maxHeartbeats 4000000 in
theorem me2:FX sR VJ 4000 6 mu2 [468,553,615,623,681,708,716,724]=some (Qm,990,Io):=by kernel_rfl
noncomputable def Ei (f:Nat) (us:List GV) (H:GH):Option (GV×GH):=bif Nat.beq f 6 then(bif Om us (Up,122)then Ep Qm 990 Io H else Eh f us H)else Eh f us H
noncomputable def VK:GP:=⟨oK,gp.cat,Ei,gp.exn⟩
theorem Ck {T:Nat} {w0:cM (gl T)} {w:World} {ρ:cS} {H H':GH} {g:GV} {us:List GV} {vs:iN} {f:Nat} (h:Ei f us H=some (g,H')) (R:dU w0 ρ H w) (hr:mQ ρ us vs):kM Tryz.prog w0 ρ f vs w g H':=by
 unfold Ei at h
 cases e1:Nat.beq f 6 with
 |false=>rw[e1]at h;exact Cj h R hr
 | true =>
  rw[e1]at h
  cases e2:Om us (Up,122)with
  |false=>rw[e2]at h;exact Cj h R hr
  |true=>
   rw[e2]at h;rw[Nat.eq_of_beq_eq_true e1]
   rw[GU e2]at hr
   obtain⟨V,rfl,hv⟩:=hr.one
   obtain⟨x,rfl,e3,e4⟩:=hv.str_inv
   exact Dr (gs:=gl T) (gs2:=gl T) rfl rfl kA SQ me2 Tryz.call6 (mQ.cons (zB e3 e4) .nil) h R
theorem SR {T:Nat} (w0:cM (gl T)):Jg Tryz.prog VK sR.fns w0:=⟨(EW w0).tab,(EW w0).mixed,(EW w0).fns,fun h ρ w vs R hr=>Ck h R hr,(EW w0).exn,(EW w0).cat⟩
abbrev Uq:Nat:=2093391912065131929342057284122509454556102196112985493859293902563874786137302649663025377300155875155924594752922687171275701081762132275685021938288
def mu3:List GV:=[.str Uq 63]
def ON:GV:=(.agg [(.str 100 1),(.sl 265 0 1 6),(.sl 402 0 1 3)])
def Ip:OL:=[(265,265,.cells [(.str 119 1),(.int .i64 (.ofNat 2)),(.int .i64 (.ofNat 0)),(.int .i64 (.ofNat 0)),(.int .i64 (.ofNat 0)),(.int .i64 (.ofNat 0))]),
 (347,347,.cells (xD [21,0,35,0,12,0,5,0])),
 (386,386,.cells (xD [19,0,5,0])),
 (394,394,.cells [(.int .i64 (.ofNat 0)),(.sl 386 0 2 2)]),
 (402,402,.cells [(.str 1885957222 4),(.sl 347 0 4 2),(.sl 394 0 1 2)])]
set_option maxHeartbeats 4000000 in
theorem me3:FX sR VK 4000 6 mu3 [265,347,386,394,402]=some (ON,562,Ip):=by kernel_rfl
noncomputable def JO (f:Nat) (us:List GV) (H:GH):Option (GV×GH):=bif Nat.beq f 6 then(bif Om us (Uq,63)then Ep ON 562 Ip H else Ei f us H)else Ei f us H
noncomputable def VL:GP:=⟨oK,gp.cat,JO,gp.exn⟩
theorem Mg {T:Nat} {w0:cM (gl T)} {w:World} {ρ:cS} {H H':GH} {g:GV} {us:List GV} {vs:iN} {f:Nat} (h:JO f us H=some (g,H')) (R:dU w0 ρ H w) (hr:mQ ρ us vs):kM Tryz.prog w0 ρ f vs w g H':=by
 unfold JO at h
 cases e1:Nat.beq f 6 with
 |false=>rw[e1]at h;exact Ck h R hr
 | true =>
  rw[e1]at h
  cases e2:Om us (Uq,63)with
  |false=>rw[e2]at h;exact Ck h R hr
  |true=>
   rw[e2]at h;rw[Nat.eq_of_beq_eq_true e1]
   rw[GU e2]at hr
   obtain⟨V,rfl,hv⟩:=hr.one
   obtain⟨x,rfl,e3,e4⟩:=hv.str_inv
   exact Dr (gs:=gl T) (gs2:=gl T) rfl rfl kA SR me3 Tryz.call6 (mQ.cons (zB e3 e4) .nil) h R
theorem VH {T:Nat} (w0:cM (gl T)):Jg Tryz.prog VL sR.fns w0:=⟨(EW w0).tab,(EW w0).mixed,(EW w0).fns,fun h ρ w vs R hr=>Mg h R hr,(EW w0).exn,(EW w0).cat⟩
noncomputable abbrev gp2:GP:=VL
theorem XS {T:Nat} (w0:cM (gl T)):Jg Tryz.prog gp2 sR.fns w0:=VH w0
end Go.Gx
end
section
namespace Go.Gx
open Go Go.Sx Go.RowKit
section
structure Hd (n:Nat) (os:OL) (ρ:cS) (w:World) (S:Nat->Prop):Prop where
 live:∀h o,(oD n os).get h=some o->∃l,ρ h=some l∧S l.b∧rB ρ w l o
 inj:∀h h' o o' l l',(oD n os).get h=some o->(oD n os).get h'=some o'->ρ h=some l->ρ h'=some l'->l.b=l'.b->h=h'
 fresh:∀h,n<=h->ρ h=none
 dense:∀h,h<n->∃l,ρ h=some l
 vers:∀h v l,(oD n os).ver h=some v->ρ h=some l->∃lv,ρ v=some lv∧w.heap[l.b]? = some lv.x∧(oD n os).get h=some lv.o
theorem Hd.mono {n:Nat} {os:OL} {ρ:cS} {w w':World} {S S':Nat->Prop} (H:Hd n os ρ w S) (h:∀k,S k->k<w.heap.size->S' k∧w'.heap[k]? = w.heap[k]?):Hd n os ρ w' S':=by
 refine⟨fun k o hg=> ?_,H.inj,H.fresh,H.dense,fun k v l hv hl=> ?_⟩
 ·obtain⟨l,a,b,c⟩:=H.live k o hg
  obtain⟨d,e⟩:=h _ b c.lt
  exact⟨l,a,d,c.move (cS.le_refl ρ) e⟩
 ·obtain⟨lv,a,b,c⟩:=H.vers k v l hv hl
  obtain⟨o,ho⟩:=lY.1 hv
  obtain⟨l',a',b',c'⟩:=H.live k o (eD.2 ⟨v,ho⟩)
  rw[hl]at a';cases a'
  exact⟨lv,a,by rw[(h _ b' c'.lt).2];exact b,c⟩
theorem dU.hd {gs:rK} {b:cM gs} {n:Nat} {os:OL} {ρ:cS} {w:World} {S:Nat->Prop} (R:dU b ρ (oD n os) w) (hS:∀k,b.mine k->S k):Hd n os ρ w S:=
 ⟨fun h o hg=>let ⟨l,a,b,c⟩:=R.live h o hg;⟨l,a,hS _ b,c⟩,R.inj,R.fresh,R.dense,R.vers⟩
def Fo (n:Nat) (os:OL) (g:GV) (V:Value):aP where
 p w S:=∃ρ,Hd n os ρ w S∧Rl ρ g V
 mono:=fun⟨ρ,h,r⟩ k=>⟨ρ,h.mono k,r⟩
def Hd.O (n:Nat) (os:OL) (ρ:cS) (k:Nat):Prop:=∃h o l,(oD n os).get h=some o∧ρ h=some l∧l.b=k
def Hd.base (n:Nat) (os:OL) (ρ:cS) (w:World):cM Qn:=⟨w,Hd.O n os ρ,fun _ h=>absurd h List.not_mem_nil⟩
theorem Hd.rel {n:Nat} {os:OL} {ρ:cS} {w:World} {S:Nat->Prop} (H:Hd n os ρ w S):dU (Hd.base n os ρ w) ρ (oD n os) w:=
 ⟨vV.refl w,fun h o hg=>let ⟨l,a,_,c⟩:=H.live h o hg;⟨l,a,.inr ⟨h,o,l,hg,a,rfl⟩,c⟩,H.inj,H.fresh,H.dense,H.vers,fun i v e=>by simp[Hd.base,Qn]at e⟩
noncomputable def zD (H:GH) (os:OL):Bool:=List.rec (motive:=fun _=>Bool) true (fun x _ ih=>Option.casesOn (motive:=fun _=>Bool) (H.ver x.1) false fun v=>bif Nat.beq v x.2.1 then ih else false) os
theorem EC {H:GH}:∀{os:OL},zD H os=true->∀x∈os,H.ver x.1=some x.2.1
 | [],_,x,hx=>by cases hx
 | y :: os, h, x, hx => by
  have h:Option.casesOn (motive:=fun _=>Bool) (H.ver y.1) false (fun v=>bif Nat.beq v y.2.1 then zD H os else false)=true:=h
  cases hv:H.ver y.1 with
  |none=>rw[hv]at h;cases h
  | some v =>
   rw[hv]at h
   obtain⟨h1,h2⟩:=bB.1 (show(bif Nat.beq v y.2.1 then(some (zD H os))else none)=some true by
    have h:(bif Nat.beq v y.2.1 then zD H os else false)=true:=h
    cases e:Nat.beq v y.2.1<;>rw[e]at h<;>first|cases h|(show some (zD H os)=some true;rw[show zD H os=true from h]))
   rcases List.mem_cons.1 hx with rfl|hx
   ·rw[hv,Nat.eq_of_beq_eq_true h1]
   ·exact EC (Option.some.inj h2) x hx
noncomputable def SZ (os:OL) (r:OR):Bool:=Option.casesOn (motive:=fun _=>Bool) r false fun r=>Option.casesOn (motive:=fun _=>Bool) r.1.asB false fun b=>bif b then zD r.2 os else false
theorem uB {os:OL} {r:OR} (h:SZ os r=true):∃H',r=some (.bool true,H')∧zD H' os=true:=by
 cases r with
 |none=>cases h
 | some r =>
  obtain⟨g,H'⟩:=r
  have h:Option.casesOn (motive:=fun _=>Bool) g.asB false (fun b=>bif b then zD H' os else false)=true:=h
  cases hb:g.asB with
  |none=>rw[hb]at h;cases h
  |some b=>
   rw[hb]at h
   cases b with
   |false=>cases h
   |true=>exact⟨H',by rw[wY hb],h⟩
theorem rS {P:Program} {G:GP} {Fs:FT} (hG:∀w0:cM Qn,Jg P G Fs w0) {fuel f n:Nat} {os:OL} {g:GV} {V:Value} (hb:aZ P f) (h:∃H',KI G Fs fuel f [g] (oD n os)=some (.bool true,H')∧zD H' os=true) {w:World} {S:Nat->Prop} (hw:(Fo n os g V).p w S):
  Calls P f #[V] w fun e w'=>e = .returned (.bool true)∧CG w w':=by
 obtain⟨ρ,hd,hr⟩:=hw
 obtain⟨H',h1,h2⟩:=h
 rcases yM hG h1 hd.rel (.cons hr .nil)with⟨v,w',ρ',hr',_⟩|⟨_,hc⟩
 ·have:=hb #[V] w
  rw[this]at hr';cases hr'
 ·refine hc.mono ?_
  rintro e w' ⟨v,ρ2,rfl,hle,R2,hv⟩
  refine⟨by rw[hv.bool_inv],R2.ext.os,R2.ext.tape,R2.ext.output,R2.ext.size,fun k hk=> ?_⟩
  by_cases ho:Hd.O n os ρ k
  ·obtain⟨i,o,l,hg,hl,rfl⟩:=ho
   obtain⟨v0,hv0⟩:=eD.1 hg
   have hm:(i,v0,o)∈os:=BB ((uC os i).symm.trans hv0)
   obtain⟨lv,a,b,_⟩:=hd.vers i v0 l (lY.2 ⟨o,hv0⟩) hl
   obtain⟨lv',a',b',_⟩:=R2.vers i v0 l (EC h2 _ hm) (hle _ _ hl)
   have:lv=lv':=by have:=hle _ _ a;rw[a']at this;exact(Option.some.inj this).symm
   subst this
   exact b'.trans b.symm
  ·exact R2.ext.block k hk ho
end
section
def Tj (k:Nat) (x:Nat×Nat×GO):Nat×Nat×GO:=(k+x.1,k+x.2.1,PC k x.2.2)
theorem RN (n1 n2:Nat) (os1 os2:OL):(oD n1 os1).load n2 os2=oD (n1+n2) (os2.map (Tj n1)++os1):=by
 have key:∀os2:OL,Ez n1 (IG os1) os2=IG (os2.map (Tj n1)++os1):=fun os2=>by
  induction os2 with
  |nil=>rfl
  |cons x r ih=>show(Ez n1 (IG os1) r).set _ _=_;rw[ih];rfl
 show(⟨n1+n2,Ez n1 (IG os1) os2⟩:GH)=_
 rw[key];rfl
def MW (n:Nat) (os:OL) (g1 g2:GV) (V1 V2:Value):aP where
 p w S:=∃ρ,Hd n os ρ w S∧Rl ρ g1 V1∧Rl ρ g2 V2
 mono:=fun⟨ρ,h,r,r'⟩ k=>⟨ρ,h.mono k,r,r'⟩
theorem Hd.mineS {n:Nat} {os:OL} {ρ:cS} {w:World} {S:Nat->Prop} (H:Hd n os ρ w S) {k:Nat} (hk:(Hd.base n os ρ w).mine k):w.heap.size<=k∨S k:=by
 rcases hk with hk|⟨h,o,l,hg,hl,rfl⟩
 ·exact .inl hk
 ·obtain⟨l',hl',hS,_⟩:=H.live h o hg
  rw[hl]at hl';cases hl'
  exact .inr hS
theorem Af {n1 n2:Nat} {os1 os2:OL} {g1 g2:GV} {V1 V2:Value} {w w':World} {S S':Nat->Prop} {ρ2:cS} {gs:rK} {hb:xR gs w fun _=>False} (h:(Fo n1 os1 g1 V1).p w S) (R2:dU (cM.of w hb) ρ2 (oD n2 os2) w') (h2:Rl ρ2 g2 V2) (hS:∀k,w.heap.size<=k∨S k->S' k):
  (MW (n1+n2) (os2.map (Tj n1)++os1) g1 (zE n1 g2) V1 V2).p w' S':=by
 obtain⟨ρ,hd,hr⟩:=h
 obtain⟨ρ',hle,R,hsh⟩:=hd.rel.join R2
 rw[RN]at R
 exact⟨ρ',dU.hd R fun k hk=>hS k (hd.mineS hk),hr.le hle,hsh _ _ h2⟩
noncomputable def OH (T:Az) (G:GP) (fuel f:Nat) (us:List GV) (n:Nat) (os:OL) (hs:List Nat):Option (GV×Nat×OL):=ob (tS T G fuel f us (oD n os)) fun r=>bif zD r.2 os then ob (Lh r.2 hs) fun os2=>some (r.1,r.2.n,os2)else none
theorem FP {P:Program} {T:Az} {G:GP} (hT:BY T G.tab) (hG:∀w0:cM Qn,Jg P G T.fns w0) {fuel f n n2:Nat} {us:List GV} {os os2:OL} {hs:List Nat} {g:GV} (hm:OH T G fuel f us n os hs=some (g,n2,os2)) (hb:aZ P f) {w:World} {S:Nat->Prop} {ρ:cS} (hd:Hd n os ρ w S) {vs:iN} (hv:mQ ρ us vs):
  Calls P f vs.toArray w fun e w'=>∃v ρ2,e = .returned v∧CG w w'∧dU (Hd.base n os ρ w) ρ2 (oD n2 os2) w'∧Rl ρ2 g v:=by
 obtain⟨r,hr,hm⟩:=aB.1 (show ob (tS T G fuel f us (oD n os)) _=some (g,n2,os2)from hm)
 obtain⟨hsame,hm⟩:=bB.1 hm
 obtain⟨os',hos,hm⟩:=aB.1 hm
 cases hm
 rw[nK hT]at hr
 rcases yM hG (H':=r.2) (g:=r.1) hr hd.rel hv with⟨v,w',ρ',hr',_⟩|⟨_,hc⟩
 ·have:=hb vs.toArray w
  rw[this]at hr';cases hr'
 ·refine hc.mono ?_
  rintro e w' ⟨v,ρ2,rfl,hle,R2,hv2⟩
  refine⟨v,ρ2,rfl,⟨R2.ext.os,R2.ext.tape,R2.ext.output,R2.ext.size,fun k hk=> ?_⟩,R2.sub rfl fun h p hp=> ?_,hv2⟩
  ·by_cases ho:Hd.O n os ρ k
   ·obtain⟨i,o,l,hg,hl,rfl⟩:=ho
    obtain⟨v0,hv0⟩:=eD.1 hg
    have hm:(i,v0,o)∈os:=BB ((uC os i).symm.trans hv0)
    obtain⟨lv,a,b,_⟩:=hd.vers i v0 l (lY.2 ⟨o,hv0⟩) hl
    obtain⟨lv',a',b',_⟩:=R2.vers i v0 l (EC hsame _ hm) (hle _ _ hl)
    have:lv=lv':=by have:=hle _ _ a;rw[a']at this;exact(Option.some.inj this).symm
    subst this
    exact b'.trans b.symm
   ·exact R2.ext.block k hk ho
  ·have:Mn os2 h=some p:=(uC os2 h).symm.trans hp
   exact Aj hos _ (BB this)
theorem zF {w w':World} {S:Nat->Prop} {l:List aP} (he:CG w w') (hl:∀q∈l,q.p w' fun k=>w.heap.size<=k∨S k):St ⟨w,S,fun _=>False⟩ [] l w':=
 ⟨⟨he.os,he.tape,he.output,he.size,fun k hk _=>he.block k hk⟩,fun _ _=>False,⟨fun i m hm=>by simp at hm,fun i k h=>h.elim,fun i j k h=>h.elim⟩,fun q hq=>aP.wide (hl q hq) fun k hk=>⟨hk.elim (fun h=> .inr (.inl h)) .inl,fun i h=>h.elim⟩⟩
end
end Go.Gx
end
section
namespace Go.Proofs.YtlciiihigmgaiaaGreat
open Go Go.Sx Go.Gx
set_option maxRecDepth 100000
abbrev kO:=ByteArray×(Value×eC)×(Value×List (Int×(Value×eC)))
def iV (z:kO):eC×List (Int×eC):=(z.2.1.2,z.2.2.2.map fun s=>(s.1,s.2.2))
abbrev Fu:=CX
abbrev EY:=List (eC×List (Int×eC))
def oT:ByteArray:=(ByteArray.mk #[112,114,111,103,114,97,109,32,97,59,10,118,97,114,32,120,32,58,32,48,32,46,46,32,51,59,10,114,117,108,101,32,117,112,58,32,120,32,60,32,51,32,38,38,32,97,108,108,40,113,46,120,32,62,61,32,120,41,32,45,62,32,120,32,58,61,32,120,32,43,32,49,59,10])
def oU:ByteArray:=(ByteArray.mk #[112,114,111,103,114,97,109,32,98,59,10,118,97,114,32,120,32,58,32,48,32,46,46,32,51,59,10,118,97,114,32,121,32,58,32,48,32,46,46,32,50,59,10,114,117,108,101,32,115,101,101,58,32,121,32,33,61,32,120,32,37,32,51,32,45,62,32,121,32,58,61,32,120,32,37,32,51,59,10])
def oV:ByteArray:=(ByteArray.mk #[112,114,111,103,114,97,109,32,99,59,10,118,97,114,32,112,32,58,32,112,111,114,116,59,10,118,97,114,32,122,32,58,32,98,111,111,108,59,10,114,117,108,101,32,97,105,109,58,32,112,32,33,61,32,102,105,114,115,116,40,113,46,122,41,32,45,62,32,112,32,58,61,32,102,105,114,115,116,40,113,46,122,41,59,10,114,117,108,101,32,116,117,114,110,101,100,58,32,122,32,33,61,32,114,111,111,116,32,45,62,32,122,32,58,61,32,114,111,111,116,59,10])
def oW:ByteArray:=(ByteArray.mk #[112,114,111,103,114,97,109,32,100,59,10,118,97,114,32,119,32,58,32,98,111,111,108,59,10,114,117,108,101,32,102,108,105,112,58,32,115,111,109,101,40,113,46,119,32,61,61,32,119,41,32,45,62,32,119,32,58,61,32,33,119,59,10])
def vK:ByteArray:=(ByteArray.mk #[97])
def y_:Fu:=[((ByteArray.mk #[120]),(1:Int),(0:Int),(3:Int),(0:Int),(0:Int))]
def xH:EY:=[([(41,0),(37,0),(5,0),(1,3),(20,0),(40,0),(12,0),(5,0)],[(0,[(33,0),(5,0),(1,1)])])]
def S_:Ge:=[((28789,2),[(41,0),(37,0),(5,0),(1,3),(20,0),(40,0),(12,0),(5,0)],[(0,[(33,0),(5,0),(1,1)])])]
def Ew:ByteArray:=(ByteArray.mk #[98])
def Cr:Fu:=[((ByteArray.mk #[120]),(1:Int),(0:Int),(3:Int),(0:Int),(0:Int)),((ByteArray.mk #[121]),(1:Int),(0:Int),(2:Int),(0:Int),(0:Int))]
def Al:EY:=[([(36,0),(5,1),(32,0),(5,0),(1,3)],[(1,[(32,0),(5,0),(1,3)])])]
def Ta:Ge:=[((6645107,3),[(36,0),(5,1),(32,0),(5,0),(1,3)],[(1,[(32,0),(5,0),(1,3)])])]
def vL:ByteArray:=(ByteArray.mk #[99])
def zA:Fu:=[((ByteArray.mk #[112]),(3:Int),(0:Int),(0:Int),(0:Int),(0:Int)),((ByteArray.mk #[122]),(2:Int),(0:Int),(0:Int),(0:Int),(0:Int))]
def xI:EY:=[([(36,0),(5,0),(23,0),(12,1)],[(0,[(23,0),(12,1)])]),([(36,0),(5,1),(10,0)],[(1,[(10,0)])])]
def Tb:Ge:=[((7170401,3),[(36,0),(5,0),(23,0),(12,1)],[(0,[(23,0),(12,1)])]),((110386807469428,6),[(36,0),(5,1),(10,0)],[(1,[(10,0)])])]
def Ey:ByteArray:=(ByteArray.mk #[100])
def Cs:Fu:=[((ByteArray.mk #[119]),(2:Int),(0:Int),(0:Int),(0:Int),(0:Int))]
def Am:EY:=[([(21,0),(35,0),(12,0),(5,0)],[(0,[(19,0),(5,0)])])]
def Tc:Ge:=[((1885957222,4),[(21,0),(35,0),(12,0),(5,0)],[(0,[(19,0),(5,0)])])]
def vM:ByteArray:=(ByteArray.mk #[98])
def Ct:Fu:=[((ByteArray.mk #[120]),(1:Int),(0:Int),(3:Int),(0:Int),(0:Int)),((ByteArray.mk #[121]),(1:Int),(0:Int),(2:Int),(0:Int),(0:Int))]
def An:EY:=[([(41,0),(37,0),(5,0),(1,3),(20,0),(40,0),(12,0),(5,0)],[(0,[(33,0),(5,0),(1,1)])]),([(36,0),(5,1),(32,0),(5,0),(1,3)],[(1,[(32,0),(5,0),(1,3)])])]
def Td:Ge:=[((28789,2),[(41,0),(37,0),(5,0),(1,3),(20,0),(40,0),(12,0),(5,0)],[(0,[(33,0),(5,0),(1,1)])]),((6645107,3),[(36,0),(5,1),(32,0),(5,0),(1,3)],[(1,[(32,0),(5,0),(1,3)])])]
def vN:ByteArray:=(ByteArray.mk #[100])
def Cu:Fu:=[((ByteArray.mk #[112]),(3:Int),(0:Int),(0:Int),(0:Int),(0:Int)),((ByteArray.mk #[122]),(2:Int),(0:Int),(0:Int),(0:Int),(0:Int)),((ByteArray.mk #[119]),(2:Int),(0:Int),(0:Int),(0:Int),(0:Int))]
def Ao:EY:=[([(36,0),(5,0),(23,0),(12,1)],[(0,[(23,0),(12,1)])]),([(36,0),(5,1),(10,0)],[(1,[(10,0)])]),([(21,0),(35,0),(12,2),(5,2)],[(2,[(19,0),(5,2)])])]
def Te:Ge:=[((7170401,3),[(36,0),(5,0),(23,0),(12,1)],[(0,[(23,0),(12,1)])]),((110386807469428,6),[(36,0),(5,1),(10,0)],[(1,[(10,0)])]),((1885957222,4),[(21,0),(35,0),(12,2),(5,2)],[(2,[(19,0),(5,2)])])]
def XR:GV:=(.agg [(.str 97 1),(.sl 1770 0 3 6),(.sl 2219 0 4 3)])
def WA:OL:=[(1770,1770,.cells [(.str 120 1),(.int .i64 (.ofNat 1)),(.int .i64 (.ofNat 0)),(.int .i64 (.ofNat 3)),(.int .i64 (.ofNat 0)),(.int .i64 (.ofNat 0)),(.str 119 1),(.int .i64 (.ofNat 2)),(.int .i64 (.ofNat 0)),(.int .i64 (.ofNat 0)),(.int .i64 (.ofNat 0)),(.int .i64 (.ofNat 0)),(.str 1852994932 4),(.int .i64 (.ofNat 2)),(.int .i64 (.ofNat 0)),(.int .i64 (.ofNat 0)),(.int .i64 (.ofNat 0)),(.int .i64 (.ofNat 0))]),
 (1892,1898,.cells [(.int .i64 (.ofNat 33)),(.int .i64 (.ofNat 0)),(.int .i64 (.ofNat 5)),(.int .i64 (.ofNat 0)),(.int .i64 (.ofNat 1)),(.int .i64 (.ofNat 1))]),
 (1911,1911,.cells [(.int .i64 (.ofNat 41)),(.int .i64 (.ofNat 0)),(.int .i64 (.ofNat 19)),(.int .i64 (.ofNat 0)),(.int .i64 (.ofNat 5)),(.int .i64 (.ofNat 2)),(.int .i64 (.ofNat 41)),(.int .i64 (.ofNat 0)),(.int .i64 (.ofNat 37)),(.int .i64 (.ofNat 0)),(.int .i64 (.ofNat 5)),(.int .i64 (.ofNat 0)),(.int .i64 (.ofNat 1)),(.int .i64 (.ofNat 3)),(.int .i64 (.ofNat 20)),(.int .i64 (.ofNat 0)),(.int .i64 (.ofNat 40)),(.int .i64 (.ofNat 0)),(.int .i64 (.ofNat 12)),(.int .i64 (.ofNat 0)),(.int .i64 (.ofNat 5)),(.int .i64 (.ofNat 0))]),
 (1913,1913,.cells [(.int .i64 (.ofNat 2)),(.int .i64 (.ofNat 0))]),
 (1915,1915,.cells [(.int .i64 (.ofNat 0)),(.sl 1892 0 3 2),(.int .i64 (.ofNat 2)),(.sl 1913 0 1 2)]),
 (1987,1993,.cells [(.int .i64 (.ofNat 19)),(.int .i64 (.ofNat 0)),(.int .i64 (.ofNat 5)),(.int .i64 (.ofNat 1))]),
 (2004,2004,.cells [(.int .i64 (.ofNat 41)),(.int .i64 (.ofNat 0)),(.int .i64 (.ofNat 5)),(.int .i64 (.ofNat 2)),(.int .i64 (.ofNat 21)),(.int .i64 (.ofNat 0)),(.int .i64 (.ofNat 35)),(.int .i64 (.ofNat 0)),(.int .i64 (.ofNat 12)),(.int .i64 (.ofNat 1)),(.int .i64 (.ofNat 5)),(.int .i64 (.ofNat 1))]),
 (2006,2006,.cells [(.int .i64 (.ofNat 3)),(.int .i64 (.ofNat 0))]),
 (2008,2008,.cells [(.int .i64 (.ofNat 1)),(.sl 1987 0 2 2),(.int .i64 (.ofNat 2)),(.sl 2006 0 1 2)]),
 (2076,2096,.cells [(.int .i64 (.ofNat 41)),(.int .i64 (.ofNat 0)),(.int .i64 (.ofNat 37)),(.int .i64 (.ofNat 0)),(.int .i64 (.ofNat 5)),(.int .i64 (.ofNat 0)),(.int .i64 (.ofNat 1)),(.int .i64 (.ofNat 3)),(.int .i64 (.ofNat 20)),(.int .i64 (.ofNat 0)),(.int .i64 (.ofNat 40)),(.int .i64 (.ofNat 0)),(.int .i64 (.ofNat 12)),(.int .i64 (.ofNat 0)),(.int .i64 (.ofNat 5)),(.int .i64 (.ofNat 0))]),
 (2121,2127,.cells [(.int .i64 (.ofNat 33)),(.int .i64 (.ofNat 0)),(.int .i64 (.ofNat 5)),(.int .i64 (.ofNat 0)),(.int .i64 (.ofNat 1)),(.int .i64 (.ofNat 1))]),
 (2131,2131,.cells [(.int .i64 (.ofNat 0)),(.sl 2121 0 3 2)]),
 (2175,2186,.cells [(.int .i64 (.ofNat 21)),(.int .i64 (.ofNat 0)),(.int .i64 (.ofNat 35)),(.int .i64 (.ofNat 0)),(.int .i64 (.ofNat 12)),(.int .i64 (.ofNat 1)),(.int .i64 (.ofNat 5)),(.int .i64 (.ofNat 1))]),
 (2204,2210,.cells [(.int .i64 (.ofNat 19)),(.int .i64 (.ofNat 0)),(.int .i64 (.ofNat 5)),(.int .i64 (.ofNat 1))]),
 (2212,2212,.cells [(.int .i64 (.ofNat 1)),(.sl 2204 0 2 2)]),
 (2219,2219,.cells [(.str 3240053 3),(.sl 1911 0 11 2),(.sl 1915 0 2 2),(.str 212339354726 5),(.sl 2004 0 6 2),(.sl 2008 0 2 2),(.str 3305589 3),(.sl 2076 0 8 2),(.sl 2131 0 1 2),(.str 216634322022 5),(.sl 2175 0 4 2),(.sl 2212 0 1 2)])]
def VD:GV:=(.agg [(.str 98 1),(.sl 1976 0 2 6),(.sl 2204 0 2 3)])
def OF:OL:=[(1976,1976,.cells [(.str 120 1),(.int .i64 (.ofNat 1)),(.int .i64 (.ofNat 0)),(.int .i64 (.ofNat 3)),(.int .i64 (.ofNat 0)),(.int .i64 (.ofNat 0)),(.str 121 1),(.int .i64 (.ofNat 1)),(.int .i64 (.ofNat 0)),(.int .i64 (.ofNat 2)),(.int .i64 (.ofNat 0)),(.int .i64 (.ofNat 0))]),
 (2050,2070,.cells [(.int .i64 (.ofNat 41)),(.int .i64 (.ofNat 0)),(.int .i64 (.ofNat 37)),(.int .i64 (.ofNat 0)),(.int .i64 (.ofNat 5)),(.int .i64 (.ofNat 0)),(.int .i64 (.ofNat 1)),(.int .i64 (.ofNat 3)),(.int .i64 (.ofNat 20)),(.int .i64 (.ofNat 0)),(.int .i64 (.ofNat 40)),(.int .i64 (.ofNat 0)),(.int .i64 (.ofNat 12)),(.int .i64 (.ofNat 0)),(.int .i64 (.ofNat 5)),(.int .i64 (.ofNat 0))]),
 (2095,2101,.cells [(.int .i64 (.ofNat 33)),(.int .i64 (.ofNat 0)),(.int .i64 (.ofNat 5)),(.int .i64 (.ofNat 0)),(.int .i64 (.ofNat 1)),(.int .i64 (.ofNat 1))]),
 (2105,2105,.cells [(.int .i64 (.ofNat 0)),(.sl 2095 0 3 2)]),
 (2152,2163,.cells [(.int .i64 (.ofNat 36)),(.int .i64 (.ofNat 0)),(.int .i64 (.ofNat 5)),(.int .i64 (.ofNat 1)),(.int .i64 (.ofNat 32)),(.int .i64 (.ofNat 0)),(.int .i64 (.ofNat 5)),(.int .i64 (.ofNat 0)),(.int .i64 (.ofNat 1)),(.int .i64 (.ofNat 3))]),
 (2190,2196,.cells [(.int .i64 (.ofNat 32)),(.int .i64 (.ofNat 0)),(.int .i64 (.ofNat 5)),(.int .i64 (.ofNat 0)),(.int .i64 (.ofNat 1)),(.int .i64 (.ofNat 3))]),
 (2200,2200,.cells [(.int .i64 (.ofNat 1)),(.sl 2190 0 3 2)]),
 (2204,2204,.cells [(.str 28789 2),(.sl 2050 0 8 2),(.sl 2105 0 1 2),(.str 6645107 3),(.sl 2152 0 5 2),(.sl 2200 0 1 2)])]
def XV:GV:=(.agg [(.str 98 1),(.sl 1161 0 2 6),(.sl 1288 0 1 3)])
def Wy:OL:=[(1161,1161,.cells [(.str 120 1),(.int .i64 (.ofNat 1)),(.int .i64 (.ofNat 0)),(.int .i64 (.ofNat 3)),(.int .i64 (.ofNat 0)),(.int .i64 (.ofNat 0)),(.str 121 1),(.int .i64 (.ofNat 1)),(.int .i64 (.ofNat 0)),(.int .i64 (.ofNat 2)),(.int .i64 (.ofNat 0)),(.int .i64 (.ofNat 0))]),
 (1228,1228,.cells [(.int .i64 (.ofNat 36)),(.int .i64 (.ofNat 0)),(.int .i64 (.ofNat 5)),(.int .i64 (.ofNat 1)),(.int .i64 (.ofNat 32)),(.int .i64 (.ofNat 0)),(.int .i64 (.ofNat 5)),(.int .i64 (.ofNat 0)),(.int .i64 (.ofNat 1)),(.int .i64 (.ofNat 3))]),
 (1272,1272,.cells [(.int .i64 (.ofNat 32)),(.int .i64 (.ofNat 0)),(.int .i64 (.ofNat 5)),(.int .i64 (.ofNat 0)),(.int .i64 (.ofNat 1)),(.int .i64 (.ofNat 3))]),
 (1280,1280,.cells [(.int .i64 (.ofNat 1)),(.sl 1272 0 3 2)]),
 (1288,1288,.cells [(.str 6645107 3),(.sl 1228 0 5 2),(.sl 1280 0 1 2)]),
 (336,336,.cells [(.str 120 1),(.int .i64 (.ofNat 1)),(.int .i64 (.ofNat 0)),(.int .i64 (.ofNat 3)),(.int .i64 (.ofNat 0)),(.int .i64 (.ofNat 0))]),
 (459,459,.cells [(.int .i64 (.ofNat 41)),(.int .i64 (.ofNat 0)),(.int .i64 (.ofNat 37)),(.int .i64 (.ofNat 0)),(.int .i64 (.ofNat 5)),(.int .i64 (.ofNat 0)),(.int .i64 (.ofNat 1)),(.int .i64 (.ofNat 3)),(.int .i64 (.ofNat 20)),(.int .i64 (.ofNat 0)),(.int .i64 (.ofNat 40)),(.int .i64 (.ofNat 0)),(.int .i64 (.ofNat 12)),(.int .i64 (.ofNat 0)),(.int .i64 (.ofNat 5)),(.int .i64 (.ofNat 0))]),
 (505,505,.cells [(.int .i64 (.ofNat 33)),(.int .i64 (.ofNat 0)),(.int .i64 (.ofNat 5)),(.int .i64 (.ofNat 0)),(.int .i64 (.ofNat 1)),(.int .i64 (.ofNat 1))]),
 (512,512,.cells [(.int .i64 (.ofNat 0)),(.sl 505 0 3 2)]),
 (520,520,.cells [(.str 28789 2),(.sl 459 0 8 2),(.sl 512 0 1 2)])]
theorem VN:zE 780 OM=XV:=by kernel_rfl
theorem VR:Im.map (Tj 780)++Il=Wy:=by kernel_rfl
theorem VP:OH sR Ic 4000 9 [Ql,XV] 1497 Wy [1976,2050,2095,2105,2152,2190,2200,2204]=some (.tup [VD,.int .i64 (.ofNat 0)],2207,OF):=by kernel_rfl
def VE:GV:=(.agg [(.str 100 1),(.sl 1983 0 3 6),(.sl 2211 0 3 3)])
def OG:OL:=[(1983,1983,.cells [(.str 112 1),(.int .i64 (.ofNat 3)),(.int .i64 (.ofNat 0)),(.int .i64 (.ofNat 0)),(.int .i64 (.ofNat 0)),(.int .i64 (.ofNat 0)),(.str 122 1),(.int .i64 (.ofNat 2)),(.int .i64 (.ofNat 0)),(.int .i64 (.ofNat 0)),(.int .i64 (.ofNat 0)),(.int .i64 (.ofNat 0)),(.str 119 1),(.int .i64 (.ofNat 2)),(.int .i64 (.ofNat 0)),(.int .i64 (.ofNat 0)),(.int .i64 (.ofNat 0)),(.int .i64 (.ofNat 0))]),
 (2032,2043,.cells [(.int .i64 (.ofNat 36)),(.int .i64 (.ofNat 0)),(.int .i64 (.ofNat 5)),(.int .i64 (.ofNat 0)),(.int .i64 (.ofNat 23)),(.int .i64 (.ofNat 0)),(.int .i64 (.ofNat 12)),(.int .i64 (.ofNat 1))]),
 (2061,2067,.cells [(.int .i64 (.ofNat 23)),(.int .i64 (.ofNat 0)),(.int .i64 (.ofNat 12)),(.int .i64 (.ofNat 1))]),
 (2069,2069,.cells [(.int .i64 (.ofNat 0)),(.sl 2061 0 2 2)]),
 (2106,2112,.cells [(.int .i64 (.ofNat 36)),(.int .i64 (.ofNat 0)),(.int .i64 (.ofNat 5)),(.int .i64 (.ofNat 1)),(.int .i64 (.ofNat 10)),(.int .i64 (.ofNat 0))]),
 (2125,2126,.cells [(.int .i64 (.ofNat 10)),(.int .i64 (.ofNat 0))]),
 (2130,2130,.cells [(.int .i64 (.ofNat 1)),(.sl 2125 0 1 2)]),
 (2170,2181,.cells [(.int .i64 (.ofNat 21)),(.int .i64 (.ofNat 0)),(.int .i64 (.ofNat 35)),(.int .i64 (.ofNat 0)),(.int .i64 (.ofNat 12)),(.int .i64 (.ofNat 2)),(.int .i64 (.ofNat 5)),(.int .i64 (.ofNat 2))]),
 (2199,2205,.cells [(.int .i64 (.ofNat 19)),(.int .i64 (.ofNat 0)),(.int .i64 (.ofNat 5)),(.int .i64 (.ofNat 2))]),
 (2207,2207,.cells [(.int .i64 (.ofNat 2)),(.sl 2199 0 2 2)]),
 (2211,2211,.cells [(.str 7170401 3),(.sl 2032 0 4 2),(.sl 2069 0 1 2),(.str 110386807469428 6),(.sl 2106 0 3 2),(.sl 2130 0 1 2),(.str 1885957222 4),(.sl 2170 0 4 2),(.sl 2207 0 1 2)])]
def XW:GV:=(.agg [(.str 100 1),(.sl 1255 0 1 6),(.sl 1392 0 1 3)])
def Wz:OL:=[(1255,1255,.cells [(.str 119 1),(.int .i64 (.ofNat 2)),(.int .i64 (.ofNat 0)),(.int .i64 (.ofNat 0)),(.int .i64 (.ofNat 0)),(.int .i64 (.ofNat 0))]),
 (1337,1337,.cells [(.int .i64 (.ofNat 21)),(.int .i64 (.ofNat 0)),(.int .i64 (.ofNat 35)),(.int .i64 (.ofNat 0)),(.int .i64 (.ofNat 12)),(.int .i64 (.ofNat 0)),(.int .i64 (.ofNat 5)),(.int .i64 (.ofNat 0))]),
 (1376,1376,.cells [(.int .i64 (.ofNat 19)),(.int .i64 (.ofNat 0)),(.int .i64 (.ofNat 5)),(.int .i64 (.ofNat 0))]),
 (1384,1384,.cells [(.int .i64 (.ofNat 0)),(.sl 1376 0 2 2)]),
 (1392,1392,.cells [(.str 1885957222 4),(.sl 1337 0 4 2),(.sl 1384 0 1 2)]),
 (468,468,.cells [(.str 112 1),(.int .i64 (.ofNat 3)),(.int .i64 (.ofNat 0)),(.int .i64 (.ofNat 0)),(.int .i64 (.ofNat 0)),(.int .i64 (.ofNat 0)),(.str 122 1),(.int .i64 (.ofNat 2)),(.int .i64 (.ofNat 0)),(.int .i64 (.ofNat 0)),(.int .i64 (.ofNat 0)),(.int .i64 (.ofNat 0))]),
 (553,553,.cells [(.int .i64 (.ofNat 36)),(.int .i64 (.ofNat 0)),(.int .i64 (.ofNat 5)),(.int .i64 (.ofNat 0)),(.int .i64 (.ofNat 23)),(.int .i64 (.ofNat 0)),(.int .i64 (.ofNat 12)),(.int .i64 (.ofNat 1))]),
 (615,615,.cells [(.int .i64 (.ofNat 23)),(.int .i64 (.ofNat 0)),(.int .i64 (.ofNat 12)),(.int .i64 (.ofNat 1))]),
 (623,623,.cells [(.int .i64 (.ofNat 0)),(.sl 615 0 2 2)]),
 (681,681,.cells [(.int .i64 (.ofNat 36)),(.int .i64 (.ofNat 0)),(.int .i64 (.ofNat 5)),(.int .i64 (.ofNat 1)),(.int .i64 (.ofNat 10)),(.int .i64 (.ofNat 0))]),
 (708,708,.cells [(.int .i64 (.ofNat 10)),(.int .i64 (.ofNat 0))]),
 (716,716,.cells [(.int .i64 (.ofNat 1)),(.sl 708 0 1 2)]),
 (724,724,.cells [(.str 7170401 3),(.sl 553 0 4 2),(.sl 623 0 1 2),(.str 110386807469428 6),(.sl 681 0 3 2),(.sl 716 0 1 2)])]
theorem VO:zE 990 ON=XW:=by kernel_rfl
theorem VS:Ip.map (Tj 990)++Io=Wz:=by kernel_rfl
theorem VQ:OH sR Ic 4000 9 [Qm,XW] 1552 Wz [1983,2032,2061,2069,2106,2125,2130,2170,2199,2207,2211]=some (.tup [VE,.int .i64 (.ofNat 0)],2214,OG):=by kernel_rfl
def Yb:List (Nat×OL×GV):=[(780,Il,Ql),(717,Im,OM),(990,Io,Qm),(562,Ip,ON),(2433,WA,XR),(2207,OF,VD),(2214,OG,VE)]
def look (t:ByteArray):Option (Nat×OL×GV):=if t=oT then some (780,Il,Ql)else if t=oU then some (717,Im,OM)else if t=oV then some (990,Io,Qm)else if t=oW then some (562,Ip,ON)else none
theorem Oz:look oT=some (780,Il,Ql):=by
 unfold look
 exact if_pos rfl
theorem OA:look oU=some (717,Im,OM):=by
 unfold look
 rw[if_neg (by decide +kernel)]
 exact if_pos rfl
theorem OB:look oV=some (990,Io,Qm):=by
 unfold look
 rw[if_neg (by decide +kernel)]
 rw[if_neg (by decide +kernel)]
 exact if_pos rfl
theorem OC:look oW=some (562,Ip,ON):=by
 unfold look
 rw[if_neg (by decide +kernel)]
 rw[if_neg (by decide +kernel)]
 rw[if_neg (by decide +kernel)]
 exact if_pos rfl
def PF (V:Value):aP:=⟨fun w S=>∃x,x∈Yb∧(Fo x.1 x.2.1 x.2.2 V).p w S,fun {w w' S S'} h k=>by
 obtain⟨x,hx,h⟩:=h
 exact⟨x,hx,(Fo x.1 x.2.1 x.2.2 V).mono h k⟩⟩
def PT (t:ByteArray) (V:Value):aP:=⟨fun w S=>∃x,look t=some x∧(Fo x.1 x.2.1 x.2.2 V).p w S,fun {w w' S S'} h k=>by
 obtain⟨x,hx,h⟩:=h
 exact⟨x,hx,(Fo x.1 x.2.1 x.2.2 V).mono h k⟩⟩
def PP (t u:ByteArray) (V U:Value):aP:=⟨fun w S=>∃x y,look t=some x∧look u=some y∧(MW (x.1+y.1) (y.2.1.map (Tj x.1)++x.2.1) x.2.2 (zE x.1 y.2.2) V U).p w S,fun {w w' S S'} h k=>by
 obtain⟨x,y,hx,hy,h⟩:=h
 exact⟨x,y,hx,hy,(MW _ _ _ _ V U).mono h k⟩⟩
noncomputable def Gw {R:Type} (D:EY) (k:List kO->Option R):Option R:=open Classical in if h:∃r,∀z:List kO,z.map iV=D->k z=some r then some (Classical.choose h)else none
theorem v_ {R:Type} {D:EY} {k:List kO->Option R} {r:R} (h:Gw D k=some r) (z:List kO) (hz:z.map iV=D):k z=some r:=by
 unfold Gw at h
 split at h
 ·rename_i e
  rw[<-Option.some.inj h]
  exact Classical.choose_spec e z hz
 cases h
theorem wX {R:Type} {D:EY} {k:List kO->Option R} {r:R} (h:∀z:List kO,z.map iV=D->k z=some r):Gw D k=some r:=by
 have e:∃r,∀z:List kO,z.map iV=D->k z=some r:=⟨r,h⟩
 unfold Gw
 rw[dif_pos e]
 let z:List kO:=D.map fun x=>(ByteArray.empty,(undef,x.1),(undef,x.2.map fun s=>(s.1,(undef,s.2))))
 have hz:z.map iV=D:=by
  show(D.map _).map iV=D
  rw[List.map_map]
  conv=>rhs;rw[<-List.map_id D]
  refine List.map_congr_left fun x _=>?_
  obtain⟨a,b⟩:=x
  simp[iV,Function.comp_def]
 rw[<-Classical.choose_spec e z hz,h z hz]
def cO (fuel:Nat) (p0:ByteArray):Option (ByteArray×Fu×EY):=if p0=oT then some (vK,y_,xH)else if p0=oU then some (Ew,Cr,Al)else if p0=oV then some (vL,zA,xI)else if p0=oW then some (Ey,Cs,Am)else none
theorem DU:aZ Tryz.prog 6:=Tryz.call6
theorem KH:aZ Tryz.prog 9:=Tryz.call9
theorem yK:aZ Tryz.prog 23:=Tryz.call23
theorem IC:sO oT=(647805783445292858354124216707972104362217227416401506789551968550453547782289666464486871061303458493704209666026882594163169793806493880997404652969386840707963198018939744880,74):=by kernel_rfl
theorem OX:sO vK=(97,1):=by kernel_rfl
theorem Pm:AU (oD 780 Il) 6 (dP 1 Cd (dP 1 (dI .i64) (dP 1 (dI .i64) (dP 1 (dI .i64) (dP 1 (dI .i64) (dI .i64)))))) (.sl 336 0 1 6)=some (y_.map fun z=>(sO z.1,z.2.1,z.2.2.1,z.2.2.2.1,z.2.2.2.2.1,z.2.2.2.2.2)):=by kernel_rfl
theorem Mv:AU (oD 780 Il) 3 (dP 1 Cd (dP 1 (dS (oD 780 Il) 2 (dP 1 (dI .i64) (dI .i64))) (dS (oD 780 Il) 2 (dP 1 (dI .i64) (dS (oD 780 Il) 2 (dP 1 (dI .i64) (dI .i64))))))) (.sl 520 0 1 3)=some S_:=by kernel_rfl
theorem RZ:S_.map (fun y=>(y.2.1,y.2.2))=xH:=by kernel_rfl
theorem Wd {gs:rK} {b:cM gs} {ρ:cS} {w:World} {V:Value} {S:Nat->Prop} (hm:∀k,b.mine k->S k) (R:dU b ρ (oD 780 Il) w) (hr:Rl ρ Ql V):∃x:Value×Value×{z:List kO // z.map iV=xH},V=Value.agg #[vS vK,x.1,x.2.1]∧yF aH w S x.1 y_∧yF aC w S x.2.1 x.2.2.1:=by
 obtain⟨bs,rfl,hl,_⟩:=hr.agg_inv
 obtain⟨A1,bs,rfl,a1,hl⟩:=hl.of_cons
 obtain⟨A2,bs,rfl,a2,hl⟩:=hl.of_cons
 obtain⟨A3,rfl,a3⟩:=hl.one
 obtain rfl:=Au a1 OX
 obtain⟨zs,hz,hs⟩:=nX R hm (aV.pair aV.str (aV.pair (aV.int .i64) (aV.pair (aV.int .i64) (aV.pair (aV.int .i64) (aV.pair (aV.int .i64) (aV.int .i64)))))) a2 Pm
 have hzs:zs=y_:=qD (cY (fun _ _=>tV) (cY fZ (cY fZ (cY fZ (cY fZ fZ))))) hz
 subst hzs
 obtain⟨ys,hy,ht⟩:=nX (r:=aC) R hm (aV.pair aV.str (aV.pair (aV.sl R hm (aV.pair (aV.int .i64) (aV.int .i64))) (aV.sl R hm (aV.pair (aV.int .i64) (aV.sl R hm (aV.pair (aV.int .i64) (aV.int .i64))))))) a3 Mv
 have hys:ys.map iV=xH:=by
  rw[<-RZ,<-hy,List.map_map]
  refine List.map_congr_left fun x _=>?_
  simp[iV,Function.comp_def]
 exact⟨(A2,A3,⟨ys,hys⟩),rfl,hs,ht⟩
theorem P_:SZ Il (tS sR Ic 4000 23 [Ql] (oD 780 Il))=true:=by kernel_rfl
theorem ID:sO oU=(712272115893357900056717403868120724801684719701724299276182496252039131930115384465000697525308180077002657679626628487685401639418085514115521743463493484126159263630349479954543729930864,79):=by kernel_rfl
theorem OY:sO Ew=(98,1):=by kernel_rfl
theorem Pn:AU (oD 717 Im) 6 (dP 1 Cd (dP 1 (dI .i64) (dP 1 (dI .i64) (dP 1 (dI .i64) (dP 1 (dI .i64) (dI .i64)))))) (.sl 381 0 2 6)=some (Cr.map fun z=>(sO z.1,z.2.1,z.2.2.1,z.2.2.2.1,z.2.2.2.2.1,z.2.2.2.2.2)):=by kernel_rfl
theorem Mw:AU (oD 717 Im) 3 (dP 1 Cd (dP 1 (dS (oD 717 Im) 2 (dP 1 (dI .i64) (dI .i64))) (dS (oD 717 Im) 2 (dP 1 (dI .i64) (dS (oD 717 Im) 2 (dP 1 (dI .i64) (dI .i64))))))) (.sl 508 0 1 3)=some Ta:=by kernel_rfl
theorem R_:Ta.map (fun y=>(y.2.1,y.2.2))=Al:=by kernel_rfl
theorem We {gs:rK} {b:cM gs} {ρ:cS} {w:World} {V:Value} {S:Nat->Prop} (hm:∀k,b.mine k->S k) (R:dU b ρ (oD 717 Im) w) (hr:Rl ρ OM V):∃x:Value×Value×{z:List kO // z.map iV=Al},V=Value.agg #[vS Ew,x.1,x.2.1]∧yF aH w S x.1 Cr∧yF aC w S x.2.1 x.2.2.1:=by
 obtain⟨bs,rfl,hl,_⟩:=hr.agg_inv
 obtain⟨A1,bs,rfl,a1,hl⟩:=hl.of_cons
 obtain⟨A2,bs,rfl,a2,hl⟩:=hl.of_cons
 obtain⟨A3,rfl,a3⟩:=hl.one
 obtain rfl:=Au a1 OY
 obtain⟨zs,hz,hs⟩:=nX R hm (aV.pair aV.str (aV.pair (aV.int .i64) (aV.pair (aV.int .i64) (aV.pair (aV.int .i64) (aV.pair (aV.int .i64) (aV.int .i64)))))) a2 Pn
 have hzs:zs=Cr:=qD (cY (fun _ _=>tV) (cY fZ (cY fZ (cY fZ (cY fZ fZ))))) hz
 subst hzs
 obtain⟨ys,hy,ht⟩:=nX (r:=aC) R hm (aV.pair aV.str (aV.pair (aV.sl R hm (aV.pair (aV.int .i64) (aV.int .i64))) (aV.sl R hm (aV.pair (aV.int .i64) (aV.sl R hm (aV.pair (aV.int .i64) (aV.int .i64))))))) a3 Mw
 have hys:ys.map iV=Al:=by
  rw[<-R_,<-hy,List.map_map]
  refine List.map_congr_left fun x _=>?_
  simp[iV,Function.comp_def]
 exact⟨(A2,A3,⟨ys,hys⟩),rfl,hs,ht⟩
theorem Qa:SZ Im (tS sR Ic 4000 23 [OM] (oD 717 Im))=true:=by kernel_rfl
theorem IE:sO oV=(25527409811890773712901309956580134777752467770370391054623098631591392843260948247781125873274301557467071387084239634849157823793842690769212604789760395870595881835571473047569099022029565063169543169668621643125716206830487188517071500897794410801955286158417300124333313633222834131006064,122):=by kernel_rfl
theorem OZ:sO vL=(99,1):=by kernel_rfl
theorem Po:AU (oD 990 Io) 6 (dP 1 Cd (dP 1 (dI .i64) (dP 1 (dI .i64) (dP 1 (dI .i64) (dP 1 (dI .i64) (dI .i64)))))) (.sl 468 0 2 6)=some (zA.map fun z=>(sO z.1,z.2.1,z.2.2.1,z.2.2.2.1,z.2.2.2.2.1,z.2.2.2.2.2)):=by kernel_rfl
theorem My:AU (oD 990 Io) 3 (dP 1 Cd (dP 1 (dS (oD 990 Io) 2 (dP 1 (dI .i64) (dI .i64))) (dS (oD 990 Io) 2 (dP 1 (dI .i64) (dS (oD 990 Io) 2 (dP 1 (dI .i64) (dI .i64))))))) (.sl 724 0 2 3)=some Tb:=by kernel_rfl
theorem Sa:Tb.map (fun y=>(y.2.1,y.2.2))=xI:=by kernel_rfl
theorem Wg {gs:rK} {b:cM gs} {ρ:cS} {w:World} {V:Value} {S:Nat->Prop} (hm:∀k,b.mine k->S k) (R:dU b ρ (oD 990 Io) w) (hr:Rl ρ Qm V):∃x:Value×Value×{z:List kO // z.map iV=xI},V=Value.agg #[vS vL,x.1,x.2.1]∧yF aH w S x.1 zA∧yF aC w S x.2.1 x.2.2.1:=by
 obtain⟨bs,rfl,hl,_⟩:=hr.agg_inv
 obtain⟨A1,bs,rfl,a1,hl⟩:=hl.of_cons
 obtain⟨A2,bs,rfl,a2,hl⟩:=hl.of_cons
 obtain⟨A3,rfl,a3⟩:=hl.one
 obtain rfl:=Au a1 OZ
 obtain⟨zs,hz,hs⟩:=nX R hm (aV.pair aV.str (aV.pair (aV.int .i64) (aV.pair (aV.int .i64) (aV.pair (aV.int .i64) (aV.pair (aV.int .i64) (aV.int .i64)))))) a2 Po
 have hzs:zs=zA:=qD (cY (fun _ _=>tV) (cY fZ (cY fZ (cY fZ (cY fZ fZ))))) hz
 subst hzs
 obtain⟨ys,hy,ht⟩:=nX (r:=aC) R hm (aV.pair aV.str (aV.pair (aV.sl R hm (aV.pair (aV.int .i64) (aV.int .i64))) (aV.sl R hm (aV.pair (aV.int .i64) (aV.sl R hm (aV.pair (aV.int .i64) (aV.int .i64))))))) a3 My
 have hys:ys.map iV=xI:=by
  rw[<-Sa,<-hy,List.map_map]
  refine List.map_congr_left fun x _=>?_
  simp[iV,Function.comp_def]
 exact⟨(A2,A3,⟨ys,hys⟩),rfl,hs,ht⟩
theorem Qb:SZ Io (tS sR Ic 4000 23 [Qm] (oD 990 Io))=true:=by kernel_rfl
theorem IF:sO oW=(2093391912065131929342057284122509454556102196112985493859293902563874786137302649663025377300155875155924594752922687171275701081762132275685021938288,63):=by kernel_rfl
theorem O_:sO Ey=(100,1):=by kernel_rfl
theorem Pp:AU (oD 562 Ip) 6 (dP 1 Cd (dP 1 (dI .i64) (dP 1 (dI .i64) (dP 1 (dI .i64) (dP 1 (dI .i64) (dI .i64)))))) (.sl 265 0 1 6)=some (Cs.map fun z=>(sO z.1,z.2.1,z.2.2.1,z.2.2.2.1,z.2.2.2.2.1,z.2.2.2.2.2)):=by kernel_rfl
theorem Mz:AU (oD 562 Ip) 3 (dP 1 Cd (dP 1 (dS (oD 562 Ip) 2 (dP 1 (dI .i64) (dI .i64))) (dS (oD 562 Ip) 2 (dP 1 (dI .i64) (dS (oD 562 Ip) 2 (dP 1 (dI .i64) (dI .i64))))))) (.sl 402 0 1 3)=some Tc:=by kernel_rfl
theorem Sb:Tc.map (fun y=>(y.2.1,y.2.2))=Am:=by kernel_rfl
theorem Wh {gs:rK} {b:cM gs} {ρ:cS} {w:World} {V:Value} {S:Nat->Prop} (hm:∀k,b.mine k->S k) (R:dU b ρ (oD 562 Ip) w) (hr:Rl ρ ON V):∃x:Value×Value×{z:List kO // z.map iV=Am},V=Value.agg #[vS Ey,x.1,x.2.1]∧yF aH w S x.1 Cs∧yF aC w S x.2.1 x.2.2.1:=by
 obtain⟨bs,rfl,hl,_⟩:=hr.agg_inv
 obtain⟨A1,bs,rfl,a1,hl⟩:=hl.of_cons
 obtain⟨A2,bs,rfl,a2,hl⟩:=hl.of_cons
 obtain⟨A3,rfl,a3⟩:=hl.one
 obtain rfl:=Au a1 O_
 obtain⟨zs,hz,hs⟩:=nX R hm (aV.pair aV.str (aV.pair (aV.int .i64) (aV.pair (aV.int .i64) (aV.pair (aV.int .i64) (aV.pair (aV.int .i64) (aV.int .i64)))))) a2 Pp
 have hzs:zs=Cs:=qD (cY (fun _ _=>tV) (cY fZ (cY fZ (cY fZ (cY fZ fZ))))) hz
 subst hzs
 obtain⟨ys,hy,ht⟩:=nX (r:=aC) R hm (aV.pair aV.str (aV.pair (aV.sl R hm (aV.pair (aV.int .i64) (aV.int .i64))) (aV.sl R hm (aV.pair (aV.int .i64) (aV.sl R hm (aV.pair (aV.int .i64) (aV.int .i64))))))) a3 Mz
 have hys:ys.map iV=Am:=by
  rw[<-Sb,<-hy,List.map_map]
  refine List.map_congr_left fun x _=>?_
  simp[iV,Function.comp_def]
 exact⟨(A2,A3,⟨ys,hys⟩),rfl,hs,ht⟩
theorem Qc:SZ Ip (tS sR Ic 4000 23 [ON] (oD 562 Ip))=true:=by kernel_rfl
theorem Qd:SZ WA (tS sR Ic 4000 23 [XR] (oD 2433 WA))=true:=by kernel_rfl
theorem Pa:sO vM=(98,1):=by kernel_rfl
theorem Pq:AU (oD 2207 OF) 6 (dP 1 Cd (dP 1 (dI .i64) (dP 1 (dI .i64) (dP 1 (dI .i64) (dP 1 (dI .i64) (dI .i64)))))) (.sl 1976 0 2 6)=some (Ct.map fun z=>(sO z.1,z.2.1,z.2.2.1,z.2.2.2.1,z.2.2.2.2.1,z.2.2.2.2.2)):=by kernel_rfl
theorem MA:AU (oD 2207 OF) 3 (dP 1 Cd (dP 1 (dS (oD 2207 OF) 2 (dP 1 (dI .i64) (dI .i64))) (dS (oD 2207 OF) 2 (dP 1 (dI .i64) (dS (oD 2207 OF) 2 (dP 1 (dI .i64) (dI .i64))))))) (.sl 2204 0 2 3)=some Td:=by kernel_rfl
theorem Sc:Td.map (fun y=>(y.2.1,y.2.2))=An:=by kernel_rfl
theorem Wi {gs:rK} {b:cM gs} {ρ:cS} {w:World} {V:Value} {S:Nat->Prop} (hm:∀k,b.mine k->S k) (R:dU b ρ (oD 2207 OF) w) (hr:Rl ρ VD V):∃x:Value×Value×{z:List kO // z.map iV=An},V=Value.agg #[vS vM,x.1,x.2.1]∧yF aH w S x.1 Ct∧yF aC w S x.2.1 x.2.2.1:=by
 obtain⟨bs,rfl,hl,_⟩:=hr.agg_inv
 obtain⟨A1,bs,rfl,a1,hl⟩:=hl.of_cons
 obtain⟨A2,bs,rfl,a2,hl⟩:=hl.of_cons
 obtain⟨A3,rfl,a3⟩:=hl.one
 obtain rfl:=Au a1 Pa
 obtain⟨zs,hz,hs⟩:=nX R hm (aV.pair aV.str (aV.pair (aV.int .i64) (aV.pair (aV.int .i64) (aV.pair (aV.int .i64) (aV.pair (aV.int .i64) (aV.int .i64)))))) a2 Pq
 have hzs:zs=Ct:=qD (cY (fun _ _=>tV) (cY fZ (cY fZ (cY fZ (cY fZ fZ))))) hz
 subst hzs
 obtain⟨ys,hy,ht⟩:=nX (r:=aC) R hm (aV.pair aV.str (aV.pair (aV.sl R hm (aV.pair (aV.int .i64) (aV.int .i64))) (aV.sl R hm (aV.pair (aV.int .i64) (aV.sl R hm (aV.pair (aV.int .i64) (aV.int .i64))))))) a3 MA
 have hys:ys.map iV=An:=by
  rw[<-Sc,<-hy,List.map_map]
  refine List.map_congr_left fun x _=>?_
  simp[iV,Function.comp_def]
 exact⟨(A2,A3,⟨ys,hys⟩),rfl,hs,ht⟩
theorem Qe:SZ OF (tS sR Ic 4000 23 [VD] (oD 2207 OF))=true:=by kernel_rfl
theorem Pb:sO vN=(100,1):=by kernel_rfl
theorem Pr:AU (oD 2214 OG) 6 (dP 1 Cd (dP 1 (dI .i64) (dP 1 (dI .i64) (dP 1 (dI .i64) (dP 1 (dI .i64) (dI .i64)))))) (.sl 1983 0 3 6)=some (Cu.map fun z=>(sO z.1,z.2.1,z.2.2.1,z.2.2.2.1,z.2.2.2.2.1,z.2.2.2.2.2)):=by kernel_rfl
theorem MB:AU (oD 2214 OG) 3 (dP 1 Cd (dP 1 (dS (oD 2214 OG) 2 (dP 1 (dI .i64) (dI .i64))) (dS (oD 2214 OG) 2 (dP 1 (dI .i64) (dS (oD 2214 OG) 2 (dP 1 (dI .i64) (dI .i64))))))) (.sl 2211 0 3 3)=some Te:=by kernel_rfl
theorem Sd:Te.map (fun y=>(y.2.1,y.2.2))=Ao:=by kernel_rfl
theorem Wj {gs:rK} {b:cM gs} {ρ:cS} {w:World} {V:Value} {S:Nat->Prop} (hm:∀k,b.mine k->S k) (R:dU b ρ (oD 2214 OG) w) (hr:Rl ρ VE V):∃x:Value×Value×{z:List kO // z.map iV=Ao},V=Value.agg #[vS vN,x.1,x.2.1]∧yF aH w S x.1 Cu∧yF aC w S x.2.1 x.2.2.1:=by
 obtain⟨bs,rfl,hl,_⟩:=hr.agg_inv
 obtain⟨A1,bs,rfl,a1,hl⟩:=hl.of_cons
 obtain⟨A2,bs,rfl,a2,hl⟩:=hl.of_cons
 obtain⟨A3,rfl,a3⟩:=hl.one
 obtain rfl:=Au a1 Pb
 obtain⟨zs,hz,hs⟩:=nX R hm (aV.pair aV.str (aV.pair (aV.int .i64) (aV.pair (aV.int .i64) (aV.pair (aV.int .i64) (aV.pair (aV.int .i64) (aV.int .i64)))))) a2 Pr
 have hzs:zs=Cu:=qD (cY (fun _ _=>tV) (cY fZ (cY fZ (cY fZ (cY fZ fZ))))) hz
 subst hzs
 obtain⟨ys,hy,ht⟩:=nX (r:=aC) R hm (aV.pair aV.str (aV.pair (aV.sl R hm (aV.pair (aV.int .i64) (aV.int .i64))) (aV.sl R hm (aV.pair (aV.int .i64) (aV.sl R hm (aV.pair (aV.int .i64) (aV.int .i64))))))) a3 MB
 have hys:ys.map iV=Ao:=by
  rw[<-Sd,<-hy,List.map_map]
  refine List.map_congr_left fun x _=>?_
  simp[iV,Function.comp_def]
 exact⟨(A2,A3,⟨ys,hys⟩),rfl,hs,ht⟩
theorem Qf:SZ OG (tS sR Ic 4000 23 [VE] (oD 2214 OG))=true:=by kernel_rfl
theorem Pd:∀w,Calls Tryz.prog 6 #[vS oT] w fun e w'=>∃V ρ' hb,e = .returned V∧dU (cM.of (gs:=gl 0) w hb) ρ' (oD 780 Il) w'∧Rl ρ' Ql V:=by
 intro w
 have hb:xR (gl 0) w fun _=>False:=fun _ h=>absurd h List.not_mem_nil
 refine(Ag kA EW me0 DU (.cons (zB (x:=oT) (congrArg Prod.fst IC).symm (congrArg Prod.snd IC).symm) .nil) rfl (cM.of w hb)).mono ?_
 rintro e w' ⟨v,ρ',rfl,R,hr⟩
 exact⟨v,ρ',hb,rfl,R,hr⟩
theorem UH (r:(ByteArray×Fu×EY)) (h:some (vK,y_,xH)=some r) (w:World) (S:Nat->Prop):Calls Tryz.prog 6 #[vS oT] w fun e w'=>∃x:Value×Value×{z:List kO // z.map iV=r.2.2},e = .returned (Value.agg #[vS r.1,x.1,x.2.1])∧CG w w'∧(Sl aH x.1 r.2.1).p w' (fun k=>w.heap.size<=k∨S k)∧(Sl aC x.2.1 x.2.2.1).p w' (fun k=>w.heap.size<=k∨S k)∧(PF (Value.agg #[vS r.1,x.1,x.2.1])).p w' (fun k=>w.heap.size<=k∨S k)∧(PT oT (Value.agg #[vS r.1,x.1,x.2.1])).p w' (fun k=>w.heap.size<=k∨S k)∧∀t0 V0,(PT t0 V0).p w S->(PP t0 oT V0 (Value.agg #[vS r.1,x.1,x.2.1])).p w' (fun k=>w.heap.size<=k∨S k):=by
 cases h
 refine(Pd w).mono ?_
 rintro e w' ⟨V,ρ',hb,rfl,R,hr⟩
 have hm:∀k,(cM.of (gs:=gl 0) w hb).mine k->w.heap.size<=k∨S k:=fun k hk=>hk.elim .inl False.elim
 obtain⟨x,rfl,h1,h2⟩:=Wd hm R hr
 exact⟨x,rfl,R.ext.ext,h1,h2,⟨_,List.mem_of_getElem? (i:=0) rfl,ρ',dU.hd R hm,hr⟩,⟨_,Oz,ρ',dU.hd R hm,hr⟩,fun t0 V0 ⟨x0,hx0,hp⟩=>⟨x0,_,hx0,Oz,Af hp R hr fun k hk=>hk⟩⟩
theorem Pe:∀w,Calls Tryz.prog 6 #[vS oU] w fun e w'=>∃V ρ' hb,e = .returned V∧dU (cM.of (gs:=gl 0) w hb) ρ' (oD 717 Im) w'∧Rl ρ' OM V:=by
 intro w
 have hb:xR (gl 0) w fun _=>False:=fun _ h=>absurd h List.not_mem_nil
 refine(Ag kA SP me1 DU (.cons (zB (x:=oU) (congrArg Prod.fst ID).symm (congrArg Prod.snd ID).symm) .nil) rfl (cM.of w hb)).mono ?_
 rintro e w' ⟨v,ρ',rfl,R,hr⟩
 exact⟨v,ρ',hb,rfl,R,hr⟩
theorem UI (r:(ByteArray×Fu×EY)) (h:some (Ew,Cr,Al)=some r) (w:World) (S:Nat->Prop):Calls Tryz.prog 6 #[vS oU] w fun e w'=>∃x:Value×Value×{z:List kO // z.map iV=r.2.2},e = .returned (Value.agg #[vS r.1,x.1,x.2.1])∧CG w w'∧(Sl aH x.1 r.2.1).p w' (fun k=>w.heap.size<=k∨S k)∧(Sl aC x.2.1 x.2.2.1).p w' (fun k=>w.heap.size<=k∨S k)∧(PF (Value.agg #[vS r.1,x.1,x.2.1])).p w' (fun k=>w.heap.size<=k∨S k)∧(PT oU (Value.agg #[vS r.1,x.1,x.2.1])).p w' (fun k=>w.heap.size<=k∨S k)∧∀t0 V0,(PT t0 V0).p w S->(PP t0 oU V0 (Value.agg #[vS r.1,x.1,x.2.1])).p w' (fun k=>w.heap.size<=k∨S k):=by
 cases h
 refine(Pe w).mono ?_
 rintro e w' ⟨V,ρ',hb,rfl,R,hr⟩
 have hm:∀k,(cM.of (gs:=gl 0) w hb).mine k->w.heap.size<=k∨S k:=fun k hk=>hk.elim .inl False.elim
 obtain⟨x,rfl,h1,h2⟩:=We hm R hr
 exact⟨x,rfl,R.ext.ext,h1,h2,⟨_,List.mem_of_getElem? (i:=1) rfl,ρ',dU.hd R hm,hr⟩,⟨_,OA,ρ',dU.hd R hm,hr⟩,fun t0 V0 ⟨x0,hx0,hp⟩=>⟨x0,_,hx0,OA,Af hp R hr fun k hk=>hk⟩⟩
theorem Pf:∀w,Calls Tryz.prog 6 #[vS oV] w fun e w'=>∃V ρ' hb,e = .returned V∧dU (cM.of (gs:=gl 0) w hb) ρ' (oD 990 Io) w'∧Rl ρ' Qm V:=by
 intro w
 have hb:xR (gl 0) w fun _=>False:=fun _ h=>absurd h List.not_mem_nil
 refine(Ag kA SQ me2 DU (.cons (zB (x:=oV) (congrArg Prod.fst IE).symm (congrArg Prod.snd IE).symm) .nil) rfl (cM.of w hb)).mono ?_
 rintro e w' ⟨v,ρ',rfl,R,hr⟩
 exact⟨v,ρ',hb,rfl,R,hr⟩
theorem UJ (r:(ByteArray×Fu×EY)) (h:some (vL,zA,xI)=some r) (w:World) (S:Nat->Prop):Calls Tryz.prog 6 #[vS oV] w fun e w'=>∃x:Value×Value×{z:List kO // z.map iV=r.2.2},e = .returned (Value.agg #[vS r.1,x.1,x.2.1])∧CG w w'∧(Sl aH x.1 r.2.1).p w' (fun k=>w.heap.size<=k∨S k)∧(Sl aC x.2.1 x.2.2.1).p w' (fun k=>w.heap.size<=k∨S k)∧(PF (Value.agg #[vS r.1,x.1,x.2.1])).p w' (fun k=>w.heap.size<=k∨S k)∧(PT oV (Value.agg #[vS r.1,x.1,x.2.1])).p w' (fun k=>w.heap.size<=k∨S k)∧∀t0 V0,(PT t0 V0).p w S->(PP t0 oV V0 (Value.agg #[vS r.1,x.1,x.2.1])).p w' (fun k=>w.heap.size<=k∨S k):=by
 cases h
 refine(Pf w).mono ?_
 rintro e w' ⟨V,ρ',hb,rfl,R,hr⟩
 have hm:∀k,(cM.of (gs:=gl 0) w hb).mine k->w.heap.size<=k∨S k:=fun k hk=>hk.elim .inl False.elim
 obtain⟨x,rfl,h1,h2⟩:=Wg hm R hr
 exact⟨x,rfl,R.ext.ext,h1,h2,⟨_,List.mem_of_getElem? (i:=2) rfl,ρ',dU.hd R hm,hr⟩,⟨_,OB,ρ',dU.hd R hm,hr⟩,fun t0 V0 ⟨x0,hx0,hp⟩=>⟨x0,_,hx0,OB,Af hp R hr fun k hk=>hk⟩⟩
theorem Pg:∀w,Calls Tryz.prog 6 #[vS oW] w fun e w'=>∃V ρ' hb,e = .returned V∧dU (cM.of (gs:=gl 0) w hb) ρ' (oD 562 Ip) w'∧Rl ρ' ON V:=by
 intro w
 have hb:xR (gl 0) w fun _=>False:=fun _ h=>absurd h List.not_mem_nil
 refine(Ag kA SR me3 DU (.cons (zB (x:=oW) (congrArg Prod.fst IF).symm (congrArg Prod.snd IF).symm) .nil) rfl (cM.of w hb)).mono ?_
 rintro e w' ⟨v,ρ',rfl,R,hr⟩
 exact⟨v,ρ',hb,rfl,R,hr⟩
theorem UK (r:(ByteArray×Fu×EY)) (h:some (Ey,Cs,Am)=some r) (w:World) (S:Nat->Prop):Calls Tryz.prog 6 #[vS oW] w fun e w'=>∃x:Value×Value×{z:List kO // z.map iV=r.2.2},e = .returned (Value.agg #[vS r.1,x.1,x.2.1])∧CG w w'∧(Sl aH x.1 r.2.1).p w' (fun k=>w.heap.size<=k∨S k)∧(Sl aC x.2.1 x.2.2.1).p w' (fun k=>w.heap.size<=k∨S k)∧(PF (Value.agg #[vS r.1,x.1,x.2.1])).p w' (fun k=>w.heap.size<=k∨S k)∧(PT oW (Value.agg #[vS r.1,x.1,x.2.1])).p w' (fun k=>w.heap.size<=k∨S k)∧∀t0 V0,(PT t0 V0).p w S->(PP t0 oW V0 (Value.agg #[vS r.1,x.1,x.2.1])).p w' (fun k=>w.heap.size<=k∨S k):=by
 cases h
 refine(Pg w).mono ?_
 rintro e w' ⟨V,ρ',hb,rfl,R,hr⟩
 have hm:∀k,(cM.of (gs:=gl 0) w hb).mine k->w.heap.size<=k∨S k:=fun k hk=>hk.elim .inl False.elim
 obtain⟨x,rfl,h1,h2⟩:=Wh hm R hr
 exact⟨x,rfl,R.ext.ext,h1,h2,⟨_,List.mem_of_getElem? (i:=3) rfl,ρ',dU.hd R hm,hr⟩,⟨_,OC,ρ',dU.hd R hm,hr⟩,fun t0 V0 ⟨x0,hx0,hp⟩=>⟨x0,_,hx0,OC,Af hp R hr fun k hk=>hk⟩⟩
theorem Tg (fuel:Nat) {p0:ByteArray} (r:(ByteArray×Fu×EY)) (h:cO fuel p0=some r) (w:World) (S:Nat->Prop):Calls Tryz.prog 6 #[vS p0] w fun e w'=>∃x:Value×Value×{z:List kO // z.map iV=r.2.2},e = .returned (Value.agg #[vS r.1,x.1,x.2.1])∧CG w w'∧(Sl aH x.1 r.2.1).p w' (fun k=>w.heap.size<=k∨S k)∧(Sl aC x.2.1 x.2.2.1).p w' (fun k=>w.heap.size<=k∨S k)∧(PF (Value.agg #[vS r.1,x.1,x.2.1])).p w' (fun k=>w.heap.size<=k∨S k)∧(PT p0 (Value.agg #[vS r.1,x.1,x.2.1])).p w' (fun k=>w.heap.size<=k∨S k)∧∀t0 V0,(PT t0 V0).p w S->(PP t0 p0 V0 (Value.agg #[vS r.1,x.1,x.2.1])).p w' (fun k=>w.heap.size<=k∨S k):=by
 unfold cO at h
 by_cases e0:p0=oT
 ·subst e0;exact UH r ((if_pos rfl).symm.trans h) w S
 rw[if_neg e0]at h
 by_cases e1:p0=oU
 ·subst e1;exact UI r ((if_pos rfl).symm.trans h) w S
 rw[if_neg e1]at h
 by_cases e2:p0=oV
 ·subst e2;exact UJ r ((if_pos rfl).symm.trans h) w S
 rw[if_neg e2]at h
 by_cases e3:p0=oW
 ·subst e3;exact UK r ((if_pos rfl).symm.trans h) w S
 rw[if_neg e3]at h
 cases h
theorem Da (fuel:Nat) {p0:ByteArray} (r:(ByteArray×Fu×EY)) (h:cO fuel p0=some r):bA Tryz.prog 6 #[vS p0] [] (fun x:Value×Value×{z:List kO // z.map iV=r.2.2}=>Value.agg #[vS r.1,x.1,x.2.1]) (fun x l=>l) (fun x l=>Sl aH x.1 r.2.1::Sl aC x.2.1 x.2.2.1::PF (Value.agg #[vS r.1,x.1,x.2.1])::PT p0 (Value.agg #[vS r.1,x.1,x.2.1])::l):=by
 intro w S hw
 refine(Tg fuel r h w S).mono ?_
 rintro e w' ⟨x,rfl,he,h1,h2,h3,h4,_⟩
 exact⟨x,rfl,zF he (List.forall_mem_cons.2 ⟨h1,List.forall_mem_cons.2 ⟨h2,List.forall_mem_cons.2 ⟨h3,List.forall_mem_singleton.2 h4⟩⟩⟩)⟩
theorem sI (fuel:Nat) {p0 t0:ByteArray} {V0:Value} (r:(ByteArray×Fu×EY)) (h:cO fuel p0=some r):bA Tryz.prog 6 #[vS p0] [PT t0 V0] (fun x:Value×Value×{z:List kO // z.map iV=r.2.2}=>Value.agg #[vS r.1,x.1,x.2.1]) (fun x l=>l) (fun x l=>Sl aH x.1 r.2.1::Sl aC x.2.1 x.2.2.1::PF (Value.agg #[vS r.1,x.1,x.2.1])::PT p0 (Value.agg #[vS r.1,x.1,x.2.1])::PP t0 p0 V0 (Value.agg #[vS r.1,x.1,x.2.1])::l):=by
 intro w S hw
 refine(Tg fuel r h w S).mono ?_
 rintro e w' ⟨x,rfl,he,h1,h2,h3,h4,h5⟩
 exact⟨x,rfl,zF he (List.forall_mem_cons.2 ⟨h1,List.forall_mem_cons.2 ⟨h2,List.forall_mem_cons.2 ⟨h3,List.forall_mem_cons.2 ⟨h4,List.forall_mem_singleton.2 (h5 t0 V0 (hw _ (List.mem_singleton_self _)))⟩⟩⟩⟩)⟩
theorem Ph (f:Nat):cO f oT=some (vK,y_,xH):=by
 unfold cO
 exact if_pos rfl
theorem IB (f:Nat):cO f oU=some (Ew,Cr,Al):=by
 unfold cO
 rw[if_neg (by decide +kernel)]
 exact if_pos rfl
theorem Pj (f:Nat):cO f oV=some (vL,zA,xI):=by
 unfold cO
 rw[if_neg (by decide +kernel)]
 rw[if_neg (by decide +kernel)]
 exact if_pos rfl
theorem Pk (f:Nat):cO f oW=some (Ey,Cs,Am):=by
 unfold cO
 rw[if_neg (by decide +kernel)]
 rw[if_neg (by decide +kernel)]
 rw[if_neg (by decide +kernel)]
 exact if_pos rfl
def iL (fuel:Nat) (t u:ByteArray):Option ((ByteArray×Fu×EY)×Int):=if t=oT∧u=oU then some ((vM,Ct,An),0)else if t=oV∧u=oW then some ((vN,Cu,Ao),0)else none
theorem Vy (r:(ByteArray×Fu×EY)×Int) (h:some ((vM,Ct,An),(0:Int))=some r) {V U:Value}:bA Tryz.prog 9 #[V,U] [PP oT oU V U] (fun x:Value×Value×{z:List kO // z.map iV=r.1.2.2}=>Value.tuple #[Value.agg #[vS r.1.1,x.1,x.2.1],.int .i64 r.2]) (fun x l=>l) (fun x l=>Sl aH x.1 r.1.2.1::Sl aC x.2.1 x.2.2.1::PF (Value.agg #[vS r.1.1,x.1,x.2.1])::l):=by
 cases h
 intro w S hw
 obtain⟨x0,y0,hx0,hy0,ρ,hd,ha,hb⟩:=hw _ (List.mem_singleton_self _)
 cases Oz.symm.trans hx0
 cases OA.symm.trans hy0
 have hd:Hd 1497 Wy ρ w S:=by
  have hd:Hd 1497 (Im.map (Tj 780)++Il) ρ w S:=hd
  rw[VR]at hd;exact hd
 have hb:Rl ρ XV U:=by
  have hb:Rl ρ (zE 780 OM) U:=hb
  rw[VN]at hb;exact hb
 refine(FP kA GQ VP KH hd (vs:=[V,U]) (.cons ha (.cons hb .nil))).mono ?_
 rintro e w' ⟨V',ρ2,rfl,he,R,hr⟩
 obtain⟨vs,rfl,hl⟩:=hr.tup_inv
 obtain⟨A1,vs,rfl,a1,hl⟩:=hl.of_cons
 obtain⟨A2,rfl,a2⟩:=hl.one
 obtain rfl:=a2.int_inv
 have hm:∀k,(Hd.base 1497 Wy ρ w).mine k->w.heap.size<=k∨S k:=fun k hk=>hd.mineS hk
 obtain⟨x,rfl,h1,h2⟩:=Wi hm R a1
 exact⟨x,rfl,zF he (List.forall_mem_cons.2 ⟨h1,List.forall_mem_cons.2 ⟨h2,List.forall_mem_singleton.2 ⟨_,List.mem_of_getElem? (i:=5) rfl,ρ2,dU.hd R hm,a1⟩⟩⟩)⟩
theorem Vz (r:(ByteArray×Fu×EY)×Int) (h:some ((vN,Cu,Ao),(0:Int))=some r) {V U:Value}:bA Tryz.prog 9 #[V,U] [PP oV oW V U] (fun x:Value×Value×{z:List kO // z.map iV=r.1.2.2}=>Value.tuple #[Value.agg #[vS r.1.1,x.1,x.2.1],.int .i64 r.2]) (fun x l=>l) (fun x l=>Sl aH x.1 r.1.2.1::Sl aC x.2.1 x.2.2.1::PF (Value.agg #[vS r.1.1,x.1,x.2.1])::l):=by
 cases h
 intro w S hw
 obtain⟨x0,y0,hx0,hy0,ρ,hd,ha,hb⟩:=hw _ (List.mem_singleton_self _)
 cases OB.symm.trans hx0
 cases OC.symm.trans hy0
 have hd:Hd 1552 Wz ρ w S:=by
  have hd:Hd 1552 (Ip.map (Tj 990)++Io) ρ w S:=hd
  rw[VS]at hd;exact hd
 have hb:Rl ρ XW U:=by
  have hb:Rl ρ (zE 990 ON) U:=hb
  rw[VO]at hb;exact hb
 refine(FP kA GQ VQ KH hd (vs:=[V,U]) (.cons ha (.cons hb .nil))).mono ?_
 rintro e w' ⟨V',ρ2,rfl,he,R,hr⟩
 obtain⟨vs,rfl,hl⟩:=hr.tup_inv
 obtain⟨A1,vs,rfl,a1,hl⟩:=hl.of_cons
 obtain⟨A2,rfl,a2⟩:=hl.one
 obtain rfl:=a2.int_inv
 have hm:∀k,(Hd.base 1552 Wz ρ w).mine k->w.heap.size<=k∨S k:=fun k hk=>hd.mineS hk
 obtain⟨x,rfl,h1,h2⟩:=Wj hm R a1
 exact⟨x,rfl,zF he (List.forall_mem_cons.2 ⟨h1,List.forall_mem_cons.2 ⟨h2,List.forall_mem_singleton.2 ⟨_,List.mem_of_getElem? (i:=6) rfl,ρ2,dU.hd R hm,a1⟩⟩⟩)⟩
theorem zL (fuel:Nat) {t u:ByteArray} {V U:Value} (r:(ByteArray×Fu×EY)×Int) (h:iL fuel t u=some r):bA Tryz.prog 9 #[V,U] [PP t u V U] (fun x:Value×Value×{z:List kO // z.map iV=r.1.2.2}=>Value.tuple #[Value.agg #[vS r.1.1,x.1,x.2.1],.int .i64 r.2]) (fun x l=>l) (fun x l=>Sl aH x.1 r.1.2.1::Sl aC x.2.1 x.2.2.1::PF (Value.agg #[vS r.1.1,x.1,x.2.1])::l):=by
 unfold iL at h
 by_cases e1:t=oT∧u=oU
 ·obtain⟨rfl,rfl⟩:=e1;exact Vy r ((if_pos ⟨rfl,rfl⟩).symm.trans h)
 rw[if_neg e1]at h
 by_cases e2:t=oV∧u=oW
 ·obtain⟨rfl,rfl⟩:=e2;exact Vz r ((if_pos ⟨rfl,rfl⟩).symm.trans h)
 rw[if_neg e2]at h
 cases h
def vJ (fuel:Nat) (p0:ByteArray×Fu×List kO):Option Bool:=some true
theorem Fh (fuel:Nat) {p0:ByteArray×Fu×List kO} (v0 v1:Value) (r:Bool) (h:vJ fuel p0=some r):
  bA Tryz.prog 23 #[Value.agg #[vS p0.1,v0,v1]] [Sl aH v0 p0.2.1,Sl aC v1 p0.2.2,PF (Value.agg #[vS p0.1,v0,v1])] (fun x:Unit=>vB (r)) (fun x l=>l) (fun _ l=>l):=by
 cases h
 intro w S hw
 have key:Calls Tryz.prog 23 #[Value.agg #[vS p0.1,v0,v1]] w fun e w'=>e = .returned (.bool true)∧CG w w':=by
  obtain⟨x,hx,hp⟩:=hw _ (List.mem_of_getElem? (i:=2) rfl)
  have hx:x∈[(780,Il,Ql),(717,Im,OM),(990,Io,Qm),(562,Ip,ON),(2433,WA,XR),(2207,OF,VD),(2214,OG,VE)]:=hx
  simp only[List.mem_cons,List.not_mem_nil,or_false]at hx
  rcases hx with rfl|rfl|rfl|rfl|rfl|rfl|rfl
  ·refine rS (fuel:=4000) GQ yK ?_ hp
   obtain⟨H',h1,h2⟩:=uB P_
   rw[nK (G:=Ic) kA]at h1
   exact⟨H',h1,h2⟩
  ·refine rS (fuel:=4000) GQ yK ?_ hp
   obtain⟨H',h1,h2⟩:=uB Qa
   rw[nK (G:=Ic) kA]at h1
   exact⟨H',h1,h2⟩
  ·refine rS (fuel:=4000) GQ yK ?_ hp
   obtain⟨H',h1,h2⟩:=uB Qb
   rw[nK (G:=Ic) kA]at h1
   exact⟨H',h1,h2⟩
  ·refine rS (fuel:=4000) GQ yK ?_ hp
   obtain⟨H',h1,h2⟩:=uB Qc
   rw[nK (G:=Ic) kA]at h1
   exact⟨H',h1,h2⟩
  ·refine rS (fuel:=4000) GQ yK ?_ hp
   obtain⟨H',h1,h2⟩:=uB Qd
   rw[nK (G:=Ic) kA]at h1
   exact⟨H',h1,h2⟩
  ·refine rS (fuel:=4000) GQ yK ?_ hp
   obtain⟨H',h1,h2⟩:=uB Qe
   rw[nK (G:=Ic) kA]at h1
   exact⟨H',h1,h2⟩
  refine rS (fuel:=4000) GQ yK ?_ hp
  obtain⟨H',h1,h2⟩:=uB Qf
  rw[nK (G:=Ic) kA]at h1
  exact⟨H',h1,h2⟩
 refine key.mono ?_
 rintro e w' ⟨rfl,he⟩
 exact⟨(),rfl,zF he fun q hq=>absurd hq List.not_mem_nil⟩
end Go.Proofs.YtlciiihigmgaiaaGreat
end
section
namespace Go.Proofs.YtlciiihigmgaiaaGreat
open Go Go.Sx
section
abbrev XI:=zS
abbrev PRG:=ByteArray×(List XI)×(List kO)
abbrev GRF:=List Int×d_
abbrev SCN:=PRG×GRF×Int×bJ
abbrev Vo:=SCN×bJ×Int×eC
inductive E where
 |lf (o a:Int)
 |un (o:Int) (x:E)
 |ag (o:Int) (x:E)
 |bi (o:Int) (x y:E)
 |ite (x y z:E)
def E.ts:E->eC
 |lf o a=>[(o,a)]
 |un o x=>(o,0)::x.ts
 |ag o x=>(o,0)::x.ts
 |bi o x y=>(o,0)::(x.ts++y.ts)
 |ite x y z=>(43,0)::(x.ts++(y.ts++z.ts))
def E.depth:E->Nat
 |lf _ _=>1
 |un _ x=>x.depth+1
 |ag _ x=>x.depth+1
 |bi _ x y=>max x.depth y.depth+1
 |ite x y z=>max x.depth (max y.depth z.depth)+1
def E.arOk:E->Bool
 |lf o _=>decide (1<=o)&&decide (o<=17)
 |un o x=>decide (18<=o)&&decide (o<=19)&&x.arOk
 |ag o x=>decide (20<=o)&&decide (o<=29)&&x.arOk
 |bi o x y=>decide (30<=o)&&decide (o<=42)&&x.arOk&&y.arOk
 |ite x y z=>x.arOk&&y.arOk&&z.arOk
theorem Kz {α:Type} [Inhabited α] {T pre rest:List α} {x:α} {k:Nat} (hT:T=pre++x::rest) (hk:pre.length=k):at' T (k:Int)=x:=by
 subst hT;exact LU pre rest x k hk
theorem eX {k:Nat} (h:k<1000000):wI .i64 ((k:Int)+1)=((k+1:Nat):Int):=by rw[wr (by omega) (by omega)];rfl
theorem Ny (f:Nat) {o:Int} (h1:1<=o) (h2:o<=43):qU f o=some (if o<=17 then 0 else if o<=29 then 1 else if o<=42 then 2 else 3):=by
 unfold qU sD
 rw[if_neg (by omega)]
 simp only[decide_eq_true_eq]
 rw[if_neg (by omega)]
 split
 ·rfl
 ·split
  ·rfl
  ·split<;>rfl
theorem NX {F:Nat} {T pre rest:eC} {t:fO} {k m a:Nat} {fuel:Nat} (hT:T=pre++t::rest) (hk:pre.length=k) (hk2:k<1000) (hm:m<3000) (ha:qU F t.1=some ((a:Nat):Int)) (ha3:a<=3) (hne:m+a≠0):
  bU (iM F T) (fuel+1) ((k:Int),(m:Int))=if m+a=1 then some (((k+1:Nat):Int))else bU (iM F T) fuel (((k+1:Nat):Int),((m+a - 1:Nat):Int)):=by
 have hl:k<T.length:=by rw[hT];simp;omega
 show iM F T ((k:Int),(m:Int)) (bU (iM F T) fuel)=_
 unfold iM
 dsimp only
 rw[if_pos (by omega),eM (by omega),Kz hT hk,bE ha,if_neg (by omega),wr (x:=((a:Nat):Int) - 1) (by omega) (by omega),wr (by omega) (by omega),eX (by omega)]
 by_cases h:m+a=1
 ·rw[if_pos h,if_pos (by omega)]
 ·rw[if_neg h,if_neg (by omega)]
  have:(m:Int)+((a:Int) - 1)=((m+a - 1:Nat):Int):=by omega
  rw[this]
theorem Rk (F:Nat) (T:eC) (hT9:T.length<=900):∀(e:E),e.arOk=true->∀(fuel k m:Nat) (pre post:eC),T=pre++(e.ts++post)->pre.length=k->1<=m->m+2*(e.ts++post).length<=1900->e.ts.length<=fuel->
  bU (iM F T) fuel ((k:Int),(m:Int))=if m=1 then some (((k+e.ts.length:Nat):Int))else bU (iM F T) (fuel - e.ts.length) (((k+e.ts.length:Nat):Int),((m - 1:Nat):Int)):=by
 have key:∀{t:fO} {l post pre:eC} {fuel k m:Nat},T=pre++((t::l)++post)->pre.length=k->(t::l).length<=fuel->1<=t.1->t.1<=43->1<=m->m+2*((t::l)++post).length<=1900->∀a:Nat,(if t.1<=17 then 0 else if t.1<=29 then 1 else if t.1<=42 then 2 else 3:Int)=a->a<=3->∃f,fuel=f+1∧
   bU (iM F T) fuel ((k:Int),(m:Int))=if m+a=1 then some (((k+1:Nat):Int))else bU (iM F T) f (((k+1:Nat):Int),((m+a - 1:Nat):Int)):=by
  intro t l post pre fuel k m hT hk hf h1 h2 hm1 hm a ha ha3
  have hlen:=congrArg List.length hT
  simp only[List.length_append,List.length_cons]at hlen hm hf
  obtain⟨f,rfl⟩:∃f,fuel=f+1:=⟨fuel - 1,by omega⟩
  exact⟨f,rfl,NX (rest:=l++post) (by simpa using hT) hk (by omega) (by omega) (by rw[Ny F h1 h2,ha]) ha3 (by omega)⟩
 intro e
 induction e with
 |lf o a=>
  intro hok fuel k m pre post hT hk hm1 hm hf
  simp only[E.arOk,Bool.and_eq_true,decide_eq_true_eq]at hok
  obtain⟨f,rfl,h⟩:=key (t:=(o,a)) (l:=[]) hT hk hf (by dsimp only;omega) (by dsimp only;omega) hm1 hm 0 (by rw[if_pos (by dsimp only;omega)];rfl) (by omega)
  rw[h];rfl
 |un o x ih=>
  intro hok fuel k m pre post hT hk hm1 hm hf
  simp only[E.arOk,Bool.and_eq_true,decide_eq_true_eq]at hok
  obtain⟨f,rfl,h⟩:=key (t:=(o,0)) (l:=x.ts) hT hk hf (by dsimp only;omega) (by dsimp only;omega) hm1 hm 1 (by rw[if_neg (by dsimp only;omega),if_pos (by dsimp only;omega)];rfl) (by omega)
  simp only[E.ts,List.length_cons]at hf hm ⊢
  rw[h,if_neg (by omega)]
  have:=ih hok.2 f (k+1) m (pre++[(o,0)]) post (by rw[hT];simp[E.ts]) (by simp[hk]) hm1 (by simp at hm ⊢;omega) (by omega)
  rw[show m+1 - 1=m by omega,this,show k+1+x.ts.length=k+(x.ts.length+1) by omega,show f+1 - (x.ts.length+1)=f - x.ts.length by omega]
 |ag o x ih=>
  intro hok fuel k m pre post hT hk hm1 hm hf
  simp only[E.arOk,Bool.and_eq_true,decide_eq_true_eq]at hok
  obtain⟨f,rfl,h⟩:=key (t:=(o,0)) (l:=x.ts) hT hk hf (by dsimp only;omega) (by dsimp only;omega) hm1 hm 1 (by rw[if_neg (by dsimp only;omega),if_pos (by dsimp only;omega)];rfl) (by omega)
  simp only[E.ts,List.length_cons]at hf hm ⊢
  rw[h,if_neg (by omega)]
  have:=ih hok.2 f (k+1) m (pre++[(o,0)]) post (by rw[hT];simp[E.ts]) (by simp[hk]) hm1 (by simp at hm ⊢;omega) (by omega)
  rw[show m+1 - 1=m by omega,this,show k+1+x.ts.length=k+(x.ts.length+1) by omega,show f+1 - (x.ts.length+1)=f - x.ts.length by omega]
 |bi o x y ihx ihy=>
  intro hok fuel k m pre post hT hk hm1 hm hf
  simp only[E.arOk,Bool.and_eq_true,decide_eq_true_eq]at hok
  obtain⟨f,rfl,h⟩:=key (t:=(o,0)) (l:=x.ts++y.ts) hT hk hf (by dsimp only;omega) (by dsimp only;omega) hm1 hm 2 (by rw[if_neg (by dsimp only;omega),if_neg (by dsimp only;omega),if_pos (by dsimp only;omega)];rfl) (by omega)
  simp only[E.ts,List.length_cons,List.length_append]at hf hm ⊢
  rw[h,if_neg (by omega)]
  have h1:=ihx hok.1.2 f (k+1) (m+1) (pre++[(o,0)]) (y.ts++post) (by rw[hT];simp[E.ts]) (by simp[hk]) (by omega) (by simp at hm ⊢;omega) (by omega)
  have h2:=ihy hok.2 (f - x.ts.length) (k+1+x.ts.length) m (pre++((o,0)::x.ts)) post (by rw[hT];simp[E.ts]) (by simp[hk];omega) (by omega) (by simp at hm ⊢;omega) (by omega)
  rw[show m+2 - 1=m+1 by omega,h1,if_neg (by omega),show m+1 - 1=m by omega,h2,show k+1+x.ts.length+y.ts.length=k+(x.ts.length+y.ts.length+1) by omega,show f+1 - (x.ts.length+y.ts.length+1)=f - x.ts.length - y.ts.length by omega]
 |ite x y z ihx ihy ihz=>
  intro hok fuel k m pre post hT hk hm1 hm hf
  simp only[E.arOk,Bool.and_eq_true,decide_eq_true_eq]at hok
  obtain⟨f,rfl,h⟩:=key (t:=(43,0)) (l:=x.ts++(y.ts++z.ts)) hT hk hf (by decide) (by decide) hm1 hm 3 rfl (by omega)
  simp only[E.ts,List.length_cons,List.length_append]at hf hm ⊢
  rw[h,if_neg (by omega)]
  have h1:=ihx hok.1.1 f (k+1) (m+2) (pre++[(43,0)]) (y.ts++z.ts++post) (by rw[hT];simp[E.ts]) (by simp[hk]) (by omega) (by simp at hm ⊢;omega) (by omega)
  have h2:=ihy hok.1.2 (f - x.ts.length) (k+1+x.ts.length) (m+1) (pre++((43,0)::x.ts)) (z.ts++post) (by rw[hT];simp[E.ts]) (by simp[hk];omega) (by omega) (by simp at hm ⊢;omega) (by omega)
  have h3:=ihz hok.2 (f - x.ts.length - y.ts.length) (k+1+x.ts.length+y.ts.length) m (pre++((43,0)::(x.ts++y.ts))) post (by rw[hT];simp[E.ts]) (by simp[hk];omega) (by omega) (by simp at hm ⊢;omega) (by omega)
  rw[show m+3 - 1=m+2 by omega,h1,if_neg (by omega),show m+2 - 1=m+1 by omega,h2,if_neg (by omega),show m+1 - 1=m by omega,h3,show k+1+x.ts.length+y.ts.length+z.ts.length=k+(x.ts.length+(y.ts.length+z.ts.length)+1) by omega,show f+1 - (x.ts.length+(y.ts.length+z.ts.length)+1)=f - x.ts.length - y.ts.length - z.ts.length by omega]
theorem Uh (F:Nat) (e:E) (hok:e.arOk=true) {T pre post:eC} {k:Nat} (hT:T=pre++(e.ts++post)) (hk:pre.length=k) (hl:T.length<=800) (hF:e.ts.length<=F):xF F T (k:Int)=some (((k+e.ts.length:Nat):Int)):=by
 have hpos:1<=e.ts.length:=by cases e<;>simp[E.ts]
 have hlen:=congrArg List.length hT
 simp only[List.length_append]at hlen
 unfold xF vD
 rw[if_neg (by omega)]
 simp only[decide_eq_true_eq]
 rw[if_neg (by omega)]
 have:=Rk F T (by omega) e hok F k 1 pre post hT hk (by omega) (by simp;omega) hF
 rw[if_pos rfl]at this
 exact this
end
section
def QJ (b:Bool):Int:=if b then 1 else 0
theorem pG (f:Nat) (b:Bool):fN f b=some (QJ b):=by cases b<;>rfl
theorem Av {α:Type} [Inhabited α] {l:List α} {k:Nat} (h:k<l.length):l.take (k+1)=l.take k++[at' l (k:Int)]:=by
 rw[List.take_add_one,List.getElem?_eq_getElem h,iP,List.getD_eq_getElem?_getD,List.getElem?_eq_getElem h];rfl
theorem eV {α:Type} [Inhabited α] {l:List α} {k:Nat} (h:k<l.length):at' l (k:Int)=l[k]:=by
 rw[iP,List.getD_eq_getElem?_getD,List.getElem?_eq_getElem h];rfl
theorem KY {p:Nat->Prop}:∀(n:Nat),p n->∃m,m<=n∧p m∧∀j,j<m->¬p j:=by
 intro n
 induction n using Nat.strongRecOn with
 | _ n ih =>
  intro h
  by_cases hm:∃m,m<n∧p m
  ·obtain⟨m,h1,h2⟩:=hm
   obtain⟨k,a,b,c⟩:=ih m h1 h2
   exact⟨k,by omega,b,c⟩
  ·exact⟨n,Nat.le_refl n,h,fun j hj hp=>hm ⟨j,hj,hp⟩⟩
theorem Ld {α:Type} [DecidableEq α]:∀(l1 l2:List α),l1.Nodup->(∀x∈l1,x∈l2)->l1.length<=l2.length
 | [],l2,_,_=>Nat.zero_le _
 |a::l1,l2,h,hs=>by
  have ha:=hs a List.mem_cons_self
  have h:=List.nodup_cons.1 h
  have:=Ld l1 (l2.erase a) h.2 (fun x hx=>(List.mem_erase_of_ne (fun(e:x=a)=>h.1 (by rw[<-e];exact hx))).2 (hs x (List.mem_cons_of_mem _ hx)))
  rw[List.length_erase_of_mem ha]at this
  have hp:0<l2.length:=List.length_pos_of_mem ha
  simp only[List.length_cons];omega
def nz (x:Int):Bool:=decide (x≠0)
theorem NR (f:Nat) (l:bM) (h:l.length<f) (hl:l.length<=1000):mD f l=some ((l.countP nz:Nat):Int):=by
 unfold mD
 have:=dA (step:=mR l) (K:=some ((l.countP nz:Nat):Int)) l.length (fun k=>(((l.take k).countP nz:Nat),(k:Int))) (fun k ag hk=>by
  have hc:(l.take k).countP nz<=k:=Nat.le_trans List.countP_le_length (by simp;omega)
  unfold mR o_
  dsimp only
  rw[if_pos (by omega),eM (by omega),Av hk,List.countP_append,eX (by omega),eX (by omega)]
  by_cases h0:at' l (k:Int)=0
  ·rw[if_neg (by simpa using h0)];simp[nz,h0]
  ·rw[if_pos h0];simp[nz,h0]) (fun ag=>by
  unfold mR rW
  dsimp only
  rw[if_neg (by omega),List.take_length]) f h
 exact this
theorem CL (f:Nat) (l:bM) (x:Int) (h:l.length<f) (hl:l.length<=1000):m_ f l x=some (decide (x∈l)):=by
 have key:∃i:Int,lS f l x=some i∧(0<=i↔x∈l):=by
  by_cases hx:x∈l
  ·obtain⟨i,hi,hix⟩:=List.mem_iff_getElem.1 hx
   have hfirst:∃i,i<l.length∧at' l (i:Int)=x∧∀j,j<i->at' l (j:Int)≠x:=by
    obtain⟨m,h1,h2,h3⟩:=KY (p:=fun i=>at' l (i:Int)=x) i (by rw[eV hi,hix])
    exact⟨m,by omega,h2,h3⟩
   obtain⟨i,hi,h1,h2⟩:=hfirst
   refine⟨i,?_,iff_of_true (by omega) hx⟩
   unfold lS
   exact dA (step:=gJ l x) (K:=some (i:Int)) i (fun k=>(k:Int)) (fun k ag hk=>by
    unfold gJ
    rw[if_pos (by omega),eM (by omega),if_neg (fun e=>h2 k hk e.symm),eX (by omega)]) (fun ag=>by
    unfold gJ
    rw[if_pos (by omega),eM (by omega),if_pos h1.symm]) f (by omega)
  ·refine⟨-1,?_,iff_of_false (by omega) hx⟩
   unfold lS
   exact dA (step:=gJ l x) (K:=some (-1)) l.length (fun k=>(k:Int)) (fun k ag hk=>by
    unfold gJ
    rw[if_pos (by omega),eM (by omega),if_neg (fun e=>hx (by rw[e,eV hk];exact List.getElem_mem hk)),eX (by omega)]) (fun ag=>by
    unfold gJ pS
    rw[if_neg (by omega)]) f h
 obtain⟨i,h1,h2⟩:=key
 unfold m_
 rw[bE h1]
 by_cases hx:x∈l
 ·rw[decide_eq_true hx,decide_eq_true (h2.2 hx)]
 ·rw[decide_eq_false hx,decide_eq_false (fun e=>hx (h2.1 e))]
def iG (l:bM):Int:=match l.findIdx? nz with
 |some i=>(i:Int)
 |none=> -1
theorem yU {l:bM} {i:Nat} (hi:i<l.length) (h1:at' l (i:Int)≠0) (h2:∀j,j<i->at' l (j:Int)=0):iG l=i:=by
 have:l.findIdx? nz=some i:=by
  rw[List.findIdx?_eq_some_iff_getElem]
  refine⟨hi,by rw[<-eV hi];simpa [nz]using h1,fun j hj=> ?_⟩
  have:=h2 j hj
  rw[eV (by omega)]at this
  simp[nz,this]
 unfold iG;rw[this]
theorem yT {l:bM} (h:∀j,j<l.length->at' l (j:Int)=0):iG l = -1:=by
 have:l.findIdx? nz=none:=by
  rw[List.findIdx?_eq_none_iff]
  intro x hx
  obtain⟨i,hi,rfl⟩:=List.mem_iff_getElem.1 hx
  have:=h i hi
  rw[eV hi]at this
  simp[nz,this]
 unfold iG;rw[this]
theorem Oe (f:Nat) (l:bM) (h:l.length<f) (hl:l.length<=1000):jQ f l (fun y0=>lA f y0)=some (iG l):=by
 unfold jQ
 by_cases hx:∃i,i<l.length∧at' l (i:Int)≠0
 ·obtain⟨i,hi,h0⟩:=hx
  obtain⟨m,h1,h2,h3⟩:=KY (p:=fun i=>at' l (i:Int)≠0) i h0
  have h3:∀j,j<m->at' l (j:Int)=0:=fun j hj=>Decidable.not_not.1 (h3 j hj)
  rw[yU (by omega) h2 h3]
  exact dA (step:=eF l _) (K:=some (m:Int)) m (fun k=>(k:Int)) (fun k ag hk=>by
   unfold eF lA
   rw[if_pos (by omega),eM (by omega),bE rfl,if_neg (by simp[h3 k hk]),eX (by omega)]) (fun ag=>by
   unfold eF lA
   rw[if_pos (by omega),eM (by omega),bE rfl,if_pos (by simpa using h2)]) f (by omega)
 ·have hx:∀j,j<l.length->at' l (j:Int)=0:=fun j hj=>Decidable.not_not.1 fun e=>hx ⟨j,hj,e⟩
  rw[yT hx]
  exact dA (step:=eF l _) (K:=some (-1)) l.length (fun k=>(k:Int)) (fun k ag hk=>by
   unfold eF lA
   rw[if_pos (by omega),eM (by omega),bE rfl,if_neg (by simp[hx k hk]),eX (by omega)]) (fun ag=>by
   unfold eF lI
   rw[if_neg (by omega)]) f h
def UE (l:bM):Int:=l.foldl min 1073741824
theorem UF (f:Nat) (l:bM) (h:l.length<f) (hl:l.length<=1000):bU (nY l) f ((1073741824:Int),(0:Int))=some (UE l):=by
 exact dA (step:=nY l) (K:=some (UE l)) l.length (fun k=>((l.take k).foldl min 1073741824,(k:Int))) (fun k ag hk=>by
  unfold nY
  dsimp only
  rw[if_pos (by omega),eM (by omega),Av hk,List.foldl_append,eX (by omega)];rfl) (fun ag=>by
  unfold nY tC
  dsimp only
  rw[if_neg (by omega),List.take_length];rfl) f h
def Ij (l:bM):Nat->Nat->Nat
 |0,k=>k
 |f+1,k=>if((k:Nat):Int)∈l then Ij l f (k+1)else k
def Ka (l:bM):Nat:=Ij l (l.length+1) 0
theorem OJ (l:bM):((Ka l:Nat):Int)∉l∧(∀j,j<Ka l->((j:Nat):Int)∈l)∧Ka l<=l.length:=by
 have key:∀(f k:Nat),(∀j,j<k->((j:Nat):Int)∈l)->(∀j,j<Ij l f k->((j:Nat):Int)∈l)∧(Ij l f k=k+f∨((Ij l f k:Nat):Int)∉l):=by
  intro f
  induction f with
  |zero=>intro k h;exact⟨h,.inl rfl⟩
  | succ f ih =>
   intro k h
   by_cases hk:((k:Nat):Int)∈l
   ·have:=ih (k+1) (fun j hj=>by
     rcases Nat.lt_or_ge j k with q|q
     ·exact h j q
     ·rw[show j=k by omega];exact hk)
    simp only[Ij,if_pos hk]
    exact⟨this.1,this.2.imp (fun e=>by omega) id⟩
   ·simp only[Ij,if_neg hk]
    exact⟨h,.inr hk⟩
 have hle:∀m,(∀j,j<m->((j:Nat):Int)∈l)->m<=l.length:=fun m h=>by
  have:=Ld ((List.range m).map fun j=>((j:Nat):Int)) l (by
   rw[List.nodup_iff_pairwise_ne,List.pairwise_map]
   exact(List.nodup_iff_pairwise_ne.1 List.nodup_range).imp (fun h e=>h (by omega))) (fun x hx=>by
   obtain⟨j,hj,rfl⟩:=List.mem_map.1 hx
   exact h j (List.mem_range.1 hj))
  simpa using this
 obtain⟨h1,h2⟩:=key (l.length+1) 0 (fun j hj=>by omega)
 have h3:=hle _ h1
 refine⟨?_,h1,h3⟩
 rcases h2 with h2|h2
 ·have:Ij l (l.length+1) 0<=l.length:=h3
  omega
 ·exact h2
theorem UD (f:Nat) (l:bM) (h:l.length+2<f) (hl:l.length<=900):uA f l=some ((Ka l:Nat):Int):=by
 obtain⟨h1,h2,h3⟩:=OJ l
 unfold uA
 exact dA (step:=sF f l) (K:=some ((Ka l:Nat):Int)) (Ka l) (fun k=>(k:Int)) (fun k ag hk=>by
  unfold sF
  rw[bE (CL f l (k:Int) (by omega) (by omega)),if_pos (by simpa using h2 k hk),eX (by omega)]) (fun ag=>by
  unfold sF uX
  rw[bE (CL f l _ (by omega) (by omega)),if_neg (by simpa using h1)]) f (by omega)
def Sv (l:bM):Int:=l.foldl (fun a x=>wI .i64 (a+x)) 0
theorem UT (f:Nat) (l:bM) (h:l.length<f) (hl:l.length<=1000):bU (nZ f l) f ((0:Int),(0:Int))=xA f (Sv l):=by
 refine(dA (step:=nZ f l) l.length (fun k=>(Sv (l.take k),(k:Int))) (fun k ag hk=> ?_) (fun ag=> ?_) f h).trans rfl
 ·unfold nZ
  dsimp only
  rw[if_pos (by omega),eM (by omega),eX (by omega),Av hk]
  unfold Sv
  rw[List.foldl_append];rfl
 ·unfold nZ
  dsimp only
  rw[if_neg (by omega),List.take_length]
def KQ (o:Int) (l:bM):Int:=
 if o=20 then QJ (l.all nz)else if o=21 then QJ (l.any nz)else if o=22 then((l.countP nz:Nat):Int)else if o=23 then iG l else if o=24 then UE l else if o=26 then max (-1073741824) (min (Sv l) 1073741824)else((Ka l:Nat):Int)
theorem Ru (f:Nat) (o:Int) (l:bM) (hf:40<=f) (hl:l.length<=24) (ho:o=20∨o=21∨o=22∨o=23∨o=24∨o=26∨o=27):uY f o l=some (KQ o l):=by
 have hc:=NR f l (by omega) (by omega)
 unfold uY
 rcases ho with rfl|rfl|rfl|rfl|rfl|rfl|rfl
 ·rw[if_pos rfl,bE hc,bE (pG f _),KQ,if_pos rfl]
  have:(decide (((l.countP nz:Nat):Int)=(l.length:Int)))=l.all nz:=by
   rw[Bool.eq_iff_iff];simp[List.countP_eq_length,Int.ofNat_inj]
  rw[this]
 ·rw[if_neg (by decide),if_pos rfl,bE hc,bE (pG f _),KQ,if_neg (by decide),if_pos rfl]
  have:(decide ((0:Int)<((l.countP nz:Nat):Int)))=l.any nz:=by
   rw[Bool.eq_iff_iff,decide_eq_true_eq,List.any_eq_true,show((0:Int)<((l.countP nz:Nat):Int))↔0<l.countP nz by omega,List.countP_pos_iff]
  rw[this]
 ·rw[if_neg (by decide),if_neg (by decide),if_pos rfl,bE hc];rfl
 ·rw[if_neg (by decide),if_neg (by decide),if_neg (by decide),if_pos rfl,bE (Oe f l (by omega) (by omega))];rfl
 ·rw[if_neg (by decide),if_neg (by decide),if_neg (by decide),if_neg (by decide),if_pos rfl,UF f l (by omega) (by omega)];rfl
 ·rw[if_neg (by decide),if_neg (by decide),if_neg (by decide),if_neg (by decide),if_neg (by decide),if_neg (by decide),if_pos rfl,UT f l (by omega) (by omega)];rfl
 ·rw[if_neg (by decide),if_neg (by decide),if_neg (by decide),if_neg (by decide),if_neg (by decide),if_neg (by decide),if_neg (by decide),if_pos rfl,bE (UD f l (by omega) (by omega))];rfl
end
end Go.Proofs.YtlciiihigmgaiaaGreat
end
section
namespace Go.Proofs.YtlciiihigmgaiaaGreat
open Go.Sx
section
def mO  (a4:Int):Option (Int):=
 some (a4)
def dC (U:Nat) (p0:Int) (p1:Int):Option (Int):=
 if p1<(1:Int)then(some (0:Int))else(ck (p1≠0) (if(Int.tmod p0 p1)<(0:Int)then(mO  (wI .i64 ((Int.tmod p0 p1)+p1)))else(mO  (Int.tmod p0 p1))))
theorem yL:aZ Tryz.prog 8:=Tryz.call8
theorem eR (U:Nat) {p0:Int} {p1:Int} (r:Int) (h:dC U p0 p1=some r):
  bA Tryz.prog 8 #[vI (p0),vI (p1)] [] (fun x:Unit=>vI (r)) (fun x l=>l) (fun _ l=>l):=by
 refine bA.of Tryz.func8 rfl Tryz.ntmps8 rfl fun c=>?_
 refine aS<|aE rfl<|aN<|aM<|aS<|aA rfl<|dR rfl<|aN ?_
 refine fM h rfl (fun h=>?_) fun h=>?_
 ·refine aS<|aE rfl<|aN<|aU<|aJ ?_
  cases h
  exact kW rfl
 refine dV<|aS<|aA rfl<|aA rfl<|fL h fun j2 h=>aD (Nu rfl rfl j2) rfl<|aE rfl<|aN<|aM<|jS (fun a4=>mO  a4=some r) (fun a4 b5=>[(0,vI (a4))]) (fun a4 b5=>[]) ?_ ?_
 ·refine aS<|aA rfl<|dR rfl<|aN ?_
  refine fM h rfl (fun h=>?_) fun h=>?_
  ·refine aQ<|aA rfl<|aA rfl<|dG rfl<|aE rfl<|aN ?_
   exact lW (wI .i64 ((Int.tmod p0 p1)+p1)) () h SF rfl
  refine dV ?_
  exact lW (Int.tmod p0 p1) () h SF rfl
 intro a4 b5 h
 unfold mO at h
 refine aS<|aA rfl<|aE rfl<|aN<|aU ?_
 cases h
 exact kW rfl
end
section
def nO (U:Nat) (p0:bM) (p1:Int):Option (Int):=
 if p1<(List.length p0:Int)then(ck (0<=p1∧p1<(List.length p0:Int)) (some (at' p0 p1)))else(some (0:Int))
theorem DT:aZ Tryz.prog 31:=Tryz.call31
theorem uK (U:Nat) {p0:bM} {p1:Int} (v0:Value) (r:Int) (h:nO U p0 p1=some r):
  bA Tryz.prog 31 #[v0,vI (p1)] [Sl bP v0 p0] (fun x:Unit=>vI (r)) (fun x l=>l) (fun _ l=>l):=by
 refine bA.of Tryz.func31 rfl Tryz.ntmps31 rfl fun c=>?_
 refine aS<|aE rfl<|aN<|aM<|aS<|aA rfl<|aA rfl<|jT (aG.fact 0 rfl) rfl<|dR rfl<|aN ?_
 refine fM h rfl (fun h=>?_) fun h=>?_
 ·refine aS<|aA rfl<|aA rfl<|fL h fun j2 h=>aD (bN rfl rfl (aG.fact 0 rfl) rfl rfl j2) rfl<|aD (dM rfl (aG.fact 0 rfl) rfl rfl rfl fC j2) rfl<|aE rfl<|aN<|aU<|aJ ?_
  cases h
  exact kW rfl
 refine dV<|aS<|aE rfl<|aN<|aU ?_
 cases h
 exact kW rfl
end
section
def pV  (a8:bJ):Option bJ:=
 some (a8)
def sV (a15:bJ×Int) (ag14:uM->Option bJ) (a21:bM):Option bJ:=
 ck ((List.length a15.1:Int)+(List.length ([a21]):Int)<=1099511627) (ag14 ((a15.1++[a21]),(wI .i64 (a15.2+(1:Int)))))
def kK (U:Nat) (p1:CX) (p2:bM) (a15:bJ×Int) (a33:bM×Int) (ag32:(bM×Int)->Option bJ) (a43:fO):Option bJ:=
 Option.bind (nO U p2 (wI .i64 ((wI .i64 (a15.2*(List.length p1:Int)))+a33.2))) fun r45=>(Option.bind (dC U r45 (wI .i64 ((wI .i64 (a43.2 - a43.1))+(1:Int)))) fun r48=>(ck ((List.length a33.1:Int)+(List.length ([(wI .i64 (a43.1+r48))]):Int)<=1099511627) (ag32 ((a33.1++([(wI .i64 (a43.1+r48))])),(wI .i64 (a33.2+(1:Int)))))))
def kL (U:Nat) (p0:gA) (p1:CX) (p2:bM) (a3:Int) (a15:bJ×Int) (ag14:uM->Option bJ) (a33:bM×Int) (ag32:(bM×Int)->Option bJ):Option bJ:=
 if a33.2<(List.length p1:Int)then(ck (0<=a33.2∧a33.2<(List.length p1:Int)) (ck (0<=a33.2∧a33.2<(List.length p1:Int)) (ck (0<=a33.2∧a33.2<(List.length p1:Int)) (ck (0<=a33.2∧a33.2<(List.length p1:Int)) (ck (0<=a33.2∧a33.2<(List.length p1:Int)) (if((at' p1 a33.2).2.1)=(2:Int)then(kK U p1 p2 a15 a33 ag32 ((0:Int),(1:Int)))else(if((at' p1 a33.2).2.1)=(3:Int)then(ck (0<=a15.2∧a15.2<(List.length p0.2:Int)) (kK U p1 p2 a15 a33 ag32 ((-1:Int),(wI .i64 ((List.length (at' p0.2 a15.2):Int) - (1:Int))))))else(kK U p1 p2 a15 a33 ag32 (((at' p1 a33.2).2.2.1),(wI .i64 ((wI .i64 (((at' p1 a33.2).2.2.2.1)+(wI .i64 (((at' p1 a33.2).2.2.2.2.1)*(List.length p0.2:Int)))))+(wI .i64 (((at' p1 a33.2).2.2.2.2.2)*a3)))))))))))))else(sV a15 ag14 (a33.1))
def gM (U:Nat) (p0:gA) (p1:CX) (p2:bM) (a3:Int) (a15:bJ×Int) (ag14:uM->Option bJ):Option bJ:=
 if a15.2<(List.length p0.2:Int)then(bU (kL U p0 p1 p2 a3 a15 ag14) U (([]:bM),(0:Int)))else(pV  (a15.1))
def mN (U:Nat) (p0:gA) (p1:CX) (p2:bM) (a3:Int):Option bJ:=
 bU (gM U p0 p1 p2 a3) U (([]:bJ),(0:Int))
def pW (U:Nat) (p0:gA) (p1:CX) (p2:bM) (a61:fO) (ag60:gL->Option bJ):Option bJ:=
 if a61.2<(List.length p0.2:Int)then(ck (0<=a61.2∧a61.2<(List.length p0.1:Int)) (ag60 ((max a61.1 (at' p0.1 a61.2)),(wI .i64 (a61.2+(1:Int))))))else(mN U p0 p1 p2 (a61.1))
def gD (U:Nat) (p0:gA) (p1:CX) (p2:bM):Option bJ:=
 bU (pW U p0 p1 p2) U ((0:Int),(0:Int))
theorem NB:aZ Tryz.prog 10:=Tryz.call10
theorem zQ (U:Nat) {p0:gA} {p1:CX} {p2:bM} (v0:Value)  (v1:Value)  (z2:oY)  (v3:Value)  (v4:Value) (r:bJ) (h:gD U p0 p1 p2=some r):
  bA Tryz.prog 10 #[Value.agg #[v0,v1],v3,v4] [Sl bP v0 p0.1,S2 bH v1 z2 p0.2,Sl aH v3 p1,Sl bP v4 p2] (fun x:AO=>x.1) (fun x l=>Ar dZ.raw x.1 x.2::i_ cU x.2 r::l) (fun _ l=>l):=by
 refine bA.of Tryz.func10 rfl Tryz.ntmps10 rfl fun c=>?_
 unfold gD at h
 refine aS<|aI (aK.box (cs:=[v0,v1]) rfl rfl) rfl fun b1=>aE rfl<|aN<|aS<|cH rfl<|gE 0 rfl<|aD (jI rfl (aG.fact 1 rfl) rfl) rfl<|aE rfl<|aE rfl<|aN<|aM<|jS (fun a3=>mN U p0 p1 p2 a3=some r) (fun a3 b4=>[(1,v3),(2,v4),(3,vP b1),(7,vI (List.length p0.2:Int)),(8,vI (a3))]) (fun a3 b4=>[dD b1 [v0,v1] 28]) ?_ ?_
 ·refine aS<|aE rfl<|aN<|aX<|gG (pW U p0 p1 p2) (fun a61 b62=>[(1,v3),(2,v4),(3,vP b1),(7,vI (List.length p0.2:Int)),(8,vI (a61.1)),(9,vI (a61.2))]) (fun a61 b62=>[dD b1 [v0,v1] 28]) ((0:Int),(0:Int)) () h SF (bF.refl _) ?_
  intro k63 a61 b62 h
  refine aM<|aS<|aA rfl<|aA rfl<|dR rfl<|aN ?_
  refine fM h rfl (fun h=>?_) fun h=>?_
  ·refine dV<|aM<|aX<|aQ<|aA rfl<|cH rfl<|gE 0 rfl<|aA rfl<|fL h fun j65 h=>aD (bN rfl rfl (aG.fact 0 rfl) rfl rfl j65) rfl<|aD (dM rfl (aG.fact 0 rfl) rfl rfl rfl fC j65) rfl<|aD (Fz rfl rfl) rfl<|aE rfl<|fJ<|qB<|aQ<|aA rfl<|dG rfl<|aE rfl<|aN ?_
   exact Bf ((max a61.1 (at' p0.1 a61.2)),(wI .i64 (a61.2+(1:Int)))) () h SF rfl
  refine h_ ?_
  exact lW (a61.1) () h SF rfl
 intro a3 b4 h
 unfold mN at h
 refine aS<|aE rfl<|aN<|aM<|yX (B:=AO) (fun a8=>pV  a8=some r) (fun a8 b9=>[(10,b9.1)]) (fun a8 b9=>[Ar dZ.raw b9.1 b9.2,i_ cU b9.2 a8]) ?_ ?_
 ·refine aS<|aE rfl<|aN<|aX<|oH (rM dZ.raw) (oH (uU cU) ?_)
  refine gG (B:=AO) (gM U p0 p1 p2 a3) (fun a15 b16=>[(1,v3),(2,v4),(3,vP b1),(7,vI (List.length p0.2:Int)),(8,vI (a3)),(10,b16.1),(11,vI (a15.2))]) (fun a15 b16=>[dD b1 [v0,v1] 28,Ar dZ.raw b16.1 b16.2,i_ cU b16.2 a15.1]) (([]:bJ),(0:Int)) ((mG),([]:iN)) h SF (bF.ix [2,1,0] rfl rfl) ?_
  intro k17 a15 b16 h
  refine aM<|aS<|aA rfl<|aA rfl<|dR rfl<|aN ?_
  refine fM h rfl (fun h=>?_) fun h=>?_
  ·refine dV<|aM<|aX<|aS<|aE rfl<|aN<|aM<|yX (B:=Value) (fun a21=>sV a15 (bU (gM U p0 p1 p2 a3) k17) a21=some r) (fun a21 b22=>[(1,v3),(2,v4),(3,vP b1),(7,vI (List.length p0.2:Int)),(8,vI (a3)),(10,b16.1),(11,vI (a15.2)),(12,b22)]) (fun a21 b22=>[dD b1 [v0,v1] 28,Ar dZ.raw b16.1 b16.2,i_ cU b16.2 a15.1,Ar cU b22 a21]) ?_ ?_
   ·refine aS<|aE rfl<|aN<|aX<|oH (rM cU)<|gG (B:=Value) (kL U p0 p1 p2 a3 a15 (bU (gM U p0 p1 p2 a3) k17)) (fun a33 b34=>[(1,v3),(2,v4),(3,vP b1),(7,vI (List.length p0.2:Int)),(8,vI (a3)),(10,b16.1),(11,vI (a15.2)),(12,b34),(13,vI (a33.2))]) (fun a33 b34=>[dD b1 [v0,v1] 28,Ar dZ.raw b16.1 b16.2,i_ cU b16.2 a15.1,Ar cU b34 a33.1]) (([]:bM),(0:Int)) (mG) h SF (bF.ix [1,2,3,0] rfl rfl) ?_
    intro k35 a33 b34 h
    refine aM<|aS<|aA rfl<|aA rfl<|jT (aG.fact 2 rfl) rfl<|dR rfl<|aN ?_
    refine fM h rfl (fun h=>?_) fun h=>?_
    ·refine dV<|aM<|aX<|aM ?_
     refine JR.start [0,0,3,7,15,0,0,96,224,480,0,0,3072,7168,15360,0,64512,131040,0,0,786432,1835008,3932160,0,16515072,33554400,31,134217727] 27 mixedOrders (by decide +kernel) ?_
     refine JR.open (by exact rfl) ?_
     refine bL rfl<|bL rfl<|fL h fun j37 h=>bO rfl .nil (oF 2 rfl) (bN rfl rfl (aG.fact 0 rfl) rfl rfl j37) aO.z<|oJ rfl (lK rfl rfl rfl rfl rfl)<|bO rfl .nil (oF 2 rfl) (mY rfl (aG.fact 0 rfl) rfl rfl rfl xW j37) aO.z<|bL rfl<|bL rfl<|fL h fun j38 h=>bO rfl .nil (oF 2 rfl) (bN rfl rfl (aG.fact 0 rfl) rfl rfl j38) aO.z<|oJ rfl (lK rfl rfl rfl rfl rfl)<|bO rfl .nil (oF 2 rfl) (mY rfl (aG.fact 0 rfl) rfl rfl rfl xX j38) aO.z<|bL rfl<|bL rfl<|fL h fun j39 h=>bO rfl .nil (oF 2 rfl) (bN rfl rfl (aG.fact 0 rfl) rfl rfl j39) aO.z<|oJ rfl (lK rfl rfl rfl rfl rfl)<|bO rfl .nil (oF 2 rfl) (mY rfl (aG.fact 0 rfl) rfl rfl rfl xY j39) aO.z<|bL rfl<|oJ rfl (yI rfl rfl)<|oJ rfl (wW rfl rfl)<|bL rfl<|bL rfl<|fL h fun j40 h=>bO rfl .nil (oF 2 rfl) (bN rfl rfl (aG.fact 0 rfl) rfl rfl j40) aO.z<|oJ rfl (lK rfl rfl rfl rfl rfl)<|bO rfl .nil (oF 2 rfl) (mY rfl (aG.fact 0 rfl) rfl rfl rfl xZ j40) aO.z<|bL rfl<|oJ rfl (yI rfl rfl)<|oJ rfl (wW rfl rfl)<|oJ rfl (yH rfl)<|cR 27 rfl rfl<|aE rfl<|aN<|aM<|jS (fun a43=>kK U p1 p2 a15 a33 (bU (kL U p0 p1 p2 a3 a15 (bU (gM U p0 p1 p2 a3) k17)) k35) a43=some r) (fun a43 b44=>[(1,v3),(2,v4),(3,vP b1),(7,vI (List.length p0.2:Int)),(8,vI (a3)),(10,b16.1),(11,vI (a15.2)),(12,b34),(13,vI (a33.2)),(14,vI (a43.1)),(15,vI (a43.2))]) (fun a43 b44=>[dD b1 [v0,v1] 28,Ar dZ.raw b16.1 b16.2,i_ cU b16.2 a15.1,Ar cU b34 a33.1]) ?_ ?_
     ·refine aS<|aA rfl<|aA rfl<|fL h fun j54 h=>aD (bN rfl rfl (aG.fact 2 rfl) rfl rfl j54) rfl<|aD (lK rfl rfl rfl rfl rfl) rfl<|aD (mY rfl (aG.fact 2 rfl) rfl rfl rfl rC j54) rfl<|aN<|aX<|aS<|cN rfl<|aE rfl<|aN ?_
      refine fM h rfl (fun h=>?_) fun h=>?_
      ·refine aQ<|aE rfl<|aE rfl<|fJ<|qB ?_
       exact lW ((0:Int),(1:Int)) () h SF rfl
      refine aS<|cN rfl<|aE rfl<|aN ?_
      refine fM h rfl (fun h=>?_) fun h=>?_
      ·refine JR.start [0,1,0,7,15,31,63,0,255] 8 mixedOrders (by decide +kernel) ?_
       refine JR.open (by exact rfl) ?_
       refine cQ rfl<|kF 0 rfl<|bL rfl<|fL h fun j57 h=>bO rfl .nil (oF 1 rfl) (cX rfl rfl (aG.fact 0 rfl) rfl rfl j57) aO.z<|bO rfl .nil (oF 1 rfl) (dH rfl (aG.fact 0 rfl) rfl rfl j57) aO.z<|bO rfl .nil (oF 1 rfl) (mV rfl (aG.el (aG.fact 0 rfl) j57.1 j57.2) rfl) aO.z<|oJ rfl (rP rfl rfl)<|oJ rfl (yH rfl)<|cR 8 rfl rfl<|aE rfl<|fJ<|qB ?_
       exact lW ((-1:Int),(wI .i64 ((List.length (at' p0.2 a15.2):Int) - (1:Int)))) () h SF rfl
      refine e_<|qB ?_
      exact lW (((at' p1 a33.2).2.2.1),(wI .i64 ((wI .i64 (((at' p1 a33.2).2.2.2.1)+(wI .i64 (((at' p1 a33.2).2.2.2.2.1)*(List.length p0.2:Int)))))+(wI .i64 (((at' p1 a33.2).2.2.2.2.2)*a3))))) () h SF rfl
     intro a43 b44 h
     refine aQ<|aA rfl<|aA rfl<|aA rfl<|aA rfl<|aA rfl<|jT (aG.fact 2 rfl) rfl<|aD (yI rfl rfl) rfl<|aA rfl<|dG rfl<|fE h fun r45 w46 h=>aI (aK.callQ DT (uK U v4 r45 w46) rfl (qC [3] rfl)) rfl fun x47=>aA rfl<|aA rfl<|aD (rP rfl rfl) rfl<|dG rfl<|fE h fun r48 w49 h=>aI (aK.callQ yL (eR U  r48 w49) rfl .nil) rfl fun x50=>dG rfl<|aI (eN (e:=cU) ([(wI .i64 (a43.1+r48))]) [(0,vI (wI .i64 (a43.1+r48)))] rfl rfl rfl rfl (wA (vI (wI .i64 (a43.1+r48))) rfl) rfl rfl rfl) rfl fun u51=>fL h fun j53 h=>aI (nU 4 eL rfl rfl rfl (cC (aG.res 0 rfl) eL) rfl rfl rfl rfl j53 rfl) rfl fun u52=>aE rfl<|fJ<|qB<|aQ<|aA rfl<|dG rfl<|aE rfl<|aN ?_
     exact mH ((a33.1++([(wI .i64 (a43.1+r48))])),(wI .i64 (a33.2+(1:Int)))) (u52) h SF (bF.ix [1,2,3,4] rfl rfl) (aF.refl _ _)
    refine h_ ?_
    exact lW (a33.1) (b34) h SF rfl
   intro a21 b22 h
   refine aQ<|aA rfl<|aA rfl<|oH (uU cU)<|b_ (Know.one ((cC (aG.res 4 rfl) eL))) fun ho23=>oH (JA 0 4 rfl rfl rfl) ?_
   refine aI (eN (e:=dZ.raw) [b22] [(0,b22)] rfl rfl rfl rfl (wA (b22) ho23) rfl rfl (by simp[cellsOf,dZ.raw,ho23])) rfl fun u24=>?_
   refine b_ (cD 4 rfl) fun hl25=>b_ (cD 1 rfl) fun hl26=>fL h fun j27 h=>oH (HL 4 1 rfl rfl rfl) ?_
   refine aI (aK.append 2 0 rfl rfl rfl rfl rfl rfl rfl (by have q:=j27;have q1:=hl25;have q2:=hl26;(try simp only[List.length_cons,List.length_nil]at q q1 q2 ⊢);omega) (by have q:=j27;have q1:=hl25;have q2:=hl26;(try simp only[List.length_cons,List.length_nil]at q q1 q2 ⊢);omega) rfl) rfl fun u28=>?_
   refine aE rfl<|fJ<|qB<|aQ<|aA rfl<|dG rfl<|aE rfl<|aN ?_
   exact mH ((a15.1++[a21]),(wI .i64 (a15.2+(1:Int)))) (u28,(b16.2++[b22])) h SF (bF.ix [1,2,3] rfl rfl) (aF.refl _ _)
  refine h_ ?_
  exact dL (a15.1) (b16.1,b16.2) h SF (bF.ix [1,2] rfl rfl) (aF.refl _ _)
 intro a8 b9 h
 unfold pV at h
 refine aS<|aA rfl<|aE rfl<|aN<|aU ?_
 cases h
 exact mX (b9.1,b9.2) rfl rfl (RV.tmp rfl) (bF.refl _) aF.nil
end
section
def sP  (a2:Unit):Option (Int):=
 some (-1:Int)
def pN (p0:gA) (p1:Int) (p2:Int) (a7:Int) (ag6:(Int)->Option (Int)):Option (Int):=
 if a7<(List.length (at' p0.2 p1):Int)then(ck (0<=a7∧a7<(List.length (at' p0.2 p1):Int)) (if((at' (at' p0.2 p1) a7).1)=p2 then(some (a7))else(ag6 (wI .i64 (a7+(1:Int))))))else(sP  (()))
def jO (U:Nat) (p0:gA) (p1:Int) (p2:Int):Option (Int):=
 ck (0<=p1∧p1<(List.length p0.2:Int)) (bU (pN p0 p1 p2) U (0:Int))
theorem KD:aZ Tryz.prog 100:=Tryz.call100
theorem zN (U:Nat) {p0:gA} {p1:Int} {p2:Int} (v0:Value)  (v1:Value)  (z2:oY) (r:Int) (h:jO U p0 p1 p2=some r):
  bA Tryz.prog 100 #[Value.agg #[v0,v1],vI (p1),vI (p2)] [Sl bP v0 p0.1,S2 bH v1 z2 p0.2] (fun x:Unit=>vI (r)) (fun x l=>l) (fun _ l=>l):=by
 refine bA.of Tryz.func100 rfl Tryz.ntmps100 rfl fun c=>?_
 refine aS<|aI (aK.box (cs:=[v0,v1]) rfl rfl) rfl fun b1=>aE rfl<|aN<|aM<|jS (fun a2=>sP  a2=some r) (fun a2 b3=>[]) (fun a2 b3=>[]) ?_ ?_
 ·refine aS<|cH rfl<|gE 0 rfl<|aA rfl<|fL h fun j4 h=>aD (cX rfl rfl (aG.fact 1 rfl) rfl rfl j4) rfl<|aD (dH rfl (aG.fact 1 rfl) rfl rfl j4) rfl<|aD (mV rfl (aG.el (aG.fact 1 rfl) j4.1 j4.2) rfl) rfl<|aA rfl<|aN<|aX<|gG (pN p0 p1 p2) (fun a7 b8=>[(2,vI (p2)),(13,(at' z2 p1).1),(14,vI (List.length (at' p0.2 p1):Int)),(15,vI (a7))]) (fun a7 b8=>[]) (0:Int) () h SF .nil ?_
  intro k9 a7 b8 h
  refine aS<|dR rfl<|aN<|aM ?_
  refine fM h rfl (fun h=>?_) fun h=>?_
  ·refine dV<|aM<|aX<|aS<|aA rfl<|fL h fun j11 h=>aD (bN rfl rfl (aG.el (aG.fact 1 rfl) j4.1 j4.2) rfl rfl j11) rfl<|aD (iS (cs:=[vI ((at' (at' p0.2 p1) a7).1),vI ((at' (at' p0.2 p1) a7).2)]) rfl (aG.el (aG.fact 1 rfl) j4.1 j4.2) bG rfl rfl rfl rfl j11) rfl<|aI (aK.alloc (cs:=Qq) rfl rfl) rfl fun b12=>aE rfl<|bZ 0 (vs:=[vI ((at' (at' p0.2 p1) a7).1),vI ((at' (at' p0.2 p1) a7).2)]) rfl rfl rfl rfl rfl rfl<|aN<|aS<|cH rfl<|gE 0 rfl<|aA rfl<|cN rfl<|aN ?_
   refine fM h rfl (fun h=>?_) fun h=>?_
   ·refine aS<|aA rfl<|aE rfl<|aN<|aU<|bR<|aJ<|aJ<|bR<|aJ ?_
    cases h
    exact wO rfl
   refine e_<|qB<|aQ<|dG rfl<|aA rfl<|aN ?_
   exact mH (wI .i64 (a7+(1:Int))) () h SF .nil (aF.refl _ _)
  refine h_ ?_
  exact lW () (()) h SF rfl
 intro a2 b3 h
 unfold sP at h
 refine aS<|aE rfl<|aN<|aU ?_
 cases h
 exact kW rfl
end
section
def j_  (a2:Unit):Option (Bool):=
 some (true)
def fG (p0:bM) (a7:Int×List (Bool)) (ag6:(Int×List (Bool))->Option (Bool)) (a13:Bool):Option (Bool):=
 if a13=true then(some (false))else(ck ((0<=(at' p0 a7.1)∧(at' p0 a7.1)<((256:Nat):Int))∧List.length a7.2=256) (ag6 ((wI .i64 (a7.1+(1:Int))),(List.set a7.2 (Int.toNat (at' p0 a7.1)) true))))
def eG (p0:bM) (a7:Int×List (Bool)) (ag6:(Int×List (Bool))->Option (Bool)):Option (Bool):=
 if a7.1<(List.length p0:Int)then(ck (0<=a7.1∧a7.1<(List.length p0:Int)) (if(at' p0 a7.1)<(0:Int)then(fG p0 a7 ag6 (true))else(if(255:Int)<(at' p0 a7.1)then(fG p0 a7 ag6 (true))else(ck ((0<=(at' p0 a7.1)∧(at' p0 a7.1)<((256:Nat):Int))∧List.length a7.2=256) (fG p0 a7 ag6 ((at' a7.2 (at' p0 a7.1))))))))else(j_  (()))
def fX (U:Nat) (p0:bM):Option (Bool):=
 bU (eG p0) U ((0:Int),(List.replicate 256 false))
theorem QT:aZ Tryz.prog 134:=Tryz.call134
theorem zM (U:Nat) {p0:bM} (v0:Value) (r:Bool) (h:fX U p0=some r):
  bA Tryz.prog 134 #[v0] [Sl bP v0 p0] (fun x:Unit=>vB (r)) (fun x l=>l) (fun _ l=>l):=by
 refine bA.of Tryz.func134 rfl Tryz.ntmps134 rfl fun c=>?_
 unfold fX at h
 refine aS<|aE rfl<|aN<|aS ?_
 refine aI (aK.alloc (cs:=cellsOf Vj (List.replicate 256 false)) rfl (by kernel_rfl)) rfl fun b1=>?_
 refine aN<|aM<|jS (fun a2=>j_  a2=some r) (fun a2 b3=>[]) (fun a2 b3=>[]) ?_ ?_
 ·refine aS<|aA rfl<|jT (aG.fact 0 rfl) rfl<|aA rfl<|aN<|aX<|gG (eG p0) (fun a7 b8=>[(3,vP b1),(6,v0),(7,vI (List.length p0:Int)),(8,vI (a7.1))]) (fun a7 b8=>[dD b1 (cellsOf Vj a7.2) 210]) ((0:Int),(List.replicate 256 false)) () h SF (bF.refl _) ?_
  intro k9 a7 b8 h
  refine aS<|dR rfl<|aN<|aM ?_
  refine fM h rfl (fun h=>?_) fun h=>?_
  ·refine dV<|aM<|aX<|aS<|fL h fun j11 h=>aD (bN rfl rfl (aG.fact 0 rfl) rfl rfl j11) rfl<|aD (dM rfl (aG.fact 0 rfl) rfl rfl rfl fC j11) rfl<|aE rfl<|aN<|aM<|aM<|jS (fun a13=>fG p0 a7 (bU (eG p0) k9) a13=some r) (fun a13 b14=>[(3,vP b1),(5,vI (at' p0 a7.1)),(6,v0),(7,vI (List.length p0:Int)),(8,vI (a7.1)),(22,vB (a13))]) (fun a13 b14=>[dD b1 (cellsOf Vj a7.2) 210]) ?_ ?_
   ·refine aQ<|aA rfl<|dR rfl<|aA rfl ?_
    refine EV h rfl (fun _ h=>?_) fun _ h=>?_
    ·refine aT rfl<|aT rfl<|lD rfl<|aA rfl<|aT rfl<|aT rfl<|aT rfl<|lD rfl<|aN ?_
     exact lW (true) () h SF rfl
    refine eQ rfl<|bT rfl (Bp rfl rfl) rfl<|jU rfl<|aA rfl ?_
    refine EV h rfl (fun _ h=>?_) fun _ h=>?_
    ·refine aT rfl<|aT rfl<|aT rfl<|lD rfl<|aN ?_
     exact lW (true) () h SF rfl
    refine eQ rfl<|fL h fun j19 h=>bT rfl (kZ rfl rfl rfl rfl rfl j19.1) rfl<|bT rfl (LR (e:=Vj) rfl (aG.res 0 rfl) rfl rfl rfl rfl j19) rfl<|jU rfl<|aN ?_
    exact lW ((at' a7.2 (at' p0 a7.1))) () h SF rfl
   intro a13 b14 h
   refine Cb h rfl (fun _ h=>?_) fun _ h=>?_
   ·refine aS<|aE rfl<|aN<|aU<|aJ<|bR<|aJ<|aJ<|bR<|aJ ?_
    cases h
    exact wO rfl
   refine dV<|aQ<|aA rfl<|fL h fun j16 h=>aD (kZ rfl rfl rfl rfl rfl j16.1) rfl<|DF 0 (e:=Vj) true j16 rfl rfl rfl rfl rfl rfl rfl<|fJ<|qB<|aQ<|dG rfl<|aA rfl<|aN ?_
   exact Bf ((wI .i64 (a7.1+(1:Int))),(List.set a7.2 (Int.toNat (at' p0 a7.1)) true)) () h SF rfl
  refine h_ ?_
  exact dL () (()) h SF .nil (aF.refl _ _)
 intro a2 b3 h
 unfold j_ at h
 refine aS<|aE rfl<|aN<|aU ?_
 cases h
 exact kW rfl
end
section
def qA (a3:(List ((Int×Int)×Int))) (kv6:(Int×Int)×Int) (xa9:Option (Bool)):Option (Bool):=
 if(Option.getD (jE (kv6.1.2,kv6.1.1) a3) (0:Int))≠kv6.2 then(some (false))else(xa9)
def fQ  (a3:(List ((Int×Int)×Int))):Option (Bool):=
 E_ (qA a3) (some (true)) a3
def jL (a17:CY) (ag16:Gf->Option (Bool)) (a22:(List ((Int×Int)×Int))):Option (Bool):=
 ag16 ((wI .i64 (a17.1+(1:Int))),a22)
def fR (p0:d_) (a17:CY) (a28:CY) (ag27:Gf->Option (Bool)) (a39:Bool):Option (Bool):=
 if a39=true then(some (false))else(if(Option.isSome (jE (a17.1,((at' (at' p0 a17.1) a28.1).1)) a28.2))=true then(some (false))else(ag27 ((wI .i64 (a28.1+(1:Int))),(xG (a17.1,((at' (at' p0 a17.1) a28.1).1)) ((at' (at' p0 a17.1) a28.1).2) a28.2))))
def eP (p0:d_) (a17:CY) (a28:CY) (ag27:Gf->Option (Bool)) (a35:Bool):Option (Bool):=
 if a35=true then(some (false))else(if((at' (at' p0 a17.1) a28.1).2)<(1:Int)then(fR p0 a17 a28 ag27 (true))else(fR p0 a17 a28 ag27 (decide ((15:Int)<((at' (at' p0 a17.1) a28.1).2)))))
def bV (p0:d_) (a17:CY) (ag16:Gf->Option (Bool)) (a28:CY) (ag27:Gf->Option (Bool)):Option (Bool):=
 if a28.1<(List.length (at' p0 a17.1):Int)then(ck (0<=a28.1∧a28.1<(List.length (at' p0 a17.1):Int)) (if((at' (at' p0 a17.1) a28.1).1)<(0:Int)then(eP p0 a17 a28 ag27 (true))else(if(List.length p0:Int)<=((at' (at' p0 a17.1) a28.1).1)then(eP p0 a17 a28 ag27 (true))else(eP p0 a17 a28 ag27 (decide (((at' (at' p0 a17.1) a28.1).1)=a17.1))))))else(jL a17 ag16 (a28.2))
def cB (U:Nat) (p0:d_) (a17:CY) (ag16:Gf->Option (Bool)):Option (Bool):=
 if a17.1<(List.length p0:Int)then(ck (0<=a17.1∧a17.1<(List.length p0:Int)) (bU (bV p0 a17 ag16) U ((0:Int),a17.2)))else(fQ  (a17.2))
def eJ (U:Nat) (p0:d_):Option (Bool):=
 bU (cB U p0) U ((0:Int),([]:List ((Int×Int)×Int)))
theorem QU:aZ Tryz.prog 135:=Tryz.call135
theorem BP (U:Nat) {p0:d_} (v0:Value)  (z1:oY) (r:Bool) (h:eJ U p0=some r):
  bA Tryz.prog 135 #[v0] [S2 bH v0 z1 p0] (fun x:Unit=>vB (r)) (fun x l=>l) (fun _ l=>l):=by
 refine bA.of Tryz.func135 rfl Tryz.ntmps135 rfl fun c=>?_
 unfold eJ at h
 refine aS<|aE rfl<|aN<|aS<|aI (aK.makeMap jV IW) rfl fun b1=>aE rfl<|aN<|aM<|jS (fun a3=>fQ  a3=some r) (fun a3 b4=>[(3,Value.map (some b1))]) (fun a3 b4=>[Mp jV IW b1 a3]) ?_ ?_
 ·refine aS<|aA rfl<|aD (jI rfl (aG.fact 0 rfl) rfl) rfl<|aA rfl<|aN<|aX<|gG (cB U p0) (fun a17 b18=>[(0,v0),(3,Value.map (some b1)),(14,v0),(15,vI (List.length p0:Int)),(16,vI (a17.1))]) (fun a17 b18=>[Mp jV IW b1 a17.2]) ((0:Int),([]:List ((Int×Int)×Int))) () h SF (bF.refl _) ?_
  intro k19 a17 b18 h
  refine aS<|dR rfl<|aN<|aM ?_
  refine fM h rfl (fun h=>?_) fun h=>?_
  ·refine dV<|aM<|jS (fun a22=>jL a17 (bU (cB U p0) k19) a22=some r) (fun a22 b23=>[(0,v0),(3,Value.map (some b1)),(14,v0),(15,vI (List.length p0:Int)),(16,vI (a17.1))]) (fun a22 b23=>[Mp jV IW b1 a22]) ?_ ?_
   ·refine aX<|aS<|aA rfl<|fL h fun j24 h=>aD (cX rfl rfl (aG.fact 0 rfl) rfl rfl j24) rfl<|aD (dH rfl (aG.fact 0 rfl) rfl rfl j24) rfl<|aE rfl<|aE rfl<|aN<|aS<|aA rfl<|aD (mV rfl (aG.el (aG.fact 0 rfl) j24.1 j24.2) rfl) rfl<|aA rfl<|aN<|aX<|gG (bV p0 a17 (bU (cB U p0) k19)) (fun a28 b29=>[(0,v0),(3,Value.map (some b1)),(4,vI (a17.1)),(14,v0),(15,vI (List.length p0:Int)),(16,vI (a17.1)),(21,(at' z1 a17.1).1),(22,vI (List.length (at' p0 a17.1):Int)),(23,vI (a28.1))]) (fun a28 b29=>[Mp jV IW b1 a28.2]) ((0:Int),a17.2) () h SF (bF.refl _) ?_
    intro k30 a28 b29 h
    refine aS<|dR rfl<|aN<|aM ?_
    refine fM h rfl (fun h=>?_) fun h=>?_
    ·refine dV<|aM<|aX<|aS<|fL h fun j32 h=>aD (bN rfl rfl (aG.el (aG.fact 0 rfl) j24.1 j24.2) rfl rfl j32) rfl<|aD (iS (cs:=[vI ((at' (at' p0 a17.1) a28.1).1),vI ((at' (at' p0 a17.1) a28.1).2)]) rfl (aG.el (aG.fact 0 rfl) j24.1 j24.2) bG rfl rfl rfl rfl j32) rfl<|aI (aK.alloc (cs:=Qq) rfl rfl) rfl fun b33=>bZ 0 (vs:=[vI ((at' (at' p0 a17.1) a28.1).1),vI ((at' (at' p0 a17.1) a28.1).2)]) rfl rfl rfl rfl rfl rfl<|aN<|aM<|aM<|jS (fun a35=>eP p0 a17 a28 (bU (bV p0 a17 (bU (cB U p0) k19)) k30) a35=some r) (fun a35 b36=>[(0,v0),(3,Value.map (some b1)),(4,vI (a17.1)),(7,vP b33),(14,v0),(15,vI (List.length p0:Int)),(16,vI (a17.1)),(21,(at' z1 a17.1).1),(22,vI (List.length (at' p0 a17.1):Int)),(23,vI (a28.1)),(42,vB (a35))]) (fun a35 b36=>[dD b33 [vI ((at' (at' p0 a17.1) a28.1).1),vI ((at' (at' p0 a17.1) a28.1).2)] 142,Mp jV IW b1 a28.2]) ?_ ?_
     ·refine aQ<|cH rfl<|gE 0 rfl<|dR rfl<|aA rfl ?_
      refine EV h rfl (fun _ h=>?_) fun _ h=>?_
      ·refine aT rfl<|aT rfl<|aT rfl<|aT rfl<|aT rfl<|lD rfl<|aA rfl<|aT rfl<|aT rfl<|aT rfl<|aT rfl<|lD rfl<|aN ?_
       exact lW (true) () h SF rfl
      refine bT rfl (mI rfl rfl rfl rfl rfl) rfl<|bT rfl (nV 0 rfl rfl rfl rfl rfl) rfl<|eQ rfl<|bT rfl (jI rfl (aG.fact 0 rfl) rfl) rfl<|bT rfl (Fy rfl rfl) rfl<|jU rfl<|aA rfl ?_
      refine EV h rfl (fun _ h=>?_) fun _ h=>?_
      ·refine aT rfl<|aT rfl<|aT rfl<|aT rfl<|lD rfl<|aN ?_
       exact lW (true) () h SF rfl
      refine bT rfl (mI rfl rfl rfl rfl rfl) rfl<|bT rfl (nV 0 rfl rfl rfl rfl rfl) rfl<|eQ rfl<|bT rfl (Fx rfl rfl) rfl<|jU rfl<|aN ?_
      exact lW (decide (((at' (at' p0 a17.1) a28.1).1)=a17.1)) () h SF rfl
     intro a35 b36 h
     refine Cb h rfl (fun _ h=>?_) fun _ h=>?_
     ·refine aS<|aE rfl<|aN<|aU<|aJ<|bR<|aJ<|aJ<|bR<|bR<|aJ<|aJ<|bR<|aJ ?_
      cases h
      exact wO rfl
     refine dV<|aM<|aM<|jS (fun a39=>fR p0 a17 a28 (bU (bV p0 a17 (bU (cB U p0) k19)) k30) a39=some r) (fun a39 b40=>[(0,v0),(3,Value.map (some b1)),(4,vI (a17.1)),(7,vP b33),(14,v0),(15,vI (List.length p0:Int)),(16,vI (a17.1)),(21,(at' z1 a17.1).1),(22,vI (List.length (at' p0 a17.1):Int)),(23,vI (a28.1)),(50,vB (a39))]) (fun a39 b40=>[dD b33 [vI ((at' (at' p0 a17.1) a28.1).1),vI ((at' (at' p0 a17.1) a28.1).2)] 142,Mp jV IW b1 a28.2]) ?_ ?_
     ·refine aQ<|cH rfl<|gE 0 rfl<|dR rfl<|aA rfl ?_
      refine EV h rfl (fun _ h=>?_) fun _ h=>?_
      ·refine aT rfl<|aT rfl<|aT rfl<|lD rfl<|aN ?_
       exact lW (true) () h SF rfl
      refine bT rfl (mI rfl rfl rfl rfl rfl) rfl<|bT rfl (nV 0 rfl rfl rfl rfl rfl) rfl<|bT rfl (Bp rfl rfl) rfl<|jU rfl<|aN ?_
      exact lW (decide ((15:Int)<((at' (at' p0 a17.1) a28.1).2))) () h SF rfl
     intro a39 b40 h
     refine Cb h rfl (fun _ h=>?_) fun _ h=>?_
     ·refine aS<|aE rfl<|aN<|aU<|aJ<|bR<|aJ<|aJ<|bR<|bR<|aJ<|aJ<|bR<|aJ ?_
      cases h
      exact wO rfl
     refine dV<|aS<|aA rfl<|cH rfl<|gE 0 rfl ?_
     refine aD (AS (r:=Value.agg #[vI (a17.1),vI ((at' (at' p0 a17.1) a28.1).1)]) rfl rfl (by intro w;simp[Instr.build,Instr.fill,gZ,fT,eW,g_,hJ,fU,jC])) rfl ?_
     refine aI (aK.alloc (cs:=Qq) rfl rfl) rfl fun b42=>bZ 0 (vs:=[vI (a17.1),vI ((at' (at' p0 a17.1) a28.1).1)]) rfl rfl rfl rfl rfl rfl<|aN<|aM<|aS<|aA rfl<|dQ 0 rfl ?_
     refine aD (HQ 2 ((a17.1,((at' (at' p0 a17.1) a28.1).1))) (u:=vI (Option.getD (jE (a17.1,((at' (at' p0 a17.1) a28.1).1)) a28.2) (0:Int))) GY rfl rfl rfl rfl rfl (by cases jE ((a17.1,((at' (at' p0 a17.1) a28.1).1))) a28.2<;>rfl)) rfl ?_
     refine aA rfl<|eT rfl<|eT rfl<|aE rfl<|aE rfl<|aN<|aS<|aA rfl<|aN ?_
     refine Cb h rfl (fun _ h=>?_) fun _ h=>?_
     ·refine aS<|aE rfl<|aN<|aU<|aJ<|bR<|aJ<|aJ<|bR<|bR<|aJ<|aJ<|bR<|aJ ?_
      cases h
      exact wO rfl
     refine dV<|aQ<|aA rfl<|dQ 0 rfl<|cH rfl<|gE 1 rfl<|Hx 2 ((a17.1,((at' (at' p0 a17.1) a28.1).1))) ((at' (at' p0 a17.1) a28.1).2) GY rfl rfl rfl rfl rfl<|fJ<|qB<|aQ<|dG rfl<|aA rfl<|aN ?_
     exact mH ((wI .i64 (a28.1+(1:Int))),(xG (a17.1,((at' (at' p0 a17.1) a28.1).1)) ((at' (at' p0 a17.1) a28.1).2) a28.2)) () h SF (bF.ix [2] rfl rfl) (aF.refl _ _)
    refine yB<|lZ<|lZ<|CI<|qB ?_
    exact lW (a28.2) () h SF rfl
   intro a22 b23 h
   unfold jL at h
   refine aQ<|dG rfl<|aA rfl<|aN ?_
   exact Bf ((wI .i64 (a17.1+(1:Int))),a22) () h SF rfl
  refine h_ ?_
  exact lW (a17.2) () h SF rfl
 intro a3 b4 h
 unfold fQ at h
 refine aM<|aS<|aA rfl<|aI (aK.range 0 rfl rfl rfl) rfl fun b5=>aN<|aX<|Qy [(3,Value.map (some b1)),(69,vP b5)] [It b5 b1 (List.length a3) ([]),Mp jV IW b1 a3] [S2 bH v0 z1 p0] SF (bF.refl _) (aF.refl _ _) ?_
 refine LK (qA a3) 1 0 (by intro a b x;unfold qA;repeat' split;all_goals first|rfl|contradiction|simp_all) h rfl rfl rfl rfl rfl rfl ?_ ?_
 ·skip
  intro kv6 i7 se8 xa9 hkv10 h
  refine aX<|aS<|aI (aK.entry 1 0 hkv10 rfl rfl rfl) rfl fun x11=>eT rfl<|eT rfl<|aI (aK.alloc (cs:=Qq) rfl rfl) rfl fun b12=>bZ 0 (vs:=[vI (kv6.1.1),vI (kv6.1.2)]) rfl rfl rfl rfl rfl rfl<|aE rfl<|aN<|aS<|aA rfl ?_
  refine aD (kZ (i:=1) rfl rfl rfl rfl rfl (by decide)) rfl ?_
  refine gE 0 rfl ?_
  refine aD (kZ (i:=0) rfl rfl rfl rfl rfl (by decide)) rfl ?_
  refine gE 0 rfl ?_
  refine aD (AS (r:=Value.agg #[vI (kv6.1.2),vI (kv6.1.1)]) rfl rfl (by intro w;simp[Instr.build,Instr.fill,gZ,fT,eW,g_,hJ,fU,jC])) rfl ?_
  refine aD (HQ 2 ((kv6.1.2,kv6.1.1)) (u:=vI (Option.getD (jE (kv6.1.2,kv6.1.1) a3) (0:Int))) GY rfl rfl rfl rfl rfl (by cases jE ((kv6.1.2,kv6.1.1)) a3<;>rfl)) rfl ?_
  refine aA rfl<|pC rfl<|aN ?_
  refine fM h rfl (fun h=>?_) fun h=>?_
  ·refine aS<|aE rfl<|aN<|aU<|bR<|aJ<|bR<|aJ ?_
   cases h
   exact wO rfl
  refine e_<|qB ?_
  exact Jo h SF (bF.ix [1,2] rfl rfl) (aF.refl _ _)
 intro se8 h
 refine CI<|zW<|aS<|aE rfl<|aN<|aU ?_
 cases h
 exact wO rfl
end
section
def lR  (a7:Bool):Option (Bool):=
 some (a7)
def lQ (U:Nat) (p0:gA) (a3:Bool):Option (Bool):=
 if a3=true then(some (false))else(Option.bind (fX U p0.1) fun r9=>(if r9=true then(Option.bind (eJ U p0.2) fun r13=>(lR  (r13)))else(lR  (false))))
def iB (U:Nat) (p0:gA):Option (Bool):=
 if(List.length p0.1:Int)<(1:Int)then(lQ U p0 (true))else(if(24:Int)<(List.length p0.1:Int)then(lQ U p0 (true))else(lQ U p0 (decide ((List.length p0.2:Int)≠(List.length p0.1:Int)))))
theorem QM:aZ Tryz.prog 103:=Tryz.call103
theorem Ff (U:Nat) {p0:gA} (v0:Value)  (v1:Value)  (z2:oY) (r:Bool) (h:iB U p0=some r):
  bA Tryz.prog 103 #[Value.agg #[v0,v1]] [Sl bP v0 p0.1,S2 bH v1 z2 p0.2] (fun x:Unit=>vB (r)) (fun x l=>l) (fun _ l=>l):=by
 refine bA.of Tryz.func103 rfl Tryz.ntmps103 rfl fun c=>?_
 refine aS<|aI (aK.box (cs:=[v0,v1]) rfl rfl) rfl fun b1=>aE rfl<|aN<|aS<|cH rfl<|gE 0 rfl<|jT (aG.fact 0 rfl) rfl<|aE rfl<|aN<|aM<|aM<|jS (fun a3=>lQ U p0 a3=some r) (fun a3 b4=>[(1,vP b1),(19,vB (a3))]) (fun a3 b4=>[dD b1 [v0,v1] 28]) ?_ ?_
 ·refine aQ<|aA rfl<|dR rfl<|aA rfl ?_
  refine EV h rfl (fun _ h=>?_) fun _ h=>?_
  ·refine aT rfl<|aT rfl<|lD rfl<|aA rfl<|aT rfl<|aT rfl<|aT rfl<|aT rfl<|aT rfl<|lD rfl<|aN ?_
   exact lW (true) () h SF rfl
  refine eQ rfl<|bT rfl (Bp rfl rfl) rfl<|jU rfl<|aA rfl ?_
  refine EV h rfl (fun _ h=>?_) fun _ h=>?_
  ·refine aT rfl<|aT rfl<|aT rfl<|aT rfl<|aT rfl<|lD rfl<|aN ?_
   exact lW (true) () h SF rfl
  refine bT rfl (mI rfl rfl rfl rfl rfl) rfl<|bT rfl (nV 0 rfl rfl rfl rfl rfl) rfl<|bT rfl (jI rfl (aG.fact 1 rfl) rfl) rfl<|eQ rfl<|bT rfl (HR rfl rfl) rfl<|jU rfl<|aN ?_
  exact lW (decide ((List.length p0.2:Int)≠(List.length p0.1:Int))) () h SF rfl
 intro a3 b4 h
 refine Cb h rfl (fun _ h=>?_) fun _ h=>?_
 ·refine aS<|aE rfl<|aN<|aU<|aJ ?_
  cases h
  exact wO rfl
 refine dV<|aM<|jS (fun a7=>lR  a7=some r) (fun a7 b8=>[(2,vB (a7))]) (fun a7 b8=>[]) ?_ ?_
 ·refine aQ<|cH rfl<|gE 0 rfl<|fE h fun r9 w10 h=>aI (aK.callQ QT (zM U v0 r9 w10) rfl (qC [0] rfl)) rfl fun x11=>aA rfl ?_
  refine Dd (by exact rfl) (by exact rfl) (fun hp12=>?_) (fun hp12=>?_)
  ·have h:=SS hp12 h
   refine bT rfl (mI rfl rfl rfl rfl rfl) rfl<|bT rfl (nV 0 rfl rfl rfl rfl rfl) rfl<|fE h fun r13 w14 h=>wQ rfl (aK.callQ QU (BP U v1 z2 r13 w14) rfl (qC [1] rfl)) rfl fun x15=>lD rfl<|aE rfl<|aN ?_
   exact dL (r13) () h SF .nil (aF.refl _ _)
  have h:=RD hp12 h
  refine aT rfl<|aT rfl<|aT rfl<|jU rfl<|aE rfl<|aN ?_
  exact dL (false) () h SF .nil (aF.refl _ _)
 intro a7 b8 h
 unfold lR at h
 refine aU ?_
 cases h
 exact kW rfl
end
section
def pX  (a2:Unit):Option (Bool):=
 some (false)
def sW (p0:gA) (p1:Int) (p2:Int) (a6:Int) (ag5:(Int)->Option (Bool)):Option (Bool):=
 ck (0<=p1∧p1<(List.length p0.2:Int)) (if a6<(List.length (at' p0.2 p1):Int)then(ck (0<=p1∧p1<(List.length p0.2:Int)) (ck (0<=a6∧a6<(List.length (at' p0.2 p1):Int)) (if((at' (at' p0.2 p1) a6).1)=p2 then(some (true))else(ag5 (wI .i64 (a6+(1:Int)))))))else(pX  (())))
def jR (U:Nat) (p0:gA) (p1:Int) (p2:Int):Option (Bool):=
 bU (sW p0 p1 p2) U (0:Int)
theorem TZ:aZ Tryz.prog 82:=Tryz.call82
theorem EJ (U:Nat) {p0:gA} {p1:Int} {p2:Int} (v0:Value)  (v1:Value)  (z2:oY) (r:Bool) (h:jR U p0 p1 p2=some r):
  bA Tryz.prog 82 #[Value.agg #[v0,v1],vI (p1),vI (p2)] [Sl bP v0 p0.1,S2 bH v1 z2 p0.2] (fun x:Unit=>vB (r)) (fun x l=>l) (fun _ l=>l):=by
 refine bA.of Tryz.func82 rfl Tryz.ntmps82 rfl fun c=>?_
 unfold jR at h
 refine aS<|aI (aK.box (cs:=[v0,v1]) rfl rfl) rfl fun b1=>aE rfl<|aN<|aM<|jS (fun a2=>pX  a2=some r) (fun a2 b3=>[]) (fun a2 b3=>[]) ?_ ?_
 ·refine aS<|aE rfl<|aN<|aX<|gG (sW p0 p1 p2) (fun a6 b7=>[(1,vI (p1)),(2,vI (p2)),(3,vP b1),(7,vI (a6))]) (fun a6 b7=>[dD b1 [v0,v1] 28]) (0:Int) () h SF (bF.refl _) ?_
  intro k8 a6 b7 h
  refine aM<|aS<|aA rfl<|cH rfl<|gE 0 rfl<|aA rfl<|fL h fun j9 h=>aD (cX rfl rfl (aG.fact 1 rfl) rfl rfl j9) rfl<|aD (dH rfl (aG.fact 1 rfl) rfl rfl j9) rfl<|aD (mV rfl (aG.el (aG.fact 1 rfl) j9.1 j9.2) rfl) rfl<|dR rfl<|aN ?_
  refine fM h rfl (fun h=>?_) fun h=>?_
  ·refine dV<|aM<|aX<|aS<|cH rfl<|gE 0 rfl<|aA rfl<|fL h fun j11 h=>aD (cX rfl rfl (aG.fact 1 rfl) rfl rfl j11) rfl<|aD (dH rfl (aG.fact 1 rfl) rfl rfl j11) rfl<|aA rfl<|fL h fun j12 h=>aD (bN rfl rfl (aG.el (aG.fact 1 rfl) j11.1 j11.2) rfl rfl j12) rfl<|aD (lK rfl rfl rfl rfl rfl) rfl<|aD (mY rfl (aG.el (aG.fact 1 rfl) j11.1 j11.2) rfl rfl rfl wT j12) rfl<|aA rfl<|cN rfl<|aN ?_
   refine fM h rfl (fun h=>?_) fun h=>?_
   ·refine aS<|aE rfl<|aN<|aU<|bR<|aJ<|aJ<|bR<|aJ ?_
    cases h
    exact wO rfl
   refine e_<|qB<|aQ<|aA rfl<|dG rfl<|aE rfl<|aN ?_
   exact Bf (wI .i64 (a6+(1:Int))) () h SF rfl
  refine h_ ?_
  exact dL () (()) h SF .nil (aF.refl _ _)
 intro a2 b3 h
 unfold pX at h
 refine aS<|aE rfl<|aN<|aU ?_
 cases h
 exact kW rfl
end
section
def lF (p0:wM) (p1:gA) (p2:Int) (p3:Int) (p4:Int) (a4:Bool):Option (d_):=
 if a4=true then(some (p1.2))else(if p0.2.2.2.2.2=true then(ck (0<=p2∧p2<(List.length p1.2:Int)) (ck ((List.length ([(p3,p4)]):Int)+(List.length (at' p1.2 p2):Int)<=1099511627) (ck (0<=p2∧p2<(List.length p1.2:Int)) (ck (0<=p3∧p3<(List.length (List.set p1.2 (Int.toNat p2) (([(p3,p4)])++(at' p1.2 p2))):Int)) (ck ((List.length ([(p2,p4)]):Int)+(List.length (at' (List.set p1.2 (Int.toNat p2) (([(p3,p4)])++(at' p1.2 p2))) p3):Int)<=1099511627) (ck (0<=p3∧p3<(List.length (List.set p1.2 (Int.toNat p2) (([(p3,p4)])++(at' p1.2 p2))):Int)) (some (List.set (List.set p1.2 (Int.toNat p2) (([(p3,p4)])++(at' p1.2 p2))) (Int.toNat p3) (([(p2,p4)])++(at' (List.set p1.2 (Int.toNat p2) (([(p3,p4)])++(at' p1.2 p2))) p3))))))))))else(ck (0<=p2∧p2<(List.length p1.2:Int)) (ck (0<=p3∧p3<(List.length p1.2:Int)) (ck ((List.length (at' p1.2 p2):Int)+(List.length ([(p3,p4)]):Int)<=1099511627) (ck ((List.length (at' p1.2 p3):Int)+(List.length ([(p2,p4)]):Int)<=1099511627) (ck (Int.toNat p2≠Int.toNat p3) (ck (0<=p2∧p2<(List.length (List.set (List.set p1.2 (Int.toNat p2) ((at' p1.2 p2)++([(p3,p4)]))) (Int.toNat p3) ((at' p1.2 p3)++([(p2,p4)]))):Int)) (ck (0<=p3∧p3<(List.length (List.set (List.set p1.2 (Int.toNat p2) ((at' p1.2 p2)++([(p3,p4)]))) (Int.toNat p3) ((at' p1.2 p3)++([(p2,p4)]))):Int)) (some (List.set (List.set p1.2 (Int.toNat p2) ((at' p1.2 p2)++([(p3,p4)]))) (Int.toNat p3) ((at' p1.2 p3)++([(p2,p4)]))))))))))))
def jN (U:Nat) (p0:wM) (p1:gA) (p2:Int) (p3:Int) (p4:Int):Option (d_):=
 if p2=p3 then(lF p0 p1 p2 p3 p4 (true))else(Option.bind (jR U ((p1.1,p1.2)) p2 p3) fun r86=>(lF p0 p1 p2 p3 p4 (r86)))
theorem NI:aZ Tryz.prog 50:=Tryz.call50
theorem uG (U:Nat) {p0:wM} {p1:gA} {p2:Int} {p3:Int} {p4:Int} (v0:Value)  (v1:Value)  (v2:Value)  (v3:Value)  (v4:Value)  (w5:iN) (r:d_) (h:jN U p0 p1 p2 p3 p4=some r):
  AR Tryz.prog 50 #[Value.agg #[vI (p0.1),v0,v1,v2,vB (p0.2.2.2.2.1),vB (p0.2.2.2.2.2)],Value.agg #[v3,v4],vI (p2),vI (p3),vI (p4)] [Ar dZ.raw v4 w5,i_ bX w5 p1.2] [Sl bP v0 p0.2.1,Sl bP v1 p0.2.2.1,Sl bP v2 p0.2.2.2.1,Sl bP v3 p1.1] (fun x:iN=>Value.tuple #[]) (fun x l=>Ar dZ.raw v4 x::i_ bX x r::l):=by
 refine AR.of (vs:=[Value.agg #[vI (p0.1),v0,v1,v2,vB (p0.2.2.2.2.1),vB (p0.2.2.2.2.2)],Value.agg #[v3,v4],vI (p2),vI (p3),vI (p4)]) Tryz.func50 rfl Tryz.ntmps50 rfl fun c=>?_
 refine aS<|aI (aK.box (cs:=[vI (p0.1),v0,v1,v2,vB (p0.2.2.2.2.1),vB (p0.2.2.2.2.2)]) rfl rfl) rfl fun b1=>aI (aK.box (cs:=[v3,v4]) rfl rfl) rfl fun b2=>aN<|aM<|aM<|tO (B:=Unit) (fun a4=>lF p0 p1 p2 p3 p4 a4=some r) (fun a4 b5=>[(2,vI (p2)),(3,vI (p3)),(4,vI (p4)),(5,vP b1),(6,vP b2),(20,vB (a4))]) (fun a4 b5=>[dD b2 [v3,v4] 28,dD b1 [vI (p0.1),v0,v1,v2,vB (p0.2.2.2.2.1),vB (p0.2.2.2.2.2)] 24,Ar dZ.raw v4 w5,i_ bX w5 p1.2]) (fun a4 b5=>[Sl bP v0 p0.2.1,Sl bP v1 p0.2.2.1,Sl bP v2 p0.2.2.2.1,Sl bP v3 p1.1]) ?_ ?_
 ·refine aQ<|aA rfl<|aA rfl<|cN rfl<|aA rfl ?_
  refine EV h rfl (fun _ h=>?_) fun _ h=>?_
  ·refine aT rfl<|aT rfl<|aT rfl<|aT rfl<|lD rfl<|aN ?_
   exact lW (true) () h SF rfl
  refine bT rfl (p_ 0 rfl rfl rfl rfl) rfl<|eQ rfl<|eQ rfl<|fE h fun r86 hr87 h=>wQ rfl (aK.callQ TZ (EJ U v3 v4 (List.zip w5 p1.2) r86 hr87) rfl (aF.cons (aG.fact 3 rfl) (aF.cons (bD (i:=2) (j:=3) rfl rfl bG) .nil))) rfl fun x88=>jU rfl<|aN ?_
  exact lW (r86) () h SF rfl
 intro a4 b5 h
 refine Cb h rfl (fun _ h=>?_) fun _ h=>?_
 ·refine aU<|aJ ?_
  cases h
  exact Bi (w5) rfl rfl .ret (.inl rfl) (bF.ix [2,3] rfl rfl) aF.nil
 refine dV<|aS<|aA rfl<|aA rfl ?_
 refine aD (AS (r:=Value.agg #[vI (p3),vI (p4)]) rfl rfl (by intro w;simp[Instr.build,Instr.fill,gZ,fT,eW,g_,hJ,fU,jC])) rfl ?_
 refine aA rfl<|aA rfl ?_
 refine aD (AS (r:=Value.agg #[vI (p2),vI (p4)]) rfl rfl (by intro w;simp[Instr.build,Instr.fill,gZ,fT,eW,g_,hJ,fU,jC])) rfl ?_
 refine aI (aK.alloc (cs:=Qq) rfl rfl) rfl fun b7=>aI (aK.alloc (cs:=Qq) rfl rfl) rfl fun b8=>bZ 1 (vs:=[vI (p3),vI (p4)]) rfl rfl rfl rfl rfl rfl<|bZ 0 (vs:=[vI (p2),vI (p4)]) rfl rfl rfl rfl rfl rfl<|aN<|aM<|aS<|cH rfl<|gE 3 rfl<|aN ?_
 refine Cb h rfl (fun _ h=>?_) fun _ h=>?_
 ·refine aM ?_
  refine JR.start [0,1,0,0,8,0,32,0,224,480,1016,2047,4095] 11 mixedOrders (by decide +kernel) ?_
  refine JR.open (by exact rfl) ?_
  refine cQ rfl<|kF 2 rfl<|bL rfl<|kB 1 rfl<|JR.loud rfl rfl rfl (eN (e:=bX) ([((p3,p4))]) [(0,Value.agg #[vI (p3),vI (p4)])] rfl rfl rfl rfl (sG (vI (p3)) (vI (p4))) rfl rfl rfl) rfl (fun u10=>(uQ [([3],[])] rfl)) fun u10=>oJ rfl (mI rfl rfl rfl rfl rfl)<|bO rfl (bF.cons 3 rfl .nil) .nil (nV 0 rfl rfl rfl rfl rfl) (aO.h (bF.ix [2] rfl rfl) .nil aO.z)<|oJ rfl (sM rfl)<|fL h fun j11 h=>dW (cD 6 rfl) fun hl12=>?_
  refine bO rfl (bF.cons 5 rfl .nil) .nil (fK 0 rfl rfl rfl rfl rfl j11.1 (by have q1:=j11.2;have q2:=hl12;(try simp only[List.length_set]at q1);(try simp only[List.length_set]at q2);(try simp only[List.length_set]);omega)) (aO.h (bF.ix [4] rfl rfl) .nil aO.z) ?_
  refine dW (cD 6 rfl) fun hl13=>bO rfl (bF.cons 5 rfl .nil) .nil (jB 0 rfl rfl hl13 rfl rfl j11) (aO.h (bF.ix [4] rfl rfl) .nil aO.z)<|fL h fun j15 h=>JR.loud rfl rfl rfl (nU 0 bG rfl rfl rfl (aG.row (j:=6) rfl bG j11.1 j11.2) rfl rfl rfl rfl j15 rfl) rfl (fun u14=>(uQ [([3],[])] rfl)) fun u14=>cR 11 rfl rfl<|fL h fun j16 h=>aD (cX rfl rfl (bD (i:=5) (j:=6) rfl rfl bG) rfl rfl j16) rfl<|b_ (Know.one ((cC (aG.res 0 rfl) bG))) fun ho17=>oH (rO (k:=p2) 6 0 rfl rfl rfl j16) ?_
  refine jH 4 5 ⟨j16.1,by first|exact j16.2|simpa using j16.2⟩ rfl rfl rfl rfl rfl (by simp) ho17 rfl ?_
  refine aN<|aM ?_
  refine JR.start [0,1,0,0,8,0,32,0,224,480,1016,2047,4095] 11 mixedOrders (by decide +kernel) ?_
  refine JR.open (by exact rfl) ?_
  refine cQ rfl<|kF 2 rfl<|bL rfl<|kB 0 rfl<|JR.loud rfl rfl rfl (eN (e:=bX) ([((p2,p4))]) [(0,Value.agg #[vI (p2),vI (p4)])] rfl rfl rfl rfl (sG (vI (p2)) (vI (p4))) rfl rfl rfl) rfl (fun u18=>(uQ [([3],[])] rfl)) fun u18=>oJ rfl (mI rfl rfl rfl rfl rfl)<|bO rfl (bF.cons 3 rfl .nil) .nil (nV 0 rfl rfl rfl rfl rfl) (aO.h (bF.ix [2] rfl rfl) .nil aO.z)<|oJ rfl (sM rfl)<|fL h fun j19 h=>dW (cD 6 rfl) fun hl20=>?_
  refine bO rfl (bF.cons 5 rfl .nil) .nil (fK 0 rfl rfl rfl rfl rfl j19.1 (by have q1:=j19.2;have q2:=hl20;(try simp only[List.length_set]at q1);(try simp only[List.length_set]at q2);(try simp only[List.length_set]);omega)) (aO.h (bF.ix [4] rfl rfl) .nil aO.z) ?_
  refine dW (cD 6 rfl) fun hl21=>bO rfl (bF.cons 5 rfl .nil) .nil (jB 0 rfl rfl hl21 rfl rfl j19) (aO.h (bF.ix [4] rfl rfl) .nil aO.z)<|fL h fun j23 h=>JR.loud rfl rfl rfl (nU 0 bG rfl rfl rfl (aG.row (j:=6) rfl bG j19.1 (by first|exact j19.2|simpa using j19.2)) rfl rfl rfl rfl j23 rfl) rfl (fun u22=>(uQ [([3],[])] rfl)) fun u22=>?_
  refine cR 11 rfl rfl<|fL h fun j24 h=>aD (cX rfl rfl (bD (i:=5) (j:=6) rfl rfl bG) rfl rfl j24) rfl<|b_ (Know.one ((cC (aG.res 0 rfl) bG))) fun ho25=>oH (rO (k:=p3) 6 0 rfl rfl rfl j24) ?_
  refine jH 4 5 ⟨j24.1,by first|exact j24.2|simpa using j24.2⟩ rfl rfl rfl rfl rfl (by simp) ho25 rfl ?_
  refine aN<|aU<|aJ ?_
  cases h
  exact Bi (List.set (List.set w5 (Int.toNat p2) u14) (Int.toNat p3) u22) rfl rfl .ret (.inl rfl) (bF.ix [4,5] rfl rfl) aF.nil
 refine dV<|fL h fun j26 h=>fL h fun j29 h=>fL h fun j34 h=>fL h fun j37 h=>fL h fun j38 h=>fL h fun j39 h=>fL h fun j43 h=>LM [0,1,0,0,8,0,0,64,0,448,960,0,2048,8128,0,16384,0,114688,245760,0,524288,2097088,4194247,8388551,16777215,33554431] 24 [[0,1,2,3,4,5,6,7,8,9,10,11,14,15,16,17,18,19,12,13,20,21,22,23,24,25],[0,1,2,3,4,5,6,7,8,9,10,11,14,15,16,17,18,19,12,20,13,21,22,23,24,25],[0,1,2,3,4,5,6,7,8,9,10,11,14,15,16,17,18,19,20,12,13,21,22,23,24,25]] mixedOrders (by decide +kernel) (by decide +kernel) ?_
 intro o ho
 simp only[List.mem_cons,List.not_mem_nil,or_false]at ho
 rcases ho with rfl|rfl|rfl
 ·refine cQ rfl<|kF 2 rfl<|bL rfl<|cQ rfl<|kF 2 rfl<|bL rfl<|cQ rfl<|kF 2 rfl<|bL rfl<|dW (cD 5 rfl) fun hl46=>?_
  refine bO rfl (bF.cons 4 rfl .nil) .nil (fK 0 rfl rfl rfl rfl rfl j26.1 (by have q1:=j26.2;have q2:=hl46;(try simp only[List.length_set]at q1);(try simp only[List.length_set]at q2);(try simp only[List.length_set]);omega)) aO.z ?_
  refine dW (cD 5 rfl) fun hl47=>bO rfl (bF.cons 4 rfl .nil) .nil (jB 0 rfl rfl hl47 rfl rfl j26) aO.z<|kB 1 rfl<|cQ rfl<|kF 2 rfl<|bL rfl<|dW (cD 5 rfl) fun hl48=>?_
  refine bO rfl (bF.cons 4 rfl .nil) .nil (fK 0 rfl rfl rfl rfl rfl j29.1 (by have q1:=j29.2;have q2:=hl48;(try simp only[List.length_set]at q1);(try simp only[List.length_set]at q2);(try simp only[List.length_set]);omega)) aO.z ?_
  refine dW (cD 5 rfl) fun hl49=>bO rfl (bF.cons 4 rfl .nil) .nil (jB 0 rfl rfl hl49 rfl rfl j29) aO.z<|kB 0 rfl<|JR.loud rfl rfl rfl (eN (e:=bX) ([((p3,p4))]) [(0,Value.agg #[vI (p3),vI (p4)])] rfl rfl rfl rfl (sG (vI (p3)) (vI (p4))) rfl rfl rfl) rfl (fun u50=>(uQ [([1],[]),([5],[]),([5],[]),([3],[]),([5],[]),([5],[]),([3],[]),([3],[]),([3],[])] rfl)) fun u50=>JR.loud rfl rfl rfl (iR 6 bG rfl rfl rfl (cC (aG.res 0 rfl) bG) rfl rfl rfl rfl j26 j34 rfl) rfl (fun u51=>(uQ [([1],[]),([5],[]),([5],[]),([3],[]),([3],[]),([3],[])] rfl)) fun u51=>JR.loud rfl rfl rfl (eN (e:=bX) ([((p2,p4))]) [(0,Value.agg #[vI (p2),vI (p4)])] rfl rfl rfl rfl (sG (vI (p2)) (vI (p4))) rfl rfl rfl) rfl (fun u52=>(uQ [([6],[]),([6],[]),([4],[]),([3],[]),([6],[]),([6],[]),([4],[]),([4],[]),([4],[])] rfl)) fun u52=>JR.loud rfl rfl rfl (sK (j:=p2) 7 bG rfl rfl rfl (cC (aG.res 0 rfl) bG) rfl rfl rfl rfl j29 j37 rfl j38) rfl (fun u53=>(uQ [([4],[]),([4],[])] rfl)) fun u53=>dW (cD 7 rfl) fun hl54=>?_
  refine bO rfl (bF.cons 6 rfl .nil) .nil (fK 0 rfl rfl rfl rfl rfl j39.1 (by have q1:=j39.2;have q2:=hl54;(try simp only[List.length_set]at q1);(try simp only[List.length_set]at q2);(try simp only[List.length_set]);omega)) (XT rfl) ?_
  refine dW (wR (k:=p2) (j:=p3) 7 rfl (by omega) ⟨j39.1,by first|exact j39.2|simpa using j39.2⟩) fun ho55=>?_
  refine Bl rfl rfl rfl (vE 6 7 ⟨j39.1,by first|exact j39.2|simpa using j39.2⟩ rfl rfl rfl rfl (by simp) ho55 rfl) (fun x56=>(uQ [([4],[])] rfl)) fun x56=>?_
  refine cR 24 rfl rfl<|b_ (cD 7 rfl) fun hl57=>?_
  refine aD (fK 6 rfl rfl rfl rfl rfl j43.1 (by have q1:=j43.2;have q2:=hl57;(try simp only[List.length_set]at q1);(try simp only[List.length_set]at q2);(try simp only[List.length_set]);omega)) rfl ?_
  refine b_ (qE 7 (k:=p3) rfl ⟨j43.1,by first|exact j43.2|simpa using j43.2⟩) fun ho58=>?_
  refine jH 6 7 ⟨j43.1,by first|exact j43.2|simpa using j43.2⟩ rfl rfl rfl rfl rfl (by simp) ho58 rfl ?_
  refine fJ ?_
  cases h
  exact Bi (List.set (List.set w5 (Int.toNat p2) u51) (Int.toNat p3) u53) rfl rfl .normal (.inr rfl) (bF.ix [6,7] rfl rfl) aF.nil
 ·refine cQ rfl<|kF 2 rfl<|bL rfl<|cQ rfl<|kF 2 rfl<|bL rfl<|cQ rfl<|kF 2 rfl<|bL rfl<|dW (cD 5 rfl) fun hl59=>?_
  refine bO rfl (bF.cons 4 rfl .nil) .nil (fK 0 rfl rfl rfl rfl rfl j26.1 (by have q1:=j26.2;have q2:=hl59;(try simp only[List.length_set]at q1);(try simp only[List.length_set]at q2);(try simp only[List.length_set]);omega)) aO.z ?_
  refine dW (cD 5 rfl) fun hl60=>bO rfl (bF.cons 4 rfl .nil) .nil (jB 0 rfl rfl hl60 rfl rfl j26) aO.z<|kB 1 rfl<|cQ rfl<|kF 2 rfl<|bL rfl<|dW (cD 5 rfl) fun hl61=>?_
  refine bO rfl (bF.cons 4 rfl .nil) .nil (fK 0 rfl rfl rfl rfl rfl j29.1 (by have q1:=j29.2;have q2:=hl61;(try simp only[List.length_set]at q1);(try simp only[List.length_set]at q2);(try simp only[List.length_set]);omega)) aO.z ?_
  refine dW (cD 5 rfl) fun hl62=>bO rfl (bF.cons 4 rfl .nil) .nil (jB 0 rfl rfl hl62 rfl rfl j29) aO.z<|kB 0 rfl<|JR.loud rfl rfl rfl (eN (e:=bX) ([((p3,p4))]) [(0,Value.agg #[vI (p3),vI (p4)])] rfl rfl rfl rfl (sG (vI (p3)) (vI (p4))) rfl rfl rfl) rfl (fun u63=>(uQ [([1],[]),([5],[]),([5],[]),([3],[]),([5],[]),([5],[]),([3],[]),([3],[]),([3],[])] rfl)) fun u63=>JR.loud rfl rfl rfl (eN (e:=bX) ([((p2,p4))]) [(0,Value.agg #[vI (p2),vI (p4)])] rfl rfl rfl rfl (sG (vI (p2)) (vI (p4))) rfl rfl rfl) rfl (fun u64=>(uQ [([6],[]),([6],[]),([4],[]),([3],[]),([6],[]),([6],[]),([4],[]),([4],[]),([4],[])] rfl)) fun u64=>JR.loud rfl rfl rfl (iR 7 bG rfl rfl rfl (cC (aG.res 1 rfl) bG) rfl rfl rfl rfl j26 j34 rfl) rfl (fun u65=>(uQ [([2],[]),([6],[]),([6],[]),([4],[]),([4],[]),([4],[])] rfl)) fun u65=>JR.loud rfl rfl rfl (sK (j:=p2) 7 bG rfl rfl rfl (cC (aG.res 0 rfl) bG) rfl rfl rfl rfl j29 j37 rfl j38) rfl (fun u66=>(uQ [([4],[]),([4],[])] rfl)) fun u66=>dW (cD 7 rfl) fun hl67=>?_
  refine bO rfl (bF.cons 6 rfl .nil) .nil (fK 0 rfl rfl rfl rfl rfl j39.1 (by have q1:=j39.2;have q2:=hl67;(try simp only[List.length_set]at q1);(try simp only[List.length_set]at q2);(try simp only[List.length_set]);omega)) (XT rfl) ?_
  refine dW (wR (k:=p2) (j:=p3) 7 rfl (by omega) ⟨j39.1,by first|exact j39.2|simpa using j39.2⟩) fun ho68=>?_
  refine Bl rfl rfl rfl (vE 6 7 ⟨j39.1,by first|exact j39.2|simpa using j39.2⟩ rfl rfl rfl rfl (by simp) ho68 rfl) (fun x69=>(uQ [([4],[])] rfl)) fun x69=>?_
  refine cR 24 rfl rfl<|b_ (cD 7 rfl) fun hl70=>?_
  refine aD (fK 6 rfl rfl rfl rfl rfl j43.1 (by have q1:=j43.2;have q2:=hl70;(try simp only[List.length_set]at q1);(try simp only[List.length_set]at q2);(try simp only[List.length_set]);omega)) rfl ?_
  refine b_ (qE 7 (k:=p3) rfl ⟨j43.1,by first|exact j43.2|simpa using j43.2⟩) fun ho71=>?_
  refine jH 6 7 ⟨j43.1,by first|exact j43.2|simpa using j43.2⟩ rfl rfl rfl rfl rfl (by simp) ho71 rfl ?_
  refine fJ ?_
  cases h
  exact Bi (List.set (List.set w5 (Int.toNat p2) u65) (Int.toNat p3) u66) rfl rfl .normal (.inr rfl) (bF.ix [6,7] rfl rfl) aF.nil
 refine cQ rfl<|kF 2 rfl<|bL rfl<|cQ rfl<|kF 2 rfl<|bL rfl<|cQ rfl<|kF 2 rfl<|bL rfl<|dW (cD 5 rfl) fun hl72=>?_
 refine bO rfl (bF.cons 4 rfl .nil) .nil (fK 0 rfl rfl rfl rfl rfl j26.1 (by have q1:=j26.2;have q2:=hl72;(try simp only[List.length_set]at q1);(try simp only[List.length_set]at q2);(try simp only[List.length_set]);omega)) aO.z ?_
 refine dW (cD 5 rfl) fun hl73=>bO rfl (bF.cons 4 rfl .nil) .nil (jB 0 rfl rfl hl73 rfl rfl j26) aO.z<|kB 1 rfl<|cQ rfl<|kF 2 rfl<|bL rfl<|dW (cD 5 rfl) fun hl74=>?_
 refine bO rfl (bF.cons 4 rfl .nil) .nil (fK 0 rfl rfl rfl rfl rfl j29.1 (by have q1:=j29.2;have q2:=hl74;(try simp only[List.length_set]at q1);(try simp only[List.length_set]at q2);(try simp only[List.length_set]);omega)) aO.z ?_
 refine dW (cD 5 rfl) fun hl75=>bO rfl (bF.cons 4 rfl .nil) .nil (jB 0 rfl rfl hl75 rfl rfl j29) aO.z<|kB 0 rfl<|JR.loud rfl rfl rfl (eN (e:=bX) ([((p2,p4))]) [(0,Value.agg #[vI (p2),vI (p4)])] rfl rfl rfl rfl (sG (vI (p2)) (vI (p4))) rfl rfl rfl) rfl (fun u76=>(uQ [([5],[]),([5],[]),([3],[]),([2],[]),([5],[]),([5],[]),([3],[]),([3],[]),([3],[])] rfl)) fun u76=>JR.loud rfl rfl rfl (eN (e:=bX) ([((p3,p4))]) [(0,Value.agg #[vI (p3),vI (p4)])] rfl rfl rfl rfl (sG (vI (p3)) (vI (p4))) rfl rfl rfl) rfl (fun u77=>(uQ [([2],[]),([6],[]),([6],[]),([4],[]),([6],[]),([6],[]),([4],[]),([4],[]),([4],[])] rfl)) fun u77=>JR.loud rfl rfl rfl (iR 7 bG rfl rfl rfl (cC (aG.res 0 rfl) bG) rfl rfl rfl rfl j26 j34 rfl) rfl (fun u78=>(uQ [([2],[]),([6],[]),([6],[]),([4],[]),([4],[]),([4],[])] rfl)) fun u78=>JR.loud rfl rfl rfl (sK (j:=p2) 7 bG rfl rfl rfl (cC (aG.res 1 rfl) bG) rfl rfl rfl rfl j29 j37 rfl j38) rfl (fun u79=>(uQ [([4],[]),([4],[])] rfl)) fun u79=>dW (cD 7 rfl) fun hl80=>?_
 refine bO rfl (bF.cons 6 rfl .nil) .nil (fK 0 rfl rfl rfl rfl rfl j39.1 (by have q1:=j39.2;have q2:=hl80;(try simp only[List.length_set]at q1);(try simp only[List.length_set]at q2);(try simp only[List.length_set]);omega)) (XT rfl) ?_
 refine dW (wR (k:=p2) (j:=p3) 7 rfl (by omega) ⟨j39.1,by first|exact j39.2|simpa using j39.2⟩) fun ho81=>?_
 refine Bl rfl rfl rfl (vE 6 7 ⟨j39.1,by first|exact j39.2|simpa using j39.2⟩ rfl rfl rfl rfl (by simp) ho81 rfl) (fun x82=>(uQ [([4],[])] rfl)) fun x82=>?_
 refine cR 24 rfl rfl<|b_ (cD 7 rfl) fun hl83=>?_
 refine aD (fK 6 rfl rfl rfl rfl rfl j43.1 (by have q1:=j43.2;have q2:=hl83;(try simp only[List.length_set]at q1);(try simp only[List.length_set]at q2);(try simp only[List.length_set]);omega)) rfl ?_
 refine b_ (qE 7 (k:=p3) rfl ⟨j43.1,by first|exact j43.2|simpa using j43.2⟩) fun ho84=>?_
 refine jH 6 7 ⟨j43.1,by first|exact j43.2|simpa using j43.2⟩ rfl rfl rfl rfl rfl (by simp) ho84 rfl ?_
 refine fJ ?_
 cases h
 exact Bi (List.set (List.set w5 (Int.toNat p2) u78) (Int.toNat p3) u79) rfl rfl .normal (.inr rfl) (bF.ix [6,7] rfl rfl) aF.nil
end
section
def oM (p1:gA) (a6:d_):Option nS:=
 some ((p1.1,a6))
def iW (U:Nat) (p0:wM) (p1:gA) (a14:Int×d_) (ag13:(Int×d_)->Option nS) (a18:Bool):Option nS:=
 if a18=true then(ck (0<=a14.1∧a14.1<(List.length p0.2.1:Int)) (Option.bind (dC U (at' p0.2.1 a14.1) (List.length p1.2:Int)) fun r22=>(ck (0<=(wI .i64 (a14.1+(1:Int)))∧(wI .i64 (a14.1+(1:Int)))<(List.length p0.2.1:Int)) (Option.bind (dC U (at' p0.2.1 (wI .i64 (a14.1+(1:Int)))) (List.length p1.2:Int)) fun r26=>(Option.bind (nO U p0.2.2.1 a14.1) fun r29=>(Option.bind (dC U r29 (15:Int)) fun r32=>(Option.bind (jN U ((p0.1,p0.2.1,p0.2.2.1,p0.2.2.2.1,p0.2.2.2.2.1,p0.2.2.2.2.2)) ((p1.1,a14.2)) r22 r26 (wI .i64 ((1:Int)+r32))) fun r35=>(ag13 ((wI .i64 (a14.1+(2:Int))),r35)))))))))else(oM p1 (a14.2))
def lG (U:Nat) (p0:wM) (p1:gA) (a14:Int×d_) (ag13:(Int×d_)->Option nS):Option nS:=
 if(wI .i64 (a14.1+(1:Int)))<(List.length p0.2.1:Int)then(iW U p0 p1 a14 ag13 (decide (a14.1<(60:Int))))else(iW U p0 p1 a14 ag13 (false))
def hZ (U:Nat) (p0:wM) (p1:gA):Option nS:=
 bU (lG U p0 p1) U ((List.length p1.2:Int),p1.2)
theorem ND:aZ Tryz.prog 20:=Tryz.call20
theorem uH (U:Nat) {p0:wM} {p1:gA} (v0:Value)  (v1:Value)  (v2:Value)  (v3:Value)  (v4:Value)  (w5:iN) (r:(bM×d_)) (h:hZ U p0 p1=some r):
  AR Tryz.prog 20 #[Value.agg #[vI (p0.1),v0,v1,v2,vB (p0.2.2.2.2.1),vB (p0.2.2.2.2.2)],Value.agg #[v3,v4]] [Ar cU v3 p1.1,Ar dZ.raw v4 w5,i_ bX w5 p1.2] [Sl bP v0 p0.2.1,Sl bP v1 p0.2.2.1,Sl bP v2 p0.2.2.2.1] (fun x:IS=>Value.agg #[x.1,x.2.1]) (fun x l=>Ar cU x.1 r.1::Ar dZ.raw x.2.1 x.2.2::i_ bX x.2.2 r.2::l):=by
 refine AR.of (vs:=[Value.agg #[vI (p0.1),v0,v1,v2,vB (p0.2.2.2.2.1),vB (p0.2.2.2.2.2)],Value.agg #[v3,v4]]) Tryz.func20 rfl Tryz.ntmps20 rfl fun c=>?_
 unfold hZ at h
 refine aS<|aI (aK.box (cs:=[vI (p0.1),v0,v1,v2,vB (p0.2.2.2.2.1),vB (p0.2.2.2.2.2)]) rfl rfl) rfl fun b1=>aI (aK.box (cs:=[v3,v4]) rfl rfl) rfl fun b2=>aI (aK.alloc (cs:=[mG,mG]) rfl rfl) rfl fun b3=>aN<|aS<|cH rfl<|gE 1 rfl<|aD (jI rfl (bD (i:=4) (j:=5) rfl rfl bG) rfl) rfl<|aE rfl<|aN<|aM<|tO (B:=iN) (fun a6=>oM p1 a6=some r) (fun a6 b7=>[(3,vP b2),(4,vP b3)]) (fun a6 b7=>[dD b3 [mG,mG] 28,dD b2 [v3,v4] 28,Ar cU v3 p1.1,Ar dZ.raw v4 b7,i_ bX b7 a6]) (fun a6 b7=>[Sl bP v0 p0.2.1,Sl bP v1 p0.2.2.1,Sl bP v2 p0.2.2.2.1]) ?_ ?_
 ·refine aS<|aA rfl<|aE rfl<|aN<|aX<|De (B:=iN) (lG U p0 p1) (fun a14 b15=>[(2,vP b1),(3,vP b2),(4,vP b3),(5,vI (List.length p1.2:Int)),(6,vI (a14.1))]) (fun a14 b15=>[dD b3 [mG,mG] 28,dD b2 [v3,v4] 28,dD b1 [vI (p0.1),v0,v1,v2,vB (p0.2.2.2.2.1),vB (p0.2.2.2.2.2)] 24,Ar cU v3 p1.1,Ar dZ.raw v4 b15,i_ bX b15 a14.2]) (fun a14 b15=>[Sl bP v0 p0.2.1,Sl bP v1 p0.2.2.1,Sl bP v2 p0.2.2.2.1]) ((List.length p1.2:Int),p1.2) (w5) h SF (bF.refl _) (aF.refl _ _) ?_
  intro k16 a14 b15 h
  refine aM<|aM<|tO (B:=Unit) (fun a18=>iW U p0 p1 a14 (bU (lG U p0 p1) k16) a18=some r) (fun a18 b19=>[(2,vP b1),(3,vP b2),(4,vP b3),(5,vI (List.length p1.2:Int)),(6,vI (a14.1)),(20,vB (a18))]) (fun a18 b19=>[dD b3 [mG,mG] 28,dD b2 [v3,v4] 28,dD b1 [vI (p0.1),v0,v1,v2,vB (p0.2.2.2.2.1),vB (p0.2.2.2.2.2)] 24,Ar cU v3 p1.1,Ar dZ.raw v4 b15,i_ bX b15 a14.2]) (fun a18 b19=>[Sl bP v0 p0.2.1,Sl bP v1 p0.2.2.1,Sl bP v2 p0.2.2.2.1]) ?_ ?_
  ·refine aQ<|aA rfl<|dG rfl<|cH rfl<|gE 2 rfl<|jT (aG.fact 0 rfl) rfl<|dR rfl<|aA rfl ?_
   refine EV h rfl (fun _ h=>?_) fun _ h=>?_
   ·refine eQ rfl<|bT rfl (Kx rfl rfl) rfl<|lD rfl<|aN ?_
    exact lW (decide (a14.1<(60:Int))) () h SF rfl
   refine aT rfl<|aT rfl<|jU rfl<|aN ?_
   exact lW (false) () h SF rfl
  intro a18 b19 h
  refine Cb h rfl (fun _ h=>?_) fun _ h=>?_
  ·refine dV<|aM<|aX ?_
   refine JR.start [0,0,0,4,0,28,60,0,252,0,512,0,2048,7680,15872,0,65532,0,131072,0,1048572,2097148,4194300,8388607] 23 mixedOrders (by decide +kernel) ?_
   refine JR.open (by exact rfl) ?_
   refine kB 2 rfl<|kB 1 rfl<|cQ rfl<|kF 2 rfl<|bL rfl<|fL h fun j21 h=>bO rfl .nil (oF 0 rfl) (bN rfl rfl (aG.fact 0 rfl) rfl rfl j21) aO.z<|bO rfl .nil (oF 0 rfl) (dM rfl (aG.fact 0 rfl) rfl rfl rfl fC j21) aO.z<|bL rfl<|fE h fun r22 hr23 h=>JR.loud rfl rfl rfl (aK.callQ yL (eR U  r22 hr23) rfl .nil) rfl (fun x24=>(uQ [([1],[]),([2],[])] rfl)) fun x24=>oJ rfl (mI rfl rfl rfl rfl rfl)<|bO rfl (bF.cons 2 rfl .nil) .nil (nV 0 rfl rfl rfl rfl rfl) (aO.h (bF.ix [2] rfl rfl) .nil aO.z)<|oJ rfl (sM rfl)<|oJ rfl (wW rfl rfl)<|fL h fun j25 h=>bO rfl .nil (oF 0 rfl) (bN rfl rfl (aG.fact 0 rfl) rfl rfl j25) (aO.h .nil (oF 0 rfl) aO.z)<|bO rfl .nil (oF 0 rfl) (dM rfl (aG.fact 0 rfl) rfl rfl rfl fC j25) (aO.h .nil (oF 0 rfl) aO.z)<|oJ rfl (sM rfl)<|fE h fun r26 hr27 h=>JR.loud rfl rfl rfl (aK.callQ yL (eR U  r26 hr27) rfl .nil) rfl (fun x28=>(uQ [([1],[]),([2],[])] rfl)) fun x28=>oJ rfl (mI rfl rfl rfl rfl rfl)<|bO rfl (bF.cons 2 rfl .nil) .nil (nV 0 rfl rfl rfl rfl rfl) (aO.h (bF.ix [2] rfl rfl) .nil (aO.h (bF.ix [2] rfl rfl) .nil aO.z))<|oJ rfl (sM rfl)<|fE h fun r29 hr30 h=>JR.loud rfl rfl rfl (aK.callQ DT (uK U v1 r29 hr30) rfl (qC [1] rfl)) rfl (fun x31=>(uQ [([1],[]),([2],[])] rfl)) fun x31=>fE h fun r32 hr33 h=>JR.loud rfl rfl rfl (aK.callQ yL (eR U  r32 hr33) rfl .nil) rfl (fun x34=>(uQ [([1],[]),([2],[])] rfl)) fun x34=>oJ rfl (wW rfl rfl)<|cR 23 rfl rfl<|fE h fun r35 hr36 h=>aI (wS (Min:=[Ar dZ.raw v4 b15,i_ bX b15 a14.2]) (Mr:=[dD b3 [mG,mG] 28,dD b2 [v3,v4] 28,dD b1 [vI (p0.1),v0,v1,v2,vB (p0.2.2.2.2.1),vB (p0.2.2.2.2.2)] 24,Ar cU v3 p1.1]) NI (uG U v0 v1 v2 v3 v4 b15 r35 hr36) rfl (bF.ix [4,5,0,1,2,3] rfl rfl) (aF.cons (aG.fact 0 rfl) (aF.cons (aG.fact 1 rfl) (aF.cons (aG.fact 2 rfl) (aF.cons (cC (aG.res 3 rfl) eL) .nil)))) (fun _ _=>rfl)) rfl fun x37=>fJ<|qB<|aQ<|aA rfl<|dG rfl<|aE rfl<|aN ?_
   exact mH ((wI .i64 (a14.1+(2:Int))),r35) (x37) h SF (bF.ix [2,3,4,5,0,1] rfl rfl) (aF.refl _ _)
  refine h_ ?_
  exact dL (a14.2) (b15) h SF (bF.ix [0,1,3,4,5] rfl rfl) (aF.refl _ _)
 intro a6 b7 h
 unfold oM at h
 refine aS<|dQ 1 rfl<|b_ (Know.one ((cC (aG.res 2 rfl) eL))) fun ho8=>b_ (Know.one (aG.sl (bD (i:=3) (j:=4) rfl rfl bG))) fun ho9=>bZ 0 (vs:=[v3,v4]) rfl rfl (l_ ho8 (l_ ho9 rfl)) rfl rfl rfl<|aN<|aU ?_
 cases h
 exact mX (v3,v4,b7) rfl rfl (RV.cell 0 rfl rfl rfl rfl) (bF.ix [2,3,4] rfl rfl) aF.nil
end
section
def kP (r3:Int) (a13:bM):Option nS:=
 some ((a13,(List.replicate (Int.toNat (wI .i64 ((1:Int)+r3))) ([]:eC))))
def nJ (a21:Int×bM) (ag20:(Int×bM)->Option nS) (a32:Int):Option nS:=
 ck ((List.length a21.2:Int)+(List.length ([a32]):Int)<=1099511627) (ag20 ((wI .i64 (a21.1+(1:Int))),(a21.2++[a32])))
def iD (ag40:gL->Option nS) (a47:fO):Option nS:=
 ag40 (a47.1,(wI .i64 (a47.2+(1:Int))))
def iF (a21:Int×bM) (ag20:(Int×bM)->Option nS) (a41:fO) (ag40:gL->Option nS):Option nS:=
 if a41.2<a21.1 then(ck (0<=a41.2∧a41.2<(List.length a21.2:Int)) (if(at' a21.2 a41.2)=a41.1 then(ck ((256:Int)≠0) (iD ag40 ((Int.tmod (wI .i64 (a41.1+(1:Int))) (256:Int)),(-1:Int))))else(iD ag40 (a41.1,a41.2))))else(nJ a21 ag20 (a41.1))
def fS (U:Nat) (p0:wM) (r3:Int) (a21:Int×bM) (ag20:(Int×bM)->Option nS):Option nS:=
 if a21.1<(wI .i64 ((1:Int)+r3))then(Option.bind (nO U p0.2.2.2.1 a21.1) fun r25=>(Option.bind (dC U r25 (256:Int)) fun r28=>(bU (iF a21 ag20) U (r28,(0:Int)))))else(kP r3 (a21.2))
def iZ (U:Nat) (p0:wM) (p1:Int):Option nS:=
 Option.bind (dC U (wI .i64 (p0.1 - (1:Int))) p1) fun r3=>(ck (0<=(wI .i64 ((1:Int)+r3))∧(wI .i64 ((1:Int)+r3))<=1099511627) (bU (fS U p0 r3) U ((0:Int),([]:bM))))
theorem NE:aZ Tryz.prog 21:=Tryz.call21
theorem sZ (U:Nat) {p0:wM} {p1:Int} (v0:Value)  (v1:Value)  (v2:Value) (r:(bM×d_)) (h:iZ U p0 p1=some r):
  bA Tryz.prog 21 #[Value.agg #[vI (p0.1),v0,v1,v2,vB (p0.2.2.2.2.1),vB (p0.2.2.2.2.2)],vI (p1)] [Sl bP v0 p0.2.1,Sl bP v1 p0.2.2.1,Sl bP v2 p0.2.2.2.1] (fun x:IS=>Value.agg #[x.1,x.2.1]) (fun x l=>Ar cU x.1 r.1::Ar dZ.raw x.2.1 x.2.2::i_ bX x.2.2 r.2::l) (fun _ l=>l):=by
 refine bA.of Tryz.func21 rfl Tryz.ntmps21 rfl fun c=>?_
 refine aS<|aI (aK.box (cs:=[vI (p0.1),v0,v1,v2,vB (p0.2.2.2.2.1),vB (p0.2.2.2.2.2)]) rfl rfl) rfl fun b1=>aI (aK.alloc (cs:=[mG,mG]) rfl rfl) rfl fun b2=>aN<|aS<|cH rfl<|gE 1 rfl<|aD (rP rfl rfl) rfl<|aA rfl<|fE h fun r3 w4 h=>aI (aK.callQ yL (eR U  r3 w4) rfl .nil) rfl fun x5=>dG rfl<|aE rfl<|aN<|aS<|aA rfl<|fL h fun j6 h=>oH (nG bX (Int.toNat (wI .i64 ((1:Int)+r3))))<|aI (pZ (e:=dZ.raw) (mG) rfl rfl rfl rfl j6 rfl rfl rfl) rfl fun u7=>b_ (Know.one (aG.sl (bD (i:=0) (j:=1) rfl rfl bG))) fun ho8=>?_
 refine aD (Tz (r:=Value.agg #[mG,u7]) rfl (by intro w;simp[Instr.build,Instr.fill,gZ,fT,eW,g_,hJ,fU,jC,mT ho8])) rfl ?_
 refine aI (aK.alloc (cs:=[mG,mG]) rfl rfl) rfl fun b9=>b_ (Know.one (aG.sl (bD (i:=1) (j:=2) rfl rfl bG))) fun ho10=>bZ 0 (vs:=[mG,u7]) rfl rfl (l_ rfl (l_ ho10 rfl)) rfl rfl rfl<|aN<|aM<|yX (B:=Value) (fun a13=>kP r3 a13=some r) (fun a13 b14=>[(4,vP b2),(6,vP b9)]) (fun a13 b14=>[dD b9 [b14,u7] 28,Ar dZ.raw u7 (List.replicate (Int.toNat (wI .i64 ((1:Int)+r3))) (mG)),i_ bX (List.replicate (Int.toNat (wI .i64 ((1:Int)+r3))) (mG)) (List.replicate (Int.toNat (wI .i64 ((1:Int)+r3))) ([]:eC)),dD b2 [mG,mG] 28,Ar cU b14 a13]) ?_ ?_
 ·refine aS<|aE rfl<|aN<|aX<|oH (rM cU)<|gG (B:=Value) (fS U p0 r3) (fun a21 b22=>[(2,vP b1),(4,vP b2),(5,vI (wI .i64 ((1:Int)+r3))),(6,vP b9),(7,vI (a21.1))]) (fun a21 b22=>[dD b9 [b22,u7] 28,Ar dZ.raw u7 (List.replicate (Int.toNat (wI .i64 ((1:Int)+r3))) (mG)),i_ bX (List.replicate (Int.toNat (wI .i64 ((1:Int)+r3))) (mG)) (List.replicate (Int.toNat (wI .i64 ((1:Int)+r3))) ([]:eC)),dD b2 [mG,mG] 28,dD b1 [vI (p0.1),v0,v1,v2,vB (p0.2.2.2.2.1),vB (p0.2.2.2.2.2)] 24,Ar cU b22 a21.2]) ((0:Int),([]:bM)) (mG) h SF (bF.ix [1,2,3,4,5,0] rfl rfl) ?_
  intro k23 a21 b22 h
  refine aM<|aS<|aA rfl<|aA rfl<|dR rfl<|aN ?_
  refine fM h rfl (fun h=>?_) fun h=>?_
  ·refine dV<|aM<|aX<|aS<|cH rfl<|gE 4 rfl<|aA rfl<|fE h fun r25 w26 h=>aI (aK.callQ DT (uK U v2 r25 w26) rfl (qC [2] rfl)) rfl fun x27=>fE h fun r28 w29 h=>aI (aK.callQ yL (eR U  r28 w29) rfl .nil) rfl fun x30=>aE rfl<|aN<|aM<|jS (fun a32=>nJ a21 (bU (fS U p0 r3) k23) a32=some r) (fun a32 b33=>[(2,vP b1),(4,vP b2),(5,vI (wI .i64 ((1:Int)+r3))),(6,vP b9),(7,vI (a21.1)),(8,vI (a32))]) (fun a32 b33=>[dD b9 [b22,u7] 28,Ar dZ.raw u7 (List.replicate (Int.toNat (wI .i64 ((1:Int)+r3))) (mG)),i_ bX (List.replicate (Int.toNat (wI .i64 ((1:Int)+r3))) (mG)) (List.replicate (Int.toNat (wI .i64 ((1:Int)+r3))) ([]:eC)),dD b2 [mG,mG] 28,dD b1 [vI (p0.1),v0,v1,v2,vB (p0.2.2.2.2.1),vB (p0.2.2.2.2.2)] 24,Ar cU b22 a21.2]) ?_ ?_
   ·refine aS<|aE rfl<|aN<|aX<|gG (iF a21 (bU (fS U p0 r3) k23)) (fun a41 b42=>[(2,vP b1),(4,vP b2),(5,vI (wI .i64 ((1:Int)+r3))),(6,vP b9),(7,vI (a21.1)),(8,vI (a41.1)),(9,vI (a41.2))]) (fun a41 b42=>[dD b9 [b22,u7] 28,Ar dZ.raw u7 (List.replicate (Int.toNat (wI .i64 ((1:Int)+r3))) (mG)),i_ bX (List.replicate (Int.toNat (wI .i64 ((1:Int)+r3))) (mG)) (List.replicate (Int.toNat (wI .i64 ((1:Int)+r3))) ([]:eC)),dD b2 [mG,mG] 28,dD b1 [vI (p0.1),v0,v1,v2,vB (p0.2.2.2.2.1),vB (p0.2.2.2.2.2)] 24,Ar cU b22 a21.2]) (r28,(0:Int)) () h SF (bF.refl _) ?_
    intro k43 a41 b42 h
    refine aM<|aS<|aA rfl<|aA rfl<|dR rfl<|aN ?_
    refine fM h rfl (fun h=>?_) fun h=>?_
    ·refine dV<|aM<|jS (fun a47=>iD (bU (iF a21 (bU (fS U p0 r3) k23)) k43) a47=some r) (fun a47 b48=>[(2,vP b1),(4,vP b2),(5,vI (wI .i64 ((1:Int)+r3))),(6,vP b9),(7,vI (a21.1)),(8,vI (a47.1)),(9,vI (a47.2))]) (fun a47 b48=>[dD b9 [b22,u7] 28,Ar dZ.raw u7 (List.replicate (Int.toNat (wI .i64 ((1:Int)+r3))) (mG)),i_ bX (List.replicate (Int.toNat (wI .i64 ((1:Int)+r3))) (mG)) (List.replicate (Int.toNat (wI .i64 ((1:Int)+r3))) ([]:eC)),dD b2 [mG,mG] 28,dD b1 [vI (p0.1),v0,v1,v2,vB (p0.2.2.2.2.1),vB (p0.2.2.2.2.2)] 24,Ar cU b22 a21.2]) ?_ ?_
     ·refine aX<|aS<|cH rfl<|gE 0 rfl<|aA rfl<|fL h fun j49 h=>aD (bN rfl rfl (cC (aG.res 5 rfl) eL) rfl rfl j49) rfl<|aD (dM rfl (cC (aG.res 5 rfl) eL) rfl rfl rfl fC j49) rfl<|aA rfl<|cN rfl<|aN ?_
      refine fM h rfl (fun h=>?_) fun h=>?_
      ·refine aQ<|aA rfl<|dG rfl<|fL h fun j51 h=>aD (Nu rfl rfl j51) rfl<|aE rfl<|aE rfl<|fJ<|qB ?_
       exact lW ((Int.tmod (wI .i64 (a41.1+(1:Int))) (256:Int)),(-1:Int)) () h SF rfl
      refine e_<|qB ?_
      exact lW (a41.1,a41.2) () h SF rfl
     intro a47 b48 h
     unfold iD at h
     refine aQ<|aA rfl<|dG rfl<|aE rfl<|aN ?_
     exact Bf (a47.1,(wI .i64 (a47.2+(1:Int)))) () h SF rfl
    refine h_ ?_
    exact lW (a41.1) () h SF rfl
   intro a32 b33 h
   refine aQ<|cH rfl<|gE 0 rfl<|aA rfl<|aI (eN (e:=cU) ([a32]) [(0,vI (a32))] rfl rfl rfl rfl (wA (vI (a32)) rfl) rfl rfl rfl) rfl fun u34=>fL h fun j36 h=>aI (nU 6 eL rfl rfl rfl (cC (aG.res 0 rfl) eL) rfl rfl rfl rfl j36 rfl) rfl fun u35=>cH rfl<|b_ (Know.one ((cC (aG.res 6 rfl) eL))) fun ho37=>Bj 1 rfl rfl ho37 rfl rfl rfl<|fJ<|qB<|aQ<|aA rfl<|dG rfl<|aE rfl<|aN ?_
   exact mH ((wI .i64 (a21.1+(1:Int))),(a21.2++[a32])) (u35) h SF (bF.ix [1,2,3,4,5,6] rfl rfl) (aF.refl _ _)
  refine h_ ?_
  exact dL (a21.2) (b22) h SF (bF.ix [0,1,2,3,5] rfl rfl) (aF.refl _ _)
 intro a13 b14 h
 unfold kP at h
 refine aS<|dQ 0 rfl<|b_ (Know.one ((cC (aG.res 4 rfl) eL))) fun ho15=>b_ (Know.one (aG.sl (bD (i:=1) (j:=2) rfl rfl bG))) fun ho16=>bZ 3 (vs:=[b14,u7]) rfl rfl (l_ ho15 (l_ ho16 rfl)) rfl rfl rfl<|aN<|aU ?_
 cases h
 exact mX (b14,u7,(List.replicate (Int.toNat (wI .i64 ((1:Int)+r3))) (mG))) rfl rfl (RV.cell 3 rfl rfl rfl rfl) (bF.ix [4,1,2] rfl rfl) aF.nil
end
section
def lE (r3:(bM×d_)) (a11:d_):Option nS:=
 some ((r3.1,a11))
def oL (U:Nat) (p0:wM) (r3:(bM×d_)) (a19:Int×d_) (ag18:(Int×d_)->Option nS):Option nS:=
 if a19.1<(List.length a19.2:Int)then(Option.bind (nO U p0.2.1 (wI .i64 (a19.1 - (1:Int)))) fun r23=>(Option.bind (dC U r23 a19.1) fun r26=>(Option.bind (nO U p0.2.2.1 (wI .i64 (a19.1 - (1:Int)))) fun r29=>(Option.bind (dC U r29 (15:Int)) fun r32=>(Option.bind (jN U ((p0.1,p0.2.1,p0.2.2.1,p0.2.2.2.1,p0.2.2.2.2.1,p0.2.2.2.2.2)) ((r3.1,a19.2)) r26 a19.1 (wI .i64 ((1:Int)+r32))) fun r35=>(ag18 ((wI .i64 (a19.1+(1:Int))),r35)))))))else(lE r3 (a19.2))
def mC (U:Nat) (p0:wM) (p1:Int):Option nS:=
 Option.bind (iZ U ((p0.1,p0.2.1,p0.2.2.1,p0.2.2.2.1,p0.2.2.2.2.1,p0.2.2.2.2.2)) p1) fun r3=>(bU (oL U p0 r3) U ((1:Int),r3.2))
theorem TQ:aZ Tryz.prog 49:=Tryz.call49
theorem Ba (U:Nat) {p0:wM} {p1:Int} (v0:Value)  (v1:Value)  (v2:Value) (r:(bM×d_)) (h:mC U p0 p1=some r):
  bA Tryz.prog 49 #[Value.agg #[vI (p0.1),v0,v1,v2,vB (p0.2.2.2.2.1),vB (p0.2.2.2.2.2)],vI (p1)] [Sl bP v0 p0.2.1,Sl bP v1 p0.2.2.1,Sl bP v2 p0.2.2.2.1] (fun x:IS=>Value.agg #[x.1,x.2.1]) (fun x l=>Ar cU x.1 r.1::Ar dZ.raw x.2.1 x.2.2::i_ bX x.2.2 r.2::l) (fun _ l=>l):=by
 refine bA.of Tryz.func49 rfl Tryz.ntmps49 rfl fun c=>?_
 refine aS<|aI (aK.box (cs:=[vI (p0.1),v0,v1,v2,vB (p0.2.2.2.2.1),vB (p0.2.2.2.2.2)]) rfl rfl) rfl fun b1=>aI (aK.alloc (cs:=[mG,mG]) rfl rfl) rfl fun b2=>aN<|aS<|dQ 1 rfl<|aA rfl<|fE h fun r3 w4 h=>aI (aK.callQ NE (sZ U v0 v1 v2 r3 w4) rfl (qC [0,1,2] rfl)) rfl fun x5=>aI (aK.alloc (cs:=[mG,mG]) rfl rfl) rfl fun b6=>b_ (Know.one ((cC (aG.res 1 rfl) eL))) fun ho7=>b_ (Know.one (aG.sl (bD (i:=2) (j:=3) rfl rfl bG))) fun ho8=>bZ 0 (vs:=[x5.1,x5.2.1]) rfl rfl (l_ ho7 (l_ ho8 rfl)) rfl rfl rfl<|aN<|aM<|yX (B:=iN) (fun a11=>lE r3 a11=some r) (fun a11 b12=>[(4,vP b2),(5,vP b6)]) (fun a11 b12=>[dD b6 [x5.1,x5.2.1] 28,Ar cU x5.1 r3.1,Ar dZ.raw x5.2.1 b12,i_ bX b12 a11,dD b2 [mG,mG] 28]) ?_ ?_
 ·refine aS<|aE rfl<|aN<|aX<|gG (B:=iN) (oL U p0 r3) (fun a19 b20=>[(2,vP b1),(4,vP b2),(5,vP b6),(6,vI (a19.1))]) (fun a19 b20=>[dD b6 [x5.1,x5.2.1] 28,Ar cU x5.1 r3.1,Ar dZ.raw x5.2.1 b20,i_ bX b20 a19.2,dD b2 [mG,mG] 28,dD b1 [vI (p0.1),v0,v1,v2,vB (p0.2.2.2.2.1),vB (p0.2.2.2.2.2)] 24]) ((1:Int),r3.2) (x5.2.2) h SF (bF.refl _) ?_
  intro k21 a19 b20 h
  refine aM<|aS<|aA rfl<|cH rfl<|gE 0 rfl<|aD (jI rfl (bD (i:=2) (j:=3) rfl rfl bG) rfl) rfl<|dR rfl<|aN ?_
  refine fM h rfl (fun h=>?_) fun h=>?_
  ·refine dV<|aM<|aX ?_
   refine JR.start [0,0,0,4,0,16,60,0,252,0,0,1024,0,4096,15868,32252,65020,131071] 17 mixedOrders (by decide +kernel) ?_
   refine JR.open (by exact rfl) ?_
   refine kB 5 rfl<|kB 0 rfl<|cQ rfl<|kF 5 rfl<|bL rfl<|oJ rfl (rP rfl rfl)<|fE h fun r23 w24 h=>JR.loud rfl rfl rfl (aK.callQ DT (uK U v0 r23 w24) rfl (qC [0] rfl)) rfl (fun x25=>(uQ [([0],[]),([5],[])] rfl)) fun x25=>oJ rfl (sM rfl)<|fE h fun r26 w27 h=>JR.loud rfl rfl rfl (aK.callQ yL (eR U  r26 w27) rfl .nil) rfl (fun x28=>(uQ [([0],[]),([5],[])] rfl)) fun x28=>oJ rfl (sM rfl)<|oJ rfl (mI rfl rfl rfl rfl rfl)<|bO rfl (bF.cons 5 rfl .nil) .nil (nV 0 rfl rfl rfl rfl rfl) (aO.h (bF.ix [5] rfl rfl) .nil (aO.h (bF.ix [5] rfl rfl) .nil aO.z))<|oJ rfl (sM rfl)<|oJ rfl (rP rfl rfl)<|fE h fun r29 w30 h=>JR.loud rfl rfl rfl (aK.callQ DT (uK U v1 r29 w30) rfl (qC [1] rfl)) rfl (fun x31=>(uQ [([0],[]),([5],[])] rfl)) fun x31=>fE h fun r32 w33 h=>JR.loud rfl rfl rfl (aK.callQ yL (eR U  r32 w33) rfl .nil) rfl (fun x34=>(uQ [([0],[]),([5],[])] rfl)) fun x34=>oJ rfl (wW rfl rfl)<|cR 17 rfl rfl<|fE h fun r35 w36 h=>aI (wS (Min:=[Ar dZ.raw x5.2.1 b20,i_ bX b20 a19.2]) (Mr:=[dD b6 [x5.1,x5.2.1] 28,Ar cU x5.1 r3.1,dD b2 [mG,mG] 28,dD b1 [vI (p0.1),v0,v1,v2,vB (p0.2.2.2.2.1),vB (p0.2.2.2.2.2)] 24]) NI (uG U v0 v1 v2 x5.1 x5.2.1 b20 r35 w36) rfl (bF.ix [2,3,0,1,4,5] rfl rfl) (aF.cons (aG.fact 0 rfl) (aF.cons (aG.fact 1 rfl) (aF.cons (aG.fact 2 rfl) (aF.cons (cC (aG.res 1 rfl) eL) .nil)))) (fun _ _=>rfl)) rfl fun x37=>fJ<|qB<|aQ<|aA rfl<|dG rfl<|aE rfl<|aN ?_
   exact mH ((wI .i64 (a19.1+(1:Int))),r35) (x37) h SF (bF.ix [2,3,0,1,4,5] rfl rfl) (aF.refl _ _)
  refine h_ ?_
  exact dL (a19.2) (b20) h SF (bF.ix [0,1,2,3,4] rfl rfl) (aF.refl _ _)
 intro a11 b12 h
 unfold lE at h
 refine aS<|dQ 0 rfl<|b_ (Know.one ((cC (aG.res 1 rfl) eL))) fun ho13=>b_ (Know.one (aG.sl (bD (i:=2) (j:=3) rfl rfl bG))) fun ho14=>bZ 4 (vs:=[x5.1,x5.2.1]) rfl rfl (l_ ho13 (l_ ho14 rfl)) rfl rfl rfl<|aN<|aU ?_
 cases h
 exact mX (x5.1,x5.2.1,b12) rfl rfl (RV.cell 4 rfl rfl rfl rfl) (bF.ix [1,2,3] rfl rfl) aF.nil
end
section
def iQ (U:Nat) (p0:wM) (p1:Int):Option nS:=
 Option.bind (mC U ((p0.1,p0.2.1,p0.2.2.1,p0.2.2.2.1,p0.2.2.2.2.1,p0.2.2.2.2.2)) p1) fun r3=>(Option.bind (hZ U ((p0.1,p0.2.1,p0.2.2.1,p0.2.2.2.1,p0.2.2.2.2.1,p0.2.2.2.2.2)) ((r3.1,r3.2))) fun r6=>(some ((r6.1,r6.2))))
theorem TL:aZ Tryz.prog 19:=Tryz.call19
theorem wK (U:Nat) {p0:wM} {p1:Int} (v0:Value)  (v1:Value)  (v2:Value) (r:(bM×d_)) (h:iQ U p0 p1=some r):
  bA Tryz.prog 19 #[Value.agg #[vI (p0.1),v0,v1,v2,vB (p0.2.2.2.2.1),vB (p0.2.2.2.2.2)],vI (p1)] [Sl bP v0 p0.2.1,Sl bP v1 p0.2.2.1,Sl bP v2 p0.2.2.2.1] (fun x:IS=>Value.agg #[x.1,x.2.1]) (fun x l=>Ar cU x.1 r.1::Ar dZ.raw x.2.1 x.2.2::i_ bX x.2.2 r.2::l) (fun _ l=>l):=by
 refine bA.of Tryz.func19 rfl Tryz.ntmps19 rfl fun c=>?_
 refine aS<|aI (aK.box (cs:=[vI (p0.1),v0,v1,v2,vB (p0.2.2.2.2.1),vB (p0.2.2.2.2.2)]) rfl rfl) rfl fun b1=>aI (aK.alloc (cs:=[mG,mG]) rfl rfl) rfl fun b2=>aN<|aM ?_
 refine JR.start [0,0,0,6,15,31] 4 mixedOrders (by decide +kernel) ?_
 refine JR.open (by exact rfl) ?_
 refine kB 1 rfl<|kB 1 rfl<|bL rfl<|fE h fun r3 w4 h=>JR.loud rfl rfl rfl (aK.callQ TQ (Ba U v0 v1 v2 r3 w4) rfl (qC [0,1,2] rfl)) rfl (fun x5=>(uQ [([4],[])] rfl)) fun x5=>cR 4 rfl rfl<|fE h fun r6 w7 h=>aI (wS (Min:=[Ar cU x5.1 r3.1,Ar dZ.raw x5.2.1 x5.2.2,i_ bX x5.2.2 r3.2]) (Mr:=[dD b2 [mG,mG] 28,dD b1 [vI (p0.1),v0,v1,v2,vB (p0.2.2.2.2.1),vB (p0.2.2.2.2.2)] 24]) ND (uH U v0 v1 v2 x5.1 x5.2.1 x5.2.2 r6 w7) rfl (bF.refl _) (qC [0,1,2] rfl) (fun _ _=>rfl)) rfl fun x8=>b_ (Know.one ((cC (aG.res 0 rfl) eL))) fun ho9=>b_ (Know.one (aG.sl (bD (i:=1) (j:=2) rfl rfl bG))) fun ho10=>bZ 3 (vs:=[x8.1,x8.2.1]) rfl rfl (l_ ho9 (l_ ho10 rfl)) rfl rfl rfl<|aN<|aU ?_
 cases h
 exact mX (x8.1,x8.2.1,x8.2.2) rfl rfl (RV.cell 3 rfl rfl rfl rfl) (bF.ix [0,1,2] rfl rfl) aF.nil
end
section
def nA  (a2:Unit):Option (Bool):=
 some (true)
def qW (p0:bM) (p1:bM) (a6:Int) (ag5:(Int)->Option (Bool)):Option (Bool):=
 if a6<(List.length p0:Int)then(ck (0<=a6∧a6<(List.length p0:Int)) (ck (0<=a6∧a6<(List.length p1:Int)) (if(at' p0 a6)≠(at' p1 a6)then(some (false))else(ag5 (wI .i64 (a6+(1:Int)))))))else(nA  (()))
def oA (U:Nat) (p0:bM) (p1:bM):Option (Bool):=
 if(List.length p0:Int)≠(List.length p1:Int)then(some (false))else(bU (qW p0 p1) U (0:Int))
theorem TO:aZ Tryz.prog 40:=Tryz.call40
theorem Cz (U:Nat) {p0:bM} {p1:bM} (v0:Value)  (v1:Value) (r:Bool) (h:oA U p0 p1=some r):
  bA Tryz.prog 40 #[v0,v1] [Sl bP v0 p0,Sl bP v1 p1] (fun x:Unit=>vB (r)) (fun x l=>l) (fun _ l=>l):=by
 refine bA.of Tryz.func40 rfl Tryz.ntmps40 rfl fun c=>?_
 refine aS<|aE rfl<|aN<|aM<|aS<|aA rfl<|jT (aG.fact 0 rfl) rfl<|aA rfl<|jT (aG.fact 1 rfl) rfl<|pC rfl<|aN ?_
 refine fM h rfl (fun h=>?_) fun h=>?_
 ·refine aS<|aE rfl<|aN<|aU<|aJ ?_
  cases h
  exact kW rfl
 refine dV<|aM<|jS (fun a2=>nA  a2=some r) (fun a2 b3=>[]) (fun a2 b3=>[]) ?_ ?_
 ·refine aS<|aE rfl<|aN<|aX<|gG (qW p0 p1) (fun a6 b7=>[(0,v0),(1,v1),(5,vI (a6))]) (fun a6 b7=>[]) (0:Int) () h SF (bF.refl _) ?_
  intro k8 a6 b7 h
  refine aM<|aS<|aA rfl<|aA rfl<|jT (aG.fact 0 rfl) rfl<|dR rfl<|aN ?_
  refine fM h rfl (fun h=>?_) fun h=>?_
  ·refine dV<|aM<|aX<|aM ?_
   refine JR.start [0,0,3,7,0,0,48,112,255] 8 mixedOrders (by decide +kernel) ?_
   refine JR.open (by exact rfl) ?_
   refine bL rfl<|bL rfl<|fL h fun j10 h=>bO rfl .nil (oF 0 rfl) (bN rfl rfl (aG.fact 0 rfl) rfl rfl j10) aO.z<|bO rfl .nil (oF 0 rfl) (dM rfl (aG.fact 0 rfl) rfl rfl rfl fC j10) aO.z<|bL rfl<|bL rfl<|fL h fun j11 h=>bO rfl .nil (oF 1 rfl) (bN rfl rfl (aG.fact 0 rfl) rfl rfl j11) aO.z<|bO rfl .nil (oF 1 rfl) (dM rfl (aG.fact 0 rfl) rfl rfl rfl fC j11) aO.z<|cR 8 rfl rfl<|pC rfl<|aN ?_
   refine fM h rfl (fun h=>?_) fun h=>?_
   ·refine aS<|aE rfl<|aN<|aU<|bR<|aJ<|aJ<|bR<|aJ ?_
    cases h
    exact kW rfl
   refine e_<|qB<|aQ<|aA rfl<|dG rfl<|aE rfl<|aN ?_
   exact Bf (wI .i64 (a6+(1:Int))) () h SF rfl
  refine h_ ?_
  exact lW () (()) h SF rfl
 intro a2 b3 h
 unfold nA at h
 refine aS<|aE rfl<|aN<|aU ?_
 cases h
 exact kW rfl
end
section
def kR (U:Nat) (p0:wM) (p1:Int):Option nS:=
 if(!p0.2.2.2.2.1)=true then(Option.bind (iQ U ((p0.1,p0.2.1,p0.2.2.1,p0.2.2.2.1,p0.2.2.2.2.1,p0.2.2.2.2.2)) p1) fun r4=>(some ((r4.1,r4.2))))else(Option.bind (iZ U ((p0.1,p0.2.1,p0.2.2.1,p0.2.2.2.1,p0.2.2.2.2.1,p0.2.2.2.2.2)) p1) fun r9=>(Option.bind (hZ U ((p0.1,p0.2.1,p0.2.2.1,p0.2.2.2.1,p0.2.2.2.2.1,p0.2.2.2.2.2)) ((r9.1,r9.2))) fun r12=>(some ((r12.1,r12.2)))))
theorem Vv:aZ Tryz.prog 5:=Tryz.call5
theorem BL (U:Nat) {p0:wM} {p1:Int} (v0:Value)  (v1:Value)  (v2:Value) (r:(bM×d_)) (h:kR U p0 p1=some r):
  bA Tryz.prog 5 #[Value.agg #[vI (p0.1),v0,v1,v2,vB (p0.2.2.2.2.1),vB (p0.2.2.2.2.2)],vI (p1)] [Sl bP v0 p0.2.1,Sl bP v1 p0.2.2.1,Sl bP v2 p0.2.2.2.1] (fun x:IS=>Value.agg #[x.1,x.2.1]) (fun x l=>Ar cU x.1 r.1::Ar dZ.raw x.2.1 x.2.2::i_ bX x.2.2 r.2::l) (fun _ l=>l):=by
 refine bA.of Tryz.func5 rfl Tryz.ntmps5 rfl fun c=>?_
 refine aS<|aI (aK.box (cs:=[vI (p0.1),v0,v1,v2,vB (p0.2.2.2.2.1),vB (p0.2.2.2.2.2)]) rfl rfl) rfl fun b1=>aI (aK.alloc (cs:=[mG,mG]) rfl rfl) rfl fun b2=>aN<|aM<|aS<|cH rfl<|gE 1 rfl<|aD (DJ rfl) rfl<|aN ?_
 refine Cb h rfl (fun _ h=>?_) fun _ h=>?_
 ·refine aS<|dQ 1 rfl<|aA rfl<|fE h fun r4 w5 h=>aI (aK.callQ TL (wK U v0 v1 v2 r4 w5) rfl (qC [0,1,2] rfl)) rfl fun x6=>b_ (Know.one ((cC (aG.res 0 rfl) eL))) fun ho7=>b_ (Know.one (aG.sl (bD (i:=1) (j:=2) rfl rfl bG))) fun ho8=>bZ 3 (vs:=[x6.1,x6.2.1]) rfl rfl (l_ ho7 (l_ ho8 rfl)) rfl rfl rfl<|aN<|aU<|aJ ?_
  cases h
  exact mX (x6.1,x6.2.1,x6.2.2) rfl rfl (RV.cell 3 rfl rfl rfl rfl) (bF.ix [0,1,2] rfl rfl) aF.nil
 refine dV<|aM ?_
 refine JR.start [0,0,0,6,15,31] 4 mixedOrders (by decide +kernel) ?_
 refine JR.open (by exact rfl) ?_
 refine kB 1 rfl<|kB 1 rfl<|bL rfl<|fE h fun r9 w10 h=>JR.loud rfl rfl rfl (aK.callQ NE (sZ U v0 v1 v2 r9 w10) rfl (qC [0,1,2] rfl)) rfl (fun x11=>(uQ [([4],[])] rfl)) fun x11=>cR 4 rfl rfl<|fE h fun r12 w13 h=>aI (wS (Min:=[Ar cU x11.1 r9.1,Ar dZ.raw x11.2.1 x11.2.2,i_ bX x11.2.2 r9.2]) (Mr:=[dD b2 [mG,mG] 28,dD b1 [vI (p0.1),v0,v1,v2,vB (p0.2.2.2.2.1),vB (p0.2.2.2.2.2)] 24]) ND (uH U v0 v1 v2 x11.1 x11.2.1 x11.2.2 r12 w13) rfl (bF.refl _) (qC [0,1,2] rfl) (fun _ _=>rfl)) rfl fun x14=>b_ (Know.one ((cC (aG.res 0 rfl) eL))) fun ho15=>b_ (Know.one (aG.sl (bD (i:=1) (j:=2) rfl rfl bG))) fun ho16=>bZ 3 (vs:=[x14.1,x14.2.1]) rfl rfl (l_ ho15 (l_ ho16 rfl)) rfl rfl rfl<|aN<|aU ?_
 cases h
 exact mX (x14.1,x14.2.1,x14.2.2) rfl rfl (RV.cell 3 rfl rfl rfl rfl) (bF.ix [0,1,2] rfl rfl) aF.nil
end
end Go.Proofs.YtlciiihigmgaiaaGreat
end
