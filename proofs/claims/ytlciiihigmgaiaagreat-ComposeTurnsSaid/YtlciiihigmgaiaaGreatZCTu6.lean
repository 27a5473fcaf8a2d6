/- Models and proofs. Conditions: none. -/
import Derived.Test.YtlciiihigmgaiaaGreatZCTu5
import Derived.Test.YtlciiihigmgaiaaGreatZCTu2
import Derived.Test.YtlciiihigmgaiaaGreatZCTu1
set_option linter.unusedVariables false
set_option linter.unusedSimpArgs false
set_option maxHeartbeats 4000000
set_option maxRecDepth 20000
section
set_option maxRecDepth 100000
namespace Go.Gx
open Go Go.Sx Go.Proofs Go.Proofs.YtlciiihigmgaiaaGreat
def yJ (l:List Nat):List GV:=l.map fun n=> .int .i64 (.ofNat n)
abbrev UH:Nat:=647805783445292858354124216707972104362217227416401506789551968550453547782289666464486871061303458493704209666026882594163169793806493880997404652969386840707963198018939744880
def mu0:List GV:=[.str UH 74]
def QM:GV:=(.agg [(.str 97 1),(.sl 336 0 1 6),(.sl 520 0 1 3)])
def II:OL:=[(336,336,.cells [(.str 120 1),(.int .i64 (.ofNat 1)),(.int .i64 (.ofNat 0)),(.int .i64 (.ofNat 3)),(.int .i64 (.ofNat 0)),(.int .i64 (.ofNat 0))]),
 (459,459,.cells (yJ [41,0,37,0,5,0,1,3,20,0,40,0,12,0,5,0])),
 (505,505,.cells (yJ [33,0,5,0,1,1])),
 (512,512,.cells [(.int .i64 (.ofNat 0)),(.sl 505 0 3 2)]),
 (520,520,.cells [(.str 28789 2),(.sl 459 0 8 2),(.sl 512 0 1 2)])]
set_option maxHeartbeats 4000000 in
theorem me0:Gp uJ gp 4000 6 mu0 [336,459,505,512,520]=some (QM,780,II):=by kernel_rfl
noncomputable def EH (f:Nat) (us:List GV) (H:GH):Option (GV×GH):=bif Nat.beq f 6 then(bif OV us (UH,74)then EQ QM 780 II H else OP f us H)else OP f us H
noncomputable def VX:GP:=⟨pB,gp.cat,EH,gp.exn⟩
theorem CR {T:Nat} {w0:dB (gl T)} {w:World} {ρ:dN} {H H':GH} {g:GV} {us:List GV} {vs:eG} {f:Nat} (h:EH f us H=some (g,H')) (R:eN w0 ρ H w) (hr:nI ρ us vs):lA Tryz.prog w0 ρ f vs w g H':=by
 unfold EH at h
 cases e1:Nat.beq f 6 with
 |false=>rw[e1]at h;exact Hk h R hr
 | true =>
  rw[e1]at h
  cases e2:OV us (UH,74)with
  |false=>rw[e2]at h;exact Hk h R hr
  |true=>
   rw[e2]at h;rw[Nat.eq_of_beq_eq_true e1]
   rw[Ho e2]at hr
   obtain⟨V,rfl,hv⟩:=hr.one
   obtain⟨x,rfl,e3,e4⟩:=hv.str_inv
   exact D_ (gs:=gl T) (gs2:=gl T) rfl rfl lH FA me0 Tryz.call6 (nI.cons (z_ e3 e4) .nil) h R
theorem Tm {T:Nat} (w0:dB (gl T)):JD Tryz.prog VX uJ.fns w0:=⟨(FA w0).tab,(FA w0).mixed,(FA w0).fns,fun h ρ w vs R hr=>CR h R hr,(FA w0).exn,(FA w0).cat⟩
abbrev UI:Nat:=712272115893357900056717403868120724801684719701724299276182496252039131930115384465000697525308180077002657679626628487685401639418085514115521743463493484126159263630349479954543729930864
def mu1:List GV:=[.str UI 79]
def Su:GV:=(.agg [(.str 98 1),(.sl 381 0 2 6),(.sl 508 0 1 3)])
def KD:OL:=[(381,381,.cells [(.str 120 1),(.int .i64 (.ofNat 1)),(.int .i64 (.ofNat 0)),(.int .i64 (.ofNat 3)),(.int .i64 (.ofNat 0)),(.int .i64 (.ofNat 0)),(.str 121 1),(.int .i64 (.ofNat 1)),(.int .i64 (.ofNat 0)),(.int .i64 (.ofNat 2)),(.int .i64 (.ofNat 0)),(.int .i64 (.ofNat 0))]),
 (448,448,.cells (yJ [36,0,5,1,32,0,5,0,1,3])),
 (492,492,.cells (yJ [32,0,5,0,1,3])),
 (500,500,.cells [(.int .i64 (.ofNat 1)),(.sl 492 0 3 2)]),
 (508,508,.cells [(.str 6645107 3),(.sl 448 0 5 2),(.sl 500 0 1 2)])]
set_option maxHeartbeats 4000000 in
theorem me1:Gp uJ VX 4000 6 mu1 [381,448,492,500,508]=some (Su,717,KD):=by kernel_rfl
noncomputable def EI (f:Nat) (us:List GV) (H:GH):Option (GV×GH):=bif Nat.beq f 6 then(bif OV us (UI,79)then EQ Su 717 KD H else EH f us H)else EH f us H
noncomputable def VY:GP:=⟨pB,gp.cat,EI,gp.exn⟩
theorem CS {T:Nat} {w0:dB (gl T)} {w:World} {ρ:dN} {H H':GH} {g:GV} {us:List GV} {vs:eG} {f:Nat} (h:EI f us H=some (g,H')) (R:eN w0 ρ H w) (hr:nI ρ us vs):lA Tryz.prog w0 ρ f vs w g H':=by
 unfold EI at h
 cases e1:Nat.beq f 6 with
 |false=>rw[e1]at h;exact CR h R hr
 | true =>
  rw[e1]at h
  cases e2:OV us (UI,79)with
  |false=>rw[e2]at h;exact CR h R hr
  |true=>
   rw[e2]at h;rw[Nat.eq_of_beq_eq_true e1]
   rw[Ho e2]at hr
   obtain⟨V,rfl,hv⟩:=hr.one
   obtain⟨x,rfl,e3,e4⟩:=hv.str_inv
   exact D_ (gs:=gl T) (gs2:=gl T) rfl rfl lH Tm me1 Tryz.call6 (nI.cons (z_ e3 e4) .nil) h R
theorem Tn {T:Nat} (w0:dB (gl T)):JD Tryz.prog VY uJ.fns w0:=⟨(FA w0).tab,(FA w0).mixed,(FA w0).fns,fun h ρ w vs R hr=>CS h R hr,(FA w0).exn,(FA w0).cat⟩
abbrev UJ:Nat:=25527409811890773712901309956580134777752467770370391054623098631591392843260948247781125873274301557467071387084239634849157823793842690769212604789760395870595881835571473047569099022029565063169543169668621643125716206830487188517071500897794410801955286158417300124333313633222834131006064
def mu2:List GV:=[.str UJ 122]
def Sv:GV:=(.agg [(.str 99 1),(.sl 468 0 2 6),(.sl 724 0 2 3)])
def KE:OL:=[(468,468,.cells [(.str 112 1),(.int .i64 (.ofNat 3)),(.int .i64 (.ofNat 0)),(.int .i64 (.ofNat 0)),(.int .i64 (.ofNat 0)),(.int .i64 (.ofNat 0)),(.str 122 1),(.int .i64 (.ofNat 2)),(.int .i64 (.ofNat 0)),(.int .i64 (.ofNat 0)),(.int .i64 (.ofNat 0)),(.int .i64 (.ofNat 0))]),
 (553,553,.cells (yJ [36,0,5,0,23,0,12,1])),
 (615,615,.cells (yJ [23,0,12,1])),
 (623,623,.cells [(.int .i64 (.ofNat 0)),(.sl 615 0 2 2)]),
 (681,681,.cells (yJ [36,0,5,1,10,0])),
 (708,708,.cells [(.int .i64 (.ofNat 10)),(.int .i64 (.ofNat 0))]),
 (716,716,.cells [(.int .i64 (.ofNat 1)),(.sl 708 0 1 2)]),
 (724,724,.cells [(.str 7170401 3),(.sl 553 0 4 2),(.sl 623 0 1 2),(.str 110386807469428 6),(.sl 681 0 3 2),(.sl 716 0 1 2)])]
set_option maxHeartbeats 4000000 in
theorem me2:Gp uJ VY 4000 6 mu2 [468,553,615,623,681,708,716,724]=some (Sv,990,KE):=by kernel_rfl
noncomputable def EJ (f:Nat) (us:List GV) (H:GH):Option (GV×GH):=bif Nat.beq f 6 then(bif OV us (UJ,122)then EQ Sv 990 KE H else EI f us H)else EI f us H
noncomputable def VZ:GP:=⟨pB,gp.cat,EJ,gp.exn⟩
theorem CU {T:Nat} {w0:dB (gl T)} {w:World} {ρ:dN} {H H':GH} {g:GV} {us:List GV} {vs:eG} {f:Nat} (h:EJ f us H=some (g,H')) (R:eN w0 ρ H w) (hr:nI ρ us vs):lA Tryz.prog w0 ρ f vs w g H':=by
 unfold EJ at h
 cases e1:Nat.beq f 6 with
 |false=>rw[e1]at h;exact CS h R hr
 | true =>
  rw[e1]at h
  cases e2:OV us (UJ,122)with
  |false=>rw[e2]at h;exact CS h R hr
  |true=>
   rw[e2]at h;rw[Nat.eq_of_beq_eq_true e1]
   rw[Ho e2]at hr
   obtain⟨V,rfl,hv⟩:=hr.one
   obtain⟨x,rfl,e3,e4⟩:=hv.str_inv
   exact D_ (gs:=gl T) (gs2:=gl T) rfl rfl lH Tn me2 Tryz.call6 (nI.cons (z_ e3 e4) .nil) h R
theorem To {T:Nat} (w0:dB (gl T)):JD Tryz.prog VZ uJ.fns w0:=⟨(FA w0).tab,(FA w0).mixed,(FA w0).fns,fun h ρ w vs R hr=>CU h R hr,(FA w0).exn,(FA w0).cat⟩
abbrev UK:Nat:=2093391912065131929342057284122509454556102196112985493859293902563874786137302649663025377300155875155924594752922687171275701081762132275685021938288
def mu3:List GV:=[.str UK 63]
def Po:GV:=(.agg [(.str 100 1),(.sl 265 0 1 6),(.sl 402 0 1 3)])
def IJ:OL:=[(265,265,.cells [(.str 119 1),(.int .i64 (.ofNat 2)),(.int .i64 (.ofNat 0)),(.int .i64 (.ofNat 0)),(.int .i64 (.ofNat 0)),(.int .i64 (.ofNat 0))]),
 (347,347,.cells (yJ [21,0,35,0,12,0,5,0])),
 (386,386,.cells (yJ [19,0,5,0])),
 (394,394,.cells [(.int .i64 (.ofNat 0)),(.sl 386 0 2 2)]),
 (402,402,.cells [(.str 1885957222 4),(.sl 347 0 4 2),(.sl 394 0 1 2)])]
set_option maxHeartbeats 4000000 in
theorem me3:Gp uJ VZ 4000 6 mu3 [265,347,386,394,402]=some (Po,562,IJ):=by kernel_rfl
noncomputable def Kt (f:Nat) (us:List GV) (H:GH):Option (GV×GH):=bif Nat.beq f 6 then(bif OV us (UK,63)then EQ Po 562 IJ H else EJ f us H)else EJ f us H
noncomputable def V_:GP:=⟨pB,gp.cat,Kt,gp.exn⟩
theorem MN {T:Nat} {w0:dB (gl T)} {w:World} {ρ:dN} {H H':GH} {g:GV} {us:List GV} {vs:eG} {f:Nat} (h:Kt f us H=some (g,H')) (R:eN w0 ρ H w) (hr:nI ρ us vs):lA Tryz.prog w0 ρ f vs w g H':=by
 unfold Kt at h
 cases e1:Nat.beq f 6 with
 |false=>rw[e1]at h;exact CU h R hr
 | true =>
  rw[e1]at h
  cases e2:OV us (UK,63)with
  |false=>rw[e2]at h;exact CU h R hr
  |true=>
   rw[e2]at h;rw[Nat.eq_of_beq_eq_true e1]
   rw[Ho e2]at hr
   obtain⟨V,rfl,hv⟩:=hr.one
   obtain⟨x,rfl,e3,e4⟩:=hv.str_inv
   exact D_ (gs:=gl T) (gs2:=gl T) rfl rfl lH To me3 Tryz.call6 (nI.cons (z_ e3 e4) .nil) h R
theorem VW {T:Nat} (w0:dB (gl T)):JD Tryz.prog V_ uJ.fns w0:=⟨(FA w0).tab,(FA w0).mixed,(FA w0).fns,fun h ρ w vs R hr=>MN h R hr,(FA w0).exn,(FA w0).cat⟩
noncomputable abbrev gp2:GP:=V_
theorem Yf {T:Nat} (w0:dB (gl T)):JD Tryz.prog gp2 uJ.fns w0:=VW w0
end Go.Gx
end
section
namespace Go.Gx
open Go Go.Sx Go.RowKit
section
structure Hd (n:Nat) (os:OL) (ρ:dN) (w:World) (S:Nat->Prop):Prop where
 live:∀h o,(qR n os).get h=some o->∃l,ρ h=some l∧S l.b∧sA ρ w l o
 inj:∀h h' o o' l l',(qR n os).get h=some o->(qR n os).get h'=some o'->ρ h=some l->ρ h'=some l'->l.b=l'.b->h=h'
 fresh:∀h,n<=h->ρ h=none
 dense:∀h,h<n->∃l,ρ h=some l
 vers:∀h v l,(qR n os).ver h=some v->ρ h=some l->∃lv,ρ v=some lv∧w.heap[l.b]? = some lv.x∧(qR n os).get h=some lv.o
theorem Hd.mono {n:Nat} {os:OL} {ρ:dN} {w w':World} {S S':Nat->Prop} (H:Hd n os ρ w S) (h:∀k,S k->k<w.heap.size->S' k∧w'.heap[k]? = w.heap[k]?):Hd n os ρ w' S':=by
 refine⟨fun k o hg=> ?_,H.inj,H.fresh,H.dense,fun k v l hv hl=> ?_⟩
 ·obtain⟨l,a,b,c⟩:=H.live k o hg
  obtain⟨d,e⟩:=h _ b c.lt
  exact⟨l,a,d,c.move (dN.le_refl ρ) e⟩
 ·obtain⟨lv,a,b,c⟩:=H.vers k v l hv hl
  obtain⟨o,ho⟩:=mQ.1 hv
  obtain⟨l',a',b',c'⟩:=H.live k o (eV.2 ⟨v,ho⟩)
  rw[hl]at a';cases a'
  exact⟨lv,a,by rw[(h _ b' c'.lt).2];exact b,c⟩
theorem eN.hd {gs:sU} {b:dB gs} {n:Nat} {os:OL} {ρ:dN} {w:World} {S:Nat->Prop} (R:eN b ρ (qR n os) w) (hS:∀k,b.mine k->S k):Hd n os ρ w S:=
 ⟨fun h o hg=>let ⟨l,a,b,c⟩:=R.live h o hg;⟨l,a,hS _ b,c⟩,R.inj,R.fresh,R.dense,R.vers⟩
def FP (n:Nat) (os:OL) (g:GV) (V:Value):aU where
 p w S:=∃ρ,Hd n os ρ w S∧Rl ρ g V
 mono:=fun⟨ρ,h,r⟩ k=>⟨ρ,h.mono k,r⟩
def Hd.O (n:Nat) (os:OL) (ρ:dN) (k:Nat):Prop:=∃h o l,(qR n os).get h=some o∧ρ h=some l∧l.b=k
def Hd.base (n:Nat) (os:OL) (ρ:dN) (w:World):dB QN:=⟨w,Hd.O n os ρ,fun _ h=>absurd h List.not_mem_nil⟩
theorem Hd.rel {n:Nat} {os:OL} {ρ:dN} {w:World} {S:Nat->Prop} (H:Hd n os ρ w S):eN (Hd.base n os ρ w) ρ (qR n os) w:=
 ⟨xE.refl w,fun h o hg=>let ⟨l,a,_,c⟩:=H.live h o hg;⟨l,a,.inr ⟨h,o,l,hg,a,rfl⟩,c⟩,H.inj,H.fresh,H.dense,H.vers,fun i v e=>by simp[Hd.base,QN]at e⟩
noncomputable def Ab (H:GH) (os:OL):Bool:=List.rec (motive:=fun _=>Bool) true (fun x _ ih=>Option.casesOn (motive:=fun _=>Bool) (H.ver x.1) false fun v=>bif Nat.beq v x.2.1 then ih else false) os
theorem Fc {H:GH}:∀{os:OL},Ab H os=true->∀x∈os,H.ver x.1=some x.2.1
 | [],_,x,hx=>by cases hx
 | y :: os, h, x, hx => by
  have h:Option.casesOn (motive:=fun _=>Bool) (H.ver y.1) false (fun v=>bif Nat.beq v y.2.1 then Ab H os else false)=true:=h
  cases hv:H.ver y.1 with
  |none=>rw[hv]at h;cases h
  | some v =>
   rw[hv]at h
   obtain⟨h1,h2⟩:=bI.1 (show(bif Nat.beq v y.2.1 then(some (Ab H os))else none)=some true by
    have h:(bif Nat.beq v y.2.1 then Ab H os else false)=true:=h
    cases e:Nat.beq v y.2.1<;>rw[e]at h<;>first|cases h|(show some (Ab H os)=some true;rw[show Ab H os=true from h]))
   rcases List.mem_cons.1 hx with rfl|hx
   ·rw[hv,Nat.eq_of_beq_eq_true h1]
   ·exact Fc (Option.some.inj h2) x hx
noncomputable def Tv (os:OL) (r:OR):Bool:=Option.casesOn (motive:=fun _=>Bool) r false fun r=>Option.casesOn (motive:=fun _=>Bool) r.1.asB false fun b=>bif b then Ab r.2 os else false
theorem vH {os:OL} {r:OR} (h:Tv os r=true):∃H',r=some (.bool true,H')∧Ab H' os=true:=by
 cases r with
 |none=>cases h
 | some r =>
  obtain⟨g,H'⟩:=r
  have h:Option.casesOn (motive:=fun _=>Bool) g.asB false (fun b=>bif b then Ab H' os else false)=true:=h
  cases hb:g.asB with
  |none=>rw[hb]at h;cases h
  |some b=>
   rw[hb]at h
   cases b with
   |false=>cases h
   |true=>exact⟨H',by rw[yC hb],h⟩
theorem sM {P:Program} {G:GP} {Fs:FT} (hG:∀w0:dB QN,JD P G Fs w0) {fuel f n:Nat} {os:OL} {g:GV} {V:Value} (hb:a_ P f) (h:∃H',Li G Fs fuel f [g] (qR n os)=some (.bool true,H')∧Ab H' os=true) {w:World} {S:Nat->Prop} (hw:(FP n os g V).p w S):
  Calls P f #[V] w fun e w'=>e = .returned (.bool true)∧Di w w':=by
 obtain⟨ρ,hd,hr⟩:=hw
 obtain⟨H',h1,h2⟩:=h
 rcases zQ hG h1 hd.rel (.cons hr .nil)with⟨v,w',ρ',hr',_⟩|⟨_,hc⟩
 ·have:=hb #[V] w
  rw[this]at hr';cases hr'
 ·refine hc.mono ?_
  rintro e w' ⟨v,ρ2,rfl,hle,R2,hv⟩
  refine⟨by rw[hv.bool_inv],R2.ext.os,R2.ext.tape,R2.ext.output,R2.ext.size,fun k hk=> ?_⟩
  by_cases ho:Hd.O n os ρ k
  ·obtain⟨i,o,l,hg,hl,rfl⟩:=ho
   obtain⟨v0,hv0⟩:=eV.1 hg
   have hm:(i,v0,o)∈os:=BZ ((vK os i).symm.trans hv0)
   obtain⟨lv,a,b,_⟩:=hd.vers i v0 l (mQ.2 ⟨o,hv0⟩) hl
   obtain⟨lv',a',b',_⟩:=R2.vers i v0 l (Fc h2 _ hm) (hle _ _ hl)
   have:lv=lv':=by have:=hle _ _ a;rw[a']at this;exact(Option.some.inj this).symm
   subst this
   exact b'.trans b.symm
  ·exact R2.ext.block k hk ho
end
section
def Vw (k:Nat) (x:Nat×Nat×GO):Nat×Nat×GO:=(k+x.1,k+x.2.1,Qg k x.2.2)
theorem Sq (n1 n2:Nat) (os1 os2:OL):(qR n1 os1).load n2 os2=qR (n1+n2) (os2.map (Vw n1)++os1):=by
 have key:∀os2:OL,EZ n1 (Jb os1) os2=Jb (os2.map (Vw n1)++os1):=fun os2=>by
  induction os2 with
  |nil=>rfl
  |cons x r ih=>show(EZ n1 (Jb os1) r).set _ _=_;rw[ih];rfl
 show(⟨n1+n2,EZ n1 (Jb os1) os2⟩:GH)=_
 rw[key];rfl
def NA (n:Nat) (os:OL) (g1 g2:GV) (V1 V2:Value):aU where
 p w S:=∃ρ,Hd n os ρ w S∧Rl ρ g1 V1∧Rl ρ g2 V2
 mono:=fun⟨ρ,h,r,r'⟩ k=>⟨ρ,h.mono k,r,r'⟩
theorem Hd.mineS {n:Nat} {os:OL} {ρ:dN} {w:World} {S:Nat->Prop} (H:Hd n os ρ w S) {k:Nat} (hk:(Hd.base n os ρ w).mine k):w.heap.size<=k∨S k:=by
 rcases hk with hk|⟨h,o,l,hg,hl,rfl⟩
 ·exact .inl hk
 ·obtain⟨l',hl',hS,_⟩:=H.live h o hg
  rw[hl]at hl';cases hl'
  exact .inr hS
theorem AA {n1 n2:Nat} {os1 os2:OL} {g1 g2:GV} {V1 V2:Value} {w w':World} {S S':Nat->Prop} {ρ2:dN} {gs:sU} {hb:yX gs w fun _=>False} (h:(FP n1 os1 g1 V1).p w S) (R2:eN (dB.of w hb) ρ2 (qR n2 os2) w') (h2:Rl ρ2 g2 V2) (hS:∀k,w.heap.size<=k∨S k->S' k):
  (NA (n1+n2) (os2.map (Vw n1)++os1) g1 (AV n1 g2) V1 V2).p w' S':=by
 obtain⟨ρ,hd,hr⟩:=h
 obtain⟨ρ',hle,R,hsh⟩:=hd.rel.join R2
 rw[Sq]at R
 exact⟨ρ',eN.hd R fun k hk=>hS k (hd.mineS hk),hr.le hle,hsh _ _ h2⟩
noncomputable def Tu (T:AP) (G:GP) (fuel f:Nat) (us:List GV) (n:Nat) (os:OL) (hs:List Nat):Option (GV×Nat×OL):=ob (uW T G fuel f us (qR n os)) fun r=>bif Ab r.2 os then ob (LK r.2 hs) fun os2=>some (r.1,r.2.n,os2)else none
theorem MR {P:Program} {T:AP} {G:GP} (hT:CG T G.tab) (hG:∀w0:dB QN,JD P G T.fns w0) {fuel f n n2:Nat} {us:List GV} {os os2:OL} {hs:List Nat} {g:GV} (hm:Tu T G fuel f us n os hs=some (g,n2,os2)) (hb:a_ P f) {w:World} {S:Nat->Prop} {ρ:dN} (hd:Hd n os ρ w S) {vs:eG} (hv:nI ρ us vs):
  Calls P f vs.toArray w fun e w'=>∃v ρ2,e = .returned v∧Di w w'∧eN (Hd.base n os ρ w) ρ2 (qR n2 os2) w'∧Rl ρ2 g v:=by
 obtain⟨r,hr,hm⟩:=aC.1 (show ob (uW T G fuel f us (qR n os)) _=some (g,n2,os2)from hm)
 obtain⟨hsame,hm⟩:=bI.1 hm
 obtain⟨os',hos,hm⟩:=aC.1 hm
 cases hm
 rw[oA hT]at hr
 rcases zQ hG (H':=r.2) (g:=r.1) hr hd.rel hv with⟨v,w',ρ',hr',_⟩|⟨_,hc⟩
 ·have:=hb vs.toArray w
  rw[this]at hr';cases hr'
 ·refine hc.mono ?_
  rintro e w' ⟨v,ρ2,rfl,hle,R2,hv2⟩
  refine⟨v,ρ2,rfl,⟨R2.ext.os,R2.ext.tape,R2.ext.output,R2.ext.size,fun k hk=> ?_⟩,R2.sub rfl fun h p hp=> ?_,hv2⟩
  ·by_cases ho:Hd.O n os ρ k
   ·obtain⟨i,o,l,hg,hl,rfl⟩:=ho
    obtain⟨v0,hv0⟩:=eV.1 hg
    have hm:(i,v0,o)∈os:=BZ ((vK os i).symm.trans hv0)
    obtain⟨lv,a,b,_⟩:=hd.vers i v0 l (mQ.2 ⟨o,hv0⟩) hl
    obtain⟨lv',a',b',_⟩:=R2.vers i v0 l (Fc hsame _ hm) (hle _ _ hl)
    have:lv=lv':=by have:=hle _ _ a;rw[a']at this;exact(Option.some.inj this).symm
    subst this
    exact b'.trans b.symm
   ·exact R2.ext.block k hk ho
  ·have:MX os2 h=some p:=(vK os2 h).symm.trans hp
   exact AE hos _ (BZ this)
theorem Cj {w w':World} {S:Nat->Prop} {l:List aU} (he:Di w w') (hl:∀q∈l,q.p w' fun k=>w.heap.size<=k∨S k):St ⟨w,S,fun _=>False⟩ [] l w':=
 ⟨⟨he.os,he.tape,he.output,he.size,fun k hk _=>he.block k hk⟩,fun _ _=>False,⟨fun i m hm=>by simp at hm,fun i k h=>h.elim,fun i j k h=>h.elim⟩,fun q hq=>aU.wide (hl q hq) fun k hk=>⟨hk.elim (fun h=> .inr (.inl h)) .inl,fun i h=>h.elim⟩⟩
end
end Go.Gx
end
section
namespace Go.Proofs.YtlciiihigmgaiaaGreat
open Go Go.Sx Go.Gx
set_option maxRecDepth 100000
abbrev gZ:=ByteArray×(Value×eP)×(Value×List (Int×(Value×eP)))
def kS (z:gZ):eP×List (Int×eP):=(z.2.1.2,z.2.2.2.map fun s=>(s.1,s.2.2))
abbrev HT:=Dv
abbrev GT:=List (eP×List (Int×eP))
def pL:ByteArray:=(ByteArray.mk #[112,114,111,103,114,97,109,32,97,59,10,118,97,114,32,120,32,58,32,48,32,46,46,32,51,59,10,114,117,108,101,32,117,112,58,32,120,32,60,32,51,32,38,38,32,97,108,108,40,113,46,120,32,62,61,32,120,41,32,45,62,32,120,32,58,61,32,120,32,43,32,49,59,10])
def w_:ByteArray:=(ByteArray.mk #[112,114,111,103,114,97,109,32,98,59,10,118,97,114,32,120,32,58,32,48,32,46,46,32,51,59,10,118,97,114,32,121,32,58,32,48,32,46,46,32,50,59,10,114,117,108,101,32,115,101,101,58,32,121,32,33,61,32,120,32,37,32,51,32,45,62,32,121,32,58,61,32,120,32,37,32,51,59,10])
def xA:ByteArray:=(ByteArray.mk #[112,114,111,103,114,97,109,32,99,59,10,118,97,114,32,112,32,58,32,112,111,114,116,59,10,118,97,114,32,122,32,58,32,98,111,111,108,59,10,114,117,108,101,32,97,105,109,58,32,112,32,33,61,32,102,105,114,115,116,40,113,46,122,41,32,45,62,32,112,32,58,61,32,102,105,114,115,116,40,113,46,122,41,59,10,114,117,108,101,32,116,117,114,110,101,100,58,32,122,32,33,61,32,114,111,111,116,32,45,62,32,122,32,58,61,32,114,111,111,116,59,10])
def pM:ByteArray:=(ByteArray.mk #[112,114,111,103,114,97,109,32,100,59,10,118,97,114,32,119,32,58,32,98,111,111,108,59,10,114,117,108,101,32,102,108,105,112,58,32,115,111,109,101,40,113,46,119,32,61,61,32,119,41,32,45,62,32,119,32,58,61,32,33,119,59,10])
def sP:ByteArray:=(ByteArray.mk #[97])
def sR:HT:=[((ByteArray.mk #[120]),(1:Int),(0:Int),(3:Int),(0:Int),(0:Int))]
def qG:GT:=[([(41,0),(37,0),(5,0),(1,3),(20,0),(40,0),(12,0),(5,0)],[(0,[(33,0),(5,0),(1,1)])])]
def Tw:Jn:=[((28789,2),[(41,0),(37,0),(5,0),(1,3),(20,0),(40,0),(12,0),(5,0)],[(0,[(33,0),(5,0),(1,1)])])]
def HB:ByteArray:=(ByteArray.mk #[98])
def Fa:HT:=[((ByteArray.mk #[120]),(1:Int),(0:Int),(3:Int),(0:Int),(0:Int)),((ByteArray.mk #[121]),(1:Int),(0:Int),(2:Int),(0:Int),(0:Int))]
def Cc:GT:=[([(36,0),(5,1),(32,0),(5,0),(1,3)],[(1,[(32,0),(5,0),(1,3)])])]
def Tx:Jn:=[((6645107,3),[(36,0),(5,1),(32,0),(5,0),(1,3)],[(1,[(32,0),(5,0),(1,3)])])]
def HC:ByteArray:=(ByteArray.mk #[99])
def Fb:HT:=[((ByteArray.mk #[112]),(3:Int),(0:Int),(0:Int),(0:Int),(0:Int)),((ByteArray.mk #[122]),(2:Int),(0:Int),(0:Int),(0:Int),(0:Int))]
def Cd:GT:=[([(36,0),(5,0),(23,0),(12,1)],[(0,[(23,0),(12,1)])]),([(36,0),(5,1),(10,0)],[(1,[(10,0)])])]
def Tz:Jn:=[((7170401,3),[(36,0),(5,0),(23,0),(12,1)],[(0,[(23,0),(12,1)])]),((110386807469428,6),[(36,0),(5,1),(10,0)],[(1,[(10,0)])])]
def sQ:ByteArray:=(ByteArray.mk #[100])
def sS:HT:=[((ByteArray.mk #[119]),(2:Int),(0:Int),(0:Int),(0:Int),(0:Int))]
def qH:GT:=[([(21,0),(35,0),(12,0),(5,0)],[(0,[(19,0),(5,0)])])]
def TA:Jn:=[((1885957222,4),[(21,0),(35,0),(12,0),(5,0)],[(0,[(19,0),(5,0)])])]
def C_:ByteArray:=(ByteArray.mk #[97])
def By:HT:=[((ByteArray.mk #[120]),(1:Int),(0:Int),(3:Int),(0:Int),(0:Int)),((ByteArray.mk #[119]),(2:Int),(0:Int),(0:Int),(0:Int),(0:Int)),((ByteArray.mk #[116,117,114,110]),(2:Int),(0:Int),(0:Int),(0:Int),(0:Int))]
def AF:GT:=[([(41,0),(19,0),(5,2),(41,0),(37,0),(5,0),(1,3),(20,0),(40,0),(12,0),(5,0)],[(0,[(33,0),(5,0),(1,1)]),(2,[(2,0)])]),([(41,0),(5,2),(21,0),(35,0),(12,1),(5,1)],[(1,[(19,0),(5,1)]),(2,[(3,0)])]),([(41,0),(37,0),(5,0),(1,3),(20,0),(40,0),(12,0),(5,0)],[(0,[(33,0),(5,0),(1,1)])]),([(21,0),(35,0),(12,1),(5,1)],[(1,[(19,0),(5,1)])])]
def TC:Jn:=[((3240053,3),[(41,0),(19,0),(5,2),(41,0),(37,0),(5,0),(1,3),(20,0),(40,0),(12,0),(5,0)],[(0,[(33,0),(5,0),(1,1)]),(2,[(2,0)])]),((212339354726,5),[(41,0),(5,2),(21,0),(35,0),(12,1),(5,1)],[(1,[(19,0),(5,1)]),(2,[(3,0)])]),((3305589,3),[(41,0),(37,0),(5,0),(1,3),(20,0),(40,0),(12,0),(5,0)],[(0,[(33,0),(5,0),(1,1)])]),((216634322022,5),[(21,0),(35,0),(12,1),(5,1)],[(1,[(19,0),(5,1)])])]
def VU:GV:=(.agg [(.str 97 1),(.sl 1770 0 3 6),(.sl 2219 0 4 3)])
def Pk:OL:=[(1770,1770,.cells [(.str 120 1),(.int .i64 (.ofNat 1)),(.int .i64 (.ofNat 0)),(.int .i64 (.ofNat 3)),(.int .i64 (.ofNat 0)),(.int .i64 (.ofNat 0)),(.str 119 1),(.int .i64 (.ofNat 2)),(.int .i64 (.ofNat 0)),(.int .i64 (.ofNat 0)),(.int .i64 (.ofNat 0)),(.int .i64 (.ofNat 0)),(.str 1852994932 4),(.int .i64 (.ofNat 2)),(.int .i64 (.ofNat 0)),(.int .i64 (.ofNat 0)),(.int .i64 (.ofNat 0)),(.int .i64 (.ofNat 0))]),
 (1892,1898,.cells [(.int .i64 (.ofNat 33)),(.int .i64 (.ofNat 0)),(.int .i64 (.ofNat 5)),(.int .i64 (.ofNat 0)),(.int .i64 (.ofNat 1)),(.int .i64 (.ofNat 1))]),
 (1911,1911,.cells [(.int .i64 (.ofNat 41)),(.int .i64 (.ofNat 0)),(.int .i64 (.ofNat 19)),(.int .i64 (.ofNat 0)),(.int .i64 (.ofNat 5)),(.int .i64 (.ofNat 2)),(.int .i64 (.ofNat 41)),(.int .i64 (.ofNat 0)),(.int .i64 (.ofNat 37)),(.int .i64 (.ofNat 0)),(.int .i64 (.ofNat 5)),(.int .i64 (.ofNat 0)),(.int .i64 (.ofNat 1)),(.int .i64 (.ofNat 3)),(.int .i64 (.ofNat 20)),(.int .i64 (.ofNat 0)),(.int .i64 (.ofNat 40)),(.int .i64 (.ofNat 0)),(.int .i64 (.ofNat 12)),(.int .i64 (.ofNat 0)),(.int .i64 (.ofNat 5)),(.int .i64 (.ofNat 0))]),
 (1913,1913,.cells [(.int .i64 (.ofNat 2)),(.int .i64 (.ofNat 0))]),
 (1915,1915,.cells [(.int .i64 (.ofNat 0)),(.sl 1892 0 3 2),(.int .i64 (.ofNat 2)),(.sl 1913 0 1 2)]),
 (1987,1993,.cells [(.int .i64 (.ofNat 19)),(.int .i64 (.ofNat 0)),(.int .i64 (.ofNat 5)),(.int .i64 (.ofNat 1))]),
 (2004,2004,.cells [(.int .i64 (.ofNat 41)),(.int .i64 (.ofNat 0)),(.int .i64 (.ofNat 5)),(.int .i64 (.ofNat 2)),(.int .i64 (.ofNat 21)),(.int .i64 (.ofNat 0)),(.int .i64 (.ofNat 35)),(.int .i64 (.ofNat 0)),(.int .i64 (.ofNat 12)),(.int .i64 (.ofNat 1)),(.int .i64 (.ofNat 5)),(.int .i64 (.ofNat 1))]),
 (2006,2006,.cells [(.int .i64 (.ofNat 3)),(.int .i64 (.ofNat 0))]),
 (2008,2008,.cells [(.int .i64 (.ofNat 1)),(.sl 1987 0 2 2),(.int .i64 (.ofNat 2)),(.sl 2006 0 1 2)]),
 (2076,2096,.cells [(.int .i64 (.ofNat 41)),(.int .i64 (.ofNat 0)),(.int .i64 (.ofNat 37)),(.int .i64 (.ofNat 0)),(.int .i64 (.ofNat 5)),(.int .i64 (.ofNat 0)),(.int .i64 (.ofNat 1)),(.int .i64 (.ofNat 3)),(.int .i64 (.ofNat 20)),(.int .i64 (.ofNat 0)),(.int .i64 (.ofNat 40)),(.int .i64 (.ofNat 0)),(.int .i64 (.ofNat 12)),(.int .i64 (.ofNat 0)),(.int .i64 (.ofNat 5)),(.int .i64 (.ofNat 0))]),
 (2121,2127,.cells [(.int .i64 (.ofNat 33)),(.int .i64 (.ofNat 0)),(.int .i64 (.ofNat 5)),(.int .i64 (.ofNat 0)),(.int .i64 (.ofNat 1)),(.int .i64 (.ofNat 1))]),
 (2131,2131,.cells [(.int .i64 (.ofNat 0)),(.sl 2121 0 3 2)]),
 (2175,2186,.cells [(.int .i64 (.ofNat 21)),(.int .i64 (.ofNat 0)),(.int .i64 (.ofNat 35)),(.int .i64 (.ofNat 0)),(.int .i64 (.ofNat 12)),(.int .i64 (.ofNat 1)),(.int .i64 (.ofNat 5)),(.int .i64 (.ofNat 1))]),
 (2204,2210,.cells [(.int .i64 (.ofNat 19)),(.int .i64 (.ofNat 0)),(.int .i64 (.ofNat 5)),(.int .i64 (.ofNat 1))]),
 (2212,2212,.cells [(.int .i64 (.ofNat 1)),(.sl 2204 0 2 2)]),
 (2219,2219,.cells [(.str 3240053 3),(.sl 1911 0 11 2),(.sl 1915 0 2 2),(.str 212339354726 5),(.sl 2004 0 6 2),(.sl 2008 0 2 2),(.str 3305589 3),(.sl 2076 0 8 2),(.sl 2131 0 1 2),(.str 216634322022 5),(.sl 2175 0 4 2),(.sl 2212 0 1 2)])]
def Yi:GV:=(.agg [(.str 100 1),(.sl 1045 0 1 6),(.sl 1182 0 1 3)])
def WM:OL:=[(1045,1045,.cells [(.str 119 1),(.int .i64 (.ofNat 2)),(.int .i64 (.ofNat 0)),(.int .i64 (.ofNat 0)),(.int .i64 (.ofNat 0)),(.int .i64 (.ofNat 0))]),
 (1127,1127,.cells [(.int .i64 (.ofNat 21)),(.int .i64 (.ofNat 0)),(.int .i64 (.ofNat 35)),(.int .i64 (.ofNat 0)),(.int .i64 (.ofNat 12)),(.int .i64 (.ofNat 0)),(.int .i64 (.ofNat 5)),(.int .i64 (.ofNat 0))]),
 (1166,1166,.cells [(.int .i64 (.ofNat 19)),(.int .i64 (.ofNat 0)),(.int .i64 (.ofNat 5)),(.int .i64 (.ofNat 0))]),
 (1174,1174,.cells [(.int .i64 (.ofNat 0)),(.sl 1166 0 2 2)]),
 (1182,1182,.cells [(.str 1885957222 4),(.sl 1127 0 4 2),(.sl 1174 0 1 2)]),
 (336,336,.cells [(.str 120 1),(.int .i64 (.ofNat 1)),(.int .i64 (.ofNat 0)),(.int .i64 (.ofNat 3)),(.int .i64 (.ofNat 0)),(.int .i64 (.ofNat 0))]),
 (459,459,.cells [(.int .i64 (.ofNat 41)),(.int .i64 (.ofNat 0)),(.int .i64 (.ofNat 37)),(.int .i64 (.ofNat 0)),(.int .i64 (.ofNat 5)),(.int .i64 (.ofNat 0)),(.int .i64 (.ofNat 1)),(.int .i64 (.ofNat 3)),(.int .i64 (.ofNat 20)),(.int .i64 (.ofNat 0)),(.int .i64 (.ofNat 40)),(.int .i64 (.ofNat 0)),(.int .i64 (.ofNat 12)),(.int .i64 (.ofNat 0)),(.int .i64 (.ofNat 5)),(.int .i64 (.ofNat 0))]),
 (505,505,.cells [(.int .i64 (.ofNat 33)),(.int .i64 (.ofNat 0)),(.int .i64 (.ofNat 5)),(.int .i64 (.ofNat 0)),(.int .i64 (.ofNat 1)),(.int .i64 (.ofNat 1))]),
 (512,512,.cells [(.int .i64 (.ofNat 0)),(.sl 505 0 3 2)]),
 (520,520,.cells [(.str 28789 2),(.sl 459 0 8 2),(.sl 512 0 1 2)])]
theorem Wa:AV 780 Po=Yi:=by kernel_rfl
theorem Wc:IJ.map (Vw 780)++II=WM:=by kernel_rfl
theorem Wb:Tu uJ JG 4000 16 [QM,Yi] 1342 WM [1770,1892,1911,1913,1915,1987,2004,2006,2008,2076,2121,2131,2175,2204,2212,2219]=some (.tup [VU,.int .i64 (.ofNat 0)],2433,Pk):=by kernel_rfl
def Yd:GV:=(.agg [(.str 98 1),(.sl 1976 0 2 6),(.sl 2204 0 2 3)])
def WN:OL:=[(1976,1976,.cells [(.str 120 1),(.int .i64 (.ofNat 1)),(.int .i64 (.ofNat 0)),(.int .i64 (.ofNat 3)),(.int .i64 (.ofNat 0)),(.int .i64 (.ofNat 0)),(.str 121 1),(.int .i64 (.ofNat 1)),(.int .i64 (.ofNat 0)),(.int .i64 (.ofNat 2)),(.int .i64 (.ofNat 0)),(.int .i64 (.ofNat 0))]),
 (2050,2070,.cells [(.int .i64 (.ofNat 41)),(.int .i64 (.ofNat 0)),(.int .i64 (.ofNat 37)),(.int .i64 (.ofNat 0)),(.int .i64 (.ofNat 5)),(.int .i64 (.ofNat 0)),(.int .i64 (.ofNat 1)),(.int .i64 (.ofNat 3)),(.int .i64 (.ofNat 20)),(.int .i64 (.ofNat 0)),(.int .i64 (.ofNat 40)),(.int .i64 (.ofNat 0)),(.int .i64 (.ofNat 12)),(.int .i64 (.ofNat 0)),(.int .i64 (.ofNat 5)),(.int .i64 (.ofNat 0))]),
 (2095,2101,.cells [(.int .i64 (.ofNat 33)),(.int .i64 (.ofNat 0)),(.int .i64 (.ofNat 5)),(.int .i64 (.ofNat 0)),(.int .i64 (.ofNat 1)),(.int .i64 (.ofNat 1))]),
 (2105,2105,.cells [(.int .i64 (.ofNat 0)),(.sl 2095 0 3 2)]),
 (2152,2163,.cells [(.int .i64 (.ofNat 36)),(.int .i64 (.ofNat 0)),(.int .i64 (.ofNat 5)),(.int .i64 (.ofNat 1)),(.int .i64 (.ofNat 32)),(.int .i64 (.ofNat 0)),(.int .i64 (.ofNat 5)),(.int .i64 (.ofNat 0)),(.int .i64 (.ofNat 1)),(.int .i64 (.ofNat 3))]),
 (2190,2196,.cells [(.int .i64 (.ofNat 32)),(.int .i64 (.ofNat 0)),(.int .i64 (.ofNat 5)),(.int .i64 (.ofNat 0)),(.int .i64 (.ofNat 1)),(.int .i64 (.ofNat 3))]),
 (2200,2200,.cells [(.int .i64 (.ofNat 1)),(.sl 2190 0 3 2)]),
 (2204,2204,.cells [(.str 28789 2),(.sl 2050 0 8 2),(.sl 2105 0 1 2),(.str 6645107 3),(.sl 2152 0 5 2),(.sl 2200 0 1 2)])]
def Ye:GV:=(.agg [(.str 100 1),(.sl 1983 0 3 6),(.sl 2211 0 3 3)])
def WO:OL:=[(1983,1983,.cells [(.str 112 1),(.int .i64 (.ofNat 3)),(.int .i64 (.ofNat 0)),(.int .i64 (.ofNat 0)),(.int .i64 (.ofNat 0)),(.int .i64 (.ofNat 0)),(.str 122 1),(.int .i64 (.ofNat 2)),(.int .i64 (.ofNat 0)),(.int .i64 (.ofNat 0)),(.int .i64 (.ofNat 0)),(.int .i64 (.ofNat 0)),(.str 119 1),(.int .i64 (.ofNat 2)),(.int .i64 (.ofNat 0)),(.int .i64 (.ofNat 0)),(.int .i64 (.ofNat 0)),(.int .i64 (.ofNat 0))]),
 (2032,2043,.cells [(.int .i64 (.ofNat 36)),(.int .i64 (.ofNat 0)),(.int .i64 (.ofNat 5)),(.int .i64 (.ofNat 0)),(.int .i64 (.ofNat 23)),(.int .i64 (.ofNat 0)),(.int .i64 (.ofNat 12)),(.int .i64 (.ofNat 1))]),
 (2061,2067,.cells [(.int .i64 (.ofNat 23)),(.int .i64 (.ofNat 0)),(.int .i64 (.ofNat 12)),(.int .i64 (.ofNat 1))]),
 (2069,2069,.cells [(.int .i64 (.ofNat 0)),(.sl 2061 0 2 2)]),
 (2106,2112,.cells [(.int .i64 (.ofNat 36)),(.int .i64 (.ofNat 0)),(.int .i64 (.ofNat 5)),(.int .i64 (.ofNat 1)),(.int .i64 (.ofNat 10)),(.int .i64 (.ofNat 0))]),
 (2125,2126,.cells [(.int .i64 (.ofNat 10)),(.int .i64 (.ofNat 0))]),
 (2130,2130,.cells [(.int .i64 (.ofNat 1)),(.sl 2125 0 1 2)]),
 (2170,2181,.cells [(.int .i64 (.ofNat 21)),(.int .i64 (.ofNat 0)),(.int .i64 (.ofNat 35)),(.int .i64 (.ofNat 0)),(.int .i64 (.ofNat 12)),(.int .i64 (.ofNat 2)),(.int .i64 (.ofNat 5)),(.int .i64 (.ofNat 2))]),
 (2199,2205,.cells [(.int .i64 (.ofNat 19)),(.int .i64 (.ofNat 0)),(.int .i64 (.ofNat 5)),(.int .i64 (.ofNat 2))]),
 (2207,2207,.cells [(.int .i64 (.ofNat 2)),(.sl 2199 0 2 2)]),
 (2211,2211,.cells [(.str 7170401 3),(.sl 2032 0 4 2),(.sl 2069 0 1 2),(.str 110386807469428 6),(.sl 2106 0 3 2),(.sl 2130 0 1 2),(.str 1885957222 4),(.sl 2170 0 4 2),(.sl 2207 0 1 2)])]
def Ym:List (Nat×OL×GV):=[(780,II,QM),(717,KD,Su),(990,KE,Sv),(562,IJ,Po),(2433,Pk,VU),(2207,WN,Yd),(2214,WO,Ye)]
def look (t:ByteArray):Option (Nat×OL×GV):=if t=pL then some (780,II,QM)else if t=w_ then some (717,KD,Su)else if t=xA then some (990,KE,Sv)else if t=pM then some (562,IJ,Po)else none
theorem Pf:look pL=some (780,II,QM):=by
 unfold look
 exact if_pos rfl
theorem Ts:look w_=some (717,KD,Su):=by
 unfold look
 rw[if_neg (by decide +kernel)]
 exact if_pos rfl
theorem Tt:look xA=some (990,KE,Sv):=by
 unfold look
 rw[if_neg (by decide +kernel)]
 rw[if_neg (by decide +kernel)]
 exact if_pos rfl
theorem Pg:look pM=some (562,IJ,Po):=by
 unfold look
 rw[if_neg (by decide +kernel)]
 rw[if_neg (by decide +kernel)]
 rw[if_neg (by decide +kernel)]
 exact if_pos rfl
def PF (V:Value):aU:=⟨fun w S=>∃x,x∈Ym∧(FP x.1 x.2.1 x.2.2 V).p w S,fun {w w' S S'} h k=>by
 obtain⟨x,hx,h⟩:=h
 exact⟨x,hx,(FP x.1 x.2.1 x.2.2 V).mono h k⟩⟩
def PT (t:ByteArray) (V:Value):aU:=⟨fun w S=>∃x,look t=some x∧(FP x.1 x.2.1 x.2.2 V).p w S,fun {w w' S S'} h k=>by
 obtain⟨x,hx,h⟩:=h
 exact⟨x,hx,(FP x.1 x.2.1 x.2.2 V).mono h k⟩⟩
def PP (t u:ByteArray) (V U:Value):aU:=⟨fun w S=>∃x y,look t=some x∧look u=some y∧(NA (x.1+y.1) (y.2.1.map (Vw x.1)++x.2.1) x.2.2 (AV x.1 y.2.2) V U).p w S,fun {w w' S S'} h k=>by
 obtain⟨x,y,hx,hy,h⟩:=h
 exact⟨x,y,hx,hy,(NA _ _ _ _ V U).mono h k⟩⟩
noncomputable def Ke {R:Type} (D:GT) (k:List gZ->Option R):Option R:=open Classical in if h:∃r,∀z:List gZ,z.map kS=D->k z=some r then some (Classical.choose h)else none
theorem CJ {R:Type} {D:GT} {k:List gZ->Option R} {r:R} (h:Ke D k=some r) (z:List gZ) (hz:z.map kS=D):k z=some r:=by
 unfold Ke at h
 split at h
 ·rename_i e
  rw[<-Option.some.inj h]
  exact Classical.choose_spec e z hz
 cases h
theorem GX {R:Type} {D:GT} {k:List gZ->Option R} {r:R} (h:∀z:List gZ,z.map kS=D->k z=some r):Ke D k=some r:=by
 have e:∃r,∀z:List gZ,z.map kS=D->k z=some r:=⟨r,h⟩
 unfold Ke
 rw[dif_pos e]
 let z:List gZ:=D.map fun x=>(ByteArray.empty,(undef,x.1),(undef,x.2.map fun s=>(s.1,(undef,s.2))))
 have hz:z.map kS=D:=by
  show(D.map _).map kS=D
  rw[List.map_map]
  conv=>rhs;rw[<-List.map_id D]
  refine List.map_congr_left fun x _=>?_
  obtain⟨a,b⟩:=x
  simp[kS,Function.comp_def]
 rw[<-Classical.choose_spec e z hz,h z hz]
def fP (fuel:Nat) (p0:ByteArray):Option (ByteArray×HT×GT):=if p0=pL then some (sP,sR,qG)else if p0=w_ then some (HB,Fa,Cc)else if p0=xA then some (HC,Fb,Cd)else if p0=pM then some (sQ,sS,qH)else none
theorem FY:a_ Tryz.prog 6:=Tryz.call6
theorem Oe:a_ Tryz.prog 16:=Tryz.call16
theorem zP:a_ Tryz.prog 23:=Tryz.call23
theorem IY:uZ pL=(647805783445292858354124216707972104362217227416401506789551968550453547782289666464486871061303458493704209666026882594163169793806493880997404652969386840707963198018939744880,74):=by kernel_rfl
theorem Px:uZ sP=(97,1):=by kernel_rfl
theorem PM:CN (qR 780 II) 6 (dP 1 Ew (dP 1 (dI .i64) (dP 1 (dI .i64) (dP 1 (dI .i64) (dP 1 (dI .i64) (dI .i64)))))) (.sl 336 0 1 6)=some (sR.map fun z=>(uZ z.1,z.2.1,z.2.2.1,z.2.2.2.1,z.2.2.2.2.1,z.2.2.2.2.2)):=by kernel_rfl
theorem Nb:CN (qR 780 II) 3 (dP 1 Ew (dP 1 (dS (qR 780 II) 2 (dP 1 (dI .i64) (dI .i64))) (dS (qR 780 II) 2 (dP 1 (dI .i64) (dS (qR 780 II) 2 (dP 1 (dI .i64) (dI .i64))))))) (.sl 520 0 1 3)=some Tw:=by kernel_rfl
theorem Sy:Tw.map (fun y=>(y.2.1,y.2.2))=qG:=by kernel_rfl
theorem Wq {gs:sU} {b:dB gs} {ρ:dN} {w:World} {V:Value} {S:Nat->Prop} (hm:∀k,b.mine k->S k) (R:eN b ρ (qR 780 II) w) (hr:Rl ρ QM V):∃x:Value×Value×{z:List gZ // z.map kS=qG},V=Value.agg #[vS sP,x.1,x.2.1]∧AO aD w S x.1 sR∧AO aB w S x.2.1 x.2.2.1:=by
 obtain⟨bs,rfl,hl,_⟩:=hr.agg_inv
 obtain⟨A1,bs,rfl,a1,hl⟩:=hl.of_cons
 obtain⟨A2,bs,rfl,a2,hl⟩:=hl.of_cons
 obtain⟨A3,rfl,a3⟩:=hl.one
 obtain rfl:=Ck a1 Px
 obtain⟨zs,hz,hs⟩:=rJ R hm (bH.pair bH.str (bH.pair (bH.int .i64) (bH.pair (bH.int .i64) (bH.pair (bH.int .i64) (bH.pair (bH.int .i64) (bH.int .i64)))))) a2 PM
 have hzs:zs=sR:=sO (eR (fun _ _=>xJ) (eR jM (eR jM (eR jM (eR jM jM))))) hz
 subst hzs
 obtain⟨ys,hy,ht⟩:=rJ (r:=aB) R hm (bH.pair bH.str (bH.pair (bH.sl R hm (bH.pair (bH.int .i64) (bH.int .i64))) (bH.sl R hm (bH.pair (bH.int .i64) (bH.sl R hm (bH.pair (bH.int .i64) (bH.int .i64))))))) a3 Nb
 have hys:ys.map kS=qG:=by
  rw[<-Sy,<-hy,List.map_map]
  refine List.map_congr_left fun x _=>?_
  simp[kS,Function.comp_def]
 exact⟨(A2,A3,⟨ys,hys⟩),rfl,hs,ht⟩
theorem QA:Tv II (uW uJ JG 4000 23 [QM] (qR 780 II))=true:=by kernel_rfl
theorem IZ:uZ w_=(712272115893357900056717403868120724801684719701724299276182496252039131930115384465000697525308180077002657679626628487685401639418085514115521743463493484126159263630349479954543729930864,79):=by kernel_rfl
theorem Py:uZ HB=(98,1):=by kernel_rfl
theorem PN:CN (qR 717 KD) 6 (dP 1 Ew (dP 1 (dI .i64) (dP 1 (dI .i64) (dP 1 (dI .i64) (dP 1 (dI .i64) (dI .i64)))))) (.sl 381 0 2 6)=some (Fa.map fun z=>(uZ z.1,z.2.1,z.2.2.1,z.2.2.2.1,z.2.2.2.2.1,z.2.2.2.2.2)):=by kernel_rfl
theorem Nc:CN (qR 717 KD) 3 (dP 1 Ew (dP 1 (dS (qR 717 KD) 2 (dP 1 (dI .i64) (dI .i64))) (dS (qR 717 KD) 2 (dP 1 (dI .i64) (dS (qR 717 KD) 2 (dP 1 (dI .i64) (dI .i64))))))) (.sl 508 0 1 3)=some Tx:=by kernel_rfl
theorem SA:Tx.map (fun y=>(y.2.1,y.2.2))=Cc:=by kernel_rfl
theorem Wr {gs:sU} {b:dB gs} {ρ:dN} {w:World} {V:Value} {S:Nat->Prop} (hm:∀k,b.mine k->S k) (R:eN b ρ (qR 717 KD) w) (hr:Rl ρ Su V):∃x:Value×Value×{z:List gZ // z.map kS=Cc},V=Value.agg #[vS HB,x.1,x.2.1]∧AO aD w S x.1 Fa∧AO aB w S x.2.1 x.2.2.1:=by
 obtain⟨bs,rfl,hl,_⟩:=hr.agg_inv
 obtain⟨A1,bs,rfl,a1,hl⟩:=hl.of_cons
 obtain⟨A2,bs,rfl,a2,hl⟩:=hl.of_cons
 obtain⟨A3,rfl,a3⟩:=hl.one
 obtain rfl:=Ck a1 Py
 obtain⟨zs,hz,hs⟩:=rJ R hm (bH.pair bH.str (bH.pair (bH.int .i64) (bH.pair (bH.int .i64) (bH.pair (bH.int .i64) (bH.pair (bH.int .i64) (bH.int .i64)))))) a2 PN
 have hzs:zs=Fa:=sO (eR (fun _ _=>xJ) (eR jM (eR jM (eR jM (eR jM jM))))) hz
 subst hzs
 obtain⟨ys,hy,ht⟩:=rJ (r:=aB) R hm (bH.pair bH.str (bH.pair (bH.sl R hm (bH.pair (bH.int .i64) (bH.int .i64))) (bH.sl R hm (bH.pair (bH.int .i64) (bH.sl R hm (bH.pair (bH.int .i64) (bH.int .i64))))))) a3 Nc
 have hys:ys.map kS=Cc:=by
  rw[<-SA,<-hy,List.map_map]
  refine List.map_congr_left fun x _=>?_
  simp[kS,Function.comp_def]
 exact⟨(A2,A3,⟨ys,hys⟩),rfl,hs,ht⟩
theorem QB:Tv KD (uW uJ JG 4000 23 [Su] (qR 717 KD))=true:=by kernel_rfl
theorem I_:uZ xA=(25527409811890773712901309956580134777752467770370391054623098631591392843260948247781125873274301557467071387084239634849157823793842690769212604789760395870595881835571473047569099022029565063169543169668621643125716206830487188517071500897794410801955286158417300124333313633222834131006064,122):=by kernel_rfl
theorem Pz:uZ HC=(99,1):=by kernel_rfl
theorem PO:CN (qR 990 KE) 6 (dP 1 Ew (dP 1 (dI .i64) (dP 1 (dI .i64) (dP 1 (dI .i64) (dP 1 (dI .i64) (dI .i64)))))) (.sl 468 0 2 6)=some (Fb.map fun z=>(uZ z.1,z.2.1,z.2.2.1,z.2.2.2.1,z.2.2.2.2.1,z.2.2.2.2.2)):=by kernel_rfl
theorem Nf:CN (qR 990 KE) 3 (dP 1 Ew (dP 1 (dS (qR 990 KE) 2 (dP 1 (dI .i64) (dI .i64))) (dS (qR 990 KE) 2 (dP 1 (dI .i64) (dS (qR 990 KE) 2 (dP 1 (dI .i64) (dI .i64))))))) (.sl 724 0 2 3)=some Tz:=by kernel_rfl
theorem SB:Tz.map (fun y=>(y.2.1,y.2.2))=Cd:=by kernel_rfl
theorem Ws {gs:sU} {b:dB gs} {ρ:dN} {w:World} {V:Value} {S:Nat->Prop} (hm:∀k,b.mine k->S k) (R:eN b ρ (qR 990 KE) w) (hr:Rl ρ Sv V):∃x:Value×Value×{z:List gZ // z.map kS=Cd},V=Value.agg #[vS HC,x.1,x.2.1]∧AO aD w S x.1 Fb∧AO aB w S x.2.1 x.2.2.1:=by
 obtain⟨bs,rfl,hl,_⟩:=hr.agg_inv
 obtain⟨A1,bs,rfl,a1,hl⟩:=hl.of_cons
 obtain⟨A2,bs,rfl,a2,hl⟩:=hl.of_cons
 obtain⟨A3,rfl,a3⟩:=hl.one
 obtain rfl:=Ck a1 Pz
 obtain⟨zs,hz,hs⟩:=rJ R hm (bH.pair bH.str (bH.pair (bH.int .i64) (bH.pair (bH.int .i64) (bH.pair (bH.int .i64) (bH.pair (bH.int .i64) (bH.int .i64)))))) a2 PO
 have hzs:zs=Fb:=sO (eR (fun _ _=>xJ) (eR jM (eR jM (eR jM (eR jM jM))))) hz
 subst hzs
 obtain⟨ys,hy,ht⟩:=rJ (r:=aB) R hm (bH.pair bH.str (bH.pair (bH.sl R hm (bH.pair (bH.int .i64) (bH.int .i64))) (bH.sl R hm (bH.pair (bH.int .i64) (bH.sl R hm (bH.pair (bH.int .i64) (bH.int .i64))))))) a3 Nf
 have hys:ys.map kS=Cd:=by
  rw[<-SB,<-hy,List.map_map]
  refine List.map_congr_left fun x _=>?_
  simp[kS,Function.comp_def]
 exact⟨(A2,A3,⟨ys,hys⟩),rfl,hs,ht⟩
theorem QC:Tv KE (uW uJ JG 4000 23 [Sv] (qR 990 KE))=true:=by kernel_rfl
theorem Ja:uZ pM=(2093391912065131929342057284122509454556102196112985493859293902563874786137302649663025377300155875155924594752922687171275701081762132275685021938288,63):=by kernel_rfl
theorem PC:uZ sQ=(100,1):=by kernel_rfl
theorem PQ:CN (qR 562 IJ) 6 (dP 1 Ew (dP 1 (dI .i64) (dP 1 (dI .i64) (dP 1 (dI .i64) (dP 1 (dI .i64) (dI .i64)))))) (.sl 265 0 1 6)=some (sS.map fun z=>(uZ z.1,z.2.1,z.2.2.1,z.2.2.2.1,z.2.2.2.2.1,z.2.2.2.2.2)):=by kernel_rfl
theorem Ng:CN (qR 562 IJ) 3 (dP 1 Ew (dP 1 (dS (qR 562 IJ) 2 (dP 1 (dI .i64) (dI .i64))) (dS (qR 562 IJ) 2 (dP 1 (dI .i64) (dS (qR 562 IJ) 2 (dP 1 (dI .i64) (dI .i64))))))) (.sl 402 0 1 3)=some TA:=by kernel_rfl
theorem SC:TA.map (fun y=>(y.2.1,y.2.2))=qH:=by kernel_rfl
theorem Wt {gs:sU} {b:dB gs} {ρ:dN} {w:World} {V:Value} {S:Nat->Prop} (hm:∀k,b.mine k->S k) (R:eN b ρ (qR 562 IJ) w) (hr:Rl ρ Po V):∃x:Value×Value×{z:List gZ // z.map kS=qH},V=Value.agg #[vS sQ,x.1,x.2.1]∧AO aD w S x.1 sS∧AO aB w S x.2.1 x.2.2.1:=by
 obtain⟨bs,rfl,hl,_⟩:=hr.agg_inv
 obtain⟨A1,bs,rfl,a1,hl⟩:=hl.of_cons
 obtain⟨A2,bs,rfl,a2,hl⟩:=hl.of_cons
 obtain⟨A3,rfl,a3⟩:=hl.one
 obtain rfl:=Ck a1 PC
 obtain⟨zs,hz,hs⟩:=rJ R hm (bH.pair bH.str (bH.pair (bH.int .i64) (bH.pair (bH.int .i64) (bH.pair (bH.int .i64) (bH.pair (bH.int .i64) (bH.int .i64)))))) a2 PQ
 have hzs:zs=sS:=sO (eR (fun _ _=>xJ) (eR jM (eR jM (eR jM (eR jM jM))))) hz
 subst hzs
 obtain⟨ys,hy,ht⟩:=rJ (r:=aB) R hm (bH.pair bH.str (bH.pair (bH.sl R hm (bH.pair (bH.int .i64) (bH.int .i64))) (bH.sl R hm (bH.pair (bH.int .i64) (bH.sl R hm (bH.pair (bH.int .i64) (bH.int .i64))))))) a3 Ng
 have hys:ys.map kS=qH:=by
  rw[<-SC,<-hy,List.map_map]
  refine List.map_congr_left fun x _=>?_
  simp[kS,Function.comp_def]
 exact⟨(A2,A3,⟨ys,hys⟩),rfl,hs,ht⟩
theorem QD:Tv IJ (uW uJ JG 4000 23 [Po] (qR 562 IJ))=true:=by kernel_rfl
theorem PD:uZ C_=(97,1):=by kernel_rfl
theorem PR:CN (qR 2433 Pk) 6 (dP 1 Ew (dP 1 (dI .i64) (dP 1 (dI .i64) (dP 1 (dI .i64) (dP 1 (dI .i64) (dI .i64)))))) (.sl 1770 0 3 6)=some (By.map fun z=>(uZ z.1,z.2.1,z.2.2.1,z.2.2.2.1,z.2.2.2.2.1,z.2.2.2.2.2)):=by kernel_rfl
theorem Nh:CN (qR 2433 Pk) 3 (dP 1 Ew (dP 1 (dS (qR 2433 Pk) 2 (dP 1 (dI .i64) (dI .i64))) (dS (qR 2433 Pk) 2 (dP 1 (dI .i64) (dS (qR 2433 Pk) 2 (dP 1 (dI .i64) (dI .i64))))))) (.sl 2219 0 4 3)=some TC:=by kernel_rfl
theorem SD:TC.map (fun y=>(y.2.1,y.2.2))=AF:=by kernel_rfl
theorem Wu {gs:sU} {b:dB gs} {ρ:dN} {w:World} {V:Value} {S:Nat->Prop} (hm:∀k,b.mine k->S k) (R:eN b ρ (qR 2433 Pk) w) (hr:Rl ρ VU V):∃x:Value×Value×{z:List gZ // z.map kS=AF},V=Value.agg #[vS C_,x.1,x.2.1]∧AO aD w S x.1 By∧AO aB w S x.2.1 x.2.2.1:=by
 obtain⟨bs,rfl,hl,_⟩:=hr.agg_inv
 obtain⟨A1,bs,rfl,a1,hl⟩:=hl.of_cons
 obtain⟨A2,bs,rfl,a2,hl⟩:=hl.of_cons
 obtain⟨A3,rfl,a3⟩:=hl.one
 obtain rfl:=Ck a1 PD
 obtain⟨zs,hz,hs⟩:=rJ R hm (bH.pair bH.str (bH.pair (bH.int .i64) (bH.pair (bH.int .i64) (bH.pair (bH.int .i64) (bH.pair (bH.int .i64) (bH.int .i64)))))) a2 PR
 have hzs:zs=By:=sO (eR (fun _ _=>xJ) (eR jM (eR jM (eR jM (eR jM jM))))) hz
 subst hzs
 obtain⟨ys,hy,ht⟩:=rJ (r:=aB) R hm (bH.pair bH.str (bH.pair (bH.sl R hm (bH.pair (bH.int .i64) (bH.int .i64))) (bH.sl R hm (bH.pair (bH.int .i64) (bH.sl R hm (bH.pair (bH.int .i64) (bH.int .i64))))))) a3 Nh
 have hys:ys.map kS=AF:=by
  rw[<-SD,<-hy,List.map_map]
  refine List.map_congr_left fun x _=>?_
  simp[kS,Function.comp_def]
 exact⟨(A2,A3,⟨ys,hys⟩),rfl,hs,ht⟩
theorem QE:Tv Pk (uW uJ JG 4000 23 [VU] (qR 2433 Pk))=true:=by kernel_rfl
theorem QF:Tv WN (uW uJ JG 4000 23 [Yd] (qR 2207 WN))=true:=by kernel_rfl
theorem QG:Tv WO (uW uJ JG 4000 23 [Ye] (qR 2214 WO))=true:=by kernel_rfl
theorem PE:∀w,Calls Tryz.prog 6 #[vS pL] w fun e w'=>∃V ρ' hb,e = .returned V∧eN (dB.of (gs:=gl 0) w hb) ρ' (qR 780 II) w'∧Rl ρ' QM V:=by
 intro w
 have hb:yX (gl 0) w fun _=>False:=fun _ h=>absurd h List.not_mem_nil
 refine(AB lH FA me0 FY (.cons (z_ (x:=pL) (congrArg Prod.fst IY).symm (congrArg Prod.snd IY).symm) .nil) rfl (dB.of w hb)).mono ?_
 rintro e w' ⟨v,ρ',rfl,R,hr⟩
 exact⟨v,ρ',hb,rfl,R,hr⟩
theorem UY (r:(ByteArray×HT×GT)) (h:some (sP,sR,qG)=some r) (w:World) (S:Nat->Prop):Calls Tryz.prog 6 #[vS pL] w fun e w'=>∃x:Value×Value×{z:List gZ // z.map kS=r.2.2},e = .returned (Value.agg #[vS r.1,x.1,x.2.1])∧Di w w'∧(Sl aD x.1 r.2.1).p w' (fun k=>w.heap.size<=k∨S k)∧(Sl aB x.2.1 x.2.2.1).p w' (fun k=>w.heap.size<=k∨S k)∧(PF (Value.agg #[vS r.1,x.1,x.2.1])).p w' (fun k=>w.heap.size<=k∨S k)∧(PT pL (Value.agg #[vS r.1,x.1,x.2.1])).p w' (fun k=>w.heap.size<=k∨S k)∧∀t0 V0,(PT t0 V0).p w S->(PP t0 pL V0 (Value.agg #[vS r.1,x.1,x.2.1])).p w' (fun k=>w.heap.size<=k∨S k):=by
 cases h
 refine(PE w).mono ?_
 rintro e w' ⟨V,ρ',hb,rfl,R,hr⟩
 have hm:∀k,(dB.of (gs:=gl 0) w hb).mine k->w.heap.size<=k∨S k:=fun k hk=>hk.elim .inl False.elim
 obtain⟨x,rfl,h1,h2⟩:=Wq hm R hr
 exact⟨x,rfl,R.ext.ext,h1,h2,⟨_,List.mem_of_getElem? (i:=0) rfl,ρ',eN.hd R hm,hr⟩,⟨_,Pf,ρ',eN.hd R hm,hr⟩,fun t0 V0 ⟨x0,hx0,hp⟩=>⟨x0,_,hx0,Pf,AA hp R hr fun k hk=>hk⟩⟩
theorem PG:∀w,Calls Tryz.prog 6 #[vS w_] w fun e w'=>∃V ρ' hb,e = .returned V∧eN (dB.of (gs:=gl 0) w hb) ρ' (qR 717 KD) w'∧Rl ρ' Su V:=by
 intro w
 have hb:yX (gl 0) w fun _=>False:=fun _ h=>absurd h List.not_mem_nil
 refine(AB lH Tm me1 FY (.cons (z_ (x:=w_) (congrArg Prod.fst IZ).symm (congrArg Prod.snd IZ).symm) .nil) rfl (dB.of w hb)).mono ?_
 rintro e w' ⟨v,ρ',rfl,R,hr⟩
 exact⟨v,ρ',hb,rfl,R,hr⟩
theorem UZ (r:(ByteArray×HT×GT)) (h:some (HB,Fa,Cc)=some r) (w:World) (S:Nat->Prop):Calls Tryz.prog 6 #[vS w_] w fun e w'=>∃x:Value×Value×{z:List gZ // z.map kS=r.2.2},e = .returned (Value.agg #[vS r.1,x.1,x.2.1])∧Di w w'∧(Sl aD x.1 r.2.1).p w' (fun k=>w.heap.size<=k∨S k)∧(Sl aB x.2.1 x.2.2.1).p w' (fun k=>w.heap.size<=k∨S k)∧(PF (Value.agg #[vS r.1,x.1,x.2.1])).p w' (fun k=>w.heap.size<=k∨S k)∧(PT w_ (Value.agg #[vS r.1,x.1,x.2.1])).p w' (fun k=>w.heap.size<=k∨S k)∧∀t0 V0,(PT t0 V0).p w S->(PP t0 w_ V0 (Value.agg #[vS r.1,x.1,x.2.1])).p w' (fun k=>w.heap.size<=k∨S k):=by
 cases h
 refine(PG w).mono ?_
 rintro e w' ⟨V,ρ',hb,rfl,R,hr⟩
 have hm:∀k,(dB.of (gs:=gl 0) w hb).mine k->w.heap.size<=k∨S k:=fun k hk=>hk.elim .inl False.elim
 obtain⟨x,rfl,h1,h2⟩:=Wr hm R hr
 exact⟨x,rfl,R.ext.ext,h1,h2,⟨_,List.mem_of_getElem? (i:=1) rfl,ρ',eN.hd R hm,hr⟩,⟨_,Ts,ρ',eN.hd R hm,hr⟩,fun t0 V0 ⟨x0,hx0,hp⟩=>⟨x0,_,hx0,Ts,AA hp R hr fun k hk=>hk⟩⟩
theorem PH:∀w,Calls Tryz.prog 6 #[vS xA] w fun e w'=>∃V ρ' hb,e = .returned V∧eN (dB.of (gs:=gl 0) w hb) ρ' (qR 990 KE) w'∧Rl ρ' Sv V:=by
 intro w
 have hb:yX (gl 0) w fun _=>False:=fun _ h=>absurd h List.not_mem_nil
 refine(AB lH Tn me2 FY (.cons (z_ (x:=xA) (congrArg Prod.fst I_).symm (congrArg Prod.snd I_).symm) .nil) rfl (dB.of w hb)).mono ?_
 rintro e w' ⟨v,ρ',rfl,R,hr⟩
 exact⟨v,ρ',hb,rfl,R,hr⟩
theorem U_ (r:(ByteArray×HT×GT)) (h:some (HC,Fb,Cd)=some r) (w:World) (S:Nat->Prop):Calls Tryz.prog 6 #[vS xA] w fun e w'=>∃x:Value×Value×{z:List gZ // z.map kS=r.2.2},e = .returned (Value.agg #[vS r.1,x.1,x.2.1])∧Di w w'∧(Sl aD x.1 r.2.1).p w' (fun k=>w.heap.size<=k∨S k)∧(Sl aB x.2.1 x.2.2.1).p w' (fun k=>w.heap.size<=k∨S k)∧(PF (Value.agg #[vS r.1,x.1,x.2.1])).p w' (fun k=>w.heap.size<=k∨S k)∧(PT xA (Value.agg #[vS r.1,x.1,x.2.1])).p w' (fun k=>w.heap.size<=k∨S k)∧∀t0 V0,(PT t0 V0).p w S->(PP t0 xA V0 (Value.agg #[vS r.1,x.1,x.2.1])).p w' (fun k=>w.heap.size<=k∨S k):=by
 cases h
 refine(PH w).mono ?_
 rintro e w' ⟨V,ρ',hb,rfl,R,hr⟩
 have hm:∀k,(dB.of (gs:=gl 0) w hb).mine k->w.heap.size<=k∨S k:=fun k hk=>hk.elim .inl False.elim
 obtain⟨x,rfl,h1,h2⟩:=Ws hm R hr
 exact⟨x,rfl,R.ext.ext,h1,h2,⟨_,List.mem_of_getElem? (i:=2) rfl,ρ',eN.hd R hm,hr⟩,⟨_,Tt,ρ',eN.hd R hm,hr⟩,fun t0 V0 ⟨x0,hx0,hp⟩=>⟨x0,_,hx0,Tt,AA hp R hr fun k hk=>hk⟩⟩
theorem PI:∀w,Calls Tryz.prog 6 #[vS pM] w fun e w'=>∃V ρ' hb,e = .returned V∧eN (dB.of (gs:=gl 0) w hb) ρ' (qR 562 IJ) w'∧Rl ρ' Po V:=by
 intro w
 have hb:yX (gl 0) w fun _=>False:=fun _ h=>absurd h List.not_mem_nil
 refine(AB lH To me3 FY (.cons (z_ (x:=pM) (congrArg Prod.fst Ja).symm (congrArg Prod.snd Ja).symm) .nil) rfl (dB.of w hb)).mono ?_
 rintro e w' ⟨v,ρ',rfl,R,hr⟩
 exact⟨v,ρ',hb,rfl,R,hr⟩
theorem Va (r:(ByteArray×HT×GT)) (h:some (sQ,sS,qH)=some r) (w:World) (S:Nat->Prop):Calls Tryz.prog 6 #[vS pM] w fun e w'=>∃x:Value×Value×{z:List gZ // z.map kS=r.2.2},e = .returned (Value.agg #[vS r.1,x.1,x.2.1])∧Di w w'∧(Sl aD x.1 r.2.1).p w' (fun k=>w.heap.size<=k∨S k)∧(Sl aB x.2.1 x.2.2.1).p w' (fun k=>w.heap.size<=k∨S k)∧(PF (Value.agg #[vS r.1,x.1,x.2.1])).p w' (fun k=>w.heap.size<=k∨S k)∧(PT pM (Value.agg #[vS r.1,x.1,x.2.1])).p w' (fun k=>w.heap.size<=k∨S k)∧∀t0 V0,(PT t0 V0).p w S->(PP t0 pM V0 (Value.agg #[vS r.1,x.1,x.2.1])).p w' (fun k=>w.heap.size<=k∨S k):=by
 cases h
 refine(PI w).mono ?_
 rintro e w' ⟨V,ρ',hb,rfl,R,hr⟩
 have hm:∀k,(dB.of (gs:=gl 0) w hb).mine k->w.heap.size<=k∨S k:=fun k hk=>hk.elim .inl False.elim
 obtain⟨x,rfl,h1,h2⟩:=Wt hm R hr
 exact⟨x,rfl,R.ext.ext,h1,h2,⟨_,List.mem_of_getElem? (i:=3) rfl,ρ',eN.hd R hm,hr⟩,⟨_,Pg,ρ',eN.hd R hm,hr⟩,fun t0 V0 ⟨x0,hx0,hp⟩=>⟨x0,_,hx0,Pg,AA hp R hr fun k hk=>hk⟩⟩
theorem TE (fuel:Nat) {p0:ByteArray} (r:(ByteArray×HT×GT)) (h:fP fuel p0=some r) (w:World) (S:Nat->Prop):Calls Tryz.prog 6 #[vS p0] w fun e w'=>∃x:Value×Value×{z:List gZ // z.map kS=r.2.2},e = .returned (Value.agg #[vS r.1,x.1,x.2.1])∧Di w w'∧(Sl aD x.1 r.2.1).p w' (fun k=>w.heap.size<=k∨S k)∧(Sl aB x.2.1 x.2.2.1).p w' (fun k=>w.heap.size<=k∨S k)∧(PF (Value.agg #[vS r.1,x.1,x.2.1])).p w' (fun k=>w.heap.size<=k∨S k)∧(PT p0 (Value.agg #[vS r.1,x.1,x.2.1])).p w' (fun k=>w.heap.size<=k∨S k)∧∀t0 V0,(PT t0 V0).p w S->(PP t0 p0 V0 (Value.agg #[vS r.1,x.1,x.2.1])).p w' (fun k=>w.heap.size<=k∨S k):=by
 unfold fP at h
 by_cases e0:p0=pL
 ·subst e0;exact UY r ((if_pos rfl).symm.trans h) w S
 rw[if_neg e0]at h
 by_cases e1:p0=w_
 ·subst e1;exact UZ r ((if_pos rfl).symm.trans h) w S
 rw[if_neg e1]at h
 by_cases e2:p0=xA
 ·subst e2;exact U_ r ((if_pos rfl).symm.trans h) w S
 rw[if_neg e2]at h
 by_cases e3:p0=pM
 ·subst e3;exact Va r ((if_pos rfl).symm.trans h) w S
 rw[if_neg e3]at h
 cases h
theorem DF (fuel:Nat) {p0:ByteArray} (r:(ByteArray×HT×GT)) (h:fP fuel p0=some r):bJ Tryz.prog 6 #[vS p0] [] (fun x:Value×Value×{z:List gZ // z.map kS=r.2.2}=>Value.agg #[vS r.1,x.1,x.2.1]) (fun x l=>l) (fun x l=>Sl aD x.1 r.2.1::Sl aB x.2.1 x.2.2.1::PF (Value.agg #[vS r.1,x.1,x.2.1])::PT p0 (Value.agg #[vS r.1,x.1,x.2.1])::l):=by
 intro w S hw
 refine(TE fuel r h w S).mono ?_
 rintro e w' ⟨x,rfl,he,h1,h2,h3,h4,_⟩
 exact⟨x,rfl,Cj he (List.forall_mem_cons.2 ⟨h1,List.forall_mem_cons.2 ⟨h2,List.forall_mem_cons.2 ⟨h3,List.forall_mem_singleton.2 h4⟩⟩⟩)⟩
theorem Ai (fuel:Nat) {p0 t0:ByteArray} {V0:Value} (r:(ByteArray×HT×GT)) (h:fP fuel p0=some r):bJ Tryz.prog 6 #[vS p0] [PT t0 V0] (fun x:Value×Value×{z:List gZ // z.map kS=r.2.2}=>Value.agg #[vS r.1,x.1,x.2.1]) (fun x l=>l) (fun x l=>Sl aD x.1 r.2.1::Sl aB x.2.1 x.2.2.1::PF (Value.agg #[vS r.1,x.1,x.2.1])::PT p0 (Value.agg #[vS r.1,x.1,x.2.1])::PP t0 p0 V0 (Value.agg #[vS r.1,x.1,x.2.1])::l):=by
 intro w S hw
 refine(TE fuel r h w S).mono ?_
 rintro e w' ⟨x,rfl,he,h1,h2,h3,h4,h5⟩
 exact⟨x,rfl,Cj he (List.forall_mem_cons.2 ⟨h1,List.forall_mem_cons.2 ⟨h2,List.forall_mem_cons.2 ⟨h3,List.forall_mem_cons.2 ⟨h4,List.forall_mem_singleton.2 (h5 t0 V0 (hw _ (List.mem_singleton_self _)))⟩⟩⟩⟩)⟩
theorem PK (f:Nat):fP f pL=some (sP,sR,qG):=by
 unfold fP
 exact if_pos rfl
theorem PL (f:Nat):fP f pM=some (sQ,sS,qH):=by
 unfold fP
 rw[if_neg (by decide +kernel)]
 rw[if_neg (by decide +kernel)]
 rw[if_neg (by decide +kernel)]
 exact if_pos rfl
def lX (fuel:Nat) (t u:ByteArray):Option ((ByteArray×HT×GT)×Int):=if t=pL∧u=pM then some ((C_,By,AF),0)else none
theorem VQ (r:(ByteArray×HT×GT)×Int) (h:some ((C_,By,AF),(0:Int))=some r) {V U:Value}:bJ Tryz.prog 16 #[V,U] [PP pL pM V U] (fun x:Value×Value×{z:List gZ // z.map kS=r.1.2.2}=>Value.tuple #[Value.agg #[vS r.1.1,x.1,x.2.1],.int .i64 r.2]) (fun x l=>l) (fun x l=>Sl aD x.1 r.1.2.1::Sl aB x.2.1 x.2.2.1::PF (Value.agg #[vS r.1.1,x.1,x.2.1])::l):=by
 cases h
 intro w S hw
 obtain⟨x0,y0,hx0,hy0,ρ,hd,ha,hb⟩:=hw _ (List.mem_singleton_self _)
 cases Pf.symm.trans hx0
 cases Pg.symm.trans hy0
 have hd:Hd 1342 WM ρ w S:=by
  have hd:Hd 1342 (IJ.map (Vw 780)++II) ρ w S:=hd
  rw[Wc]at hd;exact hd
 have hb:Rl ρ Yi U:=by
  have hb:Rl ρ (AV 780 Po) U:=hb
  rw[Wa]at hb;exact hb
 refine(MR lH Iz Wb Oe hd (vs:=[V,U]) (.cons ha (.cons hb .nil))).mono ?_
 rintro e w' ⟨V',ρ2,rfl,he,R,hr⟩
 obtain⟨vs,rfl,hl⟩:=hr.tup_inv
 obtain⟨A1,vs,rfl,a1,hl⟩:=hl.of_cons
 obtain⟨A2,rfl,a2⟩:=hl.one
 obtain rfl:=a2.int_inv
 have hm:∀k,(Hd.base 1342 WM ρ w).mine k->w.heap.size<=k∨S k:=fun k hk=>hd.mineS hk
 obtain⟨x,rfl,h1,h2⟩:=Wu hm R a1
 exact⟨x,rfl,Cj he (List.forall_mem_cons.2 ⟨h1,List.forall_mem_cons.2 ⟨h2,List.forall_mem_singleton.2 ⟨_,List.mem_of_getElem? (i:=4) rfl,ρ2,eN.hd R hm,a1⟩⟩⟩)⟩
theorem AX (fuel:Nat) {t u:ByteArray} {V U:Value} (r:(ByteArray×HT×GT)×Int) (h:lX fuel t u=some r):bJ Tryz.prog 16 #[V,U] [PP t u V U] (fun x:Value×Value×{z:List gZ // z.map kS=r.1.2.2}=>Value.tuple #[Value.agg #[vS r.1.1,x.1,x.2.1],.int .i64 r.2]) (fun x l=>l) (fun x l=>Sl aD x.1 r.1.2.1::Sl aB x.2.1 x.2.2.1::PF (Value.agg #[vS r.1.1,x.1,x.2.1])::l):=by
 unfold lX at h
 by_cases e0:t=pL∧u=pM
 ·obtain⟨rfl,rfl⟩:=e0;exact VQ r ((if_pos ⟨rfl,rfl⟩).symm.trans h)
 rw[if_neg e0]at h
 cases h
def wZ (fuel:Nat) (p0:ByteArray×HT×List gZ):Option Bool:=some true
theorem FL (fuel:Nat) {p0:ByteArray×HT×List gZ} (v0 v1:Value) (r:Bool) (h:wZ fuel p0=some r):
  bJ Tryz.prog 23 #[Value.agg #[vS p0.1,v0,v1]] [Sl aD v0 p0.2.1,Sl aB v1 p0.2.2,PF (Value.agg #[vS p0.1,v0,v1])] (fun x:Unit=>vB (r)) (fun x l=>l) (fun _ l=>l):=by
 cases h
 intro w S hw
 have key:Calls Tryz.prog 23 #[Value.agg #[vS p0.1,v0,v1]] w fun e w'=>e = .returned (.bool true)∧Di w w':=by
  obtain⟨x,hx,hp⟩:=hw _ (List.mem_of_getElem? (i:=2) rfl)
  have hx:x∈[(780,II,QM),(717,KD,Su),(990,KE,Sv),(562,IJ,Po),(2433,Pk,VU),(2207,WN,Yd),(2214,WO,Ye)]:=hx
  simp only[List.mem_cons,List.not_mem_nil,or_false]at hx
  rcases hx with rfl|rfl|rfl|rfl|rfl|rfl|rfl
  ·refine sM (fuel:=4000) Iz zP ?_ hp
   obtain⟨H',h1,h2⟩:=vH QA
   rw[oA (G:=JG) lH]at h1
   exact⟨H',h1,h2⟩
  ·refine sM (fuel:=4000) Iz zP ?_ hp
   obtain⟨H',h1,h2⟩:=vH QB
   rw[oA (G:=JG) lH]at h1
   exact⟨H',h1,h2⟩
  ·refine sM (fuel:=4000) Iz zP ?_ hp
   obtain⟨H',h1,h2⟩:=vH QC
   rw[oA (G:=JG) lH]at h1
   exact⟨H',h1,h2⟩
  ·refine sM (fuel:=4000) Iz zP ?_ hp
   obtain⟨H',h1,h2⟩:=vH QD
   rw[oA (G:=JG) lH]at h1
   exact⟨H',h1,h2⟩
  ·refine sM (fuel:=4000) Iz zP ?_ hp
   obtain⟨H',h1,h2⟩:=vH QE
   rw[oA (G:=JG) lH]at h1
   exact⟨H',h1,h2⟩
  ·refine sM (fuel:=4000) Iz zP ?_ hp
   obtain⟨H',h1,h2⟩:=vH QF
   rw[oA (G:=JG) lH]at h1
   exact⟨H',h1,h2⟩
  refine sM (fuel:=4000) Iz zP ?_ hp
  obtain⟨H',h1,h2⟩:=vH QG
  rw[oA (G:=JG) lH]at h1
  exact⟨H',h1,h2⟩
 refine key.mono ?_
 rintro e w' ⟨rfl,he⟩
 exact⟨(),rfl,Cj he fun q hq=>absurd hq List.not_mem_nil⟩
end Go.Proofs.YtlciiihigmgaiaaGreat
end
section
namespace Go.Proofs.YtlciiihigmgaiaaGreat
open Go Go.Sx
section
abbrev XU:=Ak
abbrev PRG:=ByteArray×(List XU)×(List gZ)
abbrev GRF:=List Int×eT
abbrev SCN:=PRG×GRF×Int×bP
abbrev VD:=SCN×bP×Int×eP
inductive E where
 |lf (o a:Int)
 |un (o:Int) (x:E)
 |ag (o:Int) (x:E)
 |bi (o:Int) (x y:E)
 |ite (x y z:E)
def E.ts:E->eP
 |lf o a=>[(o,a)]
 |un o x=>(o,0)::x.ts
 |ag o x=>(o,0)::x.ts
 |bi o x y=>(o,0)::(x.ts++y.ts)
 |ite x y z=>(43,0)::(x.ts++(y.ts++z.ts))
def E.depth:E->Nat
 |lf _ _=>1
 |un _ x=>x.depth+1
 |ag _ x=>x.depth+1
 |bi _ x y=>max x.depth y.depth+1
 |ite x y z=>max x.depth (max y.depth z.depth)+1
def E.arOk:E->Bool
 |lf o _=>decide (1<=o)&&decide (o<=17)
 |un o x=>decide (18<=o)&&decide (o<=19)&&x.arOk
 |ag o x=>decide (20<=o)&&decide (o<=29)&&x.arOk
 |bi o x y=>decide (30<=o)&&decide (o<=42)&&x.arOk&&y.arOk
 |ite x y z=>x.arOk&&y.arOk&&z.arOk
theorem La {α:Type} [Inhabited α] {T pre rest:List α} {x:α} {k:Nat} (hT:T=pre++x::rest) (hk:pre.length=k):at' T (k:Int)=x:=by
 subst hT;exact Mw pre rest x k hk
theorem fG {k:Nat} (h:k<1000000):wI .i64 ((k:Int)+1)=((k+1:Nat):Int):=by rw[wr (by omega) (by omega)];rfl
theorem Oa (f:Nat) {o:Int} (h1:1<=o) (h2:o<=43):rT f o=some (if o<=17 then 0 else if o<=29 then 1 else if o<=42 then 2 else 3):=by
 unfold rT tD
 rw[if_neg (by omega)]
 simp only[decide_eq_true_eq]
 rw[if_neg (by omega)]
 split
 ·rfl
 ·split
  ·rfl
  ·split<;>rfl
theorem OD {F:Nat} {T pre rest:eP} {t:gC} {k m a:Nat} {fuel:Nat} (hT:T=pre++t::rest) (hk:pre.length=k) (hk2:k<1000) (hm:m<3000) (ha:rT F t.1=some ((a:Nat):Int)) (ha3:a<=3) (hne:m+a≠0):
  bZ (jG F T) (fuel+1) ((k:Int),(m:Int))=if m+a=1 then some (((k+1:Nat):Int))else bZ (jG F T) fuel (((k+1:Nat):Int),((m+a - 1:Nat):Int)):=by
 have hl:k<T.length:=by rw[hT];simp;omega
 show jG F T ((k:Int),(m:Int)) (bZ (jG F T) fuel)=_
 unfold jG
 dsimp only
 rw[if_pos (by omega),eB (by omega),La hT hk,bR ha,if_neg (by omega),wr (x:=((a:Nat):Int) - 1) (by omega) (by omega),wr (by omega) (by omega),fG (by omega)]
 by_cases h:m+a=1
 ·rw[if_pos h,if_pos (by omega)]
 ·rw[if_neg h,if_neg (by omega)]
  have:(m:Int)+((a:Int) - 1)=((m+a - 1:Nat):Int):=by omega
  rw[this]
theorem RP (F:Nat) (T:eP) (hT9:T.length<=900):∀(e:E),e.arOk=true->∀(fuel k m:Nat) (pre post:eP),T=pre++(e.ts++post)->pre.length=k->1<=m->m+2*(e.ts++post).length<=1900->e.ts.length<=fuel->
  bZ (jG F T) fuel ((k:Int),(m:Int))=if m=1 then some (((k+e.ts.length:Nat):Int))else bZ (jG F T) (fuel - e.ts.length) (((k+e.ts.length:Nat):Int),((m - 1:Nat):Int)):=by
 have key:∀{t:gC} {l post pre:eP} {fuel k m:Nat},T=pre++((t::l)++post)->pre.length=k->(t::l).length<=fuel->1<=t.1->t.1<=43->1<=m->m+2*((t::l)++post).length<=1900->∀a:Nat,(if t.1<=17 then 0 else if t.1<=29 then 1 else if t.1<=42 then 2 else 3:Int)=a->a<=3->∃f,fuel=f+1∧
   bZ (jG F T) fuel ((k:Int),(m:Int))=if m+a=1 then some (((k+1:Nat):Int))else bZ (jG F T) f (((k+1:Nat):Int),((m+a - 1:Nat):Int)):=by
  intro t l post pre fuel k m hT hk hf h1 h2 hm1 hm a ha ha3
  have hlen:=congrArg List.length hT
  simp only[List.length_append,List.length_cons]at hlen hm hf
  obtain⟨f,rfl⟩:∃f,fuel=f+1:=⟨fuel - 1,by omega⟩
  exact⟨f,rfl,OD (rest:=l++post) (by simpa using hT) hk (by omega) (by omega) (by rw[Oa F h1 h2,ha]) ha3 (by omega)⟩
 intro e
 induction e with
 |lf o a=>
  intro hok fuel k m pre post hT hk hm1 hm hf
  simp only[E.arOk,Bool.and_eq_true,decide_eq_true_eq]at hok
  obtain⟨f,rfl,h⟩:=key (t:=(o,a)) (l:=[]) hT hk hf (by dsimp only;omega) (by dsimp only;omega) hm1 hm 0 (by rw[if_pos (by dsimp only;omega)];rfl) (by omega)
  rw[h];rfl
 |un o x ih=>
  intro hok fuel k m pre post hT hk hm1 hm hf
  simp only[E.arOk,Bool.and_eq_true,decide_eq_true_eq]at hok
  obtain⟨f,rfl,h⟩:=key (t:=(o,0)) (l:=x.ts) hT hk hf (by dsimp only;omega) (by dsimp only;omega) hm1 hm 1 (by rw[if_neg (by dsimp only;omega),if_pos (by dsimp only;omega)];rfl) (by omega)
  simp only[E.ts,List.length_cons]at hf hm ⊢
  rw[h,if_neg (by omega)]
  have:=ih hok.2 f (k+1) m (pre++[(o,0)]) post (by rw[hT];simp[E.ts]) (by simp[hk]) hm1 (by simp at hm ⊢;omega) (by omega)
  rw[show m+1 - 1=m by omega,this,show k+1+x.ts.length=k+(x.ts.length+1) by omega,show f+1 - (x.ts.length+1)=f - x.ts.length by omega]
 |ag o x ih=>
  intro hok fuel k m pre post hT hk hm1 hm hf
  simp only[E.arOk,Bool.and_eq_true,decide_eq_true_eq]at hok
  obtain⟨f,rfl,h⟩:=key (t:=(o,0)) (l:=x.ts) hT hk hf (by dsimp only;omega) (by dsimp only;omega) hm1 hm 1 (by rw[if_neg (by dsimp only;omega),if_pos (by dsimp only;omega)];rfl) (by omega)
  simp only[E.ts,List.length_cons]at hf hm ⊢
  rw[h,if_neg (by omega)]
  have:=ih hok.2 f (k+1) m (pre++[(o,0)]) post (by rw[hT];simp[E.ts]) (by simp[hk]) hm1 (by simp at hm ⊢;omega) (by omega)
  rw[show m+1 - 1=m by omega,this,show k+1+x.ts.length=k+(x.ts.length+1) by omega,show f+1 - (x.ts.length+1)=f - x.ts.length by omega]
 |bi o x y ihx ihy=>
  intro hok fuel k m pre post hT hk hm1 hm hf
  simp only[E.arOk,Bool.and_eq_true,decide_eq_true_eq]at hok
  obtain⟨f,rfl,h⟩:=key (t:=(o,0)) (l:=x.ts++y.ts) hT hk hf (by dsimp only;omega) (by dsimp only;omega) hm1 hm 2 (by rw[if_neg (by dsimp only;omega),if_neg (by dsimp only;omega),if_pos (by dsimp only;omega)];rfl) (by omega)
  simp only[E.ts,List.length_cons,List.length_append]at hf hm ⊢
  rw[h,if_neg (by omega)]
  have h1:=ihx hok.1.2 f (k+1) (m+1) (pre++[(o,0)]) (y.ts++post) (by rw[hT];simp[E.ts]) (by simp[hk]) (by omega) (by simp at hm ⊢;omega) (by omega)
  have h2:=ihy hok.2 (f - x.ts.length) (k+1+x.ts.length) m (pre++((o,0)::x.ts)) post (by rw[hT];simp[E.ts]) (by simp[hk];omega) (by omega) (by simp at hm ⊢;omega) (by omega)
  rw[show m+2 - 1=m+1 by omega,h1,if_neg (by omega),show m+1 - 1=m by omega,h2,show k+1+x.ts.length+y.ts.length=k+(x.ts.length+y.ts.length+1) by omega,show f+1 - (x.ts.length+y.ts.length+1)=f - x.ts.length - y.ts.length by omega]
 |ite x y z ihx ihy ihz=>
  intro hok fuel k m pre post hT hk hm1 hm hf
  simp only[E.arOk,Bool.and_eq_true,decide_eq_true_eq]at hok
  obtain⟨f,rfl,h⟩:=key (t:=(43,0)) (l:=x.ts++(y.ts++z.ts)) hT hk hf (by decide) (by decide) hm1 hm 3 rfl (by omega)
  simp only[E.ts,List.length_cons,List.length_append]at hf hm ⊢
  rw[h,if_neg (by omega)]
  have h1:=ihx hok.1.1 f (k+1) (m+2) (pre++[(43,0)]) (y.ts++z.ts++post) (by rw[hT];simp[E.ts]) (by simp[hk]) (by omega) (by simp at hm ⊢;omega) (by omega)
  have h2:=ihy hok.1.2 (f - x.ts.length) (k+1+x.ts.length) (m+1) (pre++((43,0)::x.ts)) (z.ts++post) (by rw[hT];simp[E.ts]) (by simp[hk];omega) (by omega) (by simp at hm ⊢;omega) (by omega)
  have h3:=ihz hok.2 (f - x.ts.length - y.ts.length) (k+1+x.ts.length+y.ts.length) m (pre++((43,0)::(x.ts++y.ts))) post (by rw[hT];simp[E.ts]) (by simp[hk];omega) (by omega) (by simp at hm ⊢;omega) (by omega)
  rw[show m+3 - 1=m+2 by omega,h1,if_neg (by omega),show m+2 - 1=m+1 by omega,h2,if_neg (by omega),show m+1 - 1=m by omega,h3,show k+1+x.ts.length+y.ts.length+z.ts.length=k+(x.ts.length+(y.ts.length+z.ts.length)+1) by omega,show f+1 - (x.ts.length+(y.ts.length+z.ts.length)+1)=f - x.ts.length - y.ts.length - z.ts.length by omega]
theorem UB (F:Nat) (e:E) (hok:e.arOk=true) {T pre post:eP} {k:Nat} (hT:T=pre++(e.ts++post)) (hk:pre.length=k) (hl:T.length<=800) (hF:e.ts.length<=F):yL F T (k:Int)=some (((k+e.ts.length:Nat):Int)):=by
 have hpos:1<=e.ts.length:=by cases e<;>simp[E.ts]
 have hlen:=congrArg List.length hT
 simp only[List.length_append]at hlen
 unfold yL wR
 rw[if_neg (by omega)]
 simp only[decide_eq_true_eq]
 rw[if_neg (by omega)]
 have:=RP F T (by omega) e hok F k 1 pre post hT hk (by omega) (by simp;omega) hF
 rw[if_pos rfl]at this
 exact this
end
section
def Lc (b:Bool):Int:=if b then 1 else 0
theorem pU (f:Nat) (b:Bool):gA f b=some (Lc b):=by cases b<;>rfl
theorem AK {α:Type} [Inhabited α] {l:List α} {k:Nat} (h:k<l.length):l.take (k+1)=l.take k++[at' l (k:Int)]:=by
 rw[List.take_add_one,List.getElem?_eq_getElem h,jI,List.getD_eq_getElem?_getD,List.getElem?_eq_getElem h];rfl
theorem gD {α:Type} [Inhabited α] {l:List α} {k:Nat} (h:k<l.length):at' l (k:Int)=l[k]:=by
 rw[jI,List.getD_eq_getElem?_getD,List.getElem?_eq_getElem h];rfl
theorem Lw {p:Nat->Prop}:∀(n:Nat),p n->∃m,m<=n∧p m∧∀j,j<m->¬p j:=by
 intro n
 induction n using Nat.strongRecOn with
 | _ n ih =>
  intro h
  by_cases hm:∃m,m<n∧p m
  ·obtain⟨m,h1,h2⟩:=hm
   obtain⟨k,a,b,c⟩:=ih m h1 h2
   exact⟨k,by omega,b,c⟩
  ·exact⟨n,Nat.le_refl n,h,fun j hj hp=>hm ⟨j,hj,hp⟩⟩
theorem LF {α:Type} [DecidableEq α]:∀(l1 l2:List α),l1.Nodup->(∀x∈l1,x∈l2)->l1.length<=l2.length
 | [],l2,_,_=>Nat.zero_le _
 |a::l1,l2,h,hs=>by
  have ha:=hs a List.mem_cons_self
  have h:=List.nodup_cons.1 h
  have:=LF l1 (l2.erase a) h.2 (fun x hx=>(List.mem_erase_of_ne (fun(e:x=a)=>h.1 (by rw[<-e];exact hx))).2 (hs x (List.mem_cons_of_mem _ hx)))
  rw[List.length_erase_of_mem ha]at this
  have hp:0<l2.length:=List.length_pos_of_mem ha
  simp only[List.length_cons];omega
def nz (x:Int):Bool:=decide (x≠0)
theorem Ow (f:Nat) (l:bW) (h:l.length<f) (hl:l.length<=1000):mX f l=some ((l.countP nz:Nat):Int):=by
 unfold mX
 have:=dR (step:=nK l) (K:=some ((l.countP nz:Nat):Int)) l.length (fun k=>(((l.take k).countP nz:Nat),(k:Int))) (fun k ag hk=>by
  have hc:(l.take k).countP nz<=k:=Nat.le_trans List.countP_le_length (by simp;omega)
  unfold nK pO
  dsimp only
  rw[if_pos (by omega),eB (by omega),AK hk,List.countP_append,fG (by omega),fG (by omega)]
  by_cases h0:at' l (k:Int)=0
  ·rw[if_neg (by simpa using h0)];simp[nz,h0]
  ·rw[if_pos h0];simp[nz,h0]) (fun ag=>by
  unfold nK sY
  dsimp only
  rw[if_neg (by omega),List.take_length]) f h
 exact this
theorem Dl (f:Nat) (l:bW) (x:Int) (h:l.length<f) (hl:l.length<=1000):nS f l x=some (decide (x∈l)):=by
 have key:∃i:Int,mL f l x=some i∧(0<=i↔x∈l):=by
  by_cases hx:x∈l
  ·obtain⟨i,hi,hix⟩:=List.mem_iff_getElem.1 hx
   have hfirst:∃i,i<l.length∧at' l (i:Int)=x∧∀j,j<i->at' l (j:Int)≠x:=by
    obtain⟨m,h1,h2,h3⟩:=Lw (p:=fun i=>at' l (i:Int)=x) i (by rw[gD hi,hix])
    exact⟨m,by omega,h2,h3⟩
   obtain⟨i,hi,h1,h2⟩:=hfirst
   refine⟨i,?_,iff_of_true (by omega) hx⟩
   unfold mL
   exact dR (step:=iA l x) (K:=some (i:Int)) i (fun k=>(k:Int)) (fun k ag hk=>by
    unfold iA
    rw[if_pos (by omega),eB (by omega),if_neg (fun e=>h2 k hk e.symm),fG (by omega)]) (fun ag=>by
    unfold iA
    rw[if_pos (by omega),eB (by omega),if_pos h1.symm]) f (by omega)
  ·refine⟨-1,?_,iff_of_false (by omega) hx⟩
   unfold mL
   exact dR (step:=iA l x) (K:=some (-1)) l.length (fun k=>(k:Int)) (fun k ag hk=>by
    unfold iA
    rw[if_pos (by omega),eB (by omega),if_neg (fun e=>hx (by rw[e,gD hk];exact List.getElem_mem hk)),fG (by omega)]) (fun ag=>by
    unfold iA qI
    rw[if_neg (by omega)]) f h
 obtain⟨i,h1,h2⟩:=key
 unfold nS
 rw[bR h1]
 by_cases hx:x∈l
 ·rw[decide_eq_true hx,decide_eq_true (h2.2 hx)]
 ·rw[decide_eq_false hx,decide_eq_false (fun e=>hx (h2.1 e))]
def gR (l:bW):Int:=match l.findIdx? nz with
 |some i=>(i:Int)
 |none=> -1
theorem zW {l:bW} {i:Nat} (hi:i<l.length) (h1:at' l (i:Int)≠0) (h2:∀j,j<i->at' l (j:Int)=0):gR l=i:=by
 have:l.findIdx? nz=some i:=by
  rw[List.findIdx?_eq_some_iff_getElem]
  refine⟨hi,by rw[<-gD hi];simpa [nz]using h1,fun j hj=> ?_⟩
  have:=h2 j hj
  rw[gD (by omega)]at this
  simp[nz,this]
 unfold gR;rw[this]
theorem zV {l:bW} (h:∀j,j<l.length->at' l (j:Int)=0):gR l = -1:=by
 have:l.findIdx? nz=none:=by
  rw[List.findIdx?_eq_none_iff]
  intro x hx
  obtain⟨i,hi,rfl⟩:=List.mem_iff_getElem.1 hx
  have:=h i hi
  rw[gD hi]at this
  simp[nz,this]
 unfold gR;rw[this]
theorem OM (f:Nat) (l:bW) (h:l.length<f) (hl:l.length<=1000):kC f l (fun y0=>lN f y0)=some (gR l):=by
 unfold kC
 by_cases hx:∃i,i<l.length∧at' l (i:Int)≠0
 ·obtain⟨i,hi,h0⟩:=hx
  obtain⟨m,h1,h2,h3⟩:=Lw (p:=fun i=>at' l (i:Int)≠0) i h0
  have h3:∀j,j<m->at' l (j:Int)=0:=fun j hj=>Decidable.not_not.1 (h3 j hj)
  rw[zW (by omega) h2 h3]
  exact dR (step:=eX l _) (K:=some (m:Int)) m (fun k=>(k:Int)) (fun k ag hk=>by
   unfold eX lN
   rw[if_pos (by omega),eB (by omega),bR rfl,if_neg (by simp[h3 k hk]),fG (by omega)]) (fun ag=>by
   unfold eX lN
   rw[if_pos (by omega),eB (by omega),bR rfl,if_pos (by simpa using h2)]) f (by omega)
 ·have hx:∀j,j<l.length->at' l (j:Int)=0:=fun j hj=>Decidable.not_not.1 fun e=>hx ⟨j,hj,e⟩
  rw[zV hx]
  exact dR (step:=eX l _) (K:=some (-1)) l.length (fun k=>(k:Int)) (fun k ag hk=>by
   unfold eX lN
   rw[if_pos (by omega),eB (by omega),bR rfl,if_neg (by simp[hx k hk]),fG (by omega)]) (fun ag=>by
   unfold eX lY
   rw[if_neg (by omega)]) f h
def UU (l:bW):Int:=l.foldl min 1073741824
theorem UV (f:Nat) (l:bW) (h:l.length<f) (hl:l.length<=1000):bZ (oQ l) f ((1073741824:Int),(0:Int))=some (UU l):=by
 exact dR (step:=oQ l) (K:=some (UU l)) l.length (fun k=>((l.take k).foldl min 1073741824,(k:Int))) (fun k ag hk=>by
  unfold oQ
  dsimp only
  rw[if_pos (by omega),eB (by omega),AK hk,List.foldl_append,fG (by omega)];rfl) (fun ag=>by
  unfold oQ uF
  dsimp only
  rw[if_neg (by omega),List.take_length];rfl) f h
def IF (l:bW):Nat->Nat->Nat
 |0,k=>k
 |f+1,k=>if((k:Nat):Int)∈l then IF l f (k+1)else k
def KC (l:bW):Nat:=IF l (l.length+1) 0
theorem Pn (l:bW):((KC l:Nat):Int)∉l∧(∀j,j<KC l->((j:Nat):Int)∈l)∧KC l<=l.length:=by
 have key:∀(f k:Nat),(∀j,j<k->((j:Nat):Int)∈l)->(∀j,j<IF l f k->((j:Nat):Int)∈l)∧(IF l f k=k+f∨((IF l f k:Nat):Int)∉l):=by
  intro f
  induction f with
  |zero=>intro k h;exact⟨h,.inl rfl⟩
  | succ f ih =>
   intro k h
   by_cases hk:((k:Nat):Int)∈l
   ·have:=ih (k+1) (fun j hj=>by
     rcases Nat.lt_or_ge j k with q|q
     ·exact h j q
     ·rw[show j=k by omega];exact hk)
    simp only[IF,if_pos hk]
    exact⟨this.1,this.2.imp (fun e=>by omega) id⟩
   ·simp only[IF,if_neg hk]
    exact⟨h,.inr hk⟩
 have hle:∀m,(∀j,j<m->((j:Nat):Int)∈l)->m<=l.length:=fun m h=>by
  have:=LF ((List.range m).map fun j=>((j:Nat):Int)) l (by
   rw[List.nodup_iff_pairwise_ne,List.pairwise_map]
   exact(List.nodup_iff_pairwise_ne.1 List.nodup_range).imp (fun h e=>h (by omega))) (fun x hx=>by
   obtain⟨j,hj,rfl⟩:=List.mem_map.1 hx
   exact h j (List.mem_range.1 hj))
  simpa using this
 obtain⟨h1,h2⟩:=key (l.length+1) 0 (fun j hj=>by omega)
 have h3:=hle _ h1
 refine⟨?_,h1,h3⟩
 rcases h2 with h2|h2
 ·have:IF l (l.length+1) 0<=l.length:=h3
  omega
 ·exact h2
theorem UT (f:Nat) (l:bW) (h:l.length+2<f) (hl:l.length<=900):vG f l=some ((KC l:Nat):Int):=by
 obtain⟨h1,h2,h3⟩:=Pn l
 unfold vG
 exact dR (step:=tH f l) (K:=some ((KC l:Nat):Int)) (KC l) (fun k=>(k:Int)) (fun k ag hk=>by
  unfold tH
  rw[bR (Dl f l (k:Int) (by omega) (by omega)),if_pos (by simpa using h2 k hk),fG (by omega)]) (fun ag=>by
  unfold tH wL
  rw[bR (Dl f l _ (by omega) (by omega)),if_neg (by simpa using h1)]) f (by omega)
def SQ (l:bW):Int:=l.foldl (fun a x=>wI .i64 (a+x)) 0
theorem Vk (f:Nat) (l:bW) (h:l.length<f) (hl:l.length<=1000):bZ (oS f l) f ((0:Int),(0:Int))=yG f (SQ l):=by
 refine(dR (step:=oS f l) l.length (fun k=>(SQ (l.take k),(k:Int))) (fun k ag hk=> ?_) (fun ag=> ?_) f h).trans rfl
 ·unfold oS
  dsimp only
  rw[if_pos (by omega),eB (by omega),fG (by omega),AK hk]
  unfold SQ
  rw[List.foldl_append];rfl
 ·unfold oS
  dsimp only
  rw[if_neg (by omega),List.take_length]
def Lp (o:Int) (l:bW):Int:=
 if o=20 then Lc (l.all nz)else if o=21 then Lc (l.any nz)else if o=22 then((l.countP nz:Nat):Int)else if o=23 then gR l else if o=24 then UU l else if o=26 then max (-1073741824) (min (SQ l) 1073741824)else((KC l:Nat):Int)
theorem Sb (f:Nat) (o:Int) (l:bW) (hf:40<=f) (hl:l.length<=24) (ho:o=20∨o=21∨o=22∨o=23∨o=24∨o=26∨o=27):wM f o l=some (Lp o l):=by
 have hc:=Ow f l (by omega) (by omega)
 unfold wM
 rcases ho with rfl|rfl|rfl|rfl|rfl|rfl|rfl
 ·rw[if_pos rfl,bR hc,bR (pU f _),Lp,if_pos rfl]
  have:(decide (((l.countP nz:Nat):Int)=(l.length:Int)))=l.all nz:=by
   rw[Bool.eq_iff_iff];simp[List.countP_eq_length,Int.ofNat_inj]
  rw[this]
 ·rw[if_neg (by decide),if_pos rfl,bR hc,bR (pU f _),Lp,if_neg (by decide),if_pos rfl]
  have:(decide ((0:Int)<((l.countP nz:Nat):Int)))=l.any nz:=by
   rw[Bool.eq_iff_iff,decide_eq_true_eq,List.any_eq_true,show((0:Int)<((l.countP nz:Nat):Int))↔0<l.countP nz by omega,List.countP_pos_iff]
  rw[this]
 ·rw[if_neg (by decide),if_neg (by decide),if_pos rfl,bR hc];rfl
 ·rw[if_neg (by decide),if_neg (by decide),if_neg (by decide),if_pos rfl,bR (OM f l (by omega) (by omega))];rfl
 ·rw[if_neg (by decide),if_neg (by decide),if_neg (by decide),if_neg (by decide),if_pos rfl,UV f l (by omega) (by omega)];rfl
 ·rw[if_neg (by decide),if_neg (by decide),if_neg (by decide),if_neg (by decide),if_neg (by decide),if_neg (by decide),if_pos rfl,Vk f l (by omega) (by omega)];rfl
 ·rw[if_neg (by decide),if_neg (by decide),if_neg (by decide),if_neg (by decide),if_neg (by decide),if_neg (by decide),if_neg (by decide),if_pos rfl,bR (UT f l (by omega) (by omega))];rfl
end
end Go.Proofs.YtlciiihigmgaiaaGreat
end
section
namespace Go.Proofs.YtlciiihigmgaiaaGreat
open Go.Sx
section
def nG  (a4:Int):Option (Int):=
 some (a4)
def eS (U:Nat) (p0:Int) (p1:Int):Option (Int):=
 if p1<(1:Int)then(some (0:Int))else(ck (p1≠0) (if(Int.tmod p0 p1)<(0:Int)then(nG  (wI .i64 ((Int.tmod p0 p1)+p1)))else(nG  (Int.tmod p0 p1))))
theorem BR:a_ Tryz.prog 8:=Tryz.call8
theorem gW (U:Nat) {p0:Int} {p1:Int} (r:Int) (h:eS U p0 p1=some r):
  bJ Tryz.prog 8 #[vI (p0),vI (p1)] [] (fun x:Unit=>vI (r)) (fun x l=>l) (fun _ l=>l):=by
 refine bJ.of Tryz.func8 rfl Tryz.ntmps8 rfl fun c=>?_
 refine aX<|aF rfl<|aP<|aM<|aX<|aA rfl<|eD rfl<|aP ?_
 refine gP h rfl (fun h=>?_) fun h=>?_
 ·refine aX<|aF rfl<|aP<|aW<|aL ?_
  cases h
  exact mN rfl
 refine eL<|aX<|aA rfl<|aA rfl<|eM h fun j2 h=>aE (NX rfl rfl j2) rfl<|aF rfl<|aP<|aM<|kF (fun a4=>nG  a4=some r) (fun a4 b5=>[(0,vI (a4))]) (fun a4 b5=>[]) ?_ ?_
 ·refine aX<|aA rfl<|eD rfl<|aP ?_
  refine gP h rfl (fun h=>?_) fun h=>?_
  ·refine aS<|aA rfl<|aA rfl<|eC rfl<|aF rfl<|aP ?_
   exact jO (wI .i64 ((Int.tmod p0 p1)+p1)) () h SF rfl
  refine eL ?_
  exact jO (Int.tmod p0 p1) () h SF rfl
 intro a4 b5 h
 unfold nG at h
 refine aX<|aA rfl<|aF rfl<|aP<|aW ?_
 cases h
 exact mN rfl
end
section
def oF (U:Nat) (p0:bW) (p1:Int):Option (Int):=
 if p1<(List.length p0:Int)then(ck (0<=p1∧p1<(List.length p0:Int)) (some (at' p0 p1)))else(some (0:Int))
theorem Ep:a_ Tryz.prog 31:=Tryz.call31
theorem vY (U:Nat) {p0:bW} {p1:Int} (v0:Value) (r:Int) (h:oF U p0 p1=some r):
  bJ Tryz.prog 31 #[v0,vI (p1)] [Sl bT v0 p0] (fun x:Unit=>vI (r)) (fun x l=>l) (fun _ l=>l):=by
 refine bJ.of Tryz.func31 rfl Tryz.ntmps31 rfl fun c=>?_
 refine aX<|aF rfl<|aP<|aM<|aX<|aA rfl<|aA rfl<|mS (aG.fact 0 rfl) rfl<|eD rfl<|aP ?_
 refine gP h rfl (fun h=>?_) fun h=>?_
 ·refine aX<|aA rfl<|aA rfl<|eM h fun j2 h=>aE (bQ rfl rfl (aG.fact 0 rfl) rfl rfl j2) rfl<|aE (cF rfl (aG.fact 0 rfl) rfl rfl rfl dJ j2) rfl<|aF rfl<|aP<|aW<|aL ?_
  cases h
  exact mN rfl
 refine eL<|aX<|aF rfl<|aP<|aW ?_
 cases h
 exact mN rfl
end
section
def qL  (a8:bP):Option bP:=
 some (a8)
def tX (a15:bP×Int) (ag14:v_->Option bP) (a21:bW):Option bP:=
 ck ((List.length a15.1:Int)+(List.length ([a21]):Int)<=1099511627) (ag14 ((a15.1++[a21]),(wI .i64 (a15.2+(1:Int)))))
def kZ (U:Nat) (p1:Dv) (p2:bW) (a15:bP×Int) (a33:bW×Int) (ag32:wS->Option bP) (a43:gC):Option bP:=
 Option.bind (oF U p2 (wI .i64 ((wI .i64 (a15.2*(List.length p1:Int)))+a33.2))) fun r45=>(Option.bind (eS U r45 (wI .i64 ((wI .i64 (a43.2 - a43.1))+(1:Int)))) fun r48=>(ck ((List.length a33.1:Int)+(List.length ([(wI .i64 (a43.1+r48))]):Int)<=1099511627) (ag32 ((a33.1++([(wI .i64 (a43.1+r48))])),(wI .i64 (a33.2+(1:Int)))))))
def k_ (U:Nat) (p0:fR) (p1:Dv) (p2:bW) (a3:Int) (a15:bP×Int) (ag14:v_->Option bP) (a33:bW×Int) (ag32:wS->Option bP):Option bP:=
 if a33.2<(List.length p1:Int)then(ck (0<=a33.2∧a33.2<(List.length p1:Int)) (ck (0<=a33.2∧a33.2<(List.length p1:Int)) (ck (0<=a33.2∧a33.2<(List.length p1:Int)) (ck (0<=a33.2∧a33.2<(List.length p1:Int)) (ck (0<=a33.2∧a33.2<(List.length p1:Int)) (if((at' p1 a33.2).2.1)=(2:Int)then(kZ U p1 p2 a15 a33 ag32 ((0:Int),(1:Int)))else(if((at' p1 a33.2).2.1)=(3:Int)then(ck (0<=a15.2∧a15.2<(List.length p0.2:Int)) (kZ U p1 p2 a15 a33 ag32 ((-1:Int),(wI .i64 ((List.length (at' p0.2 a15.2):Int) - (1:Int))))))else(kZ U p1 p2 a15 a33 ag32 (((at' p1 a33.2).2.2.1),(wI .i64 ((wI .i64 (((at' p1 a33.2).2.2.2.1)+(wI .i64 (((at' p1 a33.2).2.2.2.2.1)*(List.length p0.2:Int)))))+(wI .i64 (((at' p1 a33.2).2.2.2.2.2)*a3)))))))))))))else(tX a15 ag14 (a33.1))
def iD (U:Nat) (p0:fR) (p1:Dv) (p2:bW) (a3:Int) (a15:bP×Int) (ag14:v_->Option bP):Option bP:=
 if a15.2<(List.length p0.2:Int)then(bZ (k_ U p0 p1 p2 a3 a15 ag14) U (([]:bW),(0:Int)))else(qL  (a15.1))
def nF (U:Nat) (p0:fR) (p1:Dv) (p2:bW) (a3:Int):Option bP:=
 bZ (iD U p0 p1 p2 a3) U (([]:bP),(0:Int))
def qM (U:Nat) (p0:fR) (p1:Dv) (p2:bW) (a61:gC) (ag60:iC->Option bP):Option bP:=
 if a61.2<(List.length p0.2:Int)then(ck (0<=a61.2∧a61.2<(List.length p0.1:Int)) (ag60 ((max a61.1 (at' p0.1 a61.2)),(wI .i64 (a61.2+(1:Int))))))else(nF U p0 p1 p2 (a61.1))
def kD (U:Nat) (p0:fR) (p1:Dv) (p2:bW):Option bP:=
 bZ (qM U p0 p1 p2) U ((0:Int),(0:Int))
theorem Ue:a_ Tryz.prog 10:=Tryz.call10
theorem Fj (U:Nat) {p0:fR} {p1:Dv} {p2:bW} (v0:Value)  (v1:Value)  (z2:oZ)  (v3:Value)  (v4:Value) (r:bP) (h:kD U p0 p1 p2=some r):
  bJ Tryz.prog 10 #[Value.agg #[v0,v1],v3,v4] [Sl bT v0 p0.1,S2 bM v1 z2 p0.2,Sl aD v3 p1,Sl bT v4 p2] (fun x:Dx=>x.1) (fun x l=>Ar dH.raw x.1 x.2::fI cB x.2 r::l) (fun _ l=>l):=by
 refine bJ.of Tryz.func10 rfl Tryz.ntmps10 rfl fun c=>?_
 unfold kD at h
 refine aX<|aK (aN.box (cs:=[v0,v1]) rfl rfl) rfl fun b1=>aF rfl<|aP<|aX<|cV rfl<|iF 0 rfl<|aE (jB rfl (aG.fact 1 rfl) rfl) rfl<|aF rfl<|aF rfl<|aP<|aM<|kF (fun a3=>nF U p0 p1 p2 a3=some r) (fun a3 b4=>[(1,v3),(2,v4),(3,vP b1),(7,vI (List.length p0.2:Int)),(8,vI (a3))]) (fun a3 b4=>[cR b1 [v0,v1] 28]) ?_ ?_
 ·refine aX<|aF rfl<|aP<|aY<|hJ (qM U p0 p1 p2) (fun a61 b62=>[(1,v3),(2,v4),(3,vP b1),(7,vI (List.length p0.2:Int)),(8,vI (a61.1)),(9,vI (a61.2))]) (fun a61 b62=>[cR b1 [v0,v1] 28]) ((0:Int),(0:Int)) () h SF (aT.refl _) ?_
  intro k63 a61 b62 h
  refine aM<|aX<|aA rfl<|aA rfl<|eD rfl<|aP ?_
  refine gP h rfl (fun h=>?_) fun h=>?_
  ·refine eL<|aM<|aY<|aS<|aA rfl<|cV rfl<|iF 0 rfl<|aA rfl<|eM h fun j65 h=>aE (bQ rfl rfl (aG.fact 0 rfl) rfl rfl j65) rfl<|aE (cF rfl (aG.fact 0 rfl) rfl rfl rfl dJ j65) rfl<|aE (En rfl rfl) rfl<|aF rfl<|fU<|qB<|aS<|aA rfl<|eC rfl<|aF rfl<|aP ?_
   exact BF ((max a61.1 (at' p0.1 a61.2)),(wI .i64 (a61.2+(1:Int)))) () h SF rfl
  refine iV ?_
  exact jO (a61.1) () h SF rfl
 intro a3 b4 h
 unfold nF at h
 refine aX<|aF rfl<|aP<|aM<|yM (B:=Dx) (fun a8=>qL  a8=some r) (fun a8 b9=>[(10,b9.1)]) (fun a8 b9=>[Ar dH.raw b9.1 b9.2,fI cB b9.2 a8]) ?_ ?_
 ·refine aX<|aF rfl<|aP<|aY<|m_ (nJ dH.raw) (m_ (wH cB) ?_)
  refine hJ (B:=Dx) (iD U p0 p1 p2 a3) (fun a15 b16=>[(1,v3),(2,v4),(3,vP b1),(7,vI (List.length p0.2:Int)),(8,vI (a3)),(10,b16.1),(11,vI (a15.2))]) (fun a15 b16=>[cR b1 [v0,v1] 28,Ar dH.raw b16.1 b16.2,fI cB b16.2 a15.1]) (([]:bP),(0:Int)) ((lQ),([]:eG)) h SF (aT.ix [2,1,0] rfl rfl) ?_
  intro k17 a15 b16 h
  refine aM<|aX<|aA rfl<|aA rfl<|eD rfl<|aP ?_
  refine gP h rfl (fun h=>?_) fun h=>?_
  ·refine eL<|aM<|aY<|aX<|aF rfl<|aP<|aM<|yM (B:=Value) (fun a21=>tX a15 (bZ (iD U p0 p1 p2 a3) k17) a21=some r) (fun a21 b22=>[(1,v3),(2,v4),(3,vP b1),(7,vI (List.length p0.2:Int)),(8,vI (a3)),(10,b16.1),(11,vI (a15.2)),(12,b22)]) (fun a21 b22=>[cR b1 [v0,v1] 28,Ar dH.raw b16.1 b16.2,fI cB b16.2 a15.1,Ar cB b22 a21]) ?_ ?_
   ·refine aX<|aF rfl<|aP<|aY<|m_ (nJ cB)<|hJ (B:=Value) (k_ U p0 p1 p2 a3 a15 (bZ (iD U p0 p1 p2 a3) k17)) (fun a33 b34=>[(1,v3),(2,v4),(3,vP b1),(7,vI (List.length p0.2:Int)),(8,vI (a3)),(10,b16.1),(11,vI (a15.2)),(12,b34),(13,vI (a33.2))]) (fun a33 b34=>[cR b1 [v0,v1] 28,Ar dH.raw b16.1 b16.2,fI cB b16.2 a15.1,Ar cB b34 a33.1]) (([]:bW),(0:Int)) (lQ) h SF (aT.ix [1,2,3,0] rfl rfl) ?_
    intro k35 a33 b34 h
    refine aM<|aX<|aA rfl<|aA rfl<|mS (aG.fact 2 rfl) rfl<|eD rfl<|aP ?_
    refine gP h rfl (fun h=>?_) fun h=>?_
    ·refine eL<|aM<|aY<|aM ?_
     refine JR.start [0,0,3,7,15,0,0,96,224,480,0,0,3072,7168,15360,0,64512,131040,0,0,786432,1835008,3932160,0,16515072,33554400,31,134217727] 27 mixedOrders (by decide +kernel) ?_
     refine JR.open (by exact rfl) ?_
     refine bL rfl<|bL rfl<|eM h fun j37 h=>bY rfl .nil (q_ 2 rfl) (bQ rfl rfl (aG.fact 0 rfl) rfl rfl j37) aI.z<|mP rfl (mB rfl rfl rfl rfl rfl)<|bY rfl .nil (q_ 2 rfl) (nQ rfl (aG.fact 0 rfl) rfl rfl rfl zD j37) aI.z<|bL rfl<|bL rfl<|eM h fun j38 h=>bY rfl .nil (q_ 2 rfl) (bQ rfl rfl (aG.fact 0 rfl) rfl rfl j38) aI.z<|mP rfl (mB rfl rfl rfl rfl rfl)<|bY rfl .nil (q_ 2 rfl) (nQ rfl (aG.fact 0 rfl) rfl rfl rfl zE j38) aI.z<|bL rfl<|bL rfl<|eM h fun j39 h=>bY rfl .nil (q_ 2 rfl) (bQ rfl rfl (aG.fact 0 rfl) rfl rfl j39) aI.z<|mP rfl (mB rfl rfl rfl rfl rfl)<|bY rfl .nil (q_ 2 rfl) (nQ rfl (aG.fact 0 rfl) rfl rfl rfl zF j39) aI.z<|bL rfl<|mP rfl (Bo rfl rfl)<|mP rfl (yB rfl rfl)<|bL rfl<|bL rfl<|eM h fun j40 h=>bY rfl .nil (q_ 2 rfl) (bQ rfl rfl (aG.fact 0 rfl) rfl rfl j40) aI.z<|mP rfl (mB rfl rfl rfl rfl rfl)<|bY rfl .nil (q_ 2 rfl) (nQ rfl (aG.fact 0 rfl) rfl rfl rfl zG j40) aI.z<|bL rfl<|mP rfl (Bo rfl rfl)<|mP rfl (yB rfl rfl)<|mP rfl (zN rfl)<|cD 27 rfl rfl<|aF rfl<|aP<|aM<|kF (fun a43=>kZ U p1 p2 a15 a33 (bZ (k_ U p0 p1 p2 a3 a15 (bZ (iD U p0 p1 p2 a3) k17)) k35) a43=some r) (fun a43 b44=>[(1,v3),(2,v4),(3,vP b1),(7,vI (List.length p0.2:Int)),(8,vI (a3)),(10,b16.1),(11,vI (a15.2)),(12,b34),(13,vI (a33.2)),(14,vI (a43.1)),(15,vI (a43.2))]) (fun a43 b44=>[cR b1 [v0,v1] 28,Ar dH.raw b16.1 b16.2,fI cB b16.2 a15.1,Ar cB b34 a33.1]) ?_ ?_
     ·refine aX<|aA rfl<|aA rfl<|eM h fun j54 h=>aE (bQ rfl rfl (aG.fact 2 rfl) rfl rfl j54) rfl<|aE (mB rfl rfl rfl rfl rfl) rfl<|aE (nQ rfl (aG.fact 2 rfl) rfl rfl rfl sB j54) rfl<|aP<|aY<|aX<|dL rfl<|aF rfl<|aP ?_
      refine gP h rfl (fun h=>?_) fun h=>?_
      ·refine aS<|aF rfl<|aF rfl<|fU<|qB ?_
       exact jO ((0:Int),(1:Int)) () h SF rfl
      refine aX<|dL rfl<|aF rfl<|aP ?_
      refine gP h rfl (fun h=>?_) fun h=>?_
      ·refine JR.start [0,1,0,7,15,31,63,0,255] 8 mixedOrders (by decide +kernel) ?_
       refine JR.open (by exact rfl) ?_
       refine c_ rfl<|jN 0 rfl<|bL rfl<|eM h fun j57 h=>bY rfl .nil (q_ 1 rfl) (dK rfl rfl (aG.fact 0 rfl) rfl rfl j57) aI.z<|bY rfl .nil (q_ 1 rfl) (eI rfl (aG.fact 0 rfl) rfl rfl j57) aI.z<|bY rfl .nil (q_ 1 rfl) (kQ rfl (aG.el (aG.fact 0 rfl) j57.1 j57.2) rfl) aI.z<|mP rfl (uU rfl rfl)<|mP rfl (zN rfl)<|cD 8 rfl rfl<|aF rfl<|fU<|qB ?_
       exact jO ((-1:Int),(wI .i64 ((List.length (at' p0.2 a15.2):Int) - (1:Int)))) () h SF rfl
      refine f_<|qB ?_
      exact jO (((at' p1 a33.2).2.2.1),(wI .i64 ((wI .i64 (((at' p1 a33.2).2.2.2.1)+(wI .i64 (((at' p1 a33.2).2.2.2.2.1)*(List.length p0.2:Int)))))+(wI .i64 (((at' p1 a33.2).2.2.2.2.2)*a3))))) () h SF rfl
     intro a43 b44 h
     refine aS<|aA rfl<|aA rfl<|aA rfl<|aA rfl<|aA rfl<|mS (aG.fact 2 rfl) rfl<|aE (Bo rfl rfl) rfl<|aA rfl<|eC rfl<|gK h fun r45 w46 h=>aK (aN.callQ Ep (vY U v4 r45 w46) rfl (pJ [3] rfl)) rfl fun x47=>aA rfl<|aA rfl<|aE (uU rfl rfl) rfl<|eC rfl<|gK h fun r48 w49 h=>aK (aN.callQ BR (gW U  r48 w49) rfl .nil) rfl fun x50=>eC rfl<|aK (eW (e:=cB) ([(wI .i64 (a43.1+r48))]) [(0,vI (wI .i64 (a43.1+r48)))] rfl rfl rfl rfl (u_ (vI (wI .i64 (a43.1+r48))) rfl) rfl rfl rfl) rfl fun u51=>eM h fun j53 h=>aK (oO 4 cU rfl rfl rfl (cI (aG.res 0 rfl) cU) rfl rfl rfl rfl j53 rfl) rfl fun u52=>aF rfl<|fU<|qB<|aS<|aA rfl<|eC rfl<|aF rfl<|aP ?_
     exact lZ ((a33.1++([(wI .i64 (a43.1+r48))])),(wI .i64 (a33.2+(1:Int)))) (u52) h SF (aT.ix [1,2,3,4] rfl rfl) (aH.refl _ _)
    refine iV ?_
    exact jO (a33.1) (b34) h SF rfl
   intro a21 b22 h
   refine aS<|aA rfl<|aA rfl<|m_ (wH cB)<|cH (Know.one ((cI (aG.res 4 rfl) cU))) fun ho23=>m_ (Ka 0 4 rfl rfl rfl) ?_
   refine aK (eW (e:=dH.raw) [b22] [(0,b22)] rfl rfl rfl rfl (u_ (b22) ho23) rfl rfl (by simp[cellsOf,dH.raw,ho23])) rfl fun u24=>?_
   refine cH (bF 4 rfl) fun hl25=>cH (bF 1 rfl) fun hl26=>eM h fun j27 h=>m_ (Ij 4 1 rfl rfl rfl) ?_
   refine aK (aN.append 2 0 rfl rfl rfl rfl rfl rfl rfl (by have q:=j27;have q1:=hl25;have q2:=hl26;(try simp only[List.length_cons,List.length_nil]at q q1 q2 ⊢);omega) (by have q:=j27;have q1:=hl25;have q2:=hl26;(try simp only[List.length_cons,List.length_nil]at q q1 q2 ⊢);omega) rfl) rfl fun u28=>?_
   refine aF rfl<|fU<|qB<|aS<|aA rfl<|eC rfl<|aF rfl<|aP ?_
   exact lZ ((a15.1++[a21]),(wI .i64 (a15.2+(1:Int)))) (u28,(b16.2++[b22])) h SF (aT.ix [1,2,3] rfl rfl) (aH.refl _ _)
  refine iV ?_
  exact dZ (a15.1) (b16.1,b16.2) h SF (aT.ix [1,2] rfl rfl) (aH.refl _ _)
 intro a8 b9 h
 unfold qL at h
 refine aX<|aA rfl<|aF rfl<|aP<|aW ?_
 cases h
 exact nO (b9.1,b9.2) rfl rfl (RV.tmp rfl) (aT.refl _) aH.nil
end
section
def tS  (a2:Unit):Option (Int):=
 some (-1:Int)
def qA (p0:fR) (p1:Int) (p2:Int) (a7:Int) (ag6:(Int)->Option (Int)):Option (Int):=
 if a7<(List.length (at' p0.2 p1):Int)then(ck (0<=a7∧a7<(List.length (at' p0.2 p1):Int)) (if((at' (at' p0.2 p1) a7).1)=p2 then(some (a7))else(ag6 (wI .i64 (a7+(1:Int))))))else(tS  (()))
def gT (U:Nat) (p0:fR) (p1:Int) (p2:Int):Option (Int):=
 ck (0<=p1∧p1<(List.length p0.2:Int)) (bZ (qA p0 p1 p2) U (0:Int))
theorem Ha:a_ Tryz.prog 100:=Tryz.call100
theorem vV (U:Nat) {p0:fR} {p1:Int} {p2:Int} (v0:Value)  (v1:Value)  (z2:oZ) (r:Int) (h:gT U p0 p1 p2=some r):
  bJ Tryz.prog 100 #[Value.agg #[v0,v1],vI (p1),vI (p2)] [Sl bT v0 p0.1,S2 bM v1 z2 p0.2] (fun x:Unit=>vI (r)) (fun x l=>l) (fun _ l=>l):=by
 refine bJ.of Tryz.func100 rfl Tryz.ntmps100 rfl fun c=>?_
 refine aX<|aK (aN.box (cs:=[v0,v1]) rfl rfl) rfl fun b1=>aF rfl<|aP<|aM<|kF (fun a2=>tS  a2=some r) (fun a2 b3=>[]) (fun a2 b3=>[]) ?_ ?_
 ·refine aX<|cV rfl<|iF 0 rfl<|aA rfl<|eM h fun j4 h=>aE (dK rfl rfl (aG.fact 1 rfl) rfl rfl j4) rfl<|aE (eI rfl (aG.fact 1 rfl) rfl rfl j4) rfl<|aE (kQ rfl (aG.el (aG.fact 1 rfl) j4.1 j4.2) rfl) rfl<|aA rfl<|aP<|aY<|hJ (qA p0 p1 p2) (fun a7 b8=>[(2,vI (p2)),(13,(at' z2 p1).1),(14,vI (List.length (at' p0.2 p1):Int)),(15,vI (a7))]) (fun a7 b8=>[]) (0:Int) () h SF .nil ?_
  intro k9 a7 b8 h
  refine aX<|eD rfl<|aP<|aM ?_
  refine gP h rfl (fun h=>?_) fun h=>?_
  ·refine eL<|aM<|aY<|aX<|aA rfl<|eM h fun j11 h=>aE (bQ rfl rfl (aG.el (aG.fact 1 rfl) j4.1 j4.2) rfl rfl j11) rfl<|aE (iR (cs:=[vI ((at' (at' p0.2 p1) a7).1),vI ((at' (at' p0.2 p1) a7).2)]) rfl (aG.el (aG.fact 1 rfl) j4.1 j4.2) bN rfl rfl rfl rfl j11) rfl<|aK (aN.alloc (cs:=Qu) rfl rfl) rfl fun b12=>aF rfl<|cL 0 (vs:=[vI ((at' (at' p0.2 p1) a7).1),vI ((at' (at' p0.2 p1) a7).2)]) rfl rfl rfl rfl rfl rfl<|aP<|aX<|cV rfl<|iF 0 rfl<|aA rfl<|dL rfl<|aP ?_
   refine gP h rfl (fun h=>?_) fun h=>?_
   ·refine aX<|aA rfl<|aF rfl<|aP<|aW<|cA<|aL<|aL<|cA<|aL ?_
    cases h
    exact xC rfl
   refine f_<|qB<|aS<|eC rfl<|aA rfl<|aP ?_
   exact lZ (wI .i64 (a7+(1:Int))) () h SF .nil (aH.refl _ _)
  refine iV ?_
  exact jO () (()) h SF rfl
 intro a2 b3 h
 unfold tS at h
 refine aX<|aF rfl<|aP<|aW ?_
 cases h
 exact mN rfl
end
section
def kM  (a2:Unit):Option (Bool):=
 some (true)
def fX (p0:bW) (a7:Int×List (Bool)) (ag6:(Int×List (Bool))->Option (Bool)) (a13:Bool):Option (Bool):=
 if a13=true then(some (false))else(ck ((0<=(at' p0 a7.1)∧(at' p0 a7.1)<((256:Nat):Int))∧List.length a7.2=256) (ag6 ((wI .i64 (a7.1+(1:Int))),(List.set a7.2 (Int.toNat (at' p0 a7.1)) true))))
def eY (p0:bW) (a7:Int×List (Bool)) (ag6:(Int×List (Bool))->Option (Bool)):Option (Bool):=
 if a7.1<(List.length p0:Int)then(ck (0<=a7.1∧a7.1<(List.length p0:Int)) (if(at' p0 a7.1)<(0:Int)then(fX p0 a7 ag6 (true))else(if(255:Int)<(at' p0 a7.1)then(fX p0 a7 ag6 (true))else(ck ((0<=(at' p0 a7.1)∧(at' p0 a7.1)<((256:Nat):Int))∧List.length a7.2=256) (fX p0 a7 ag6 ((at' a7.2 (at' p0 a7.1))))))))else(kM  (()))
def gO (U:Nat) (p0:bW):Option (Bool):=
 bZ (eY p0) U ((0:Int),(List.replicate 256 false))
theorem Rq:a_ Tryz.prog 134:=Tryz.call134
theorem Af (U:Nat) {p0:bW} (v0:Value) (r:Bool) (h:gO U p0=some r):
  bJ Tryz.prog 134 #[v0] [Sl bT v0 p0] (fun x:Unit=>vB (r)) (fun x l=>l) (fun _ l=>l):=by
 refine bJ.of Tryz.func134 rfl Tryz.ntmps134 rfl fun c=>?_
 unfold gO at h
 refine aX<|aF rfl<|aP<|aX ?_
 refine aK (aN.alloc (cs:=cellsOf Vy (List.replicate 256 false)) rfl (by kernel_rfl)) rfl fun b1=>?_
 refine aP<|aM<|kF (fun a2=>kM  a2=some r) (fun a2 b3=>[]) (fun a2 b3=>[]) ?_ ?_
 ·refine aX<|aA rfl<|mS (aG.fact 0 rfl) rfl<|aA rfl<|aP<|aY<|hJ (eY p0) (fun a7 b8=>[(3,vP b1),(6,v0),(7,vI (List.length p0:Int)),(8,vI (a7.1))]) (fun a7 b8=>[cR b1 (cellsOf Vy a7.2) 210]) ((0:Int),(List.replicate 256 false)) () h SF (aT.refl _) ?_
  intro k9 a7 b8 h
  refine aX<|eD rfl<|aP<|aM ?_
  refine gP h rfl (fun h=>?_) fun h=>?_
  ·refine eL<|aM<|aY<|aX<|eM h fun j11 h=>aE (bQ rfl rfl (aG.fact 0 rfl) rfl rfl j11) rfl<|aE (cF rfl (aG.fact 0 rfl) rfl rfl rfl dJ j11) rfl<|aF rfl<|aP<|aM<|aM<|kF (fun a13=>fX p0 a7 (bZ (eY p0) k9) a13=some r) (fun a13 b14=>[(3,vP b1),(5,vI (at' p0 a7.1)),(6,v0),(7,vI (List.length p0:Int)),(8,vI (a7.1)),(22,vB (a13))]) (fun a13 b14=>[cR b1 (cellsOf Vy a7.2) 210]) ?_ ?_
   ·refine aS<|aA rfl<|eD rfl<|aA rfl ?_
    refine Dz h rfl (fun _ h=>?_) fun _ h=>?_
    ·refine aQ rfl<|aQ rfl<|iW rfl<|aA rfl<|aQ rfl<|aQ rfl<|aQ rfl<|iW rfl<|aP ?_
     exact jO (true) () h SF rfl
    refine dQ rfl<|aR rfl (BO rfl rfl) rfl<|h_ rfl<|aA rfl ?_
    refine Dz h rfl (fun _ h=>?_) fun _ h=>?_
    ·refine aQ rfl<|aQ rfl<|aQ rfl<|iW rfl<|aP ?_
     exact jO (true) () h SF rfl
    refine dQ rfl<|eM h fun j19 h=>aR rfl (lL rfl rfl rfl rfl rfl j19.1) rfl<|aR rfl (Mu (e:=Vy) rfl (aG.res 0 rfl) rfl rfl rfl rfl j19) rfl<|h_ rfl<|aP ?_
    exact jO ((at' a7.2 (at' p0 a7.1))) () h SF rfl
   intro a13 b14 h
   refine AQ h rfl (fun _ h=>?_) fun _ h=>?_
   ·refine aX<|aF rfl<|aP<|aW<|aL<|cA<|aL<|aL<|cA<|aL ?_
    cases h
    exact xC rfl
   refine eL<|aS<|aA rfl<|eM h fun j16 h=>aE (lL rfl rfl rfl rfl rfl j16.1) rfl<|Ej 0 (e:=Vy) true j16 rfl rfl rfl rfl rfl rfl rfl<|fU<|qB<|aS<|eC rfl<|aA rfl<|aP ?_
   exact BF ((wI .i64 (a7.1+(1:Int))),(List.set a7.2 (Int.toNat (at' p0 a7.1)) true)) () h SF rfl
  refine iV ?_
  exact dZ () (()) h SF .nil (aH.refl _ _)
 intro a2 b3 h
 unfold kM at h
 refine aX<|aF rfl<|aP<|aW ?_
 cases h
 exact mN rfl
end
section
def qQ (a3:(List ((Int×Int)×Int))) (kv6:(Int×Int)×Int) (xa9:Option (Bool)):Option (Bool):=
 if(Option.getD (jV (kv6.1.2,kv6.1.1) a3) (0:Int))≠kv6.2 then(some (false))else(xa9)
def gI  (a3:(List ((Int×Int)×Int))):Option (Bool):=
 FE (qQ a3) (some (true)) a3
def j_ (a17:Dw) (ag16:Gy->Option (Bool)) (a22:(List ((Int×Int)×Int))):Option (Bool):=
 ag16 ((wI .i64 (a17.1+(1:Int))),a22)
def gJ (p0:eT) (a17:Dw) (a28:Dw) (ag27:Gy->Option (Bool)) (a39:Bool):Option (Bool):=
 if a39=true then(some (false))else(if(Option.isSome (jV (a17.1,((at' (at' p0 a17.1) a28.1).1)) a28.2))=true then(some (false))else(ag27 ((wI .i64 (a28.1+(1:Int))),(yN (a17.1,((at' (at' p0 a17.1) a28.1).1)) ((at' (at' p0 a17.1) a28.1).2) a28.2))))
def fM (p0:eT) (a17:Dw) (a28:Dw) (ag27:Gy->Option (Bool)) (a35:Bool):Option (Bool):=
 if a35=true then(some (false))else(if((at' (at' p0 a17.1) a28.1).2)<(1:Int)then(gJ p0 a17 a28 ag27 (true))else(gJ p0 a17 a28 ag27 (decide ((15:Int)<((at' (at' p0 a17.1) a28.1).2)))))
def cE (p0:eT) (a17:Dw) (ag16:Gy->Option (Bool)) (a28:Dw) (ag27:Gy->Option (Bool)):Option (Bool):=
 if a28.1<(List.length (at' p0 a17.1):Int)then(ck (0<=a28.1∧a28.1<(List.length (at' p0 a17.1):Int)) (if((at' (at' p0 a17.1) a28.1).1)<(0:Int)then(fM p0 a17 a28 ag27 (true))else(if(List.length p0:Int)<=((at' (at' p0 a17.1) a28.1).1)then(fM p0 a17 a28 ag27 (true))else(fM p0 a17 a28 ag27 (decide (((at' (at' p0 a17.1) a28.1).1)=a17.1))))))else(j_ a17 ag16 (a28.2))
def cN (U:Nat) (p0:eT) (a17:Dw) (ag16:Gy->Option (Bool)):Option (Bool):=
 if a17.1<(List.length p0:Int)then(ck (0<=a17.1∧a17.1<(List.length p0:Int)) (bZ (cE p0 a17 ag16) U ((0:Int),a17.2)))else(gI  (a17.2))
def fE (U:Nat) (p0:eT):Option (Bool):=
 bZ (cN U p0) U ((0:Int),([]:List ((Int×Int)×Int)))
theorem Rs:a_ Tryz.prog 135:=Tryz.call135
theorem Cr (U:Nat) {p0:eT} (v0:Value)  (z1:oZ) (r:Bool) (h:fE U p0=some r):
  bJ Tryz.prog 135 #[v0] [S2 bM v0 z1 p0] (fun x:Unit=>vB (r)) (fun x l=>l) (fun _ l=>l):=by
 refine bJ.of Tryz.func135 rfl Tryz.ntmps135 rfl fun c=>?_
 unfold fE at h
 refine aX<|aF rfl<|aP<|aX<|aK (aN.makeMap kG Js) rfl fun b1=>aF rfl<|aP<|aM<|kF (fun a3=>gI  a3=some r) (fun a3 b4=>[(3,Value.map (some b1))]) (fun a3 b4=>[Mp kG Js b1 a3]) ?_ ?_
 ·refine aX<|aA rfl<|aE (jB rfl (aG.fact 0 rfl) rfl) rfl<|aA rfl<|aP<|aY<|hJ (cN U p0) (fun a17 b18=>[(0,v0),(3,Value.map (some b1)),(14,v0),(15,vI (List.length p0:Int)),(16,vI (a17.1))]) (fun a17 b18=>[Mp kG Js b1 a17.2]) ((0:Int),([]:List ((Int×Int)×Int))) () h SF (aT.refl _) ?_
  intro k19 a17 b18 h
  refine aX<|eD rfl<|aP<|aM ?_
  refine gP h rfl (fun h=>?_) fun h=>?_
  ·refine eL<|aM<|kF (fun a22=>j_ a17 (bZ (cN U p0) k19) a22=some r) (fun a22 b23=>[(0,v0),(3,Value.map (some b1)),(14,v0),(15,vI (List.length p0:Int)),(16,vI (a17.1))]) (fun a22 b23=>[Mp kG Js b1 a22]) ?_ ?_
   ·refine aY<|aX<|aA rfl<|eM h fun j24 h=>aE (dK rfl rfl (aG.fact 0 rfl) rfl rfl j24) rfl<|aE (eI rfl (aG.fact 0 rfl) rfl rfl j24) rfl<|aF rfl<|aF rfl<|aP<|aX<|aA rfl<|aE (kQ rfl (aG.el (aG.fact 0 rfl) j24.1 j24.2) rfl) rfl<|aA rfl<|aP<|aY<|hJ (cE p0 a17 (bZ (cN U p0) k19)) (fun a28 b29=>[(0,v0),(3,Value.map (some b1)),(4,vI (a17.1)),(14,v0),(15,vI (List.length p0:Int)),(16,vI (a17.1)),(21,(at' z1 a17.1).1),(22,vI (List.length (at' p0 a17.1):Int)),(23,vI (a28.1))]) (fun a28 b29=>[Mp kG Js b1 a28.2]) ((0:Int),a17.2) () h SF (aT.refl _) ?_
    intro k30 a28 b29 h
    refine aX<|eD rfl<|aP<|aM ?_
    refine gP h rfl (fun h=>?_) fun h=>?_
    ·refine eL<|aM<|aY<|aX<|eM h fun j32 h=>aE (bQ rfl rfl (aG.el (aG.fact 0 rfl) j24.1 j24.2) rfl rfl j32) rfl<|aE (iR (cs:=[vI ((at' (at' p0 a17.1) a28.1).1),vI ((at' (at' p0 a17.1) a28.1).2)]) rfl (aG.el (aG.fact 0 rfl) j24.1 j24.2) bN rfl rfl rfl rfl j32) rfl<|aK (aN.alloc (cs:=Qu) rfl rfl) rfl fun b33=>cL 0 (vs:=[vI ((at' (at' p0 a17.1) a28.1).1),vI ((at' (at' p0 a17.1) a28.1).2)]) rfl rfl rfl rfl rfl rfl<|aP<|aM<|aM<|kF (fun a35=>fM p0 a17 a28 (bZ (cE p0 a17 (bZ (cN U p0) k19)) k30) a35=some r) (fun a35 b36=>[(0,v0),(3,Value.map (some b1)),(4,vI (a17.1)),(7,vP b33),(14,v0),(15,vI (List.length p0:Int)),(16,vI (a17.1)),(21,(at' z1 a17.1).1),(22,vI (List.length (at' p0 a17.1):Int)),(23,vI (a28.1)),(42,vB (a35))]) (fun a35 b36=>[cR b33 [vI ((at' (at' p0 a17.1) a28.1).1),vI ((at' (at' p0 a17.1) a28.1).2)] 142,Mp kG Js b1 a28.2]) ?_ ?_
     ·refine aS<|cV rfl<|iF 0 rfl<|eD rfl<|aA rfl ?_
      refine Dz h rfl (fun _ h=>?_) fun _ h=>?_
      ·refine aQ rfl<|aQ rfl<|aQ rfl<|aQ rfl<|aQ rfl<|iW rfl<|aA rfl<|aQ rfl<|aQ rfl<|aQ rfl<|aQ rfl<|iW rfl<|aP ?_
       exact jO (true) () h SF rfl
      refine aR rfl (mA rfl rfl rfl rfl rfl) rfl<|aR rfl (nP 0 rfl rfl rfl rfl rfl) rfl<|dQ rfl<|aR rfl (jB rfl (aG.fact 0 rfl) rfl) rfl<|aR rfl (Dj rfl rfl) rfl<|h_ rfl<|aA rfl ?_
      refine Dz h rfl (fun _ h=>?_) fun _ h=>?_
      ·refine aQ rfl<|aQ rfl<|aQ rfl<|aQ rfl<|iW rfl<|aP ?_
       exact jO (true) () h SF rfl
      refine aR rfl (mA rfl rfl rfl rfl rfl) rfl<|aR rfl (nP 0 rfl rfl rfl rfl rfl) rfl<|dQ rfl<|aR rfl (Em rfl rfl) rfl<|h_ rfl<|aP ?_
      exact jO (decide (((at' (at' p0 a17.1) a28.1).1)=a17.1)) () h SF rfl
     intro a35 b36 h
     refine AQ h rfl (fun _ h=>?_) fun _ h=>?_
     ·refine aX<|aF rfl<|aP<|aW<|aL<|cA<|aL<|aL<|cA<|cA<|aL<|aL<|cA<|aL ?_
      cases h
      exact xC rfl
     refine eL<|aM<|aM<|kF (fun a39=>gJ p0 a17 a28 (bZ (cE p0 a17 (bZ (cN U p0) k19)) k30) a39=some r) (fun a39 b40=>[(0,v0),(3,Value.map (some b1)),(4,vI (a17.1)),(7,vP b33),(14,v0),(15,vI (List.length p0:Int)),(16,vI (a17.1)),(21,(at' z1 a17.1).1),(22,vI (List.length (at' p0 a17.1):Int)),(23,vI (a28.1)),(50,vB (a39))]) (fun a39 b40=>[cR b33 [vI ((at' (at' p0 a17.1) a28.1).1),vI ((at' (at' p0 a17.1) a28.1).2)] 142,Mp kG Js b1 a28.2]) ?_ ?_
     ·refine aS<|cV rfl<|iF 0 rfl<|eD rfl<|aA rfl ?_
      refine Dz h rfl (fun _ h=>?_) fun _ h=>?_
      ·refine aQ rfl<|aQ rfl<|aQ rfl<|iW rfl<|aP ?_
       exact jO (true) () h SF rfl
      refine aR rfl (mA rfl rfl rfl rfl rfl) rfl<|aR rfl (nP 0 rfl rfl rfl rfl rfl) rfl<|aR rfl (BO rfl rfl) rfl<|h_ rfl<|aP ?_
      exact jO (decide ((15:Int)<((at' (at' p0 a17.1) a28.1).2))) () h SF rfl
     intro a39 b40 h
     refine AQ h rfl (fun _ h=>?_) fun _ h=>?_
     ·refine aX<|aF rfl<|aP<|aW<|aL<|cA<|aL<|aL<|cA<|cA<|aL<|aL<|cA<|aL ?_
      cases h
      exact xC rfl
     refine eL<|aX<|aA rfl<|cV rfl<|iF 0 rfl ?_
     refine aE (Bn (r:=Value.agg #[vI (a17.1),vI ((at' (at' p0 a17.1) a28.1).1)]) rfl rfl (by intro w;simp[Instr.build,Instr.fill,gE,fJ,eO,gF,gG,fK,iS])) rfl ?_
     refine aK (aN.alloc (cs:=Qu) rfl rfl) rfl fun b42=>cL 0 (vs:=[vI (a17.1),vI ((at' (at' p0 a17.1) a28.1).1)]) rfl rfl rfl rfl rfl rfl<|aP<|aM<|aX<|aA rfl<|fH 0 rfl ?_
     refine aE (Io 2 ((a17.1,((at' (at' p0 a17.1) a28.1).1))) (u:=vI (Option.getD (jV (a17.1,((at' (at' p0 a17.1) a28.1).1)) a28.2) (0:Int))) Ht rfl rfl rfl rfl rfl (by cases jV ((a17.1,((at' (at' p0 a17.1) a28.1).1))) a28.2<;>rfl)) rfl ?_
     refine aA rfl<|gB rfl<|gB rfl<|aF rfl<|aF rfl<|aP<|aX<|aA rfl<|aP ?_
     refine AQ h rfl (fun _ h=>?_) fun _ h=>?_
     ·refine aX<|aF rfl<|aP<|aW<|aL<|cA<|aL<|aL<|cA<|cA<|aL<|aL<|cA<|aL ?_
      cases h
      exact xC rfl
     refine eL<|aS<|aA rfl<|fH 0 rfl<|cV rfl<|iF 1 rfl<|HX 2 ((a17.1,((at' (at' p0 a17.1) a28.1).1))) ((at' (at' p0 a17.1) a28.1).2) Ht rfl rfl rfl rfl rfl<|fU<|qB<|aS<|eC rfl<|aA rfl<|aP ?_
     exact lZ ((wI .i64 (a28.1+(1:Int))),(yN (a17.1,((at' (at' p0 a17.1) a28.1).1)) ((at' (at' p0 a17.1) a28.1).2) a28.2)) () h SF (aT.ix [2] rfl rfl) (aH.refl _ _)
    refine wT<|kH<|kH<|AY<|qB ?_
    exact jO (a28.2) () h SF rfl
   intro a22 b23 h
   unfold j_ at h
   refine aS<|eC rfl<|aA rfl<|aP ?_
   exact BF ((wI .i64 (a17.1+(1:Int))),a22) () h SF rfl
  refine iV ?_
  exact jO (a17.2) () h SF rfl
 intro a3 b4 h
 unfold gI at h
 refine aM<|aX<|aA rfl<|aK (aN.range 0 rfl rfl rfl) rfl fun b5=>aP<|aY<|QX [(3,Value.map (some b1)),(69,vP b5)] [It b5 b1 (List.length a3) ([]),Mp kG Js b1 a3] [S2 bM v0 z1 p0] SF (aT.refl _) (aH.refl _ _) ?_
 refine Mm (qQ a3) 1 0 (by intro a b x;unfold qQ;repeat' split;all_goals first|rfl|contradiction|simp_all) h rfl rfl rfl rfl rfl rfl ?_ ?_
 ·skip
  intro kv6 i7 se8 xa9 hkv10 h
  refine aY<|aX<|aK (aN.entry 1 0 hkv10 rfl rfl rfl) rfl fun x11=>gB rfl<|gB rfl<|aK (aN.alloc (cs:=Qu) rfl rfl) rfl fun b12=>cL 0 (vs:=[vI (kv6.1.1),vI (kv6.1.2)]) rfl rfl rfl rfl rfl rfl<|aF rfl<|aP<|aX<|aA rfl ?_
  refine aE (lL (i:=1) rfl rfl rfl rfl rfl (by decide)) rfl ?_
  refine iF 0 rfl ?_
  refine aE (lL (i:=0) rfl rfl rfl rfl rfl (by decide)) rfl ?_
  refine iF 0 rfl ?_
  refine aE (Bn (r:=Value.agg #[vI (kv6.1.2),vI (kv6.1.1)]) rfl rfl (by intro w;simp[Instr.build,Instr.fill,gE,fJ,eO,gF,gG,fK,iS])) rfl ?_
  refine aE (Io 2 ((kv6.1.2,kv6.1.1)) (u:=vI (Option.getD (jV (kv6.1.2,kv6.1.1) a3) (0:Int))) Ht rfl rfl rfl rfl rfl (by cases jV ((kv6.1.2,kv6.1.1)) a3<;>rfl)) rfl ?_
  refine aA rfl<|sD rfl<|aP ?_
  refine gP h rfl (fun h=>?_) fun h=>?_
  ·refine aX<|aF rfl<|aP<|aW<|cA<|aL<|cA<|aL ?_
   cases h
   exact xC rfl
  refine f_<|qB ?_
  exact JM h SF (aT.ix [1,2] rfl rfl) (aH.refl _ _)
 intro se8 h
 refine AY<|xV<|aX<|aF rfl<|aP<|aW ?_
 cases h
 exact xC rfl
end
section
def mK  (a7:Bool):Option (Bool):=
 some (a7)
def mJ (U:Nat) (p0:fR) (a3:Bool):Option (Bool):=
 if a3=true then(some (false))else(Option.bind (gO U p0.1) fun r9=>(if r9=true then(Option.bind (fE U p0.2) fun r13=>(mK  (r13)))else(mK  (false))))
def iZ (U:Nat) (p0:fR):Option (Bool):=
 if(List.length p0.1:Int)<(1:Int)then(mJ U p0 (true))else(if(24:Int)<(List.length p0.1:Int)then(mJ U p0 (true))else(mJ U p0 (decide ((List.length p0.2:Int)≠(List.length p0.1:Int)))))
theorem Ri:a_ Tryz.prog 103:=Tryz.call103
theorem FJ (U:Nat) {p0:fR} (v0:Value)  (v1:Value)  (z2:oZ) (r:Bool) (h:iZ U p0=some r):
  bJ Tryz.prog 103 #[Value.agg #[v0,v1]] [Sl bT v0 p0.1,S2 bM v1 z2 p0.2] (fun x:Unit=>vB (r)) (fun x l=>l) (fun _ l=>l):=by
 refine bJ.of Tryz.func103 rfl Tryz.ntmps103 rfl fun c=>?_
 refine aX<|aK (aN.box (cs:=[v0,v1]) rfl rfl) rfl fun b1=>aF rfl<|aP<|aX<|cV rfl<|iF 0 rfl<|mS (aG.fact 0 rfl) rfl<|aF rfl<|aP<|aM<|aM<|kF (fun a3=>mJ U p0 a3=some r) (fun a3 b4=>[(1,vP b1),(19,vB (a3))]) (fun a3 b4=>[cR b1 [v0,v1] 28]) ?_ ?_
 ·refine aS<|aA rfl<|eD rfl<|aA rfl ?_
  refine Dz h rfl (fun _ h=>?_) fun _ h=>?_
  ·refine aQ rfl<|aQ rfl<|iW rfl<|aA rfl<|aQ rfl<|aQ rfl<|aQ rfl<|aQ rfl<|aQ rfl<|iW rfl<|aP ?_
   exact jO (true) () h SF rfl
  refine dQ rfl<|aR rfl (BO rfl rfl) rfl<|h_ rfl<|aA rfl ?_
  refine Dz h rfl (fun _ h=>?_) fun _ h=>?_
  ·refine aQ rfl<|aQ rfl<|aQ rfl<|aQ rfl<|aQ rfl<|iW rfl<|aP ?_
   exact jO (true) () h SF rfl
  refine aR rfl (mA rfl rfl rfl rfl rfl) rfl<|aR rfl (nP 0 rfl rfl rfl rfl rfl) rfl<|aR rfl (jB rfl (aG.fact 1 rfl) rfl) rfl<|dQ rfl<|aR rfl (tF rfl rfl) rfl<|h_ rfl<|aP ?_
  exact jO (decide ((List.length p0.2:Int)≠(List.length p0.1:Int))) () h SF rfl
 intro a3 b4 h
 refine AQ h rfl (fun _ h=>?_) fun _ h=>?_
 ·refine aX<|aF rfl<|aP<|aW<|aL ?_
  cases h
  exact xC rfl
 refine eL<|aM<|kF (fun a7=>mK  a7=some r) (fun a7 b8=>[(2,vB (a7))]) (fun a7 b8=>[]) ?_ ?_
 ·refine aS<|cV rfl<|iF 0 rfl<|gK h fun r9 w10 h=>aK (aN.callQ Rq (Af U v0 r9 w10) rfl (pJ [0] rfl)) rfl fun x11=>aA rfl ?_
  refine Ao (by exact rfl) (by exact rfl) (fun hp12=>?_) (fun hp12=>?_)
  ·have h:=Gi hp12 h
   refine aR rfl (mA rfl rfl rfl rfl rfl) rfl<|aR rfl (nP 0 rfl rfl rfl rfl rfl) rfl<|gK h fun r13 w14 h=>DK rfl (aN.callQ Rs (Cr U v1 z2 r13 w14) rfl (pJ [1] rfl)) rfl fun x15=>iW rfl<|aF rfl<|aP ?_
   exact dZ (r13) () h SF .nil (aH.refl _ _)
  have h:=Hm hp12 h
  refine aQ rfl<|aQ rfl<|aQ rfl<|h_ rfl<|aF rfl<|aP ?_
  exact dZ (false) () h SF .nil (aH.refl _ _)
 intro a7 b8 h
 unfold mK at h
 refine aW ?_
 cases h
 exact mN rfl
end
section
def qN  (a2:Unit):Option (Bool):=
 some (false)
def tY (p0:fR) (p1:Int) (p2:Int) (a6:Int) (ag5:(Int)->Option (Bool)):Option (Bool):=
 ck (0<=p1∧p1<(List.length p0.2:Int)) (if a6<(List.length (at' p0.2 p1):Int)then(ck (0<=p1∧p1<(List.length p0.2:Int)) (ck (0<=a6∧a6<(List.length (at' p0.2 p1):Int)) (if((at' (at' p0.2 p1) a6).1)=p2 then(some (true))else(ag5 (wI .i64 (a6+(1:Int)))))))else(qN  (())))
def kE (U:Nat) (p0:fR) (p1:Int) (p2:Int):Option (Bool):=
 bZ (tY p0 p1 p2) U (0:Int)
theorem Us:a_ Tryz.prog 82:=Tryz.call82
theorem Fl (U:Nat) {p0:fR} {p1:Int} {p2:Int} (v0:Value)  (v1:Value)  (z2:oZ) (r:Bool) (h:kE U p0 p1 p2=some r):
  bJ Tryz.prog 82 #[Value.agg #[v0,v1],vI (p1),vI (p2)] [Sl bT v0 p0.1,S2 bM v1 z2 p0.2] (fun x:Unit=>vB (r)) (fun x l=>l) (fun _ l=>l):=by
 refine bJ.of Tryz.func82 rfl Tryz.ntmps82 rfl fun c=>?_
 unfold kE at h
 refine aX<|aK (aN.box (cs:=[v0,v1]) rfl rfl) rfl fun b1=>aF rfl<|aP<|aM<|kF (fun a2=>qN  a2=some r) (fun a2 b3=>[]) (fun a2 b3=>[]) ?_ ?_
 ·refine aX<|aF rfl<|aP<|aY<|hJ (tY p0 p1 p2) (fun a6 b7=>[(1,vI (p1)),(2,vI (p2)),(3,vP b1),(7,vI (a6))]) (fun a6 b7=>[cR b1 [v0,v1] 28]) (0:Int) () h SF (aT.refl _) ?_
  intro k8 a6 b7 h
  refine aM<|aX<|aA rfl<|cV rfl<|iF 0 rfl<|aA rfl<|eM h fun j9 h=>aE (dK rfl rfl (aG.fact 1 rfl) rfl rfl j9) rfl<|aE (eI rfl (aG.fact 1 rfl) rfl rfl j9) rfl<|aE (kQ rfl (aG.el (aG.fact 1 rfl) j9.1 j9.2) rfl) rfl<|eD rfl<|aP ?_
  refine gP h rfl (fun h=>?_) fun h=>?_
  ·refine eL<|aM<|aY<|aX<|cV rfl<|iF 0 rfl<|aA rfl<|eM h fun j11 h=>aE (dK rfl rfl (aG.fact 1 rfl) rfl rfl j11) rfl<|aE (eI rfl (aG.fact 1 rfl) rfl rfl j11) rfl<|aA rfl<|eM h fun j12 h=>aE (bQ rfl rfl (aG.el (aG.fact 1 rfl) j11.1 j11.2) rfl rfl j12) rfl<|aE (mB rfl rfl rfl rfl rfl) rfl<|aE (nQ rfl (aG.el (aG.fact 1 rfl) j11.1 j11.2) rfl rfl rfl xY j12) rfl<|aA rfl<|dL rfl<|aP ?_
   refine gP h rfl (fun h=>?_) fun h=>?_
   ·refine aX<|aF rfl<|aP<|aW<|cA<|aL<|aL<|cA<|aL ?_
    cases h
    exact xC rfl
   refine f_<|qB<|aS<|aA rfl<|eC rfl<|aF rfl<|aP ?_
   exact BF (wI .i64 (a6+(1:Int))) () h SF rfl
  refine iV ?_
  exact dZ () (()) h SF .nil (aH.refl _ _)
 intro a2 b3 h
 unfold qN at h
 refine aX<|aF rfl<|aP<|aW ?_
 cases h
 exact mN rfl
end
section
def lU (p0:xT) (p1:fR) (p2:Int) (p3:Int) (p4:Int) (a4:Bool):Option (eT):=
 if a4=true then(some (p1.2))else(if p0.2.2.2.2.2=true then(ck (0<=p2∧p2<(List.length p1.2:Int)) (ck ((List.length ([(p3,p4)]):Int)+(List.length (at' p1.2 p2):Int)<=1099511627) (ck (0<=p2∧p2<(List.length p1.2:Int)) (ck (0<=p3∧p3<(List.length (List.set p1.2 (Int.toNat p2) (([(p3,p4)])++(at' p1.2 p2))):Int)) (ck ((List.length ([(p2,p4)]):Int)+(List.length (at' (List.set p1.2 (Int.toNat p2) (([(p3,p4)])++(at' p1.2 p2))) p3):Int)<=1099511627) (ck (0<=p3∧p3<(List.length (List.set p1.2 (Int.toNat p2) (([(p3,p4)])++(at' p1.2 p2))):Int)) (some (List.set (List.set p1.2 (Int.toNat p2) (([(p3,p4)])++(at' p1.2 p2))) (Int.toNat p3) (([(p2,p4)])++(at' (List.set p1.2 (Int.toNat p2) (([(p3,p4)])++(at' p1.2 p2))) p3))))))))))else(ck (0<=p2∧p2<(List.length p1.2:Int)) (ck (0<=p3∧p3<(List.length p1.2:Int)) (ck ((List.length (at' p1.2 p2):Int)+(List.length ([(p3,p4)]):Int)<=1099511627) (ck ((List.length (at' p1.2 p3):Int)+(List.length ([(p2,p4)]):Int)<=1099511627) (ck (Int.toNat p2≠Int.toNat p3) (ck (0<=p2∧p2<(List.length (List.set (List.set p1.2 (Int.toNat p2) ((at' p1.2 p2)++([(p3,p4)]))) (Int.toNat p3) ((at' p1.2 p3)++([(p2,p4)]))):Int)) (ck (0<=p3∧p3<(List.length (List.set (List.set p1.2 (Int.toNat p2) ((at' p1.2 p2)++([(p3,p4)]))) (Int.toNat p3) ((at' p1.2 p3)++([(p2,p4)]))):Int)) (some (List.set (List.set p1.2 (Int.toNat p2) ((at' p1.2 p2)++([(p3,p4)]))) (Int.toNat p3) ((at' p1.2 p3)++([(p2,p4)]))))))))))))
def kB (U:Nat) (p0:xT) (p1:fR) (p2:Int) (p3:Int) (p4:Int):Option (eT):=
 if p2=p3 then(lU p0 p1 p2 p3 p4 (true))else(Option.bind (kE U ((p1.1,p1.2)) p2 p3) fun r86=>(lU p0 p1 p2 p3 p4 (r86)))
theorem Ol:a_ Tryz.prog 50:=Tryz.call50
theorem vQ (U:Nat) {p0:xT} {p1:fR} {p2:Int} {p3:Int} {p4:Int} (v0:Value)  (v1:Value)  (v2:Value)  (v3:Value)  (v4:Value)  (w5:eG) (r:eT) (h:kB U p0 p1 p2 p3 p4=some r):
  Bl Tryz.prog 50 #[Value.agg #[vI (p0.1),v0,v1,v2,vB (p0.2.2.2.2.1),vB (p0.2.2.2.2.2)],Value.agg #[v3,v4],vI (p2),vI (p3),vI (p4)] [Ar dH.raw v4 w5,fI bX w5 p1.2] [Sl bT v0 p0.2.1,Sl bT v1 p0.2.2.1,Sl bT v2 p0.2.2.2.1,Sl bT v3 p1.1] (fun x:eG=>Value.tuple #[]) (fun x l=>Ar dH.raw v4 x::fI bX x r::l):=by
 refine Bl.of (vs:=[Value.agg #[vI (p0.1),v0,v1,v2,vB (p0.2.2.2.2.1),vB (p0.2.2.2.2.2)],Value.agg #[v3,v4],vI (p2),vI (p3),vI (p4)]) Tryz.func50 rfl Tryz.ntmps50 rfl fun c=>?_
 refine aX<|aK (aN.box (cs:=[vI (p0.1),v0,v1,v2,vB (p0.2.2.2.2.1),vB (p0.2.2.2.2.2)]) rfl rfl) rfl fun b1=>aK (aN.box (cs:=[v3,v4]) rfl rfl) rfl fun b2=>aP<|aM<|aM<|pC (B:=Unit) (fun a4=>lU p0 p1 p2 p3 p4 a4=some r) (fun a4 b5=>[(2,vI (p2)),(3,vI (p3)),(4,vI (p4)),(5,vP b1),(6,vP b2),(20,vB (a4))]) (fun a4 b5=>[cR b2 [v3,v4] 28,cR b1 [vI (p0.1),v0,v1,v2,vB (p0.2.2.2.2.1),vB (p0.2.2.2.2.2)] 24,Ar dH.raw v4 w5,fI bX w5 p1.2]) (fun a4 b5=>[Sl bT v0 p0.2.1,Sl bT v1 p0.2.2.1,Sl bT v2 p0.2.2.2.1,Sl bT v3 p1.1]) ?_ ?_
 ·refine aS<|aA rfl<|aA rfl<|dL rfl<|aA rfl ?_
  refine Dz h rfl (fun _ h=>?_) fun _ h=>?_
  ·refine aQ rfl<|aQ rfl<|aQ rfl<|aQ rfl<|iW rfl<|aP ?_
   exact jO (true) () h SF rfl
  refine aR rfl (jX 0 rfl rfl rfl rfl) rfl<|dQ rfl<|dQ rfl<|gK h fun r86 hr87 h=>DK rfl (aN.callQ Us (Fl U v3 v4 (List.zip w5 p1.2) r86 hr87) rfl (aH.cons (aG.fact 3 rfl) (aH.cons (bG (i:=2) (j:=3) rfl rfl bN) .nil))) rfl fun x88=>h_ rfl<|aP ?_
  exact jO (r86) () h SF rfl
 intro a4 b5 h
 refine AQ h rfl (fun _ h=>?_) fun _ h=>?_
 ·refine aW<|aL ?_
  cases h
  exact BK (w5) rfl rfl .ret (.inl rfl) (aT.ix [2,3] rfl rfl) aH.nil
 refine eL<|aX<|aA rfl<|aA rfl ?_
 refine aE (Bn (r:=Value.agg #[vI (p3),vI (p4)]) rfl rfl (by intro w;simp[Instr.build,Instr.fill,gE,fJ,eO,gF,gG,fK,iS])) rfl ?_
 refine aA rfl<|aA rfl ?_
 refine aE (Bn (r:=Value.agg #[vI (p2),vI (p4)]) rfl rfl (by intro w;simp[Instr.build,Instr.fill,gE,fJ,eO,gF,gG,fK,iS])) rfl ?_
 refine aK (aN.alloc (cs:=Qu) rfl rfl) rfl fun b7=>aK (aN.alloc (cs:=Qu) rfl rfl) rfl fun b8=>cL 1 (vs:=[vI (p3),vI (p4)]) rfl rfl rfl rfl rfl rfl<|cL 0 (vs:=[vI (p2),vI (p4)]) rfl rfl rfl rfl rfl rfl<|aP<|aM<|aX<|cV rfl<|iF 3 rfl<|aP ?_
 refine AQ h rfl (fun _ h=>?_) fun _ h=>?_
 ·refine aM ?_
  refine JR.start [0,1,0,0,8,0,32,0,224,480,1016,2047,4095] 11 mixedOrders (by decide +kernel) ?_
  refine JR.open (by exact rfl) ?_
  refine c_ rfl<|jN 2 rfl<|bL rfl<|g_ 1 rfl<|JR.loud rfl rfl rfl (eW (e:=bX) ([((p3,p4))]) [(0,Value.agg #[vI (p3),vI (p4)])] rfl rfl rfl rfl (tI (vI (p3)) (vI (p4))) rfl rfl rfl) rfl (fun u10=>(tM [([3],[])] rfl)) fun u10=>mP rfl (mA rfl rfl rfl rfl rfl)<|bY rfl (aT.cons 3 rfl .nil) .nil (nP 0 rfl rfl rfl rfl rfl) (aI.h (aT.ix [2] rfl rfl) .nil aI.z)<|mP rfl (dM rfl)<|eM h fun j11 h=>bU (bF 6 rfl) fun hl12=>?_
  refine bY rfl (aT.cons 5 rfl .nil) .nil (dC 0 rfl rfl rfl rfl rfl j11.1 (by have q1:=j11.2;have q2:=hl12;(try simp only[List.length_set]at q1);(try simp only[List.length_set]at q2);(try simp only[List.length_set]);omega)) (aI.h (aT.ix [4] rfl rfl) .nil aI.z) ?_
  refine bU (bF 6 rfl) fun hl13=>bY rfl (aT.cons 5 rfl .nil) .nil (dA 0 rfl rfl hl13 rfl rfl j11) (aI.h (aT.ix [4] rfl rfl) .nil aI.z)<|eM h fun j15 h=>JR.loud rfl rfl rfl (oO 0 bN rfl rfl rfl (aG.row (j:=6) rfl bN j11.1 j11.2) rfl rfl rfl rfl j15 rfl) rfl (fun u14=>(tM [([3],[])] rfl)) fun u14=>cD 11 rfl rfl<|eM h fun j16 h=>aE (dK rfl rfl (bG (i:=5) (j:=6) rfl rfl bN) rfl rfl j16) rfl<|cH (Know.one ((cI (aG.res 0 rfl) bN))) fun ho17=>m_ (sJ (k:=p2) 6 0 rfl rfl rfl j16) ?_
  refine jK 4 5 ⟨j16.1,by first|exact j16.2|simpa using j16.2⟩ rfl rfl rfl rfl rfl (by simp) ho17 rfl ?_
  refine aP<|aM ?_
  refine JR.start [0,1,0,0,8,0,32,0,224,480,1016,2047,4095] 11 mixedOrders (by decide +kernel) ?_
  refine JR.open (by exact rfl) ?_
  refine c_ rfl<|jN 2 rfl<|bL rfl<|g_ 0 rfl<|JR.loud rfl rfl rfl (eW (e:=bX) ([((p2,p4))]) [(0,Value.agg #[vI (p2),vI (p4)])] rfl rfl rfl rfl (tI (vI (p2)) (vI (p4))) rfl rfl rfl) rfl (fun u18=>(tM [([3],[])] rfl)) fun u18=>mP rfl (mA rfl rfl rfl rfl rfl)<|bY rfl (aT.cons 3 rfl .nil) .nil (nP 0 rfl rfl rfl rfl rfl) (aI.h (aT.ix [2] rfl rfl) .nil aI.z)<|mP rfl (dM rfl)<|eM h fun j19 h=>bU (bF 6 rfl) fun hl20=>?_
  refine bY rfl (aT.cons 5 rfl .nil) .nil (dC 0 rfl rfl rfl rfl rfl j19.1 (by have q1:=j19.2;have q2:=hl20;(try simp only[List.length_set]at q1);(try simp only[List.length_set]at q2);(try simp only[List.length_set]);omega)) (aI.h (aT.ix [4] rfl rfl) .nil aI.z) ?_
  refine bU (bF 6 rfl) fun hl21=>bY rfl (aT.cons 5 rfl .nil) .nil (dA 0 rfl rfl hl21 rfl rfl j19) (aI.h (aT.ix [4] rfl rfl) .nil aI.z)<|eM h fun j23 h=>JR.loud rfl rfl rfl (oO 0 bN rfl rfl rfl (aG.row (j:=6) rfl bN j19.1 (by first|exact j19.2|simpa using j19.2)) rfl rfl rfl rfl j23 rfl) rfl (fun u22=>(tM [([3],[])] rfl)) fun u22=>?_
  refine cD 11 rfl rfl<|eM h fun j24 h=>aE (dK rfl rfl (bG (i:=5) (j:=6) rfl rfl bN) rfl rfl j24) rfl<|cH (Know.one ((cI (aG.res 0 rfl) bN))) fun ho25=>m_ (sJ (k:=p3) 6 0 rfl rfl rfl j24) ?_
  refine jK 4 5 ⟨j24.1,by first|exact j24.2|simpa using j24.2⟩ rfl rfl rfl rfl rfl (by simp) ho25 rfl ?_
  refine aP<|aW<|aL ?_
  cases h
  exact BK (List.set (List.set w5 (Int.toNat p2) u14) (Int.toNat p3) u22) rfl rfl .ret (.inl rfl) (aT.ix [4,5] rfl rfl) aH.nil
 refine eL<|eM h fun j26 h=>eM h fun j29 h=>eM h fun j34 h=>eM h fun j37 h=>eM h fun j38 h=>eM h fun j39 h=>eM h fun j43 h=>Mo [0,1,0,0,8,0,0,64,0,448,960,0,2048,8128,0,16384,0,114688,245760,0,524288,2097088,4194247,8388551,16777215,33554431] 24 [[0,1,2,3,4,5,6,7,8,9,10,11,14,15,16,17,18,19,12,13,20,21,22,23,24,25],[0,1,2,3,4,5,6,7,8,9,10,11,14,15,16,17,18,19,12,20,13,21,22,23,24,25],[0,1,2,3,4,5,6,7,8,9,10,11,14,15,16,17,18,19,20,12,13,21,22,23,24,25]] mixedOrders (by decide +kernel) (by decide +kernel) ?_
 intro o ho
 simp only[List.mem_cons,List.not_mem_nil,or_false]at ho
 rcases ho with rfl|rfl|rfl
 ·refine c_ rfl<|jN 2 rfl<|bL rfl<|c_ rfl<|jN 2 rfl<|bL rfl<|c_ rfl<|jN 2 rfl<|bL rfl<|bU (bF 5 rfl) fun hl46=>?_
  refine bY rfl (aT.cons 4 rfl .nil) .nil (dC 0 rfl rfl rfl rfl rfl j26.1 (by have q1:=j26.2;have q2:=hl46;(try simp only[List.length_set]at q1);(try simp only[List.length_set]at q2);(try simp only[List.length_set]);omega)) aI.z ?_
  refine bU (bF 5 rfl) fun hl47=>bY rfl (aT.cons 4 rfl .nil) .nil (dA 0 rfl rfl hl47 rfl rfl j26) aI.z<|g_ 1 rfl<|c_ rfl<|jN 2 rfl<|bL rfl<|bU (bF 5 rfl) fun hl48=>?_
  refine bY rfl (aT.cons 4 rfl .nil) .nil (dC 0 rfl rfl rfl rfl rfl j29.1 (by have q1:=j29.2;have q2:=hl48;(try simp only[List.length_set]at q1);(try simp only[List.length_set]at q2);(try simp only[List.length_set]);omega)) aI.z ?_
  refine bU (bF 5 rfl) fun hl49=>bY rfl (aT.cons 4 rfl .nil) .nil (dA 0 rfl rfl hl49 rfl rfl j29) aI.z<|g_ 0 rfl<|JR.loud rfl rfl rfl (eW (e:=bX) ([((p3,p4))]) [(0,Value.agg #[vI (p3),vI (p4)])] rfl rfl rfl rfl (tI (vI (p3)) (vI (p4))) rfl rfl rfl) rfl (fun u50=>(tM [([1],[]),([5],[]),([5],[]),([3],[]),([5],[]),([5],[]),([3],[]),([3],[]),([3],[])] rfl)) fun u50=>JR.loud rfl rfl rfl (gY 6 bN rfl rfl rfl (cI (aG.res 0 rfl) bN) rfl rfl rfl rfl j26 j34 rfl) rfl (fun u51=>(tM [([1],[]),([5],[]),([5],[]),([3],[]),([3],[]),([3],[])] rfl)) fun u51=>JR.loud rfl rfl rfl (eW (e:=bX) ([((p2,p4))]) [(0,Value.agg #[vI (p2),vI (p4)])] rfl rfl rfl rfl (tI (vI (p2)) (vI (p4))) rfl rfl rfl) rfl (fun u52=>(tM [([6],[]),([6],[]),([4],[]),([3],[]),([6],[]),([6],[]),([4],[]),([4],[]),([4],[])] rfl)) fun u52=>JR.loud rfl rfl rfl (tP (j:=p2) 7 bN rfl rfl rfl (cI (aG.res 0 rfl) bN) rfl rfl rfl rfl j29 j37 rfl j38) rfl (fun u53=>(tM [([4],[]),([4],[])] rfl)) fun u53=>bU (bF 7 rfl) fun hl54=>?_
  refine bY rfl (aT.cons 6 rfl .nil) .nil (dC 0 rfl rfl rfl rfl rfl j39.1 (by have q1:=j39.2;have q2:=hl54;(try simp only[List.length_set]at q1);(try simp only[List.length_set]at q2);(try simp only[List.length_set]);omega)) (Yg rfl) ?_
  refine bU (xW (k:=p2) (j:=p3) 7 rfl (by omega) ⟨j39.1,by first|exact j39.2|simpa using j39.2⟩) fun ho55=>?_
  refine BL rfl rfl rfl (wU 6 7 ⟨j39.1,by first|exact j39.2|simpa using j39.2⟩ rfl rfl rfl rfl (by simp) ho55 rfl) (fun x56=>(tM [([4],[])] rfl)) fun x56=>?_
  refine cD 24 rfl rfl<|cH (bF 7 rfl) fun hl57=>?_
  refine aE (dC 6 rfl rfl rfl rfl rfl j43.1 (by have q1:=j43.2;have q2:=hl57;(try simp only[List.length_set]at q1);(try simp only[List.length_set]at q2);(try simp only[List.length_set]);omega)) rfl ?_
  refine cH (nW 7 (k:=p3) rfl ⟨j43.1,by first|exact j43.2|simpa using j43.2⟩) fun ho58=>?_
  refine jK 6 7 ⟨j43.1,by first|exact j43.2|simpa using j43.2⟩ rfl rfl rfl rfl rfl (by simp) ho58 rfl ?_
  refine fU ?_
  cases h
  exact BK (List.set (List.set w5 (Int.toNat p2) u51) (Int.toNat p3) u53) rfl rfl .normal (.inr rfl) (aT.ix [6,7] rfl rfl) aH.nil
 ·refine c_ rfl<|jN 2 rfl<|bL rfl<|c_ rfl<|jN 2 rfl<|bL rfl<|c_ rfl<|jN 2 rfl<|bL rfl<|bU (bF 5 rfl) fun hl59=>?_
  refine bY rfl (aT.cons 4 rfl .nil) .nil (dC 0 rfl rfl rfl rfl rfl j26.1 (by have q1:=j26.2;have q2:=hl59;(try simp only[List.length_set]at q1);(try simp only[List.length_set]at q2);(try simp only[List.length_set]);omega)) aI.z ?_
  refine bU (bF 5 rfl) fun hl60=>bY rfl (aT.cons 4 rfl .nil) .nil (dA 0 rfl rfl hl60 rfl rfl j26) aI.z<|g_ 1 rfl<|c_ rfl<|jN 2 rfl<|bL rfl<|bU (bF 5 rfl) fun hl61=>?_
  refine bY rfl (aT.cons 4 rfl .nil) .nil (dC 0 rfl rfl rfl rfl rfl j29.1 (by have q1:=j29.2;have q2:=hl61;(try simp only[List.length_set]at q1);(try simp only[List.length_set]at q2);(try simp only[List.length_set]);omega)) aI.z ?_
  refine bU (bF 5 rfl) fun hl62=>bY rfl (aT.cons 4 rfl .nil) .nil (dA 0 rfl rfl hl62 rfl rfl j29) aI.z<|g_ 0 rfl<|JR.loud rfl rfl rfl (eW (e:=bX) ([((p3,p4))]) [(0,Value.agg #[vI (p3),vI (p4)])] rfl rfl rfl rfl (tI (vI (p3)) (vI (p4))) rfl rfl rfl) rfl (fun u63=>(tM [([1],[]),([5],[]),([5],[]),([3],[]),([5],[]),([5],[]),([3],[]),([3],[]),([3],[])] rfl)) fun u63=>JR.loud rfl rfl rfl (eW (e:=bX) ([((p2,p4))]) [(0,Value.agg #[vI (p2),vI (p4)])] rfl rfl rfl rfl (tI (vI (p2)) (vI (p4))) rfl rfl rfl) rfl (fun u64=>(tM [([6],[]),([6],[]),([4],[]),([3],[]),([6],[]),([6],[]),([4],[]),([4],[]),([4],[])] rfl)) fun u64=>JR.loud rfl rfl rfl (gY 7 bN rfl rfl rfl (cI (aG.res 1 rfl) bN) rfl rfl rfl rfl j26 j34 rfl) rfl (fun u65=>(tM [([2],[]),([6],[]),([6],[]),([4],[]),([4],[]),([4],[])] rfl)) fun u65=>JR.loud rfl rfl rfl (tP (j:=p2) 7 bN rfl rfl rfl (cI (aG.res 0 rfl) bN) rfl rfl rfl rfl j29 j37 rfl j38) rfl (fun u66=>(tM [([4],[]),([4],[])] rfl)) fun u66=>bU (bF 7 rfl) fun hl67=>?_
  refine bY rfl (aT.cons 6 rfl .nil) .nil (dC 0 rfl rfl rfl rfl rfl j39.1 (by have q1:=j39.2;have q2:=hl67;(try simp only[List.length_set]at q1);(try simp only[List.length_set]at q2);(try simp only[List.length_set]);omega)) (Yg rfl) ?_
  refine bU (xW (k:=p2) (j:=p3) 7 rfl (by omega) ⟨j39.1,by first|exact j39.2|simpa using j39.2⟩) fun ho68=>?_
  refine BL rfl rfl rfl (wU 6 7 ⟨j39.1,by first|exact j39.2|simpa using j39.2⟩ rfl rfl rfl rfl (by simp) ho68 rfl) (fun x69=>(tM [([4],[])] rfl)) fun x69=>?_
  refine cD 24 rfl rfl<|cH (bF 7 rfl) fun hl70=>?_
  refine aE (dC 6 rfl rfl rfl rfl rfl j43.1 (by have q1:=j43.2;have q2:=hl70;(try simp only[List.length_set]at q1);(try simp only[List.length_set]at q2);(try simp only[List.length_set]);omega)) rfl ?_
  refine cH (nW 7 (k:=p3) rfl ⟨j43.1,by first|exact j43.2|simpa using j43.2⟩) fun ho71=>?_
  refine jK 6 7 ⟨j43.1,by first|exact j43.2|simpa using j43.2⟩ rfl rfl rfl rfl rfl (by simp) ho71 rfl ?_
  refine fU ?_
  cases h
  exact BK (List.set (List.set w5 (Int.toNat p2) u65) (Int.toNat p3) u66) rfl rfl .normal (.inr rfl) (aT.ix [6,7] rfl rfl) aH.nil
 refine c_ rfl<|jN 2 rfl<|bL rfl<|c_ rfl<|jN 2 rfl<|bL rfl<|c_ rfl<|jN 2 rfl<|bL rfl<|bU (bF 5 rfl) fun hl72=>?_
 refine bY rfl (aT.cons 4 rfl .nil) .nil (dC 0 rfl rfl rfl rfl rfl j26.1 (by have q1:=j26.2;have q2:=hl72;(try simp only[List.length_set]at q1);(try simp only[List.length_set]at q2);(try simp only[List.length_set]);omega)) aI.z ?_
 refine bU (bF 5 rfl) fun hl73=>bY rfl (aT.cons 4 rfl .nil) .nil (dA 0 rfl rfl hl73 rfl rfl j26) aI.z<|g_ 1 rfl<|c_ rfl<|jN 2 rfl<|bL rfl<|bU (bF 5 rfl) fun hl74=>?_
 refine bY rfl (aT.cons 4 rfl .nil) .nil (dC 0 rfl rfl rfl rfl rfl j29.1 (by have q1:=j29.2;have q2:=hl74;(try simp only[List.length_set]at q1);(try simp only[List.length_set]at q2);(try simp only[List.length_set]);omega)) aI.z ?_
 refine bU (bF 5 rfl) fun hl75=>bY rfl (aT.cons 4 rfl .nil) .nil (dA 0 rfl rfl hl75 rfl rfl j29) aI.z<|g_ 0 rfl<|JR.loud rfl rfl rfl (eW (e:=bX) ([((p2,p4))]) [(0,Value.agg #[vI (p2),vI (p4)])] rfl rfl rfl rfl (tI (vI (p2)) (vI (p4))) rfl rfl rfl) rfl (fun u76=>(tM [([5],[]),([5],[]),([3],[]),([2],[]),([5],[]),([5],[]),([3],[]),([3],[]),([3],[])] rfl)) fun u76=>JR.loud rfl rfl rfl (eW (e:=bX) ([((p3,p4))]) [(0,Value.agg #[vI (p3),vI (p4)])] rfl rfl rfl rfl (tI (vI (p3)) (vI (p4))) rfl rfl rfl) rfl (fun u77=>(tM [([2],[]),([6],[]),([6],[]),([4],[]),([6],[]),([6],[]),([4],[]),([4],[]),([4],[])] rfl)) fun u77=>JR.loud rfl rfl rfl (gY 7 bN rfl rfl rfl (cI (aG.res 0 rfl) bN) rfl rfl rfl rfl j26 j34 rfl) rfl (fun u78=>(tM [([2],[]),([6],[]),([6],[]),([4],[]),([4],[]),([4],[])] rfl)) fun u78=>JR.loud rfl rfl rfl (tP (j:=p2) 7 bN rfl rfl rfl (cI (aG.res 1 rfl) bN) rfl rfl rfl rfl j29 j37 rfl j38) rfl (fun u79=>(tM [([4],[]),([4],[])] rfl)) fun u79=>bU (bF 7 rfl) fun hl80=>?_
 refine bY rfl (aT.cons 6 rfl .nil) .nil (dC 0 rfl rfl rfl rfl rfl j39.1 (by have q1:=j39.2;have q2:=hl80;(try simp only[List.length_set]at q1);(try simp only[List.length_set]at q2);(try simp only[List.length_set]);omega)) (Yg rfl) ?_
 refine bU (xW (k:=p2) (j:=p3) 7 rfl (by omega) ⟨j39.1,by first|exact j39.2|simpa using j39.2⟩) fun ho81=>?_
 refine BL rfl rfl rfl (wU 6 7 ⟨j39.1,by first|exact j39.2|simpa using j39.2⟩ rfl rfl rfl rfl (by simp) ho81 rfl) (fun x82=>(tM [([4],[])] rfl)) fun x82=>?_
 refine cD 24 rfl rfl<|cH (bF 7 rfl) fun hl83=>?_
 refine aE (dC 6 rfl rfl rfl rfl rfl j43.1 (by have q1:=j43.2;have q2:=hl83;(try simp only[List.length_set]at q1);(try simp only[List.length_set]at q2);(try simp only[List.length_set]);omega)) rfl ?_
 refine cH (nW 7 (k:=p3) rfl ⟨j43.1,by first|exact j43.2|simpa using j43.2⟩) fun ho84=>?_
 refine jK 6 7 ⟨j43.1,by first|exact j43.2|simpa using j43.2⟩ rfl rfl rfl rfl rfl (by simp) ho84 rfl ?_
 refine fU ?_
 cases h
 exact BK (List.set (List.set w5 (Int.toNat p2) u78) (Int.toNat p3) u79) rfl rfl .normal (.inr rfl) (aT.ix [6,7] rfl rfl) aH.nil
end
section
def pE (p1:fR) (a6:eT):Option oL:=
 some ((p1.1,a6))
def jP (U:Nat) (p0:xT) (p1:fR) (a14:Int×eT) (ag13:(Int×eT)->Option oL) (a18:Bool):Option oL:=
 if a18=true then(ck (0<=a14.1∧a14.1<(List.length p0.2.1:Int)) (Option.bind (eS U (at' p0.2.1 a14.1) (List.length p1.2:Int)) fun r22=>(ck (0<=(wI .i64 (a14.1+(1:Int)))∧(wI .i64 (a14.1+(1:Int)))<(List.length p0.2.1:Int)) (Option.bind (eS U (at' p0.2.1 (wI .i64 (a14.1+(1:Int)))) (List.length p1.2:Int)) fun r26=>(Option.bind (oF U p0.2.2.1 a14.1) fun r29=>(Option.bind (eS U r29 (15:Int)) fun r32=>(Option.bind (kB U ((p0.1,p0.2.1,p0.2.2.1,p0.2.2.2.1,p0.2.2.2.2.1,p0.2.2.2.2.2)) ((p1.1,a14.2)) r22 r26 (wI .i64 ((1:Int)+r32))) fun r35=>(ag13 ((wI .i64 (a14.1+(2:Int))),r35)))))))))else(pE p1 (a14.2))
def lV (U:Nat) (p0:xT) (p1:fR) (a14:Int×eT) (ag13:(Int×eT)->Option oL):Option oL:=
 if(wI .i64 (a14.1+(1:Int)))<(List.length p0.2.1:Int)then(jP U p0 p1 a14 ag13 (decide (a14.1<(60:Int))))else(jP U p0 p1 a14 ag13 (false))
def iU (U:Nat) (p0:xT) (p1:fR):Option oL:=
 bZ (lV U p0 p1) U ((List.length p1.2:Int),p1.2)
theorem Og:a_ Tryz.prog 20:=Tryz.call20
theorem vR (U:Nat) {p0:xT} {p1:fR} (v0:Value)  (v1:Value)  (v2:Value)  (v3:Value)  (v4:Value)  (w5:eG) (r:zC) (h:iU U p0 p1=some r):
  Bl Tryz.prog 20 #[Value.agg #[vI (p0.1),v0,v1,v2,vB (p0.2.2.2.2.1),vB (p0.2.2.2.2.2)],Value.agg #[v3,v4]] [Ar cB v3 p1.1,Ar dH.raw v4 w5,fI bX w5 p1.2] [Sl bT v0 p0.2.1,Sl bT v1 p0.2.2.1,Sl bT v2 p0.2.2.2.1] (fun x:Jo=>Value.agg #[x.1,x.2.1]) (fun x l=>Ar cB x.1 r.1::Ar dH.raw x.2.1 x.2.2::fI bX x.2.2 r.2::l):=by
 refine Bl.of (vs:=[Value.agg #[vI (p0.1),v0,v1,v2,vB (p0.2.2.2.2.1),vB (p0.2.2.2.2.2)],Value.agg #[v3,v4]]) Tryz.func20 rfl Tryz.ntmps20 rfl fun c=>?_
 unfold iU at h
 refine aX<|aK (aN.box (cs:=[vI (p0.1),v0,v1,v2,vB (p0.2.2.2.2.1),vB (p0.2.2.2.2.2)]) rfl rfl) rfl fun b1=>aK (aN.box (cs:=[v3,v4]) rfl rfl) rfl fun b2=>aK (aN.alloc (cs:=[lQ,lQ]) rfl rfl) rfl fun b3=>aP<|aX<|cV rfl<|iF 1 rfl<|aE (jB rfl (bG (i:=4) (j:=5) rfl rfl bN) rfl) rfl<|aF rfl<|aP<|aM<|pC (B:=eG) (fun a6=>pE p1 a6=some r) (fun a6 b7=>[(3,vP b2),(4,vP b3)]) (fun a6 b7=>[cR b3 [lQ,lQ] 28,cR b2 [v3,v4] 28,Ar cB v3 p1.1,Ar dH.raw v4 b7,fI bX b7 a6]) (fun a6 b7=>[Sl bT v0 p0.2.1,Sl bT v1 p0.2.2.1,Sl bT v2 p0.2.2.2.1]) ?_ ?_
 ·refine aX<|aA rfl<|aF rfl<|aP<|aY<|BJ (B:=eG) (lV U p0 p1) (fun a14 b15=>[(2,vP b1),(3,vP b2),(4,vP b3),(5,vI (List.length p1.2:Int)),(6,vI (a14.1))]) (fun a14 b15=>[cR b3 [lQ,lQ] 28,cR b2 [v3,v4] 28,cR b1 [vI (p0.1),v0,v1,v2,vB (p0.2.2.2.2.1),vB (p0.2.2.2.2.2)] 24,Ar cB v3 p1.1,Ar dH.raw v4 b15,fI bX b15 a14.2]) (fun a14 b15=>[Sl bT v0 p0.2.1,Sl bT v1 p0.2.2.1,Sl bT v2 p0.2.2.2.1]) ((List.length p1.2:Int),p1.2) (w5) h SF (aT.refl _) (aH.refl _ _) ?_
  intro k16 a14 b15 h
  refine aM<|aM<|pC (B:=Unit) (fun a18=>jP U p0 p1 a14 (bZ (lV U p0 p1) k16) a18=some r) (fun a18 b19=>[(2,vP b1),(3,vP b2),(4,vP b3),(5,vI (List.length p1.2:Int)),(6,vI (a14.1)),(20,vB (a18))]) (fun a18 b19=>[cR b3 [lQ,lQ] 28,cR b2 [v3,v4] 28,cR b1 [vI (p0.1),v0,v1,v2,vB (p0.2.2.2.2.1),vB (p0.2.2.2.2.2)] 24,Ar cB v3 p1.1,Ar dH.raw v4 b15,fI bX b15 a14.2]) (fun a18 b19=>[Sl bT v0 p0.2.1,Sl bT v1 p0.2.2.1,Sl bT v2 p0.2.2.2.1]) ?_ ?_
  ·refine aS<|aA rfl<|eC rfl<|cV rfl<|iF 2 rfl<|mS (aG.fact 0 rfl) rfl<|eD rfl<|aA rfl ?_
   refine Dz h rfl (fun _ h=>?_) fun _ h=>?_
   ·refine dQ rfl<|aR rfl (Ip rfl rfl) rfl<|iW rfl<|aP ?_
    exact jO (decide (a14.1<(60:Int))) () h SF rfl
   refine aQ rfl<|aQ rfl<|h_ rfl<|aP ?_
   exact jO (false) () h SF rfl
  intro a18 b19 h
  refine AQ h rfl (fun _ h=>?_) fun _ h=>?_
  ·refine eL<|aM<|aY ?_
   refine JR.start [0,0,0,4,0,28,60,0,252,0,512,0,2048,7680,15872,0,65532,0,131072,0,1048572,2097148,4194300,8388607] 23 mixedOrders (by decide +kernel) ?_
   refine JR.open (by exact rfl) ?_
   refine g_ 2 rfl<|g_ 1 rfl<|c_ rfl<|jN 2 rfl<|bL rfl<|eM h fun j21 h=>bY rfl .nil (q_ 0 rfl) (bQ rfl rfl (aG.fact 0 rfl) rfl rfl j21) aI.z<|bY rfl .nil (q_ 0 rfl) (cF rfl (aG.fact 0 rfl) rfl rfl rfl dJ j21) aI.z<|bL rfl<|gK h fun r22 hr23 h=>JR.loud rfl rfl rfl (aN.callQ BR (gW U  r22 hr23) rfl .nil) rfl (fun x24=>(tM [([1],[]),([2],[])] rfl)) fun x24=>mP rfl (mA rfl rfl rfl rfl rfl)<|bY rfl (aT.cons 2 rfl .nil) .nil (nP 0 rfl rfl rfl rfl rfl) (aI.h (aT.ix [2] rfl rfl) .nil aI.z)<|mP rfl (dM rfl)<|mP rfl (yB rfl rfl)<|eM h fun j25 h=>bY rfl .nil (q_ 0 rfl) (bQ rfl rfl (aG.fact 0 rfl) rfl rfl j25) (aI.h .nil (q_ 0 rfl) aI.z)<|bY rfl .nil (q_ 0 rfl) (cF rfl (aG.fact 0 rfl) rfl rfl rfl dJ j25) (aI.h .nil (q_ 0 rfl) aI.z)<|mP rfl (dM rfl)<|gK h fun r26 hr27 h=>JR.loud rfl rfl rfl (aN.callQ BR (gW U  r26 hr27) rfl .nil) rfl (fun x28=>(tM [([1],[]),([2],[])] rfl)) fun x28=>mP rfl (mA rfl rfl rfl rfl rfl)<|bY rfl (aT.cons 2 rfl .nil) .nil (nP 0 rfl rfl rfl rfl rfl) (aI.h (aT.ix [2] rfl rfl) .nil (aI.h (aT.ix [2] rfl rfl) .nil aI.z))<|mP rfl (dM rfl)<|gK h fun r29 hr30 h=>JR.loud rfl rfl rfl (aN.callQ Ep (vY U v1 r29 hr30) rfl (pJ [1] rfl)) rfl (fun x31=>(tM [([1],[]),([2],[])] rfl)) fun x31=>gK h fun r32 hr33 h=>JR.loud rfl rfl rfl (aN.callQ BR (gW U  r32 hr33) rfl .nil) rfl (fun x34=>(tM [([1],[]),([2],[])] rfl)) fun x34=>mP rfl (yB rfl rfl)<|cD 23 rfl rfl<|gK h fun r35 hr36 h=>aK (xX (Min:=[Ar dH.raw v4 b15,fI bX b15 a14.2]) (Mr:=[cR b3 [lQ,lQ] 28,cR b2 [v3,v4] 28,cR b1 [vI (p0.1),v0,v1,v2,vB (p0.2.2.2.2.1),vB (p0.2.2.2.2.2)] 24,Ar cB v3 p1.1]) Ol (vQ U v0 v1 v2 v3 v4 b15 r35 hr36) rfl (aT.ix [4,5,0,1,2,3] rfl rfl) (aH.cons (aG.fact 0 rfl) (aH.cons (aG.fact 1 rfl) (aH.cons (aG.fact 2 rfl) (aH.cons (cI (aG.res 3 rfl) cU) .nil)))) (fun _ _=>rfl)) rfl fun x37=>fU<|qB<|aS<|aA rfl<|eC rfl<|aF rfl<|aP ?_
   exact lZ ((wI .i64 (a14.1+(2:Int))),r35) (x37) h SF (aT.ix [2,3,4,5,0,1] rfl rfl) (aH.refl _ _)
  refine iV ?_
  exact dZ (a14.2) (b15) h SF (aT.ix [0,1,3,4,5] rfl rfl) (aH.refl _ _)
 intro a6 b7 h
 unfold pE at h
 refine aX<|fH 1 rfl<|cH (Know.one ((cI (aG.res 2 rfl) cU))) fun ho8=>cH (Know.one (aG.sl (bG (i:=3) (j:=4) rfl rfl bN))) fun ho9=>cL 0 (vs:=[v3,v4]) rfl rfl (pF ho8 (pF ho9 rfl)) rfl rfl rfl<|aP<|aW ?_
 cases h
 exact nO (v3,v4,b7) rfl rfl (RV.cell 0 rfl rfl rfl rfl) (aT.ix [2,3,4] rfl rfl) aH.nil
end
section
def lB (r3:Int) (a13:bW):Option oL:=
 some ((a13,(List.replicate (Int.toNat (wI .i64 ((1:Int)+r3))) ([]:eP))))
def n_ (a21:Int×bW) (ag20:(Int×bW)->Option oL) (a32:Int):Option oL:=
 ck ((List.length a21.2:Int)+(List.length ([a32]):Int)<=1099511627) (ag20 ((wI .i64 (a21.1+(1:Int))),(a21.2++[a32])))
def jC (ag40:iC->Option oL) (a47:gC):Option oL:=
 ag40 (a47.1,(wI .i64 (a47.2+(1:Int))))
def jD (a21:Int×bW) (ag20:(Int×bW)->Option oL) (a41:gC) (ag40:iC->Option oL):Option oL:=
 if a41.2<a21.1 then(ck (0<=a41.2∧a41.2<(List.length a21.2:Int)) (if(at' a21.2 a41.2)=a41.1 then(ck ((256:Int)≠0) (jC ag40 ((Int.tmod (wI .i64 (a41.1+(1:Int))) (256:Int)),(-1:Int))))else(jC ag40 (a41.1,a41.2))))else(n_ a21 ag20 (a41.1))
def gL (U:Nat) (p0:xT) (r3:Int) (a21:Int×bW) (ag20:(Int×bW)->Option oL):Option oL:=
 if a21.1<(wI .i64 ((1:Int)+r3))then(Option.bind (oF U p0.2.2.2.1 a21.1) fun r25=>(Option.bind (eS U r25 (256:Int)) fun r28=>(bZ (jD a21 ag20) U (r28,(0:Int)))))else(lB r3 (a21.2))
def jS (U:Nat) (p0:xT) (p1:Int):Option oL:=
 Option.bind (eS U (wI .i64 (p0.1 - (1:Int))) p1) fun r3=>(ck (0<=(wI .i64 ((1:Int)+r3))∧(wI .i64 ((1:Int)+r3))<=1099511627) (bZ (gL U p0 r3) U ((0:Int),([]:bW))))
theorem Oh:a_ Tryz.prog 21:=Tryz.call21
theorem t_ (U:Nat) {p0:xT} {p1:Int} (v0:Value)  (v1:Value)  (v2:Value) (r:zC) (h:jS U p0 p1=some r):
  bJ Tryz.prog 21 #[Value.agg #[vI (p0.1),v0,v1,v2,vB (p0.2.2.2.2.1),vB (p0.2.2.2.2.2)],vI (p1)] [Sl bT v0 p0.2.1,Sl bT v1 p0.2.2.1,Sl bT v2 p0.2.2.2.1] (fun x:Jo=>Value.agg #[x.1,x.2.1]) (fun x l=>Ar cB x.1 r.1::Ar dH.raw x.2.1 x.2.2::fI bX x.2.2 r.2::l) (fun _ l=>l):=by
 refine bJ.of Tryz.func21 rfl Tryz.ntmps21 rfl fun c=>?_
 refine aX<|aK (aN.box (cs:=[vI (p0.1),v0,v1,v2,vB (p0.2.2.2.2.1),vB (p0.2.2.2.2.2)]) rfl rfl) rfl fun b1=>aK (aN.alloc (cs:=[lQ,lQ]) rfl rfl) rfl fun b2=>aP<|aX<|cV rfl<|iF 1 rfl<|aE (uU rfl rfl) rfl<|aA rfl<|gK h fun r3 w4 h=>aK (aN.callQ BR (gW U  r3 w4) rfl .nil) rfl fun x5=>eC rfl<|aF rfl<|aP<|aX<|aA rfl<|eM h fun j6 h=>m_ (mR bX (Int.toNat (wI .i64 ((1:Int)+r3))))<|aK (nX (e:=dH.raw) (lQ) rfl rfl rfl rfl j6 rfl rfl rfl) rfl fun u7=>cH (Know.one (aG.sl (bG (i:=0) (j:=1) rfl rfl bN))) fun ho8=>?_
 refine aE (TS (r:=Value.agg #[lQ,u7]) rfl (by intro w;simp[Instr.build,Instr.fill,gE,fJ,eO,gF,gG,fK,iS,kX ho8])) rfl ?_
 refine aK (aN.alloc (cs:=[lQ,lQ]) rfl rfl) rfl fun b9=>cH (Know.one (aG.sl (bG (i:=1) (j:=2) rfl rfl bN))) fun ho10=>cL 0 (vs:=[lQ,u7]) rfl rfl (pF rfl (pF ho10 rfl)) rfl rfl rfl<|aP<|aM<|yM (B:=Value) (fun a13=>lB r3 a13=some r) (fun a13 b14=>[(4,vP b2),(6,vP b9)]) (fun a13 b14=>[cR b9 [b14,u7] 28,Ar dH.raw u7 (List.replicate (Int.toNat (wI .i64 ((1:Int)+r3))) (lQ)),fI bX (List.replicate (Int.toNat (wI .i64 ((1:Int)+r3))) (lQ)) (List.replicate (Int.toNat (wI .i64 ((1:Int)+r3))) ([]:eP)),cR b2 [lQ,lQ] 28,Ar cB b14 a13]) ?_ ?_
 ·refine aX<|aF rfl<|aP<|aY<|m_ (nJ cB)<|hJ (B:=Value) (gL U p0 r3) (fun a21 b22=>[(2,vP b1),(4,vP b2),(5,vI (wI .i64 ((1:Int)+r3))),(6,vP b9),(7,vI (a21.1))]) (fun a21 b22=>[cR b9 [b22,u7] 28,Ar dH.raw u7 (List.replicate (Int.toNat (wI .i64 ((1:Int)+r3))) (lQ)),fI bX (List.replicate (Int.toNat (wI .i64 ((1:Int)+r3))) (lQ)) (List.replicate (Int.toNat (wI .i64 ((1:Int)+r3))) ([]:eP)),cR b2 [lQ,lQ] 28,cR b1 [vI (p0.1),v0,v1,v2,vB (p0.2.2.2.2.1),vB (p0.2.2.2.2.2)] 24,Ar cB b22 a21.2]) ((0:Int),([]:bW)) (lQ) h SF (aT.ix [1,2,3,4,5,0] rfl rfl) ?_
  intro k23 a21 b22 h
  refine aM<|aX<|aA rfl<|aA rfl<|eD rfl<|aP ?_
  refine gP h rfl (fun h=>?_) fun h=>?_
  ·refine eL<|aM<|aY<|aX<|cV rfl<|iF 4 rfl<|aA rfl<|gK h fun r25 w26 h=>aK (aN.callQ Ep (vY U v2 r25 w26) rfl (pJ [2] rfl)) rfl fun x27=>gK h fun r28 w29 h=>aK (aN.callQ BR (gW U  r28 w29) rfl .nil) rfl fun x30=>aF rfl<|aP<|aM<|kF (fun a32=>n_ a21 (bZ (gL U p0 r3) k23) a32=some r) (fun a32 b33=>[(2,vP b1),(4,vP b2),(5,vI (wI .i64 ((1:Int)+r3))),(6,vP b9),(7,vI (a21.1)),(8,vI (a32))]) (fun a32 b33=>[cR b9 [b22,u7] 28,Ar dH.raw u7 (List.replicate (Int.toNat (wI .i64 ((1:Int)+r3))) (lQ)),fI bX (List.replicate (Int.toNat (wI .i64 ((1:Int)+r3))) (lQ)) (List.replicate (Int.toNat (wI .i64 ((1:Int)+r3))) ([]:eP)),cR b2 [lQ,lQ] 28,cR b1 [vI (p0.1),v0,v1,v2,vB (p0.2.2.2.2.1),vB (p0.2.2.2.2.2)] 24,Ar cB b22 a21.2]) ?_ ?_
   ·refine aX<|aF rfl<|aP<|aY<|hJ (jD a21 (bZ (gL U p0 r3) k23)) (fun a41 b42=>[(2,vP b1),(4,vP b2),(5,vI (wI .i64 ((1:Int)+r3))),(6,vP b9),(7,vI (a21.1)),(8,vI (a41.1)),(9,vI (a41.2))]) (fun a41 b42=>[cR b9 [b22,u7] 28,Ar dH.raw u7 (List.replicate (Int.toNat (wI .i64 ((1:Int)+r3))) (lQ)),fI bX (List.replicate (Int.toNat (wI .i64 ((1:Int)+r3))) (lQ)) (List.replicate (Int.toNat (wI .i64 ((1:Int)+r3))) ([]:eP)),cR b2 [lQ,lQ] 28,cR b1 [vI (p0.1),v0,v1,v2,vB (p0.2.2.2.2.1),vB (p0.2.2.2.2.2)] 24,Ar cB b22 a21.2]) (r28,(0:Int)) () h SF (aT.refl _) ?_
    intro k43 a41 b42 h
    refine aM<|aX<|aA rfl<|aA rfl<|eD rfl<|aP ?_
    refine gP h rfl (fun h=>?_) fun h=>?_
    ·refine eL<|aM<|kF (fun a47=>jC (bZ (jD a21 (bZ (gL U p0 r3) k23)) k43) a47=some r) (fun a47 b48=>[(2,vP b1),(4,vP b2),(5,vI (wI .i64 ((1:Int)+r3))),(6,vP b9),(7,vI (a21.1)),(8,vI (a47.1)),(9,vI (a47.2))]) (fun a47 b48=>[cR b9 [b22,u7] 28,Ar dH.raw u7 (List.replicate (Int.toNat (wI .i64 ((1:Int)+r3))) (lQ)),fI bX (List.replicate (Int.toNat (wI .i64 ((1:Int)+r3))) (lQ)) (List.replicate (Int.toNat (wI .i64 ((1:Int)+r3))) ([]:eP)),cR b2 [lQ,lQ] 28,cR b1 [vI (p0.1),v0,v1,v2,vB (p0.2.2.2.2.1),vB (p0.2.2.2.2.2)] 24,Ar cB b22 a21.2]) ?_ ?_
     ·refine aY<|aX<|cV rfl<|iF 0 rfl<|aA rfl<|eM h fun j49 h=>aE (bQ rfl rfl (cI (aG.res 5 rfl) cU) rfl rfl j49) rfl<|aE (cF rfl (cI (aG.res 5 rfl) cU) rfl rfl rfl dJ j49) rfl<|aA rfl<|dL rfl<|aP ?_
      refine gP h rfl (fun h=>?_) fun h=>?_
      ·refine aS<|aA rfl<|eC rfl<|eM h fun j51 h=>aE (NX rfl rfl j51) rfl<|aF rfl<|aF rfl<|fU<|qB ?_
       exact jO ((Int.tmod (wI .i64 (a41.1+(1:Int))) (256:Int)),(-1:Int)) () h SF rfl
      refine f_<|qB ?_
      exact jO (a41.1,a41.2) () h SF rfl
     intro a47 b48 h
     unfold jC at h
     refine aS<|aA rfl<|eC rfl<|aF rfl<|aP ?_
     exact BF (a47.1,(wI .i64 (a47.2+(1:Int)))) () h SF rfl
    refine iV ?_
    exact jO (a41.1) () h SF rfl
   intro a32 b33 h
   refine aS<|cV rfl<|iF 0 rfl<|aA rfl<|aK (eW (e:=cB) ([a32]) [(0,vI (a32))] rfl rfl rfl rfl (u_ (vI (a32)) rfl) rfl rfl rfl) rfl fun u34=>eM h fun j36 h=>aK (oO 6 cU rfl rfl rfl (cI (aG.res 0 rfl) cU) rfl rfl rfl rfl j36 rfl) rfl fun u35=>cV rfl<|cH (Know.one ((cI (aG.res 6 rfl) cU))) fun ho37=>zJ 1 rfl rfl ho37 rfl rfl rfl<|fU<|qB<|aS<|aA rfl<|eC rfl<|aF rfl<|aP ?_
   exact lZ ((wI .i64 (a21.1+(1:Int))),(a21.2++[a32])) (u35) h SF (aT.ix [1,2,3,4,5,6] rfl rfl) (aH.refl _ _)
  refine iV ?_
  exact dZ (a21.2) (b22) h SF (aT.ix [0,1,2,3,5] rfl rfl) (aH.refl _ _)
 intro a13 b14 h
 unfold lB at h
 refine aX<|fH 0 rfl<|cH (Know.one ((cI (aG.res 4 rfl) cU))) fun ho15=>cH (Know.one (aG.sl (bG (i:=1) (j:=2) rfl rfl bN))) fun ho16=>cL 3 (vs:=[b14,u7]) rfl rfl (pF ho15 (pF ho16 rfl)) rfl rfl rfl<|aP<|aW ?_
 cases h
 exact nO (b14,u7,(List.replicate (Int.toNat (wI .i64 ((1:Int)+r3))) (lQ))) rfl rfl (RV.cell 3 rfl rfl rfl rfl) (aT.ix [4,1,2] rfl rfl) aH.nil
end
section
def lT (r3:zC) (a11:eT):Option oL:=
 some ((r3.1,a11))
def pD (U:Nat) (p0:xT) (r3:zC) (a19:Int×eT) (ag18:(Int×eT)->Option oL):Option oL:=
 if a19.1<(List.length a19.2:Int)then(Option.bind (oF U p0.2.1 (wI .i64 (a19.1 - (1:Int)))) fun r23=>(Option.bind (eS U r23 a19.1) fun r26=>(Option.bind (oF U p0.2.2.1 (wI .i64 (a19.1 - (1:Int)))) fun r29=>(Option.bind (eS U r29 (15:Int)) fun r32=>(Option.bind (kB U ((p0.1,p0.2.1,p0.2.2.1,p0.2.2.2.1,p0.2.2.2.2.1,p0.2.2.2.2.2)) ((r3.1,a19.2)) r26 a19.1 (wI .i64 ((1:Int)+r32))) fun r35=>(ag18 ((wI .i64 (a19.1+(1:Int))),r35)))))))else(lT r3 (a19.2))
def mW (U:Nat) (p0:xT) (p1:Int):Option oL:=
 Option.bind (jS U ((p0.1,p0.2.1,p0.2.2.1,p0.2.2.2.1,p0.2.2.2.2.1,p0.2.2.2.2.2)) p1) fun r3=>(bZ (pD U p0 r3) U ((1:Int),r3.2))
theorem Uj:a_ Tryz.prog 49:=Tryz.call49
theorem BA (U:Nat) {p0:xT} {p1:Int} (v0:Value)  (v1:Value)  (v2:Value) (r:zC) (h:mW U p0 p1=some r):
  bJ Tryz.prog 49 #[Value.agg #[vI (p0.1),v0,v1,v2,vB (p0.2.2.2.2.1),vB (p0.2.2.2.2.2)],vI (p1)] [Sl bT v0 p0.2.1,Sl bT v1 p0.2.2.1,Sl bT v2 p0.2.2.2.1] (fun x:Jo=>Value.agg #[x.1,x.2.1]) (fun x l=>Ar cB x.1 r.1::Ar dH.raw x.2.1 x.2.2::fI bX x.2.2 r.2::l) (fun _ l=>l):=by
 refine bJ.of Tryz.func49 rfl Tryz.ntmps49 rfl fun c=>?_
 refine aX<|aK (aN.box (cs:=[vI (p0.1),v0,v1,v2,vB (p0.2.2.2.2.1),vB (p0.2.2.2.2.2)]) rfl rfl) rfl fun b1=>aK (aN.alloc (cs:=[lQ,lQ]) rfl rfl) rfl fun b2=>aP<|aX<|fH 1 rfl<|aA rfl<|gK h fun r3 w4 h=>aK (aN.callQ Oh (t_ U v0 v1 v2 r3 w4) rfl (pJ [0,1,2] rfl)) rfl fun x5=>aK (aN.alloc (cs:=[lQ,lQ]) rfl rfl) rfl fun b6=>cH (Know.one ((cI (aG.res 1 rfl) cU))) fun ho7=>cH (Know.one (aG.sl (bG (i:=2) (j:=3) rfl rfl bN))) fun ho8=>cL 0 (vs:=[x5.1,x5.2.1]) rfl rfl (pF ho7 (pF ho8 rfl)) rfl rfl rfl<|aP<|aM<|yM (B:=eG) (fun a11=>lT r3 a11=some r) (fun a11 b12=>[(4,vP b2),(5,vP b6)]) (fun a11 b12=>[cR b6 [x5.1,x5.2.1] 28,Ar cB x5.1 r3.1,Ar dH.raw x5.2.1 b12,fI bX b12 a11,cR b2 [lQ,lQ] 28]) ?_ ?_
 ·refine aX<|aF rfl<|aP<|aY<|hJ (B:=eG) (pD U p0 r3) (fun a19 b20=>[(2,vP b1),(4,vP b2),(5,vP b6),(6,vI (a19.1))]) (fun a19 b20=>[cR b6 [x5.1,x5.2.1] 28,Ar cB x5.1 r3.1,Ar dH.raw x5.2.1 b20,fI bX b20 a19.2,cR b2 [lQ,lQ] 28,cR b1 [vI (p0.1),v0,v1,v2,vB (p0.2.2.2.2.1),vB (p0.2.2.2.2.2)] 24]) ((1:Int),r3.2) (x5.2.2) h SF (aT.refl _) ?_
  intro k21 a19 b20 h
  refine aM<|aX<|aA rfl<|cV rfl<|iF 0 rfl<|aE (jB rfl (bG (i:=2) (j:=3) rfl rfl bN) rfl) rfl<|eD rfl<|aP ?_
  refine gP h rfl (fun h=>?_) fun h=>?_
  ·refine eL<|aM<|aY ?_
   refine JR.start [0,0,0,4,0,16,60,0,252,0,0,1024,0,4096,15868,32252,65020,131071] 17 mixedOrders (by decide +kernel) ?_
   refine JR.open (by exact rfl) ?_
   refine g_ 5 rfl<|g_ 0 rfl<|c_ rfl<|jN 5 rfl<|bL rfl<|mP rfl (uU rfl rfl)<|gK h fun r23 w24 h=>JR.loud rfl rfl rfl (aN.callQ Ep (vY U v0 r23 w24) rfl (pJ [0] rfl)) rfl (fun x25=>(tM [([0],[]),([5],[])] rfl)) fun x25=>mP rfl (dM rfl)<|gK h fun r26 w27 h=>JR.loud rfl rfl rfl (aN.callQ BR (gW U  r26 w27) rfl .nil) rfl (fun x28=>(tM [([0],[]),([5],[])] rfl)) fun x28=>mP rfl (dM rfl)<|mP rfl (mA rfl rfl rfl rfl rfl)<|bY rfl (aT.cons 5 rfl .nil) .nil (nP 0 rfl rfl rfl rfl rfl) (aI.h (aT.ix [5] rfl rfl) .nil (aI.h (aT.ix [5] rfl rfl) .nil aI.z))<|mP rfl (dM rfl)<|mP rfl (uU rfl rfl)<|gK h fun r29 w30 h=>JR.loud rfl rfl rfl (aN.callQ Ep (vY U v1 r29 w30) rfl (pJ [1] rfl)) rfl (fun x31=>(tM [([0],[]),([5],[])] rfl)) fun x31=>gK h fun r32 w33 h=>JR.loud rfl rfl rfl (aN.callQ BR (gW U  r32 w33) rfl .nil) rfl (fun x34=>(tM [([0],[]),([5],[])] rfl)) fun x34=>mP rfl (yB rfl rfl)<|cD 17 rfl rfl<|gK h fun r35 w36 h=>aK (xX (Min:=[Ar dH.raw x5.2.1 b20,fI bX b20 a19.2]) (Mr:=[cR b6 [x5.1,x5.2.1] 28,Ar cB x5.1 r3.1,cR b2 [lQ,lQ] 28,cR b1 [vI (p0.1),v0,v1,v2,vB (p0.2.2.2.2.1),vB (p0.2.2.2.2.2)] 24]) Ol (vQ U v0 v1 v2 x5.1 x5.2.1 b20 r35 w36) rfl (aT.ix [2,3,0,1,4,5] rfl rfl) (aH.cons (aG.fact 0 rfl) (aH.cons (aG.fact 1 rfl) (aH.cons (aG.fact 2 rfl) (aH.cons (cI (aG.res 1 rfl) cU) .nil)))) (fun _ _=>rfl)) rfl fun x37=>fU<|qB<|aS<|aA rfl<|eC rfl<|aF rfl<|aP ?_
   exact lZ ((wI .i64 (a19.1+(1:Int))),r35) (x37) h SF (aT.ix [2,3,0,1,4,5] rfl rfl) (aH.refl _ _)
  refine iV ?_
  exact dZ (a19.2) (b20) h SF (aT.ix [0,1,2,3,4] rfl rfl) (aH.refl _ _)
 intro a11 b12 h
 unfold lT at h
 refine aX<|fH 0 rfl<|cH (Know.one ((cI (aG.res 1 rfl) cU))) fun ho13=>cH (Know.one (aG.sl (bG (i:=2) (j:=3) rfl rfl bN))) fun ho14=>cL 4 (vs:=[x5.1,x5.2.1]) rfl rfl (pF ho13 (pF ho14 rfl)) rfl rfl rfl<|aP<|aW ?_
 cases h
 exact nO (x5.1,x5.2.1,b12) rfl rfl (RV.cell 4 rfl rfl rfl rfl) (aT.ix [1,2,3] rfl rfl) aH.nil
end
section
def jJ (U:Nat) (p0:xT) (p1:Int):Option oL:=
 Option.bind (mW U ((p0.1,p0.2.1,p0.2.2.1,p0.2.2.2.1,p0.2.2.2.2.1,p0.2.2.2.2.2)) p1) fun r3=>(Option.bind (iU U ((p0.1,p0.2.1,p0.2.2.1,p0.2.2.2.1,p0.2.2.2.2.1,p0.2.2.2.2.2)) ((r3.1,r3.2))) fun r6=>(some ((r6.1,r6.2))))
theorem Ug:a_ Tryz.prog 19:=Tryz.call19
theorem xS (U:Nat) {p0:xT} {p1:Int} (v0:Value)  (v1:Value)  (v2:Value) (r:zC) (h:jJ U p0 p1=some r):
  bJ Tryz.prog 19 #[Value.agg #[vI (p0.1),v0,v1,v2,vB (p0.2.2.2.2.1),vB (p0.2.2.2.2.2)],vI (p1)] [Sl bT v0 p0.2.1,Sl bT v1 p0.2.2.1,Sl bT v2 p0.2.2.2.1] (fun x:Jo=>Value.agg #[x.1,x.2.1]) (fun x l=>Ar cB x.1 r.1::Ar dH.raw x.2.1 x.2.2::fI bX x.2.2 r.2::l) (fun _ l=>l):=by
 refine bJ.of Tryz.func19 rfl Tryz.ntmps19 rfl fun c=>?_
 refine aX<|aK (aN.box (cs:=[vI (p0.1),v0,v1,v2,vB (p0.2.2.2.2.1),vB (p0.2.2.2.2.2)]) rfl rfl) rfl fun b1=>aK (aN.alloc (cs:=[lQ,lQ]) rfl rfl) rfl fun b2=>aP<|aM ?_
 refine JR.start [0,0,0,6,15,31] 4 mixedOrders (by decide +kernel) ?_
 refine JR.open (by exact rfl) ?_
 refine g_ 1 rfl<|g_ 1 rfl<|bL rfl<|gK h fun r3 w4 h=>JR.loud rfl rfl rfl (aN.callQ Uj (BA U v0 v1 v2 r3 w4) rfl (pJ [0,1,2] rfl)) rfl (fun x5=>(tM [([4],[])] rfl)) fun x5=>cD 4 rfl rfl<|gK h fun r6 w7 h=>aK (xX (Min:=[Ar cB x5.1 r3.1,Ar dH.raw x5.2.1 x5.2.2,fI bX x5.2.2 r3.2]) (Mr:=[cR b2 [lQ,lQ] 28,cR b1 [vI (p0.1),v0,v1,v2,vB (p0.2.2.2.2.1),vB (p0.2.2.2.2.2)] 24]) Og (vR U v0 v1 v2 x5.1 x5.2.1 x5.2.2 r6 w7) rfl (aT.refl _) (pJ [0,1,2] rfl) (fun _ _=>rfl)) rfl fun x8=>cH (Know.one ((cI (aG.res 0 rfl) cU))) fun ho9=>cH (Know.one (aG.sl (bG (i:=1) (j:=2) rfl rfl bN))) fun ho10=>cL 3 (vs:=[x8.1,x8.2.1]) rfl rfl (pF ho9 (pF ho10 rfl)) rfl rfl rfl<|aP<|aW ?_
 cases h
 exact nO (x8.1,x8.2.1,x8.2.2) rfl rfl (RV.cell 3 rfl rfl rfl rfl) (aT.ix [0,1,2] rfl rfl) aH.nil
end
section
def lD (U:Nat) (p0:xT) (p1:Int):Option oL:=
 if(!p0.2.2.2.2.1)=true then(Option.bind (jJ U ((p0.1,p0.2.1,p0.2.2.1,p0.2.2.2.1,p0.2.2.2.2.1,p0.2.2.2.2.2)) p1) fun r4=>(some ((r4.1,r4.2))))else(Option.bind (jS U ((p0.1,p0.2.1,p0.2.2.1,p0.2.2.2.1,p0.2.2.2.2.1,p0.2.2.2.2.2)) p1) fun r9=>(Option.bind (iU U ((p0.1,p0.2.1,p0.2.2.1,p0.2.2.2.1,p0.2.2.2.2.1,p0.2.2.2.2.2)) ((r9.1,r9.2))) fun r12=>(some ((r12.1,r12.2)))))
theorem VN:a_ Tryz.prog 5:=Tryz.call5
theorem Cn (U:Nat) {p0:xT} {p1:Int} (v0:Value)  (v1:Value)  (v2:Value) (r:zC) (h:lD U p0 p1=some r):
  bJ Tryz.prog 5 #[Value.agg #[vI (p0.1),v0,v1,v2,vB (p0.2.2.2.2.1),vB (p0.2.2.2.2.2)],vI (p1)] [Sl bT v0 p0.2.1,Sl bT v1 p0.2.2.1,Sl bT v2 p0.2.2.2.1] (fun x:Jo=>Value.agg #[x.1,x.2.1]) (fun x l=>Ar cB x.1 r.1::Ar dH.raw x.2.1 x.2.2::fI bX x.2.2 r.2::l) (fun _ l=>l):=by
 refine bJ.of Tryz.func5 rfl Tryz.ntmps5 rfl fun c=>?_
 refine aX<|aK (aN.box (cs:=[vI (p0.1),v0,v1,v2,vB (p0.2.2.2.2.1),vB (p0.2.2.2.2.2)]) rfl rfl) rfl fun b1=>aK (aN.alloc (cs:=[lQ,lQ]) rfl rfl) rfl fun b2=>aP<|aM<|aX<|cV rfl<|iF 1 rfl<|aE (yZ rfl) rfl<|aP ?_
 refine AQ h rfl (fun _ h=>?_) fun _ h=>?_
 ·refine aX<|fH 1 rfl<|aA rfl<|gK h fun r4 w5 h=>aK (aN.callQ Ug (xS U v0 v1 v2 r4 w5) rfl (pJ [0,1,2] rfl)) rfl fun x6=>cH (Know.one ((cI (aG.res 0 rfl) cU))) fun ho7=>cH (Know.one (aG.sl (bG (i:=1) (j:=2) rfl rfl bN))) fun ho8=>cL 3 (vs:=[x6.1,x6.2.1]) rfl rfl (pF ho7 (pF ho8 rfl)) rfl rfl rfl<|aP<|aW<|aL ?_
  cases h
  exact nO (x6.1,x6.2.1,x6.2.2) rfl rfl (RV.cell 3 rfl rfl rfl rfl) (aT.ix [0,1,2] rfl rfl) aH.nil
 refine eL<|aM ?_
 refine JR.start [0,0,0,6,15,31] 4 mixedOrders (by decide +kernel) ?_
 refine JR.open (by exact rfl) ?_
 refine g_ 1 rfl<|g_ 1 rfl<|bL rfl<|gK h fun r9 w10 h=>JR.loud rfl rfl rfl (aN.callQ Oh (t_ U v0 v1 v2 r9 w10) rfl (pJ [0,1,2] rfl)) rfl (fun x11=>(tM [([4],[])] rfl)) fun x11=>cD 4 rfl rfl<|gK h fun r12 w13 h=>aK (xX (Min:=[Ar cB x11.1 r9.1,Ar dH.raw x11.2.1 x11.2.2,fI bX x11.2.2 r9.2]) (Mr:=[cR b2 [lQ,lQ] 28,cR b1 [vI (p0.1),v0,v1,v2,vB (p0.2.2.2.2.1),vB (p0.2.2.2.2.2)] 24]) Og (vR U v0 v1 v2 x11.1 x11.2.1 x11.2.2 r12 w13) rfl (aT.refl _) (pJ [0,1,2] rfl) (fun _ _=>rfl)) rfl fun x14=>cH (Know.one ((cI (aG.res 0 rfl) cU))) fun ho15=>cH (Know.one (aG.sl (bG (i:=1) (j:=2) rfl rfl bN))) fun ho16=>cL 3 (vs:=[x14.1,x14.2.1]) rfl rfl (pF ho15 (pF ho16 rfl)) rfl rfl rfl<|aP<|aW ?_
 cases h
 exact nO (x14.1,x14.2.1,x14.2.2) rfl rfl (RV.cell 3 rfl rfl rfl rfl) (aT.ix [0,1,2] rfl rfl) aH.nil
end
end Go.Proofs.YtlciiihigmgaiaaGreat
end
