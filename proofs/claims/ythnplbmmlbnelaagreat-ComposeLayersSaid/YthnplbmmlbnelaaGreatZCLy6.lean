/- Models and proofs. Conditions: none. -/
import Derived.Test.YthnplbmmlbnelaaGreatZCLy5
import Derived.Lib.AppendZeros
import Derived.Laws.CopyRow
import Derived.Laws.StructEq
set_option linter.unusedVariables false
set_option linter.unusedSimpArgs false
set_option maxHeartbeats 4000000
set_option maxRecDepth 20000
section
namespace Go.Gx
open Go Go.Sx Go.RowKit
section
section
variable {P:Program} {tb:TB} {ρ:eL} {V U W:Value} {v u t g:GV} {gs:zH} {w0:fU gs} {w:World} {H H':GH}
theorem CW (z:List GV):∀n,(Kd z n).length=n*z.length
 |0=>by show([]:List GV).length=_;simp
 |n+1=>by
  have:Kd z (n+1)=z++Kd z n:=rfl
  rw[this,List.length_append,CW z n,Nat.add_mul];omega
theorem Mb (z:List GV) (hz:0<z.length):∀(n i:Nat),i<n*z.length->(Kd z n)[i]? = z[i%z.length]?
 |0,i,h=>by simp at h
 |n+1,i,h=>by
  have:Kd z (n+1)=z++Kd z n:=rfl
  rw[this]
  by_cases hi:i<z.length
  ·rw[List.getElem?_append_left hi,Nat.mod_eq_of_lt hi]
  ·rw[List.getElem?_append_right (by omega),Mb z hz n (i - z.length) (by have:(n+1)*z.length=n*z.length+z.length:=Nat.succ_mul n z.length;omega),<-Nat.mod_eq_sub_mod (by omega)]
theorem CX {zc:List GV} {z:Array Value} (hC:Lo ρ zc z) (h0:0<zc.length) (n:Nat):Lo ρ (Kd zc n) ((Array.range (n*zc.length)).map (z[· % z.size]!)):=by
 have hl:zc.length=z.size:=by have:=hC.r.len;simpa using this
 have hz:0<z.size:=by omega
 have hget:∀i,i<n*zc.length->z[i%z.size]? = some (z[i%z.size]!):=fun i _=>by
  have hm:i%z.size<z.size:=Nat.mod_lt _ hz
  rw[getElem!_pos z (i%z.size) hm];simp
 refine⟨⟨by simp[CW],fun i a b ha hb=> ?_⟩,fun x hx=> ?_⟩
 ·have hi:=aV ha
  rw[CW]at hi
  rw[Mb zc h0 n i hi]at ha
  have hb':some (z[i%z.size]!)=some b:=by
   rw[<-hb,Array.getElem?_toList]
   simp[hi]
  cases hb'
  refine hC.r.at' (i%zc.length) a _ ha ?_
  rw[Array.getElem?_toList,hl]
  exact hget i hi
 ·simp only[Array.toList_map,List.mem_map]at hx
  obtain⟨i,hi,rfl⟩:=hx
  have hi:i<n*zc.length:=by simpa using hi
  exact HX hC.one (hget i hi)
theorem Cj {sz:Nat}:∀{l:List (Nat×GV)} {r0 cs:List GV},DG sz l r0=some cs->cs.length=r0.length
 | [],r0,cs,h=>by cases h;rfl
 |p::l,r0,cs,h=>by
  obtain⟨cc,hcc,h⟩:=aE.1 (show ob p.2.cells (fun cc=>bif Nat.beq cc.length sz then(bif Nat.beq sz 0 then none else ob (CO cc (Nat.mul p.1 sz) r0) (DG sz l))else none)=some cs from h)
  obtain⟨_,h⟩:=bL.1 h
  obtain⟨_,h⟩:=jV.1 h
  obtain⟨c1,hg,h⟩:=aE.1 h
  rw[Cj h]
  exact(EL hg).2.1
theorem Lh (hG:eB P tb) {T:TypeId} {n:Nat} {l:List (Nat×GV)} {parts:List (Nat×Value)} (R:gJ w0 ρ H w) (hp:Ux ρ l parts) (h:x_ tb T n l H=some (g,H')):Hw P w0 ρ (Instr.buildSlice T n parts.toArray) w g H':=by
 obtain⟨te,hte,h⟩:=aE.1 (show ob (xF tb T) _=some (g,H')from h)
 obtain⟨zc,hz,h⟩:=aE.1 h
 obtain⟨hlen,h⟩:=bL.1 h
 obtain⟨hbig,h⟩:=bL.1 h
 obtain⟨h0,h⟩:=jV.1 h
 obtain⟨cs,hfill,h⟩:=aE.1 h
 rw[gN]at h;cases h
 obtain⟨⟨d,hd,hde⟩,hE,htab⟩:=tE hG hte
 obtain⟨dz,hdz,_,hC⟩:=rA (ρ:=ρ) hG hz
 rw[htab]at hdz;cases hdz
 have hlen:zc.length=te.2.size:=Nat.eq_of_beq_eq_true hlen
 have h0:te.2.size≠0:=fun e=>by rw[e]at h0;cases h0
 have hbig:n*te.2.size<16777216:=by simpa [Nat.blt_eq]using hbig
 have hrep:=CX hC (by omega) n
 rw[hlen]at hrep
 obtain⟨a',f1,f2⟩:=Bz hp hrep hfill
 obtain⟨ρ',hle,rfl,R'⟩:=R.alloc te.1 f2
 have hsz:a'.size=n*te.2.size:=by
  have e1:=f2.r.len
  have:cs.length=(Kd zc n).length:=Cj hfill
  rw[this,CW,hlen]at e1
  simp at e1;omega
 refine⟨_,_,_,?_,hle,R',.sl (l:=⟨w.heap.size,0,a'.size,.cells a' te.1,.cells cs⟩) (cap:=n) (A:=⟨w.heap.size,0,none⟩) (by simp[eL.upd]) (Nat.le_refl _) (.inr ⟨rfl,by simp[hsz]⟩)⟩
 have hu:=hd.run_und w
 rw[hde]at hu
 by_cases hn:n*te.2.size=0
 ·have hz0:n=0:=by rcases Nat.mul_eq_zero.1 hn with h|h;exact h;exact absurd h h0
  subst hz0
  have e0:(Array.range (0*te.2.size)).map (te.2.zero.cells[· % te.2.zero.cells.size]!)=(#[]:Array Value):=by simp
  rw[e0]at f1
  have e1:(Array.range 0).map (fun _=>(default:Value)) = #[]:=by simp
  simp[Instr.buildSlice,hu,hE.run_size w,newRow]
  simp[e1,f1]
 ·simp[Instr.buildSlice,hu,hE.run_size w,hE.run_zero w,hn,f1,newRow,show¬(16777216<n*te.2.size) by omega]
theorem Qa (hG:eB P tb) {T:TypeId} (R:gJ w0 ρ H w) (hv:Rl ρ v V) (hu:Rl ρ u U) (h:JN tb T v u H=some (g,H')):Hw P w0 ρ (Instr.makeSlice T V U) w g H':=by
 obtain⟨te,hte,h⟩:=aE.1 (show ob (xF tb T) _=some (g,H')from h)
 obtain⟨zc,hz,h⟩:=aE.1 h
 obtain⟨k,hk,h⟩:=aE.1 h
 obtain⟨c,hc,h⟩:=aE.1 h
 obtain⟨heq,h⟩:=bL.1 h
 obtain⟨n,hn,h⟩:=aE.1 h
 obtain⟨hlen,h⟩:=bL.1 h
 obtain⟨hby,h⟩:=bL.1 h
 obtain⟨hn2,h⟩:=bL.1 h
 obtain⟨h0,h⟩:=jV.1 h
 rw[OO,gN]at h;cases h
 obtain⟨⟨d,hd,hde⟩,hE,htab⟩:=tE hG hte
 obtain⟨dz,hdz,_,hC⟩:=rA (ρ:=ρ) hG hz
 rw[htab]at hdz;cases hdz
 have hlen:zc.length=te.2.size:=Nat.eq_of_beq_eq_true hlen
 have h0:te.2.size≠0:=fun e=>by rw[e]at h0;cases h0
 have hby:n*te.2.bytes<16777216:=by simpa [Nat.blt_eq]using hby
 have hn2:n<16777216:=by simpa [Nat.blt_eq]using hn2
 rw[kQ hk]at hv
 rw[kQ hc]at hu
 rw[DD]at heq
 have heq:=of_decide_eq_true heq
 rw[hv.int_inv,hu.int_inv,<-heq,Cc hn]
 have hrep:=CX hC (by omega) n
 rw[hlen]at hrep
 obtain⟨ρ',hle,rfl,R'⟩:=R.alloc te.1 hrep
 obtain⟨iE,hiE,hs,hb,hze⟩:=hE.info
 have hund:=hd.und
 rw[hde]at hund
 have hbb:(iE.bytes:Int)*(n:Int)<=281474976710656:=by
  have e:(te.2.bytes:Int)*(n:Int)=((n*te.2.bytes:Nat):Int):=by rw[Nat.mul_comm];simp
  rw[hb,e];omega
 have hr:=run_make (P:=P) w T te.1 iE te.2.zero hund hiE hze k.1 c.1 n n (by omega) (Int.le_refl _) hbb (by omega)
 refine⟨_,_,_,?_,hle,R',.sl (l:=⟨w.heap.size,0,((Array.range (n*te.2.size)).map (te.2.zero.cells[· % te.2.zero.cells.size]!)).size,.cells ((Array.range (n*te.2.size)).map (te.2.zero.cells[· % te.2.zero.cells.size]!)) te.1,.cells (Kd zc n)⟩) (cap:=n) (A:=⟨w.heap.size,0,none⟩) (by simp[eL.upd]) (Nat.le_refl _) (.inr ⟨rfl,by simp⟩)⟩
 rw[hr]
 simp[madeCells,hs]
theorem Sq {o:Option GV} {O:Option Value} {d n:Nat} (hr:(o=none∧O=none)∨∃g x,o=some g∧O=some x∧Rl ρ g x) (h:vB o d=some n):(o=none∧O=none∧n=d)∨∃k:IntKind,O=some (.int k n):=by
 rcases hr with⟨rfl,rfl⟩|⟨g,x,rfl,rfl,hx⟩
 ·cases h;exact .inl ⟨rfl,rfl,rfl⟩
 ·obtain⟨a,ha,h⟩:=aE.1 (show ob g.asI _=some n from h)
  rw[kQ ha]at hx
  exact .inr ⟨a.1,by rw[hx.int_inv,Cc h]⟩
def UI (ρ:eL) (o:Option GV) (O:Option Value):Prop:=(o=none∧O=none)∨∃g x,o=some g∧O=some x∧Rl ρ g x
theorem Aq {sl:Bool} {len cap l h:Nat} {lo hi:Option GV} {LO HI:Option Value} (hlo:UI ρ lo LO) (hhi:UI ρ hi HI) (h1:vB lo 0=some l) (h2:vB hi len=some h) (hle:l<=h) (hc:h<=cap) (w:World):
  (Instr.sliceBounds sl len cap LO HI none).run P w = .ok (l,h,cap) w:=by
 rcases Sq hlo h1 with⟨_,rfl,rfl⟩|⟨k1,rfl⟩<;>rcases Sq hhi h2 with⟨_,rfl,rfl⟩|⟨k2,rfl⟩
 ·simp[Instr.sliceBounds]
 ·simp[Instr.sliceBounds,Instr.sliceBound,asIntOf,hc]
 ·simp[Instr.sliceBounds,Instr.sliceBound,asIntOf,hle]
 ·simp[Instr.sliceBounds,Instr.sliceBound,asIntOf,hle,hc]
theorem Hs (hG:eB P tb) {T:TypeId} {lo hi:Option GV} {LO HI:Option Value} (R:(∃(w0:fU gs) (w:World),gJ w0 ρ H w)∨∀t,tb T=some t->Ur t.desc=none) (hv:Rl ρ v V) (hlo:UI ρ lo LO) (hhi:UI ρ hi HI) (h:AA tb T v lo hi H=some g):zZ P ρ (Instr.sliceAt T V LO HI none) g:=by
 obtain⟨l,hl,h⟩:=aE.1 (show ob (vB lo 0) _=some g from h)
 obtain⟨t,ht,h⟩:=aE.1 h
 have hT:=hG.tab ht
 cases hs:v.asStr with
 | some s =>
  rw[hs]at h
  obtain⟨e,he,h⟩:=aE.1 (show ob (vB hi s.2) _=some g from h)
  obtain⟨hd,h⟩:=bL.1 h
  obtain⟨hle,h⟩:=bL.1 (show(bif Nat.ble l e then _ else none)=some g from h)
  obtain⟨hlen,h⟩:=bL.1 h
  simp only[yK]at h
  cases h
  have hle:l<=e:=by simpa using hle
  have hlen:e<=s.2:=by simpa using hlen
  rw[pG hs]at hv
  obtain⟨r,rfl,e1,e2⟩:=hv.str_inv
  have hsz:r.size=s.2:=by rw[e2];exact Lib.size_eq r
  have hx:=Lib.extract_data r l e
  refine⟨.string (r.extract l e),?_,fun w=> ?_⟩
  ·have:Rl ρ (.str (jX (bI (r.extract l e))) (bI (r.extract l e)).length) (.string (r.extract l e)):= .str _
   have e3:bI (r.extract l e)=((bI r).drop l).take (e - l):=hx
   rw[e3]at this
   rw[e1,OL]
   have e4:(((bI r).drop l).take (e - l)).length=Nat.sub e l:=by
    simp only[List.length_take,List.length_drop,<-e2]
    show _=e - l
    omega
   rw[e4]at this
   exact this
  ·have hu:=hT.run_und w
   rw[yN hd]at hu
   have hb:=Aq (P:=P) (sl:=false) (cap:=s.2) hlo hhi hl he hle hlen w
   simp[Instr.sliceAt,hu,Instr.slice,hsz,hb]
 | none =>
  rw[hs]at h
  cases hS:v.asS with
  | some s =>
   simp only[hS]at h
   obtain⟨E,hE,h⟩:=aE.1 (show ob (Qj t.desc) _=some g from h)
   obtain⟨te,hte,h⟩:=aE.1 h
   obtain⟨e,he,h⟩:=aE.1 h
   obtain⟨hsz,h⟩:=bL.1 (show(bif Nat.beq te.size s.2.2.2 then _ else none)=some g from h)
   obtain⟨hle,h⟩:=bL.1 h
   obtain⟨hlen,h⟩:=bL.1 h
   simp only[yK]at h
   cases h
   have hsz:te.size=s.2.2.2:=Nat.eq_of_beq_eq_true hsz
   have hle:l<=e:=by simpa using hle
   have hlen:e<=s.2.2.1:=by simpa using hlen
   rw[Ae hS]at hv
   obtain⟨lc,cap,A,hlc,rfl,hc,ha⟩:=hv.sl_inv
   refine⟨.slice (if cap=l then some A else(some A).map (·.add (l*te.size))) (e - l) (cap - l),?_,fun w=> ?_⟩
   ·have e1:(if cap=l then some A else(some A).map (·.add (l*te.size)))=some (if cap=l then A else A.add (l*te.size)):=by split<;>rfl
    rw[e1]
    refine .sl hlc (show e - l<=cap - l by omega) ?_
    by_cases hcl:cap - l=0
    ·exact .inl hcl
    ·right
     rw[if_neg (by omega)]
     rcases ha with ha|⟨rfl,hb⟩
     ·omega
     ·rw[dS]
      refine⟨by show _=(⟨lc.b,lc.off+(s.2.1+l*te.size),none⟩:Addr);rw[Nat.add_assoc],?_⟩
      have:cap*s.2.2.2=l*te.size+(cap - l)*te.size:=by rw[<-hsz,<-Nat.add_mul];congr 1;omega
      show lc.off+(s.2.1+l*te.size)+(cap - l)*te.size<=lc.size
      omega
   ·have hu:=hT.run_und w
    rw[Ct hE]at hu
    have hb:=Aq (P:=P) (sl:=true) (cap:=cap) hlo hhi hl he hle (by omega) w
    simp[Instr.sliceAt,hu,Instr.slice,hb,(hG.tab hte).run_size w]
  | none =>
   simp only[hS]at h
   cases hz:v.isSnil with
   |true=>
    rw[hz]at h
    obtain⟨E,hE,h⟩:=aE.1 (show ob (Qj t.desc) _=some g from h)
    obtain⟨te,hte,h⟩:=aE.1 h
    obtain⟨e,he,h⟩:=aE.1 h
    obtain⟨h0,h⟩:=bL.1 h
    obtain⟨h1,h⟩:=bL.1 h
    cases h
    have h0:l=0:=Nat.eq_of_beq_eq_true h0
    have h1:e=0:=Nat.eq_of_beq_eq_true h1
    subst h0 h1
    rw[tG hz]at hv
    rw[hv.snil_inv]
    refine⟨_,.snil,fun w=> ?_⟩
    have hu:=hT.run_und w
    rw[Ct hE]at hu
    have hb:=Aq (P:=P) (sl:=true) (len:=0) (cap:=0) hlo hhi hl he (Nat.le_refl _) (Nat.le_refl _) w
    simp[Instr.sliceAt,hu,Instr.slice,hb,(hG.tab hte).run_size w]
   |false=>
   rw[hz]at h
   obtain⟨p,hp,h⟩:=aE.1 (show ob v.asP _=some g from h)
   obtain⟨E,hE,h⟩:=aE.1 h
   obtain⟨te,hte,h⟩:=aE.1 h
   obtain⟨e,he,h⟩:=aE.1 h
   obtain⟨cs,hcs,h⟩:=aE.1 h
   obtain⟨hfit,h⟩:=bL.1 h
   obtain⟨hle,h⟩:=bL.1 (show(bif Nat.ble l e then _ else none)=some g from h)
   obtain⟨hlen,h⟩:=bL.1 h
   obtain⟨h0,h⟩:=jV.1 h
   simp only[yK]at h
   cases h
   have hfit:p.2+E.1*te.size<=cs.length:=by simpa using hfit
   have hle:l<=e:=by simpa using hle
   have hlen:e<=E.1:=by simpa using hlen
   rw[AY hp]at hv
   obtain⟨lc,hlc,rfl⟩:=hv.ptr_inv
   rcases R with⟨w0,w,R⟩|R
   rotate_left
   ·rw[R t ht]at hE;cases hE
   obtain⟨cur,T',hb,hcs2,hfit2,_⟩:=R.cells hcs hlc
   refine⟨.slice (some (if E.1=l then⟨lc.b,lc.off+p.2,none⟩else Addr.add ⟨lc.b,lc.off+p.2,none⟩ (l*te.size))) (e - l) (E.1 - l),?_,fun w=> ?_⟩
   ·refine .sl hlc (show e - l<=E.1 - l by omega) ?_
    by_cases hcl:E.1 - l=0
    ·exact .inl hcl
    ·right
     rw[if_neg (by omega),dS]
     refine⟨by show _=(⟨lc.b,lc.off+(p.2+l*te.size),none⟩:Addr);rw[Nat.add_assoc],?_⟩
     have:E.1*te.size=l*te.size+(E.1 - l)*te.size:=by rw[<-Nat.add_mul];congr 1;omega
     show lc.off+(p.2+l*te.size)+(E.1 - l)*te.size<=lc.size
     omega
   ·have hu:=hT.run_und w
    rw[Ld hE]at hu
    have hb:=Aq (P:=P) (sl:=false) (cap:=E.1) hlo hhi hl he hle hlen w
    simp[Instr.sliceAt,hu,Instr.sureAddr,hb,(hG.tab hte).run_size w]
end
end
section
section
variable {P:Program} {tb:TB} {ρ:eL} {V U W:Value} {v u t g:GV} {gs:zH} {w0:fU gs} {w:World} {H H':GH}
structure MH (ρ:eL) (w:World) (sz n:Nat) (r:List GV) (V:Value) (ns:List Value):Prop where
 rel:tP ρ r ns
 len:ns.length=n*sz
 one:∀x∈ns,Go.Sx.one x=true
 val:∃base cap,V = .slice base n cap∧n<=cap∧((base=none∧n=0∧cap=0)∨∃A,base=some A∧∀(j:Nat) x,ns[j]? = some x->w.cell? (A.add j)=some x)
theorem Cf (R:gJ w0 ρ H w) {sz:Nat} {p:Nat×List GV} (hv:Rl ρ v V) (h:xQ H sz v=some p):∃ns,MH ρ w sz p.1 p.2 V ns:=by
 unfold xQ at h
 cases hz:v.isSnil with
 |true=>
  rw[hz]at h;cases h
  rw[tG hz]at hv
  exact⟨[],.nil,by simp,fun x hx=>by simp at hx,none,0,hv.snil_inv,Nat.le_refl _,.inl ⟨rfl,rfl,rfl⟩⟩
 | false =>
  rw[hz]at h
  obtain⟨s,hs,h⟩:=aE.1 (show ob v.asS _=some p from h)
  obtain⟨hsz,h⟩:=bL.1 h
  obtain⟨cs,hcs,h⟩:=aE.1 h
  obtain⟨r,hr,h⟩:=aE.1 h
  cases h
  have hsz:s.2.2.2=sz:=Nat.eq_of_beq_eq_true hsz
  obtain⟨hb,rfl⟩:=Is hr
  have hb:s.2.1+s.2.2.1*sz<=cs.length:=hb
  rw[Ae hs]at hv
  obtain⟨l,cap,A,hl,rfl,hc,ha⟩:=hv.sl_inv
  obtain⟨cur,T,hh,hsize,hfit,hcell⟩:=R.cells hcs hl
  let ns:=(cur.toList.drop (l.off+s.2.1)).take (s.2.2.1*sz)
  have hlen:ns.length=s.2.2.1*sz:=by simp[ns];omega
  have hrel:tP ρ ((cs.drop s.2.1).take (s.2.2.1*sz)) ns:=⟨by rw[hlen];simp;omega,fun i a b hai hbi=>by
   simp only[ns]at hbi
   rw[List.getElem?_take]at hai hbi
   by_cases hi:i<s.2.2.1*sz
   ·rw[if_pos hi,List.getElem?_drop]at hai hbi
    obtain⟨x,h1,h2,_⟩:=hcell _ _ hai
    rw[Array.getElem?_toList,show l.off+s.2.1+i=l.off+(s.2.1+i) by omega,h1]at hbi
    cases hbi;exact h2
   ·rw[if_neg hi]at hai;cases hai⟩
  have hnx:∀(j:Nat) x,ns[j]? = some x->j<s.2.2.1*sz∧cur[l.off+(s.2.1+j)]? = some x:=fun j x hx=>by
   have hlt:=aV hx
   simp only[ns]at hx
   rw[List.getElem?_take,if_pos (by omega),List.getElem?_drop,Array.getElem?_toList,show l.off+s.2.1+j=l.off+(s.2.1+j) by omega]at hx
   exact⟨by omega,hx⟩
  refine⟨ns,hrel,hlen,fun x hx=> ?_,_,cap,rfl,hc,.inr ⟨A,rfl,fun j x hx=> ?_⟩⟩
  ·obtain⟨i,hi⟩:=List.mem_iff_getElem?.1 hx
   obtain⟨h1,h2⟩:=hnx i x hi
   obtain⟨y,h3,_,h4⟩:=hcell (s.2.1+i) _ (List.getElem?_eq_getElem (by omega))
   rw[h2]at h3;cases h3;exact h4
  ·obtain⟨h1,h2⟩:=hnx j x hx
   rcases ha with ha|⟨rfl,_⟩
   ·have:s.2.2.1=0:=by omega
    rw[this]at h1;simp at h1
   ·rw[dS,show l.off+s.2.1+j=l.off+(s.2.1+j) by omega]
    simp[World.cell?,hh,h2]
theorem MH.src {sz n:Nat} {r:List GV} {ns:List Value} (h:MH ρ w sz n r V ns) {T E:TypeId} (hu:P.underlying T=some (.slice E)):Src P sz T V n ns w:=by
 obtain⟨base,cap,rfl,_,hh⟩:=h.val
 have hone:∀x∈ns,x.oneCell'=true:=fun x hx=>k_ (h.one x hx)
 rcases hh with⟨rfl,rfl,rfl⟩|⟨A,rfl,hc⟩
 ·have:ns=[]:=List.eq_nil_of_length_eq_zero (by have:=h.len;simpa using this)
  subst this
  exact Src.ofNil w hu 0
 ·exact Src.ofSlice w hu A n cap ns h.len hc hone
theorem MH.old {sz n:Nat} {r:List GV} {ns:List Value} (h:MH ρ w sz n r V ns):(Builtin.firstCells sz n V).run P w.drew = .ok ns.toArray w.drew:=by
 obtain⟨base,cap,rfl,_,hh⟩:=h.val
 rcases hh with⟨rfl,rfl,rfl⟩|⟨A,rfl,hc⟩
 ·have:ns=[]:=List.eq_nil_of_length_eq_zero (by have:=h.len;simpa using this)
  subst this
  exact run_firstCells_none w.drew sz 0 0 0
 ·exact run_firstCells_some w.drew sz n A n cap ns h.len hc
theorem gJ.alloc' (R:gJ w0 ρ H w) {cs:List GV} {a:Array Value} (T:TypeId) (hl:cs.length<=a.size) (hr:∀(i:Nat) g,cs[i]? = some g->∃x,a[i]? = some x∧Rl ρ g x∧one x=true):
  ∃ρ',ρ.le ρ'∧ρ'=ρ.upd H.n ⟨w.heap.size,0,a.size,.cells a T,.cells cs⟩∧gJ w0 ρ' (H.new (.cells cs)) (w.alloc (.cells a T)):=by
 have e:J_ w (w.alloc (.cells a T)):=(Below.refl _ _).alloc (Nat.le_refl _) _
 have h:=R.new (o:= .cells cs) (l:=⟨w.heap.size,0,a.size,.cells a T,.cells cs⟩) (R.ext.trans e) (fun h o' l' hg hl=>by
  obtain⟨l,hl',_,ho⟩:=R.live h o' hg
  rw[hl]at hl';cases hl'
  exact⟨e.block _ ho.lt,Nat.ne_of_lt ho.lt⟩) (.inl R.ext.size) (by
  refine⟨a,T,heap_alloc_new w _,rfl,by simpa using hl,fun i g hg=> ?_⟩
  obtain⟨x,hx,hrx,h1⟩:=hr i g hg
  exact⟨x,by simpa using hx,hrx.le (yC (R.fresh _ (Nat.le_refl _))),h1⟩) (heap_alloc_new w _)
 exact⟨_,h.1,rfl,h.2⟩
theorem Kz {sz:Nat} {p:Nat×List GV} {s:Nat×Nat×Nat×Nat} (h:xQ H sz v=some p) (hs:v.asS=some s):s.2.2.2=sz∧∃cs,H.cells s.1=some cs∧s.2.1+s.2.2.1*sz<=cs.length∧p.1=s.2.2.1:=by
 unfold xQ at h
 have hnz:v.isSnil=false:=by rw[Ae hs];rfl
 rw[hnz]at h
 obtain⟨s',hs',h⟩:=aE.1 (show ob v.asS _=some p from h)
 rw[hs]at hs';cases hs'
 obtain⟨hsz,h⟩:=bL.1 h
 obtain⟨cs,hcs,h⟩:=aE.1 h
 obtain⟨r,hr,h⟩:=aE.1 h
 cases h
 exact⟨Nat.eq_of_beq_eq_true hsz,cs,hcs,(Is hr).1,rfl⟩
theorem MN (R:gJ w0 ρ H w) {hh off k sz m cap:Nat} {l:Ka} {cs p2 q2:List GV} {ns1 ns2:List Value} (hcs:H.cells hh=some cs) (hl:ρ hh=some l) (c1:MH ρ w sz k p2 (.slice (some ⟨l.b,l.off+off,none⟩) k cap) ns1)
  (r2:tP ρ q2 ns2) (l2:ns2.length=m*sz) (o2:∀x∈ns2,one x=true) (hroom:k+m<=cap) (hbound:l.off+off+cap*sz<=l.size):
  ∃cur T',w.heap[l.b]? = some (.cells cur T' (0,0))∧l.off+off+cap*sz<=cur.size∧ρ.le (ρ.upd H.n ⟨l.b,l.off+off,l.size,(.cells (cur.toList.take (l.off+off+k*sz)++ns2++cur.toList.drop (l.off+off+k*sz+ns2.length)).toArray T'),.cells (p2++q2)⟩)∧
   gJ w0 (ρ.upd H.n ⟨l.b,l.off+off,l.size,(.cells (cur.toList.take (l.off+off+k*sz)++ns2++cur.toList.drop (l.off+off+k*sz+ns2.length)).toArray T'),.cells (p2++q2)⟩) ((H.del hh).new (.cells (p2++q2))) (w.setRow l.b (cur.toList.take (l.off+off+k*sz)++ns2++cur.toList.drop (l.off+off+k*sz+ns2.length)).toArray):=by
 obtain⟨cur,T',hb,hsize,hfit,hcell⟩:=R.cells hcs hl
 have hmul:k*sz+m*sz<=cap*sz:=by rw[<-Nat.add_mul];exact Nat.mul_le_mul_right _ hroom
 have hcl:cur.toList.length=cur.size:=by simp
 obtain⟨l0,hl0,hbase0,_⟩:=R.live _ _ (gA.1 hcs)
 rw[hl]at hl0;cases hl0
 have l1:=c1.len
 have e1:p2.length=k*sz:=by rw[c1.rel.len];exact l1
 have e2:q2.length=m*sz:=by rw[r2.len];exact l2
 have hnew:=(R.del hh).new (o:= .cells (p2++q2)) (l:=⟨l.b,l.off+off,l.size,(.cells (cur.toList.take (l.off+off+k*sz)++ns2++cur.toList.drop (l.off+off+k*sz+ns2.length)).toArray T'),.cells (p2++q2)⟩)
  (w':=w.setRow l.b (cur.toList.take (l.off+off+k*sz)++ns2++cur.toList.drop (l.off+off+k*sz+ns2.length)).toArray)
  ⟨R.ext.os,R.ext.tape,R.ext.output,by simpa using R.ext.size,fun k hk hO=>by
   rw[setRow_other w l.b k _ (fun e=>by subst e;rcases hbase0 with hbase|hbase;exact absurd hbase (by omega);exact hO hbase)];exact R.ext.block k hk hO⟩
  (fun h o' l' hg hl'=>by
   rw[BY]at hg
   by_cases e:h=hh
   ·rw[if_pos e]at hg;cases hg
   ·rw[if_neg e]at hg
    have hne:l'.b≠l.b:=fun e'=>e (R.inj h hh o' _ l' l hg (gA.1 hcs) hl' hl e')
    exact⟨setRow_other w l.b l'.b _ hne,hne⟩) hbase0 (by
   refine⟨_,T',setRow_heap w l.b _ _ T' _ hb,?_,?_,fun i x hx=> ?_⟩
   ·simp;omega
   ·show l.off+off+(p2++q2).length<=l.size
    rw[List.length_append,e1,e2];omega
   ·have hle0:ρ.le (ρ.upd (H.del hh).n ⟨l.b,l.off+off,l.size,(.cells (cur.toList.take (l.off+off+k*sz)++ns2++cur.toList.drop (l.off+off+k*sz+ns2.length)).toArray T'),.cells (p2++q2)⟩):=yC (R.fresh _ (Nat.le_refl _))
    have hil:=aV hx
    rw[List.length_append,e1,e2]at hil
    obtain⟨y,hy,hr⟩:=(c1.rel.append r2).get hx
    refine⟨y,?_,hr.le hle0,?_⟩
    ·show(cur.toList.take (l.off+off+k*sz)++ns2++cur.toList.drop (l.off+off+k*sz+ns2.length)).toArray[l.off+off+i]? = some y
     rw[List.getElem?_toArray,List.append_assoc]
     by_cases hi:i<k*sz
     ·rw[List.getElem?_append_left (by simp;omega),List.getElem?_take,if_pos (by omega),Array.getElem?_toList]
      rw[List.getElem?_append_left (by omega)]at hy
      obtain⟨base',cap2,hV2,_,hh2⟩:=c1.val
      cases hV2
      rcases hh2 with⟨h1,_⟩|⟨A,hA,hAc⟩
      ·cases h1
      ·cases hA
       have:=hAc i y hy
       rw[dS]at this
       simpa [World.cell?,hb]using this
     ·rw[List.getElem?_append_right (by simp;omega),List.length_take,show min (l.off+off+k*sz) cur.toList.length=l.off+off+k*sz by omega]
      rw[List.getElem?_append_right (by omega),l1]at hy
      rw[List.getElem?_append_left (by omega)]
      rw[<-hy];congr 1;omega
    ·rcases List.mem_append.1 (List.mem_of_getElem? hy)with hm|hm
     ·exact c1.one y hm
     ·exact o2 y hm) (setRow_heap w l.b _ _ T' _ hb)
 exact⟨cur,T',hb,by omega,hnew.1,hnew.2⟩
theorem PU (hG:eB P tb) {T T' ty:TypeId} (R:gJ w0 ρ H w) (hv:Rl ρ v V) (hu:Rl ρ u U) (h:PT tb T T' v u H=some (g,H')):Hw P w0 ρ (Builtin.append_ #[T,T'] ty #[V,U]) w g H':=by
 unfold PT at h
 obtain⟨hvz,h⟩:=bL.1 h
 obtain⟨te,hte,h⟩:=aE.1 h
 obtain⟨t',ht',h⟩:=aE.1 h
 obtain⟨kn,hkn,h⟩:=aE.1 h
 obtain⟨zc,hz,h⟩:=aE.1 h
 obtain⟨k,hk,h⟩:=aE.1 h
 obtain⟨n,hn,h⟩:=aE.1 h
 obtain⟨hlen,h⟩:=bL.1 h
 obtain⟨hby,h⟩:=bL.1 h
 obtain⟨h0,h⟩:=jV.1 h
 obtain⟨hn0,h⟩:=jV.1 h
 rw[OO,gN]at h;cases h
 obtain⟨⟨d,hd,hde⟩,hE,htab⟩:=tE hG hte
 obtain⟨dz,hdz,_,hC⟩:=rA (ρ:=ρ) hG hz
 rw[htab]at hdz;cases hdz
 have hlen:zc.length=te.2.size:=Nat.eq_of_beq_eq_true hlen
 have h0:te.2.size≠0:=fun e=>by rw[e]at h0;cases h0
 have hn0:n≠0:=fun e=>by rw[e]at hn0;cases hn0
 have hby:n*(te.2.bytes+1)<16777216:=by simpa [Nat.blt_eq]using hby
 have hb1:n*te.2.bytes+n<16777216:=by rw[Nat.mul_add,Nat.mul_one]at hby;exact hby
 rw[tG hvz]at hv
 have hV:=hv.snil_inv
 subst hV
 rw[kQ hk]at hu
 rw[hu.int_inv,Cc hn]
 obtain⟨iE,hiE,hs,hb,hze⟩:=hE.info
 have hund:=hd.und
 rw[hde]at hund
 have hund':=(hG.tab ht').und
 rw[Cs hkn]at hund'
 have hr:=Lib.run_append_nil_zeros (P:=P) w T T' ty te.1 iE te.2.zero k.1 kn hund hund' hiE hze n (by omega) (by omega) (by omega) (by rw[hb];omega)
 have hzs:te.2.zero.cells.size=te.2.size:=by have:=hC.r.len;simp at this;omega
 have hge:=grownCap_ge w n 0 te.1
 have hrep:=CX hC (by omega) n
 have hrl:=hrep.r.len
 have hx:Builtin.zeroCells te.2.zero.cells n=(Array.range (n*zc.length)).map (te.2.zero.cells[· % te.2.zero.cells.size]!):=by
  unfold Builtin.zeroCells
  rw[hzs,hlen]
 rw[<-hx]at hrep hrl
 obtain⟨ρ',hle,rfl,R'⟩:=R.alloc' (cs:=Kd zc n) (a:=Builtin.zeroCells te.2.zero.cells n++Builtin.zeroCells te.2.zero.cells (grownCap w n 0 te.1 - n)) te.1 (by
   simp only[Array.size_append];have:(Kd zc n).length=(Builtin.zeroCells te.2.zero.cells n).size:=by simpa using hrl
   omega) (fun i x hxi=>by
  obtain⟨y,hy,hry⟩:=hrep.r.get hxi
  have hy':(Builtin.zeroCells te.2.zero.cells n)[i]? = some y:=by simpa using hy
  exact⟨y,by rw[Array.getElem?_append_left (by simpa using aV hy)];exact hy',hry,hrep.one y (by simpa using List.mem_of_getElem? hy)⟩)
 refine⟨_,_,_,hr,hle,R'.ext' ((Below.refl _ _).drew),?_⟩
 refine .sl (l:=⟨w.heap.size,0,(Builtin.zeroCells te.2.zero.cells n++Builtin.zeroCells te.2.zero.cells (grownCap w n 0 te.1 - n)).size,.cells (Builtin.zeroCells te.2.zero.cells n++Builtin.zeroCells te.2.zero.cells (grownCap w n 0 te.1 - n)) te.1,.cells (Kd zc n)⟩) (by simp[eL.upd]) hge (.inr ⟨rfl,?_⟩)
 simp only[Array.size_append,size_zeroCells,hzs]
 have:grownCap w n 0 te.1*te.2.size=n*te.2.size+(grownCap w n 0 te.1 - n)*te.2.size:=by
  rw[<-Nat.add_mul];congr 1;omega
 omega
theorem gJ.put (R:gJ w0 ρ H w) {hh o:Nat} {cs uc c1:List GV} {l:Ka} {us:List Value} (hcs:H.cells hh=some cs) (hl:ρ hh=some l) (hus:tP ρ uc us) (hone:∀x∈us,one x=true) (hput:CO uc o cs=some c1) (hne:uc≠[]):
  ∃cur T',w.heap[l.b]? = some (.cells cur T' (0,0))∧l.off+o+us.length<=cur.size∧∃ρ',ρ.le ρ'∧gJ w0 ρ' (H.set hh (.cells c1)) (w.setRow l.b (cur.toList.take (l.off+o)++us++cur.toList.drop (l.off+o+us.length)).toArray):=by
 obtain⟨cur,T',hb,hsz,hfit,hcell⟩:=R.cells hcs hl
 have hul:uc.length=us.length:=hus.len
 obtain⟨p1,p2,p3⟩:=EL hput
 have p1:=p1 hne
 refine⟨cur,T',hb,by omega,_,R.set (gA.1 hcs) hl ?_ (fun k hk=>setRow_other w l.b k _ hk) ?_ (setRow_heap w l.b _ _ T' _ hb)⟩
 ·obtain⟨l',hl',hbase,_⟩:=R.live _ _ (gA.1 hcs)
  rw[hl]at hl';cases hl'
  exact⟨R.ext.os,R.ext.tape,R.ext.output,by simpa using R.ext.size,fun k hk hO=>by
   rw[setRow_other w l.b k _ (fun e=>by subst e;rcases hbase with hbase|hbase;exact absurd hbase (by omega);exact hO hbase)];exact R.ext.block k hk hO⟩
 ·refine⟨_,T',setRow_heap w l.b _ _ T' _ hb,?_,by omega,fun i x hx=> ?_⟩
  ·simp;omega
  ·rw[p3 i]at hx
   have hcl:cur.toList.length=cur.size:=by simp
   have key:(cur.toList.take (l.off+o)++us++cur.toList.drop (l.off+o+us.length)).toArray[l.off+i]? = if o<=i∧i<o+us.length then us[i - o]? else cur[l.off+i]?:=by
    rw[List.getElem?_toArray,List.append_assoc]
    by_cases hi:i<o
    ·rw[if_neg (by omega),List.getElem?_append_left (by simp;omega),List.getElem?_take,if_pos (by omega),Array.getElem?_toList]
    ·rw[List.getElem?_append_right (by simp;omega),List.length_take]
     have e1:min (l.off+o) cur.toList.length=l.off+o:=by omega
     rw[e1]
     by_cases hi2:i<o+us.length
     ·rw[if_pos (by omega),List.getElem?_append_left (by omega)]
      congr 1;omega
     ·rw[if_neg (by omega),List.getElem?_append_right (by omega),List.getElem?_drop,Array.getElem?_toList]
      congr 1;omega
   by_cases hi:o<=i∧i<o+uc.length
   ·rw[if_pos hi]at hx
    obtain⟨y,hy,hr⟩:=hus.get hx
    exact⟨y,by rw[key,if_pos (by omega)];exact hy,hr,hone y (List.mem_of_getElem? hy)⟩
   ·rw[if_neg hi]at hx
    obtain⟨y,hy,hr⟩:=hcell i x hx
    exact⟨y,by rw[key,if_neg (by omega)];exact hy,hr⟩
theorem PZ (hG:eB P tb) {T T' ty:TypeId} (R:gJ w0 ρ H w) (hv:Rl ρ v V) (hu:Rl ρ u U) (h:PY tb T v u H=some (g,H')):Hw P w0 ρ (Builtin.copy_ #[T,T'] ty #[V,U]) w g H':=by
 obtain⟨s,hs,h⟩:=aE.1 (show ob v.asS _=some (g,H')from h)
 obtain⟨r,hr,h⟩:=aE.1 h
 obtain⟨te,hte,h⟩:=aE.1 h
 obtain⟨hs1,h⟩:=bL.1 h
 obtain⟨hr1,h⟩:=bL.1 h
 obtain⟨hlen,h⟩:=bL.1 h
 obtain⟨cs,hcs,h⟩:=aE.1 h
 obtain⟨xs,hxs,h⟩:=aE.1 h
 obtain⟨ds,hds,h⟩:=aE.1 h
 have hs1:s.2.2.2=te.2.size:=Nat.eq_of_beq_eq_true hs1
 have hr1:r.2.2.2=te.2.size:=Nat.eq_of_beq_eq_true hr1
 have hlen:r.2.2.1=s.2.2.1:=Nat.eq_of_beq_eq_true hlen
 cases xs with
 |nil=>cases h
 | cons x0 xs0 =>
  obtain⟨c1,hput,h⟩:=aE.1 (show ob (CO (x0::xs0) s.2.1 ds) _=some (g,H')from h)
  rw[vJ]at h
  cases h
  have hcont:xQ H te.2.size u=some (r.2.2.1,x0::xs0):=by
   unfold xQ
   rw[Ae hr]
   have hb:Nat.beq te.2.size te.2.size=true:=by simp
   show ob (some r) (fun s=>bif Nat.beq s.2.2.2 te.2.size then _ else none)=_
   show(bif Nat.beq r.2.2.2 te.2.size then ob (H.cells r.1) (fun cs=>ob (UF cs r.2.1 (Nat.mul r.2.2.1 te.2.size)) fun q=>some (r.2.2.1,q))else none)=_
   rw[hr1,hb,cond_true,hcs]
   show ob (UF cs r.2.1 (Nat.mul r.2.2.1 te.2.size)) _=_
   rw[hxs];rfl
  obtain⟨ns,c2⟩:=Cf R hu hcont
  obtain⟨⟨d,hd,hde⟩,hE,htab⟩:=tE hG hte
  rw[Ae hs]at hv
  obtain⟨l,cap,A,hl,rfl,hc,ha⟩:=hv.sl_inv
  have hne:x0::xs0≠[]:=by simp
  obtain⟨cur,T2,hb,hfit,ρ',hle,R'⟩:=R.put hds hl c2.rel c2.one hput hne
  have hnsl:=c2.len
  have hns0:ns.length≠0:=by have:=c2.rel.len;simp at this;omega
  have hA:A=⟨l.b,l.off+s.2.1,none⟩:=by
   rcases ha with ha|⟨e,_⟩
   ·exfalso
    have:s.2.2.1=0:=by omega
    rw[hlen,this]at hnsl;simp at hnsl;exact hns0 (by simp[hnsl])
   ·exact e
  subst hA
  have hund:=hd.und
  rw[hde]at hund
  have hst:=run_storeCells_at P l.b (l.off+s.2.1) T2 ns 0 cur w hb (by simpa using hfit) (fun x hx=>k_ (c2.one x hx))
  simp only[Nat.add_zero]at hst
  obtain⟨base,cap2,hV2,hcap2,hh2⟩:=c2.val
  subst hV2
  rcases hh2 with⟨_,h0,_⟩|⟨A2,rfl,hcell⟩
  ·exfalso;rw[h0]at hnsl;simp at hnsl;exact hns0 (by simp[hnsl])
  have hld:=run_firstCells_some (P:=P) w te.2.size r.2.2.1 A2 r.2.2.1 cap2 ns hnsl hcell
  have hru:=hd.run_und w
  rw[hde]at hru
  refine⟨_,_,ρ',?_,hle,R',.int _ _⟩
  have hmin:Nat.min r.2.2.1 s.2.2.1=r.2.2.1:=by rw[hlen];exact Nat.min_self _
  simp[Builtin.copy_,hru,Builtin.lenOf,hE.run_size w,hmin,hld,hst,goInt]
theorem RH (hG:eB P tb) {T T' ty:TypeId} (R:gJ w0 ρ H w) (hv:Rl ρ v V) (hu:Rl ρ u U) (h:Nw tb T T' v u H=some (g,H')):Hw P w0 ρ (Builtin.append_ #[T,T'] ty #[V,U]) w g H':=by
 unfold Nw at h
 cases hTT:Nat.beq T T' with
 |false=>rw[hTT]at h;exact PU hG R hv hu h
 |true=>
 rw[hTT]at h
 have hTT:T=T':=Nat.eq_of_beq_eq_true hTT
 subst hTT
 rw[cond_true]at h
 obtain⟨te,hte,h⟩:=aE.1 h
 obtain⟨h0,h⟩:=jV.1 h
 obtain⟨zc,hz,h⟩:=aE.1 h
 obtain⟨hzl,h⟩:=bL.1 h
 obtain⟨p,hp,h⟩:=aE.1 h
 obtain⟨q,hq,h⟩:=aE.1 h
 obtain⟨⟨d,hd,hde⟩,hE,htab⟩:=tE hG hte
 obtain⟨dz,hdz,_,hC⟩:=rA (ρ:=ρ) hG hz
 rw[htab]at hdz;cases hdz
 have hzl:zc.length=te.2.size:=Nat.eq_of_beq_eq_true hzl
 have hzs:te.2.zero.cells.size=te.2.size:=by have:=hC.r.len;simp at this;omega
 have h0:te.2.size≠0:=fun e=>by rw[e]at h0;cases h0
 obtain⟨ns1,c1⟩:=Cf R hv hp
 obtain⟨ns2,c2⟩:=Cf R hu hq
 have hund:=hd.und
 rw[hde]at hund
 have src:=c2.src (P:=P) (T:=T) hund
 obtain⟨base,cap,hV,hcap,hbase⟩:=c1.val
 cases hq1:q.1 with
 |zero=>
  rw[hq1]at h
  cases h
  rw[hq1]at src
  have hns:ns2=[]:=List.eq_nil_of_length_eq_zero (by have:=c2.len;rw[hq1]at this;simpa using this)
  subst hns
  refine⟨V,w,ρ,?_,eL.le_refl _,R,hv⟩
  have hru:=hd.run_und w
  rw[hde]at hru
  have hlen:=src.len w
  have hcl:=src.cells
  subst hV
  cases base with
  |none=>simp[Builtin.append_,hru,hE.run_size w,hlen,hcl,hcap]
  |some A=>simp[Builtin.append_,hru,hE.run_size w,hlen,hcl,hcap,storeCells]
 | succ m =>
  rw[hq1]at h
  simp only[yK]at h
  obtain⟨hbig,h⟩:=bL.1 h
  rw[TO,OJ,gN]at h
  cases h
  have hbig:(p.1+q.1)*(te.2.bytes+1)<16777216:=by rw[hq1];simpa [Nat.blt_eq]using hbig
  have hb1:(p.1+q.1)*te.2.bytes+(p.1+q.1)<16777216:=by rw[Nat.mul_add,Nat.mul_one]at hbig;exact hbig
  have hq1':Nat.add p.1 (m+1)=p.1+q.1:=by rw[hq1];rfl
  have hrell:tP ρ (p.2++q.2) (ns1++ns2):=c1.rel.append c2.rel
  have hlen12:(p.2++q.2).length=(p.1+q.1)*te.2.size:=by
   rw[hrell.len,List.length_append,c1.len,c2.len,<-Nat.add_mul]
  have hone12:∀x∈ns1++ns2,one x=true:=fun x hx=>by
   rcases List.mem_append.1 hx with hx|hx
   ·exact c1.one x hx
   ·exact c2.one x hx
  by_cases hroom:p.1+q.1<=cap
  ·
   have hvs:∃s,v.asS=some s:=by
    cases hzz:v.isSnil with
    |true=>
     rw[tG hzz]at hv
     have:=hv.snil_inv
     rw[hV]at this
     injection this with _ _ e3
     omega
    |false=>
     unfold xQ at hp
     rw[hzz]at hp
     obtain⟨s,hs,_⟩:=aE.1 (show ob v.asS _=some p from hp)
     exact⟨s,hs⟩
   obtain⟨s,hs⟩:=hvs
   obtain⟨hsz,cs,hcs,hbb,hp1⟩:=Kz hp hs
   rw[Ae hs]at hv
   obtain⟨l,cap',A,hl,hV',hc,ha⟩:=hv.sl_inv
   rw[hV]at hV'
   injection hV' with e1 e2 e3
   subst e1 e3
   rcases ha with ha|⟨rfl,hbound⟩
   ·omega
   rw[hsz]at hbound
   have c1':=c1
   rw[hV]at c1'
   obtain⟨cur,T',hh,hcs2,hle,R'⟩:=MN R hcs hl c1' c2.rel c2.len c2.one hroom hbound
   have hr:=JE (P:=P) (ty:=ty) hd hde hE hh src hroom hcs2
   have hdel:KA H v=H.del s.1:=by unfold KA;rw[hs]
   rw[hdel,hV]
   refine⟨_,_,_,hr,hle,R',?_⟩
   rw[hq1']
   exact .sl (l:=⟨l.b,l.off+s.2.1,l.size,_,_⟩) (by show(if H.n=H.n then _ else _)=_;exact if_pos rfl) hroom (.inr ⟨rfl,by show l.off+s.2.1+0+cap*te.2.size<=l.size;omega⟩)
  ·
   have hR':gJ w0 ρ (KA H v) w.drew:=by
    have:gJ w0 ρ (KA H v) w:=by
     unfold KA
     cases v.asS with
     |none=>exact R
     |some s=>exact R.del s.1
    exact this.ext' ((Below.refl _ _).drew)
   have hr:=JC (P:=P) (ty:=ty) hd hde hE (base:=base) (by rw[<-hV];exact c1.old) src (by omega) (by omega) (by omega)
   have hge:=grownCap_ge w (p.1+q.1) cap te.1
   have hn1:(ns1++ns2).length=(p.1+q.1)*te.2.size:=by rw[<-hrell.len];exact hlen12
   obtain⟨ρ',hle,rfl,R'⟩:=hR'.alloc' (cs:=p.2++q.2) (a:=(ns1++ns2).toArray++Builtin.zeroCells te.2.zero.cells (grownCap w (p.1+q.1) cap te.1 - (p.1+q.1))) te.1 (by simp only[Array.size_append,List.size_toArray];omega) (fun i x hx=>by
    obtain⟨y,hy,hr⟩:=hrell.get hx
    exact⟨y,by rw[Array.getElem?_append_left (by simpa using aV hy)];simpa using hy,hr,hone12 y (List.mem_of_getElem? hy)⟩)
   rw[hV]
   refine⟨_,_,_,hr,hle,R',?_⟩
   rw[hq1']
   refine .sl (l:=⟨w.heap.size,0,((ns1++ns2).toArray++Builtin.zeroCells te.2.zero.cells (grownCap w (p.1+q.1) cap te.1 - (p.1+q.1))).size,.cells ((ns1++ns2).toArray++Builtin.zeroCells te.2.zero.cells (grownCap w (p.1+q.1) cap te.1 - (p.1+q.1))) te.1,.cells (p.2++q.2)⟩) (by simp[eL.upd]) hge (.inr ⟨rfl,?_⟩)
   simp only[Array.size_append,List.size_toArray,size_zeroCells,hzs,hn1]
   have:grownCap w (p.1+q.1) cap te.1*te.2.size=(p.1+q.1)*te.2.size+(grownCap w (p.1+q.1) cap te.1 - (p.1+q.1))*te.2.size:=by
    rw[<-Nat.add_mul];congr 1;omega
   omega
end
end
section
section
variable {P:Program} {tb:TB} {ρ:eL} {V U W X:Value} {v u t g:GV} {gs:zH} {w0:fU gs} {w:World} {H H':GH}
theorem JO {T:TypeId} (R:gJ w0 ρ H w) (h:zY H=some (g,H')):Hw P w0 ρ (Instr.makeMap T none) w g H':=by
 unfold zY at h
 rw[gN]at h;cases h
 have e:J_ w (w.alloc (.map #[] 0)):=(Below.refl _ _).alloc (Nat.le_refl _) _
 have hn:=R.new (o:= .mp []) (l:=⟨w.heap.size,0,0,.map #[] 0,.mp []⟩) (R.ext.trans e) (fun h o' l' hg hl=>by
  obtain⟨l,hl',_,ho⟩:=R.live h o' hg
  rw[hl]at hl';cases hl'
  exact⟨e.block _ ho.lt,Nat.ne_of_lt ho.lt⟩) (.inl R.ext.size) ⟨#[],0,heap_alloc_new w _,rfl,fun i x hx=>by simp at hx⟩ (heap_alloc_new w _)
 refine⟨_,_,_,?_,hn.1,hn.2,.map (l:=⟨w.heap.size,0,0,.map #[] 0,.mp []⟩) (by simp[eL.upd])⟩
 simp[Instr.makeMap]
theorem TA (s r:ByteArray):Qg (jX (bI s),(bI s).length) (jX (bI r),(bI r).length)=(s.toList==r.toList):=by
 rw[Lib.toList_data,Lib.toList_data]
 unfold Qg
 by_cases hl:(bI s).length=(bI r).length
 ·have hb:Nat.beq (bI r).length (bI r).length=true:=by simp
  rw[hl,hb,cond_true]
  by_cases he:jX (bI s)=jX (bI r)
  ·have:=CL hl he
   unfold bI at this
   rw[he,this];simp
  ·rw[kR he]
   symm
   rw[beq_eq_false_iff_ne]
   intro hh;exact he (by unfold bI;rw[hh])
 ·rw[kR hl,cond_false]
  symm
  rw[beq_eq_false_iff_ne]
  intro hh;exact hl (by unfold bI;rw[hh])
theorem K_ {t:Ty} {a b:GV} {A B:Value} {c:Bool} (hk:FB t a=true) (ha:Rl ρ a A) (hb:Rl ρ b B) (h:LK a b=some c):Instr.sameNow t.desc A B=some c:=by
 unfold LK at h
 unfold FB at hk
 cases hi:a.asI with
 | some x =>
  rw[hi]at h hk
  obtain⟨y,hy,h⟩:=aE.1 (show ob b.asI _=some c from h)
  obtain⟨he,h⟩:=bL.1 h
  cases h
  rw[kQ hi]at ha
  rw[kQ hy]at hb
  rw[ha.int_inv,hb.int_inv]
  cases hd:Qi t.desc with
  |none=>simp only[hd]at hk;cases hk
  |some k=>
   rw[Cs hd]
   have:=Fq he
   simp only[Instr.sameNow,this,if_true,DD]
   congr 1
 |none=>
  rw[hi]at h hk
  obtain⟨x,hx,h⟩:=aE.1 (show ob a.asStr _=some c from h)
  obtain⟨y,hy,h⟩:=aE.1 h
  cases h
  rw[hx]at hk
  rw[pG hx]at ha
  rw[pG hy]at hb
  obtain⟨s,rfl,e1,e2⟩:=ha.str_inv
  obtain⟨r,rfl,e3,e4⟩:=hb.str_inv
  rw[yN hk]
  show some (s==r)=_
  rw[beq_toListBytes,<-TA]
  cases x;cases y;simp only at e1 e2 e3 e4;rw[e1,e2,e3,e4]
theorem FH {t:Ty} {k:GV} {K:Value} (hk:FB t k=true) (hK:Rl ρ k K):∀{es:List (GV×GV)} {en:List MapEntry} {r:Option GV} (i:Nat),en.length=es.length->(∀(i:Nat) e,es[i]? = some e->∃m,en[i]? = some m∧Rl ρ e.1 m.key∧Rl ρ e.2 m.val)->Jn k es=some r->
  (r=none∧Instr.findNow t.desc K en i=some none)∨∃g j x,r=some g∧Rl ρ g x∧Instr.findNow t.desc K en i=some (some (j,x))
 | [],en,r,i,hl,_,h=>by
  cases h
  have:en=[]:=List.eq_nil_of_length_eq_zero (by simpa using hl)
  subst this;exact .inl ⟨rfl,rfl⟩
 | e :: es, en, r, i, hl, hr, h => by
  obtain⟨b,hb,h⟩:=aE.1 (show ob (LK k e.1) (fun b=>bif b then some (some e.2)else Jn k es)=some r from h)
  cases en with
  |nil=>simp at hl
  | cons m en =>
   obtain⟨m',hm,h1,h2⟩:=hr 0 e rfl
   simp at hm;subst hm
   have hs:=K_ hk hK h1 hb
   cases b with
   |true=>
    cases h
    exact .inr ⟨e.2,i,m.val,rfl,h2,by simp[Instr.findNow,hs]⟩
   |false=>
    have:=FH (r:=r) hk hK (i+1) (by simpa using hl) (fun i e' he=>by have:=hr (i+1) e' (by simpa using he);simpa using this) (show Jn k es=some r from h)
    simpa [Instr.findNow,hs]using this
theorem Jm (hG:eB P tb) {T:TypeId} {t:Ty×Ty} (h:Pb tb T=some t):∃d k e,pE P T d∧d.desc = .map k e∧pE P k t.1∧pE P e t.2:=by
 obtain⟨d,hd,h⟩:=aE.1 (show ob (tb T) _=some t from h)
 obtain⟨kv,hkv,h⟩:=aE.1 h
 obtain⟨tk,htk,h⟩:=aE.1 h
 obtain⟨tv,htv,h⟩:=aE.1 h
 cases h
 exact⟨d,kv.1,kv.2,hG.tab hd,Us hkv,hG.tab htk,hG.tab htv⟩
theorem Db {K:TypeId} {t:Ty} {b:Bool} (hT:pE P K t) (hk:FB t u=true) (hu:Rl ρ u U) (w:World):(Instr.checkKey b 10000 K U).run P w = .ok () w:=by
 have hund:=hT.run_und w
 unfold FB at hk
 have key:∀n:Nat,(Instr.checkKey b (n+1) K U).run P w = .ok () w:=fun n=>by
  unfold Instr.checkKey
  cases hi:u.asI with
  |some x=>
   rw[hi]at hk
   rw[kQ hi]at hu
   rw[hu.int_inv]
   cases hd:Qi t.desc with
   |none=>simp only[hd]at hk;cases hk
   |some k=>rw[Cs hd]at hund;simp[hund]
  | none =>
   rw[hi]at hk
   cases hs:u.asStr with
   |none=>simp only[hs]at hk;cases hk
   |some x=>
    simp only[hs]at hk
    rw[pG hs]at hu
    obtain⟨s,rfl,_,_⟩:=hu.str_inv
    rw[yN hk]at hund
    simp[hund]
 exact key 9999
theorem gJ.map (R:gJ w0 ρ H w) {h:Nat} {es:List (GV×GV)} (hc:H.get h=some (.mp es)) {l:Ka} (hl:ρ h=some l):AB ρ w l (.mp es)∧w0.mine l.b:=by
 obtain⟨l',hl',hb,ho⟩:=R.live h _ hc
 rw[hl]at hl';cases hl';exact⟨ho,hb⟩
theorem P_ (hG:eB P tb) {T:TypeId} {ok:Bool} (R:gJ w0 ρ H w) (hv:Rl ρ v V) (hu:Rl ρ u U) (h:My tb T ok v u H=some g):∃x,Rl ρ g x∧(Instr.lookup T V U ok).run P w = .ok x w:=by
 obtain⟨m,hm,h⟩:=aE.1 (show ob v.asM _=some g from h)
 obtain⟨o,ho,h⟩:=aE.1 h
 obtain⟨es,hes,h⟩:=aE.1 h
 obtain⟨t,ht,h⟩:=aE.1 h
 obtain⟨hk,h⟩:=bL.1 h
 obtain⟨r,hr,h⟩:=aE.1 h
 obtain⟨z,hz,h⟩:=aE.1 h
 rw[asM_eq hm]at hv
 obtain⟨l,hl,rfl⟩:=hv.map_inv
 rw[GO.asM_eq hes]at ho
 obtain⟨⟨en,cl,hb,hlen,hent⟩,_⟩:=R.map ho hl
 obtain⟨d,k,e,hd,hde,hK,hE⟩:=Jm hG ht
 have hund:=hd.run_und w
 rw[hde]at hund
 have hck:=Db (P:=P) (b:=en.isEmpty) hK hk hu w
 have hget:(getObj l.b).run P w = .ok (.map en cl) w:=by simp[getObj,Sem.run,hb]
 have hkund:=hK.run_und w
 have hf:=FH hk hu (en:=en.toList) (r:=r) 0 (by simpa using hlen) (fun i e' he=>by
  obtain⟨m',h1,h2⟩:=hent i e' he
  exact⟨m',by rw[Array.getElem?_toList];exact h1,h2⟩) hr
 have hz':=KR (ρ:=ρ) hz
 rcases hf with⟨rfl,hf⟩|⟨g',j,x,rfl,hx,hf⟩
 ·cases ok with
  |false=>cases h;exact⟨_,hz',by simp[Instr.lookup,hund,hget,hck,Instr.findKey,hkund,hf,hE.run_zero w]⟩
  |true=>cases h;exact⟨.tuple #[t.2.zero,.bool false],EE (.cons hz' (.cons (.bool _) .nil)),by simp[Instr.lookup,hund,hget,hck,Instr.findKey,hkund,hf,hE.run_zero w]⟩
 ·cases ok with
  |false=>cases h;exact⟨x,hx,by simp[Instr.lookup,hund,hget,hck,Instr.findKey,hkund,hf]⟩
  |true=>cases h;exact⟨.tuple #[x,.bool true],EE (.cons hx (.cons (.bool _) .nil)),by simp[Instr.lookup,hund,hget,hck,Instr.findKey,hkund,hf]⟩
theorem Ny (hG:eB P tb) {T:TypeId} (R:gJ w0 ρ H w) (hv:Rl ρ v V) (hu:Rl ρ u U) (hx:Rl ρ t X) (h:IC tb T v u t H=some (g,H')):g = .un∧∃w' ρ',(Instr.mapUpdate T V U X).run P w = .ok () w'∧ρ.le ρ'∧gJ w0 ρ' H' w':=by
 obtain⟨m,hm,h⟩:=aE.1 (show ob v.asM _=some (g,H')from h)
 obtain⟨o,ho,h⟩:=aE.1 h
 obtain⟨es,hes,h⟩:=aE.1 h
 obtain⟨ty,ht,h⟩:=aE.1 h
 obtain⟨hk,h⟩:=bL.1 h
 obtain⟨r,hr,h⟩:=aE.1 h
 rw[asM_eq hm]at hv
 obtain⟨l,hl,rfl⟩:=hv.map_inv
 rw[GO.asM_eq hes]at ho
 obtain⟨⟨en,cl,hb,hlen,hent⟩,hbase⟩:=R.map ho hl
 obtain⟨d,k,e,hd,hde,hK,hE⟩:=Jm hG ht
 have hund:=hd.run_und w
 rw[hde]at hund
 have hck:=Db (P:=P) (b:=false) hK hk hu w
 have hget:(getObj l.b).run P w = .ok (.map en cl) w:=by simp[getObj,Sem.run,hb]
 have hkund:=hK.run_und w
 have hf:=FH hk hu (en:=en.toList) (r:=r) 0 (by simpa using hlen) (fun i e' he=>by
  obtain⟨m',h1,h2⟩:=hent i e' he
  exact⟨m',by rw[Array.getElem?_toList];exact h1,h2⟩) hr
 rcases hf with⟨rfl,hf⟩|⟨g',j,x,rfl,hx',hf⟩
 ·simp only[vJ]at h
  cases h
  refine⟨rfl,{w with heap:=w.heap.setIfInBounds l.b (.map (en.push {key:=U,val:=X,born:=cl}) (cl+1))},_,?_,R.set (X:= .map (en.push {key:=U,val:=X,born:=cl}) (cl+1)) ho hl ?_ ?_ ?_ ?_⟩
  ·simp[Instr.mapUpdate,hund,hget,hck,Instr.findKey,hkund,hf,setObj,Sem.run,hb]
  ·exact⟨R.ext.os,R.ext.tape,R.ext.output,by simpa using R.ext.size,fun i hi hO=>by
    show(w.heap.setIfInBounds l.b _)[i]? = _
    rw[Array.getElem?_setIfInBounds_ne (fun e=>by subst e;rcases hbase with hbase|hbase;exact absurd hbase (by omega);exact hO hbase)];exact R.ext.block i hi hO⟩
  ·intro i hi
   show(w.heap.setIfInBounds l.b _)[i]? = _
   rw[Array.getElem?_setIfInBounds_ne (Ne.symm hi)]
  ·have hlt:l.b<w.heap.size:=(Array.getElem?_eq_some_iff.1 hb).1
   refine⟨en.push {key:=U,val:=X,born:=cl},cl+1,by show(w.heap.setIfInBounds l.b _)[l.b]? = _;rw[Array.getElem?_setIfInBounds_self_of_lt hlt],by simp[hlen],fun i e' he=> ?_⟩
   by_cases hi:i<es.length
   ·rw[List.getElem?_append_left hi]at he
    obtain⟨m',h1,h2⟩:=hent i e' he
    exact⟨m',by rw[Array.getElem?_push,if_neg (by omega)];exact h1,h2⟩
   ·rw[List.getElem?_append_right (by omega)]at he
    have:i=es.length:=by
     have:=aV he
     simp at this;omega
    subst this
    simp at he;subst he
    exact⟨⟨U,X,cl⟩,by rw[Array.getElem?_push,if_pos (by omega)],hu,hx⟩
  ·have hlt:l.b<w.heap.size:=(Array.getElem?_eq_some_iff.1 hb).1
   show(w.heap.setIfInBounds l.b _)[l.b]? = _
   rw[Array.getElem?_setIfInBounds_self_of_lt hlt]
 ·cases h
end
end
section
section
variable {P:Program} {tb:TB} {ρ:eL} {gs:zH} {w0:fU gs} {w:World} {H H':GH} {n:Nat} {σ:GF} {a:Act} {R:Type}
def sI (P:Program) {gs:zH} (w0:fU gs) (ρ:eL) (f:Nat) (vs:List Value) (w:World) (g:GV) (H':GH):Prop:=
 (∃v w' ρ',(callFunc f vs.toArray).run P w = .ok (.value v) w'∧ρ.le ρ'∧gJ w0 ρ' H' w'∧Rl ρ' g v)∨
 ((callFunc f vs.toArray).run P w = .ok (.enter f vs.toArray) w∧Calls P f vs.toArray w fun e w'=>∃v ρ',e = .returned v∧ρ.le ρ'∧gJ w0 ρ' H' w'∧Rl ρ' g v)
def oZ (P:Program) {gs:zH} (w0:fU gs) (ih:CH):Prop:=∀f us H g H',ih f us H=some (g,H')->∀ρ w vs,gJ w0 ρ H w->tP ρ us vs->sI P w0 ρ f vs w g H'
def zK (P:Program) {gs:zH} (w0:fU gs) (ρ:eL) (σ:GF) (a:Act) (w:World) (o:Oper) (g:GV) (H H':GH):Prop:=
 (dO o.op=false∧kS o.op=false∧HY o.op=false∧H'=H∧∃v,Rl ρ g v∧∀w,(execOp a.eval o).run P w = .ok (.value v) w)∨
 (dO o.op=false∧kS o.op=true∧H'=H∧∃v h l,Rf σ o.op=some h∧ρ h=some l∧(∃x,H.get h=some x)∧Rl ρ g v∧∀w',w'.heap[l.b]? = w.heap[l.b]? -> (execOp a.eval o).run P w' = .ok (.value v) w')∨
 (dO o.op=false∧HY o.op=true∧H'=H∧∃v,Rl ρ g v∧(execOp a.eval o).run P w = .ok (.value v) w)∨
 (dO o.op=true∧∀K:Act->World->Prop,(∀ρ' w' v,ρ.le ρ'->gJ w0 ρ' H' w'->Rl ρ' g v->K (a.put o.dst v) w')->o.wp P a w K Kn)
theorem zK.comp {o:Oper} {g:GV} {s:Sem Value} (hl:dO o.op=false) (h:zZ P ρ s g) (he:∀w v,s.run P w = .ok v w->(execOp a.eval o).run P w = .ok (.value v) w) (h1:kS o.op=false:=by rfl) (h2:HY o.op=false:=by rfl):zK P w0 ρ σ a w o g H H:=
 let ⟨v,hv,hr⟩:=h;.inl ⟨hl,h1,h2,rfl,v,hv,fun w=>he w v (hr w)⟩
theorem zK.read {o:Oper} {g:GV} {s:Sem Value} (hl:dO o.op=false) (hr:HY o.op=true) (h:∃x,Rl ρ g x∧s.run P w = .ok x w) (he:∀v,s.run P w = .ok v w->(execOp a.eval o).run P w = .ok (.value v) w):zK P w0 ρ σ a w o g H H:=
 let ⟨v,hv,hr'⟩:=h;.inr (.inr (.inl ⟨hl,hr,rfl,v,hv,he v hr'⟩))
theorem zK.does {o:Oper} {g:GV} {s:Sem Value} (hl:dO o.op=true) (h:Hw P w0 ρ s w g H') (he:∀v w',s.run P w = .ok v w'->(execOp a.eval o).run P w = .ok (.value v) w'):zK P w0 ρ σ a w o g H H':=by
 obtain⟨v,w',ρ',hr,hle,R',hv⟩:=h
 refine .inr (.inr (.inr ⟨hl,fun K hK=> ?_⟩))
 simp only[Oper.wp,he v w' hr,Oper.upon]
 exact hK ρ' w' v hle R' hv
theorem zK.act {o:Oper} {g:GV} {s:Sem Unit} (hl:dO o.op=true) (h:g = .un∧∃w' ρ',s.run P w = .ok () w'∧ρ.le ρ'∧gJ w0 ρ' H' w') (he:∀w',s.run P w = .ok () w'->(execOp a.eval o).run P w = .ok .skip w'):zK P w0 ρ σ a w o g H H':=by
 obtain⟨rfl,w',ρ',hr,hle,R'⟩:=h
 refine .inr (.inr (.inr ⟨hl,fun K hK=> ?_⟩))
 simp only[Oper.wp,he w' hr,Oper.upon]
 exact hK ρ' w' undef hle R' .un
theorem EK (F:iN ρ n σ a) {o:Option Operand} {g:Option GV} (h:DF σ o=some g):UI ρ g (o.map a.eval):=by
 cases o with
 |none=>cases h;exact .inl ⟨rfl,rfl⟩
 |some x=>
  obtain⟨v,hv,h⟩:=aE.1 (show ob (hN σ x) _=some g from h)
  cases h;exact .inr ⟨v,_,rfl,rfl,cD F hv⟩
theorem BD {α:Type} {xs:Array α} {x y:α} (h:xs.toList=[x,y]):xs = #[x,y]:=by
 cases xs;simp at h;rw[h]
theorem EW {α:Type} {xs:Array α} {x:α} (h:xs.toList=[x]):xs = #[x]:=by
 cases xs;simp at h;rw[h]
theorem Al {f:Operand->KT R} {k:GV->GH->Option R} {r:R}:∀{xs:List Operand},Fz xs f σ H k=some r->∃x,xs=[x]∧f x σ H k=some r
 | [],h=>by cases h
 | [x],h=>⟨x,rfl,h⟩
 |_::_::_,h=>by cases h
theorem vO {f:Operand->Operand->KT R} {k:GV->GH->Option R} {r:R}:∀{xs:List Operand},Be xs f σ H k=some r->∃x y,xs=[x,y]∧f x y σ H k=some r
 | [],h=>by cases h
 | [_],h=>by cases h
 | [x,y],h=>⟨x,y,rfl,h⟩
 |_::_::_::_,h=>by cases h
theorem jL {o:OR} {k:GV->GH->Option R} {r:R} (h:eD o k=some r):∃g H',o=some (g,H')∧k g H'=some r:=by
 obtain⟨⟨g,H'⟩,h1,h2⟩:=aE.1 (show ob o _=some r from h)
 exact⟨g,H',h1,h2⟩
theorem Ra (hG:eB P tb) (F:iN ρ n σ a) (Rr:gJ w0 ρ H w) {b:Builtin} {xs:Array Operand} {ts:Array TypeId} {k:GV->GH->Option R} {r:R} {d:Option Tmp} {ty:TypeId} {pos:String} {aft:Array Edge} {gd:Option (Nat×Bool)} (hlen:ts.size=xs.size)
  (h:KJ tb xs ts b σ H k=some r):∃g H',k g H'=some r∧zK P w0 ρ σ a w ⟨d,.call ⟨.builtin b,xs,ts⟩,ty,pos,aft,gd⟩ g H H':=by
 cases b with
 | len =>
  obtain⟨x,hx,h⟩:=Al (show Fz xs.toList (Nj tb ts.toList) σ H k=some r from h)
  obtain⟨T,hT,h⟩:=aE.1 (show ob (Dn ts.toList 0) _=some r from h)
  obtain⟨v,hv,h⟩:=aE.1 h
  obtain⟨g,hg,hk⟩:=aE.1 h
  have ex:=EW hx
  subst ex
  have et:ts = #[T]:=by
   rw[rE]at hT
   obtain⟨l⟩:=ts
   match l,hlen with
   | [t],_=>simp at hT;subst hT;rfl
  subst et
  exact⟨g,H,hk,.comp rfl (Mw hG (ty:=ty) (cD F hv) hg) (fun w v hr=>by simp[execOp,resolve,invoke,builtin,hr])⟩
 | max =>
  obtain⟨x,y,hx,h⟩:=vO (show Be xs.toList (fun x y=>k2 x y Qb) σ H k=some r from h)
  obtain⟨v,hv,h⟩:=aE.1 (show ob (hN σ x) _=some r from h)
  obtain⟨u,hu,h⟩:=aE.1 h
  obtain⟨g,hg,hk⟩:=aE.1 h
  have ex:=BD hx
  subst ex
  obtain⟨t1,t2,et⟩:∃t1 t2,ts = #[t1,t2]:=by
   obtain⟨l⟩:=ts
   match l,hlen with
   | [t,t'],_=>exact⟨t,t',rfl⟩
  subst et
  exact⟨g,H,hk,.comp rfl (Mz (t1:=t1) (t2:=t2) (ty:=ty) (cD F hv) (cD F hu) hg) (fun w v hr=>by simp[execOp,resolve,invoke,builtin,hr])⟩
 | min =>
  obtain⟨x,y,hx,h⟩:=vO (show Be xs.toList (fun x y=>k2 x y RP) σ H k=some r from h)
  obtain⟨v,hv,h⟩:=aE.1 (show ob (hN σ x) _=some r from h)
  obtain⟨u,hu,h⟩:=aE.1 h
  obtain⟨g,hg,hk⟩:=aE.1 h
  have ex:=BD hx
  subst ex
  obtain⟨t1,t2,et⟩:∃t1 t2,ts = #[t1,t2]:=by
   obtain⟨l⟩:=ts
   match l,hlen with
   | [t,t'],_=>exact⟨t,t',rfl⟩
  subst et
  exact⟨g,H,hk,.comp rfl (MA (t1:=t1) (t2:=t2) (ty:=ty) (cD F hv) (cD F hu) hg) (fun w v hr=>by simp[execOp,resolve,invoke,builtin,hr])⟩
 | append =>
  obtain⟨x,y,hx,h⟩:=vO (show Be xs.toList (OV tb ts.toList) σ H k=some r from h)
  obtain⟨T,hT,h⟩:=aE.1 (show ob (Dn ts.toList 0) _=some r from h)
  obtain⟨T',hT',h⟩:=aE.1 h
  obtain⟨v,hv,h⟩:=aE.1 h
  obtain⟨u,hu,h⟩:=aE.1 h
  obtain⟨g,H',hg,hk⟩:=jL h
  have ex:=BD hx
  subst ex
  have et:ts = #[T,T']:=by
   rw[rE]at hT hT'
   obtain⟨l⟩:=ts
   match l,hlen with
   | [t,t'],_=>simp at hT hT';subst hT hT';rfl
  subst et
  exact⟨g,H',hk,.does rfl (RH hG (ty:=ty) Rr (cD F hv) (cD F hu) hg) (fun v w' hr=>by simp[execOp,resolve,invoke,builtin,hr])⟩
 | copy =>
  obtain⟨x,y,hx,h⟩:=vO (show Be xs.toList (Jj tb ts.toList) σ H k=some r from h)
  obtain⟨T,hT,h⟩:=aE.1 (show ob (Dn ts.toList 0) _=some r from h)
  obtain⟨v,hv,h⟩:=aE.1 h
  obtain⟨u,hu,h⟩:=aE.1 h
  obtain⟨g,H',hg,hk⟩:=jL h
  have ex:=BD hx
  subst ex
  obtain⟨T',et⟩:∃T',ts = #[T,T']:=by
   rw[rE]at hT
   obtain⟨l⟩:=ts
   match l,hlen with
   | [t,t'],_=>simp at hT;subst hT;exact⟨t',rfl⟩
  subst et
  exact⟨g,H',hk,.does rfl (PZ hG (T':=T') (ty:=ty) Rr (cD F hv) (cD F hu) hg) (fun v w' hr=>by simp[execOp,resolve,invoke,builtin,hr])⟩
 | cap =>
  obtain⟨x,hx,h⟩:=Al (show Fz xs.toList (Ni tb ts.toList) σ H k=some r from h)
  obtain⟨T,hT,h⟩:=aE.1 (show ob (Dn ts.toList 0) _=some r from h)
  obtain⟨v,hv,h⟩:=aE.1 h
  obtain⟨g,hg,hk⟩:=aE.1 h
  have ex:=EW hx
  subst ex
  have et:ts = #[T]:=by
   rw[rE]at hT
   obtain⟨l⟩:=ts
   match l,hlen with
   | [t],_=>simp at hT;subst hT;rfl
  subst et
  exact⟨g,H,hk,.comp rfl (Mu hG (ty:=ty) (cD F hv) hg) (fun w v hr=>by simp[execOp,resolve,invoke,builtin,hr])⟩
 |_=>cases h
theorem Nh {ih:CH} (hih:oZ P w0 ih) (F:iN ρ n σ a) (Rr:gJ w0 ρ H w) {f:Operand} {xs:Array Operand} {ts:Array TypeId} {k:GV->GH->Option R} {r:R} {d:Option Tmp} {ty:TypeId} {pos:String} {aft:Array Edge} {gd:Option (Nat×Bool)}
  (h:OW ih xs f σ H k=some r):∃g H',k g H'=some r∧zK P w0 ρ σ a w ⟨d,.call ⟨.value f,xs,ts⟩,ty,pos,aft,gd⟩ g H H':=by
 obtain⟨v,hv,h⟩:=aE.1 (show ob (hN σ f) _=some r from h)
 obtain⟨p,hp,h⟩:=aE.1 h
 obtain⟨us,hus,h⟩:=aE.1 h
 obtain⟨g,H',hc,h⟩:=jL h
 refine⟨g,H',h,.inr (.inr (.inr ⟨rfl,fun K hK=> ?_⟩))⟩
 have hf:=cD F hv
 rw[Of hp]at hf
 obtain⟨fs,cs,ef,hfs,hcs⟩:=hf.fn_inv
 have harg:=By F hus
 have hall:=(hfs.append harg).append hcs
 have hrun:∀nx w',(callFunc p.1 (fs++xs.toList.map a.eval++cs).toArray).run P w = .ok nx w'->(execOp a.eval ⟨d,.call ⟨.value f,xs,ts⟩,ty,pos,aft,gd⟩).run P w = .ok nx w':=fun nx w' hr=>by
  have e1:(fs++xs.toList.map a.eval++cs).toArray=fs.toArray++(xs.map a.eval++cs.toArray):=by
   apply Array.toList_inj.1;simp
  rw[e1]at hr
  simp[execOp,resolve,ef,Deferred.ofValue,invoke,hr]
 rcases hih _ _ _ _ _ hc ρ w _ Rr hall with⟨v',w',ρ',hr,hle,R',hv'⟩|⟨hr,hcalls⟩
 ·simp only[Oper.wp,hrun _ _ hr,Oper.upon]
  exact hK ρ' w' v' hle R' hv'
 ·simp only[Oper.wp,hrun _ _ hr,Oper.upon]
  refine hcalls.mono ?_
  rintro e w' ⟨v',ρ',rfl,hle,R',hv'⟩
  exact hK ρ' w' v' hle R' hv'
def FK:Op->Bool
 | .call c=>Nat.beq c.argTypes.size c.args.size
 |_=>true
theorem KF (hG:eB P tb) {ih:CH} (hih:oZ P w0 ih) (F:iN ρ n σ a) (Rr:gJ w0 ρ H w) {o:Oper} {k:GV->GH->Option R} {r:R} (hoa:FK o.op=true∨∃c f,o.op = .call c∧c.callee = .value f) (h:IE tb ih o.op σ H k=some r):
  ∃g H',k g H'=some r∧zK P w0 ρ σ a w o g H H':=by
 obtain⟨d,op,ty,pos,aft,gd⟩:=o
 cases op with
 |move x=>
  obtain⟨v,hv,h⟩:=aE.1 (show ob (hN σ x) _=some r from h)
  exact⟨v,H,h,.inl ⟨rfl,rfl,rfl,rfl,_,cD F hv,fun w=>by simp[execOp]⟩⟩
 |assign x=>
  obtain⟨v,hv,h⟩:=aE.1 (show ob (hN σ x) _=some r from h)
  exact⟨v,H,h,.inl ⟨rfl,rfl,rfl,rfl,_,cD F hv,fun w=>by simp[execOp]⟩⟩
 |pick c x y=>
  obtain⟨v,hv,h⟩:=aE.1 (show ob (hN σ c) _=some r from h)
  obtain⟨u,hu,h⟩:=aE.1 h
  obtain⟨t,ht,h⟩:=aE.1 h
  obtain⟨g,hg,h⟩:=aE.1 h
  obtain⟨b,hb,hg⟩:=aE.1 (show ob v.asB _=some g from hg)
  have hc:=cD F hv
  rw[AX hb]at hc
  cases b with
  |true=>cases hg;exact⟨_,H,h,.inl ⟨rfl,rfl,rfl,rfl,_,cD F hu,fun w=>by simp[execOp,hc.bool_inv,asBool]⟩⟩
  |false=>cases hg;exact⟨_,H,h,.inl ⟨rfl,rfl,rfl,rfl,_,cD F ht,fun w=>by simp[execOp,hc.bool_inv,asBool]⟩⟩
 |alloc T=>
  obtain⟨g,H',hg,h⟩:=jL (show eD (oO tb T H) k=some r from h)
  exact⟨g,H',h,.does rfl (DY hG Rr hg) (fun v w' hr=>by simp[execOp,hr])⟩
 |box T x=>
  obtain⟨v,hv,h⟩:=aE.1 (show ob (hN σ x) _=some r from h)
  obtain⟨g,H',hg,h⟩:=jL h
  exact⟨g,H',h,.does rfl (RJ (T:=T) Rr (cD F hv) hg) (fun v w' hr=>by simp[execOp,hr])⟩
 | build T ps =>
  obtain⟨vs,hvs,h⟩:=aE.1 (show ob (rD σ ps.toList) _=some r from h)
  obtain⟨g,hg,h⟩:=aE.1 h
  exact⟨g,H,h,.comp rfl (Ho hG (zQ F hvs) hg) (fun w v hr=>by
   have e:(ps.toList.map fun p=>(p.1,a.eval p.2)).toArray=ps.map fun p=>(p.1,a.eval p.2):=by apply Array.toList_inj.1;simp
   rw[e]at hr
   simp[execOp,hr])⟩
 | buildSlice T m ps =>
  obtain⟨vs,hvs,h⟩:=aE.1 (show ob (rD σ ps.toList) _=some r from h)
  obtain⟨g,H',hg,h⟩:=jL h
  exact⟨g,H',h,.does rfl (Lh hG Rr (zQ F hvs) hg) (fun v w' hr=>by
   have e:(ps.toList.map fun p=>(p.1,a.eval p.2)).toArray=ps.map fun p=>(p.1,a.eval p.2):=by apply Array.toList_inj.1;simp
   rw[e]at hr
   simp[execOp,hr])⟩
 |load T x=>
  obtain⟨v,hv,h⟩:=aE.1 (show ob (hN σ x) _=some r from h)
  obtain⟨g,hg,h⟩:=aE.1 h
  obtain⟨x',p,l,he,hl,hgt,hx',hr⟩:=Ge (P:=P) hG Rr (cD F hv) hg
  exact⟨g,H,h,.inr (.inl ⟨rfl,rfl,rfl,x',p.1,l,by show ob (hN σ x) _=_;rw[hv,he];rfl,hl,hgt,hx',fun w' hw'=>by have:=hr w' hw';simp[execOp,this]⟩)⟩
 |store T x y=>
  obtain⟨v,hv,h⟩:=aE.1 (show ob (hN σ x) _=some r from h)
  obtain⟨u,hu,h⟩:=aE.1 h
  obtain⟨g,H',hg,h⟩:=jL h
  exact⟨g,H',h,.act rfl (DZ hG Rr (cD F hv) (cD F hu) hg) (fun w' hr=>by simp[execOp,hr])⟩
 |nilCheck x=>
  obtain⟨v,hv,h⟩:=aE.1 (show ob (hN σ x) _=some r from h)
  obtain⟨g,hg,hk⟩:=aE.1 h
  obtain⟨rfl,hr⟩:=Jp (P:=P) (cD F hv) hg
  exact⟨_,H,hk,.inl ⟨rfl,rfl,rfl,rfl,_,cD F hv,fun w=>hr _ x a.eval rfl rfl w⟩⟩
 | binOp op T x y T' =>
  obtain⟨v,hv,h⟩:=aE.1 (show ob (hN σ x) _=some r from h)
  obtain⟨u,hu,h⟩:=aE.1 h
  obtain⟨g,hg,h⟩:=aE.1 h
  exact⟨g,H,h,.comp rfl (Mt hG x y (cD F hv) (cD F hu) hg) (fun w v hr=>by
   simp only[execOp]
   simp at hr ⊢
   cases hq:Sem.run P (eqGuard op T x y (a.eval x) (a.eval y)) w with
   |ok u w1=>rw[hq]at hr;simp at hr;simp[hr]
   |halt h1 w1=>rw[hq]at hr;cases hr)⟩
 |unOp op T x=>
  obtain⟨v,hv,h⟩:=aE.1 (show ob (hN σ x) _=some r from h)
  obtain⟨g,hg,h⟩:=aE.1 h
  exact⟨g,H,h,.comp rfl (Qc (cD F hv) hg) (fun w v hr=>by simp[execOp,hr])⟩
 |convert S D x=>
  obtain⟨v,hv,h⟩:=aE.1 (show ob (hN σ x) _=some r from h)
  obtain⟨g,hg,h⟩:=aE.1 h
  exact⟨g,H,h,.comp rfl (JM hG (cD F hv) hg) (fun w v hr=>by simp[execOp,hr])⟩
 | makeFunc fn first caps =>
  cases fn with
  |func f=>
   obtain⟨us,hus,h⟩:=aE.1 (show ob (Ci σ first.toList) _=some r from h)
   obtain⟨vs,hvs,h⟩:=aE.1 h
   refine⟨_,H,h,.inl ⟨rfl,rfl,rfl,rfl,_,Kp (By F hus) (By F hvs),fun w=> ?_⟩⟩
   have e1:(first.toList.map a.eval).toArray=first.map a.eval:=by apply Array.toList_inj.1;simp
   have e2:(caps.toList.map a.eval).toArray=caps.map a.eval:=by apply Array.toList_inj.1;simp
   rw[e1,e2]
   simp[execOp,Instr.makeFunc]
  |_=>cases h
 | makeMap T q =>
  cases q with
  |none=>
   obtain⟨g,H',hg,h⟩:=jL (show eD (zY H) k=some r from h)
   exact⟨g,H',h,.does rfl (JO (T:=T) Rr hg) (fun v w' hr=>by simp[execOp,hr])⟩
  |some x=>cases h
 |makeSlice T x y=>
  obtain⟨v,hv,h⟩:=aE.1 (show ob (hN σ x) _=some r from h)
  obtain⟨u,hu,h⟩:=aE.1 h
  obtain⟨g,H',hg,h⟩:=jL h
  exact⟨g,H',h,.does rfl (Qa hG Rr (cD F hv) (cD F hu) hg) (fun v w' hr=>by simp[execOp,hr])⟩
 | slice T x lo hi mx =>
  cases mx with
  |none=>
   obtain⟨v,hv,h⟩:=aE.1 (show ob (hN σ x) _=some r from h)
   obtain⟨l,hl,h⟩:=aE.1 h
   obtain⟨e,he,h⟩:=aE.1 h
   obtain⟨g,hg,h⟩:=aE.1 h
   exact⟨g,H,h,.comp rfl (Hs hG (.inl ⟨_,_,Rr⟩) (cD F hv) (EK F hl) (EK F he) hg) (fun w v hr=>by simp[execOp,hr])⟩
  |some y=>cases h
 |fieldAddr T x f=>
  obtain⟨v,hv,h⟩:=aE.1 (show ob (hN σ x) _=some r from h)
  obtain⟨g,hg,h⟩:=aE.1 h
  exact⟨g,H,h,.comp rfl (Hp hG (cD F hv) hg) (fun w v hr=>by simp[execOp,hr])⟩
 |field T x f=>
  obtain⟨v,hv,h⟩:=aE.1 (show ob (hN σ x) _=some r from h)
  obtain⟨g,hg,h⟩:=aE.1 h
  exact⟨g,H,h,.comp rfl (JP hG (cD F hv) hg) (fun w v hr=>by simp[execOp,hr])⟩
 |indexAddr T x y=>
  obtain⟨v,hv,h⟩:=aE.1 (show ob (hN σ x) _=some r from h)
  obtain⟨u,hu,h⟩:=aE.1 h
  obtain⟨g,hg,h⟩:=aE.1 h
  exact⟨g,H,h,.comp rfl (Hr hG (cD F hv) (cD F hu) hg) (fun w v hr=>by simp[execOp,hr])⟩
 |index T x y=>
  obtain⟨v,hv,h⟩:=aE.1 (show ob (hN σ x) _=some r from h)
  obtain⟨u,hu,h⟩:=aE.1 h
  obtain⟨g,hg,h⟩:=aE.1 h
  exact⟨g,H,h,.comp rfl (PV hG (cD F hv) (cD F hu) hg) (fun w v hr=>by simp[execOp,hr])⟩
 |lookup T x y ok=>
  obtain⟨v,hv,h⟩:=aE.1 (show ob (hN σ x) _=some r from h)
  obtain⟨u,hu,h⟩:=aE.1 h
  obtain⟨g,hg,h⟩:=aE.1 h
  exact⟨g,H,h,.read rfl rfl (P_ hG Rr (cD F hv) (cD F hu) hg) (fun v hr=>by simp[execOp,hr])⟩
 |mapUpdate T x y z=>
  obtain⟨v,hv,h⟩:=aE.1 (show ob (hN σ x) _=some r from h)
  obtain⟨u,hu,h⟩:=aE.1 h
  obtain⟨t,ht,h⟩:=aE.1 h
  obtain⟨g,H',hg,h⟩:=jL h
  exact⟨g,H',h,.act rfl (Ny hG Rr (cD F hv) (cD F hu) (cD F ht) hg) (fun w' hr=>by simp[execOp,hr])⟩
 |extract x i=>
  obtain⟨v,hv,h⟩:=aE.1 (show ob (hN σ x) _=some r from h)
  obtain⟨g,hg,h⟩:=aE.1 h
  exact⟨g,H,h,.comp rfl (Mv (cD F hv) hg) (fun w v hr=>by simp[execOp,hr])⟩
 | call c =>
  obtain⟨cal,xs,ts⟩:=c
  cases cal with
  |value f=>exact Nh hih F Rr h
  |invoke x m=>cases h
  |builtin b=>
   refine Ra hG F Rr ?_ h
   rcases hoa with hoa|⟨c,f,e1,e2⟩
   ·exact Nat.eq_of_beq_eq_true hoa
   ·cases e1;cases e2
 |_=>cases h
end
end
section
theorem Ax {R:Type}:∀(ks:List Nat) (vs:List GV) (f:GF->Option R),gW ks vs f=ob (gW ks vs some) f
 | [],[],f=>rfl
 | [],_::_,f=>rfl
 |key::ks,[],f=>rfl
 |key::ks,v::vs,f=>by
  show gW ks vs (fun σ=>f ((key,v)::σ))=ob (gW ks vs fun σ=>some ((key,v)::σ)) f
  rw[Ax ks vs (fun σ=>f ((key,v)::σ)),Ax ks vs (fun σ=>some ((key,v)::σ))]
  cases gW ks vs some<;>rfl
theorem nG {R:Type} {ks:List Nat} {vs:List GV} {f:GF->Option R} {r:R} (h:gW ks vs f=some r):∃σ,gW ks vs some=some σ∧f σ=some r:=by
 rw[Ax]at h;exact aE.1 h
theorem EO {ρ:eL} {n:Nat} {σ:GF} {a:Act} (F:iN ρ n σ a):∀{ks:List Nat} {σ':GF},gW ks (zT σ ks) some=some σ'->iN ρ n σ' a
 | [],σ',h=>by cases h;exact⟨F.defers,F.size,fun t g hg=>by cases hg⟩
 | key :: ks, σ', h => by
  have h':gW ks (zT σ ks) (fun σ'=>some ((key,Option.casesOn (motive:=fun _=>GV) (BG σ key) .bad (fun v=>v))::σ'))=some σ':=h
  obtain⟨s,h1,h2⟩:=nG h'
  cases h2
  have ih:=EO F h1
  refine⟨F.defers,F.size,fun t g hg=> ?_⟩
  rw[yE]at hg
  by_cases e:t=key
  ·subst e
   rw[if_pos rfl]at hg
   cases hk:BG σ t with
   |none=>rw[hk]at hg;cases hg;exact .bad _
   |some v=>rw[hk]at hg;cases hg;exact F.slot t v hk
  ·rw[if_neg e]at hg;exact ih.slot t g hg
theorem Ij (σ:GF):∀ks:List Nat,∃σ',gW ks (zT σ ks) some=some σ'
 | []=>⟨[],rfl⟩
 |key::ks=>by
  obtain⟨σ',h⟩:=Ij σ ks
  refine⟨(key,Option.casesOn (motive:=fun _=>GV) (BG σ key) .bad (fun v=>v))::σ',?_⟩
  show gW ks (zT σ ks) (fun σ'=>some ((key,Option.casesOn (motive:=fun _=>GV) (BG σ key) .bad (fun v=>v))::σ'))=_
  rw[Ax,h];rfl
theorem Ff:∀{m i:Nat} {us:List GV} {σ:GF},gW (List.range' i m) us some=some σ->us.length=m
 |0,i,[],σ,h=>rfl
 |0,i,_::_,σ,h=>by cases h
 |m+1,i,[],σ,h=>by cases h
 |m+1,i,u::us,σ,h=>by
  obtain⟨s,h3,_⟩:=nG (show gW (List.range' (i+1) m) us (fun σ=>some ((i,u)::σ))=some σ from h)
  simp[Ff h3]
theorem HD {ρ:eL} {n:Nat} {a:Act} (hd:a.defers=[]) (hs:a.tmps.size=n):∀{m i:Nat} {us:List GV} {vs:nT} {σ:GF},tP ρ us vs->(∀j v,vs[j]? = some v->a.tmps[i+j]? = some v)->gW (List.range' i m) us some=some σ->iN ρ n σ a
 |0,i,[],vs,σ,_,_,h=>by cases h;exact⟨hd,hs,fun t g hg=>by cases hg⟩
 |0,i,_::_,vs,σ,_,_,h=>by cases h
 |m+1,i,[],vs,σ,_,_,h=>by cases h
 | m + 1, i, u :: us, vs, σ, hr, ha, h => by
  obtain⟨v,vs,rfl,h1,h2⟩:=hr.of_cons
  have h':gW (List.range' (i+1) m) us (fun σ=>some ((i,u)::σ))=some σ:=h
  obtain⟨s,h3,h4⟩:=nG h'
  cases h4
  have ih:=HD hd hs h2 (fun j v hv=>by have:=ha (j+1) v (by simpa using hv);rwa[show i+(j+1)=i+1+j by omega]at this) h3
  refine⟨hd,hs,fun t g hg=> ?_⟩
  rw[yE]at hg
  by_cases e:t=i
  ·subst e;rw[if_pos rfl]at hg;cases hg
   have:=ha 0 v rfl
   simp[Act.eval,show a.tmps[t]? = some v by simpa using this,h1]
  ·rw[if_neg e]at hg;exact ih.slot t g hg
def DK (n:Nat) (o:Oper):Bool:=fV o&&(match o.dst with|none=>true|some d=>Nat.blt d n)&&(FK o.op||(match o.op with|.call c=>(match c.callee with|.value _=>true|_=>false)|_=>false))
section
variable {P:Program} {tb:TB} {gs:zH} {w0:fU gs}
theorem qU {n:Nat} {o:Oper} (h:DK n o=true):fV o=true∧(∀d,o.dst=some d->d<n)∧(FK o.op=true∨∃c f,o.op = .call c∧c.callee = .value f):=by
 unfold DK at h
 simp only[Bool.and_eq_true,Bool.or_eq_true]at h
 obtain⟨⟨h1,h2⟩,h3⟩:=h
 refine⟨h1,fun d hd=> ?_,?_⟩
 ·rw[hd]at h2;simpa [Nat.blt_eq]using h2
 ·rcases h3 with h3|h3
  ·exact .inl h3
  ·right
   cases ho:o.op with
   |call c=>
    rw[ho]at h3
    cases hc:c.callee with
    |value f=>exact⟨c,f,rfl,hc⟩
    |invoke x m=>simp only[hc]at h3;cases h3
    |builtin b=>simp only[hc]at h3;cases h3
   |_=>rw[ho]at h3;cases h3
theorem iN.putD {ρ:eL} {n:Nat} {σ:GF} {a:Act} (F:iN ρ n σ a) {d:Option Nat} (hd:∀x,d=some x->x<n) {g:GV} {v:Value} (hv:Rl ρ g v):iN ρ n (putD d g σ) (a.put d v):=by
 cases d with
 |none=>exact⟨F.defers,F.size,F.slot⟩
 |some d=>exact F.put (hd d rfl) hv
theorem QU {ih:CH} (hG:eB P tb) (hih:oZ P w0 ih) {all:List Oper} {n:Nat} {o:Oper} {k:GS->RS} {s:GS} {out:IQ} {ρ:eL} {a:Act} {w:World} (ho:DK n o=true) (F:iN ρ n s.σ a) (R:gJ w0 ρ s.H w) (h:Ft tb ih all o k s=some out):
  (Region.wanted o (yielded all.toArray a.tmps)=true∧∃g H',k ⟨putD o.dst g s.σ,H'⟩=some out∧zK P w0 ρ s.σ a w o g s.H H')∨
  (Region.wanted o (yielded all.toArray a.tmps)=false∧k ⟨putD o.dst .un s.σ,s.H⟩=some out):=by
 obtain⟨h1,h2,h3⟩:=qU ho
 unfold Ft at h
 cases hg:o.guard with
 |none=>
  rw[hg]at h
  obtain⟨g,H',hk,hs⟩:=KF hG hih F R h3 (show IE tb ih o.op s.σ s.H (CU o.dst s k)=some out from h)
  exact .inl ⟨by simp[Region.wanted,hg],g,H',hk,hs⟩
 | some gd =>
  rw[hg]at h
  obtain⟨oj,hoj,h⟩:=aE.1 (show ob (Dn all gd.1) _=some out from h)
  obtain⟨dj,hdj,h⟩:=aE.1 h
  obtain⟨v,hv,h⟩:=aE.1 h
  obtain⟨g,H',hgv,hkk⟩:=jL h
  have hslot:=F.slot dj v hv
  rw[rE]at hoj
  have hy:yielded all.toArray a.tmps gd.1=(match a.tmps[dj]? with|some (.bool b)=>some b|_=>none):=by
   unfold yielded
   have:(all.toArray[gd.1]?).bind (·.dst)=some dj:=by simp[hoj,hdj]
   rw[this];rfl
  cases v with
  | bool q =>
   have he:=hslot.bool_inv
   have hq:a.tmps[dj]? = some (.bool q):=by
    simp only[Act.eval,Array.getD_eq_getD_getElem?]at he
    cases hx:a.tmps[dj]? with
    |none=>rw[hx]at he;cases he
    |some z=>rw[hx]at he;simp at he;rw[he]
   rw[hq]at hy
   have hgv':Bool.casesOn (motive:=fun _=>OR) (LA q gd.2) (some (.un,s.H)) (IE tb ih o.op s.σ s.H BN)=some (g,H'):=hgv
   rw[Cg]at hgv'
   have hw:Region.wanted o (yielded all.toArray a.tmps)=(q==gd.2):=by
    simp only[Region.wanted,hg]
    rw[hy]
    cases q<;>cases gd.2<;>rfl
   cases hqb:(q==gd.2)with
   |true=>
    rw[hqb]at hgv'
    obtain⟨g',H'',hk,hs⟩:=KF hG hih F R h3 (show IE tb ih o.op s.σ s.H BN=some (g,H')from hgv')
    cases hk
    exact .inl ⟨by rw[hw,hqb],g,H',hkk,hs⟩
   |false=>
    rw[hqb]at hgv'
    cases hgv'
    exact .inr ⟨by rw[hw,hqb],hkk⟩
  | un =>
   have he:=hslot.un_inv
   cases hgv
   refine .inr ⟨?_,hkk⟩
   simp only[Region.wanted,hg]
   rw[hy]
   have:(match a.tmps[dj]? with|some (.bool b)=>some b|_=>none)=(none:Option Bool):=by
    simp only[Act.eval,Array.getD_eq_getD_getElem?]at he
    cases hx:a.tmps[dj]? with
    |none=>rfl
    |some z=>rw[hx]at he;simp at he;rw[he];rfl
   rw[this];rfl
  |_=>cases hgv
theorem CN {ih:CH} (hG:eB P tb) (hih:oZ P w0 ih) {all:List Oper} {n:Nat} {k:GS->RS} {out:IQ} {Q:Exit->Act->World->Prop}:∀(l:List Oper) (s:GS) (ρ:eL) (a:Act) (w:World),l.all (DK n)=true->iN ρ n s.σ a->gJ w0 ρ s.H w->BJ tb ih all k l s=some out->
  (∀s' ρ' a' w',k s'=some out->ρ.le ρ'->iN ρ' n s'.σ a'->gJ w0 ρ' s'.H w'->Q .normal a' w')->Sx.wpList P all.toArray Q l a w
 | [],s,ρ,a,w,_,F,R,h,hk=>hk s ρ a w h (eL.le_refl _) F R
 | o :: l, s, ρ, a, w, hl, F, R, h, hk => by
  simp only[List.all_cons,Bool.and_eq_true]at hl
  obtain⟨_,hdst,_⟩:=qU hl.1
  rcases QU hG hih hl.1 F R (show Ft tb ih all o (BJ tb ih all k l) s=some out from h)with⟨hw,g,H',hk',hs⟩|⟨hw,hk'⟩
  ·refine jU hw ?_
   have fin:∀ρ' w' v,ρ.le ρ'->gJ w0 ρ' H' w'->Rl ρ' g v->Sx.wpList P all.toArray Q l (a.put o.dst v) w':=fun ρ' w' v hle R' hv=>
    CN hG hih l ⟨putD o.dst g s.σ,H'⟩ ρ' _ w' hl.2 ((F.le hle).putD hdst hv) R' hk' (fun s' ρ'' a' w'' h1 h2 h3 h4=>hk s' ρ'' a' w'' h1 (eL.le_trans hle h2) h3 h4)
   rcases hs with⟨_,_,_,rfl,v,hv,hr⟩|⟨_,_,rfl,v,_,_,_,_,_,hv,hr⟩|⟨_,_,rfl,v,hv,hr⟩|⟨_,hr⟩
   ·simp only[Oper.wp,hr w,Oper.upon];exact fin ρ w v (eL.le_refl _) R hv
   ·simp only[Oper.wp,hr w rfl,Oper.upon];exact fin ρ w v (eL.le_refl _) R hv
   ·simp only[Oper.wp,hr,Oper.upon];exact fin ρ w v (eL.le_refl _) R hv
   ·exact FJ (hr _ fin)
  ·unfold Sx.wpList
   rw[if_neg (by rw[hw];simp)]
   exact CN hG hih l ⟨putD o.dst .un s.σ,s.H⟩ ρ _ w hl.2 (F.putD hdst .un) R hk' hk
theorem CV {l:List Oper} {p:Op->Bool} (h:BA l p=true) {i j:Nat} {oi oj:Oper} (hi:l[i]? = some oi) (hj:l[j]? = some oj) (hr:p oi.op=true) (hl:dO oj.op=true):before (lM l) i j=true∨before (lM l) j i=true:=by
 unfold BA at h
 have h1:=List.all_eq_true.1 h i (List.mem_range.2 (aV hi))
 simp only[hi,hr,Bool.not_true,Bool.false_or]at h1
 have h2:=List.all_eq_true.1 h1 j (List.mem_range.2 (aV hj))
 simp only[hj,hl,Bool.not_true,Bool.false_or,Bool.or_eq_true]at h2
 exact h2
theorem JQ {α:Type} {H:GH} {h v:Nat} {k:Option α} {out:α} (x:VZ H h v k=some out):H.ver h=some v∧k=some out:=by
 obtain⟨u,hu,x⟩:=aE.1 (show ob (H.ver h) _=some out from x)
 cases hb:Nat.beq u v with
 |false=>rw[hb]at x;cases x
 |true=>rw[hb]at x;rw[hu,Nat.eq_of_beq_eq_true hb];exact⟨rfl,x⟩
theorem Bb {m:List Nat} {i:Nat} {H:GH} {u:Unit}:∀{pr:List (Nat×Option (Nat×Nat))},Fl m i H pr=some u->∀p∈pr,before m i p.1=false->∀hv,p.2=some hv->H.ver hv.1=some hv.2
 | [],h=>fun p hp=>by simp at hp
 | p :: pr, h => by
  have h':Bool.casesOn (motive:=fun _=>Option Unit) (before m i p.1) (YP H p.2 (Fl m i H pr)) (Fl m i H pr)=some u:=h
  intro q hq hbq hv he
  cases hb:before m i p.1 with
  | false =>
   rw[hb]at h'
   have h2:(∀hv,p.2=some hv->H.ver hv.1=some hv.2)∧Fl m i H pr=some u:=by
    cases hp2:p.2 with
    |none=>rw[hp2]at h';exact⟨fun _ h=>(by cases h),h'⟩
    |some x=>rw[hp2]at h';obtain⟨h1,h3⟩:=JQ (show VZ H x.1 x.2 _=some u from h');exact⟨fun y hy=>by cases hy;exact h1,h3⟩
   rcases List.mem_cons.1 hq with rfl|hq
   ·exact h2.1 hv he
   ·exact Bb h2.2 q hq hbq hv he
  |true=>
   rw[hb]at h'
   rcases List.mem_cons.1 hq with rfl|hq
   ·rw[hb]at hbq;cases hbq
   ·exact Bb h' q hq hbq hv he
theorem Bc {m:List Nat} {i h v:Nat} {e:Option (Nat×Nat)}:∀{hs:List (Nat×GH)},Fo m i h v hs=some e->e=some (h,v)∧∀q∈hs,before m i q.1=false->q.2.ver h=some v
 | [],x=>by cases x;exact⟨rfl,fun p hp=>by simp at hp⟩
 | q :: hs, x => by
  have x':Bool.casesOn (motive:=fun _=>Option (Option (Nat×Nat))) (before m i q.1) (VZ q.2 h v (Fo m i h v hs)) (Fo m i h v hs)=some e:=x
  cases hb:before m i q.1 with
  |false=>
   rw[hb]at x'
   obtain⟨h1,h2⟩:=JQ x'
   obtain⟨h3,h4⟩:=Bc h2
   refine⟨h3,fun p hp hbp=> ?_⟩
   rcases List.mem_cons.1 hp with rfl|hp
   ·exact h1
   ·exact h4 p hp hbp
  |true=>
   rw[hb]at x'
   obtain⟨h3,h4⟩:=Bc x'
   refine⟨h3,fun p hp hbp=> ?_⟩
   rcases List.mem_cons.1 hp with rfl|hp
   ·rw[hb]at hbp;cases hbp
   ·exact h4 p hp hbp
end
end
section
section
variable {R α:Type}
theorem vV (r:OR) (k:GV->GH->Option R):eD r k=eD (eD r BN) k:=by
 cases r with
 |none=>rfl
 |some p=>rfl
theorem cV (x:Option α) {f:α->Option R} {g:α->OR} {k:GV->GH->Option R} (h:∀a,f a=eD (g a) k):ob x f=eD (ob x g) k:=by
 cases x with
 |none=>rfl
 |some a=>exact h a
theorem QZ {tb:TB} {ih:CH} {σ:GF} {H:GH} (o:Op) (k:GV->GH->Option R):IE tb ih o σ H k=eD (IE tb ih o σ H BN) k:=by
 have e1:∀x (f:GV->Option GV),k1 x f σ H k=eD (k1 x f σ H BN) k:=fun x f=>cV _ fun x=>cV _ fun v=>cV _ fun g=>rfl
 have e2:∀x y (f:GV->GV->Option GV),k2 x y f σ H k=eD (k2 x y f σ H BN) k:=fun x y f=>cV _ fun x=>cV _ fun v=>cV _ fun u=>cV _ fun g=>rfl
 have e3:∀x y z (f:GV->GV->GV->Option GV),k3 x y z f σ H k=eD (k3 x y z f σ H BN) k:=fun x y z f=>cV _ fun x=>cV _ fun v=>cV _ fun u=>cV _ fun t=>cV _ fun g=>rfl
 cases o with
 |move x=>exact cV _ fun v=>rfl
 |assign x=>exact cV _ fun v=>rfl
 |pick c x y=>exact e3 _ _ _ _
 |alloc T=>exact vV _ _
 |box T x=>exact cV _ fun v=>vV _ _
 |build T ps=>exact cV _ fun vs=>cV _ fun g=>rfl
 |buildSlice T m ps=>exact cV _ fun x=>vV _ _
 |load T x=>exact cV _ fun v=>cV _ fun g=>rfl
 |store T x y=>exact cV _ fun v=>cV _ fun u=>vV _ _
 |nilCheck x=>exact e1 _ _
 |binOp op T x y T'=>exact e2 _ _ _
 |unOp op T x=>exact e1 _ _
 |convert S D x=>exact e1 _ _
 |makeFunc fn first caps=>
  cases fn with
  |func f=>exact cV _ fun us=>cV _ fun vs=>rfl
  |_=>rfl
 |makeMap T q=>
  cases q with
  |none=>exact vV _ _
  |some x=>rfl
 |makeSlice T x y=>exact cV _ fun v=>cV _ fun u=>vV _ _
 |slice T x lo hi mx=>
  cases mx with
  |none=>exact cV _ fun v=>cV _ fun l=>cV _ fun h=>cV _ fun g=>rfl
  |some y=>rfl
 |fieldAddr T x f=>exact e1 _ _
 |field T x f=>exact e1 _ _
 |indexAddr T x y=>exact e2 _ _ _
 |index T x y=>exact e2 _ _ _
 |lookup T x y ok=>exact cV _ fun v=>cV _ fun u=>cV _ fun g=>rfl
 |mapUpdate T x y z=>exact cV _ fun v=>cV _ fun u=>cV _ fun t=>vV _ _
 |extract x i=>exact e1 _ _
 | call c =>
  obtain⟨cal,xs,ts⟩:=c
  cases cal with
  |value f=>exact cV _ fun v=>cV _ fun g=>cV _ fun us=>vV _ _
  |invoke x m=>rfl
  | builtin b =>
   show KJ tb xs ts b σ H k=eD (KJ tb xs ts b σ H BN) k
   obtain⟨xs⟩:=xs
   cases b with
   |len=>
    match xs with
    | []=>rfl
    | [x]=>exact cV _ fun T=>cV _ fun v=>cV _ fun g=>rfl
    |_::_::_=>rfl
   |max=>
    match xs with
    | []=>rfl
    | [x]=>rfl
    | [x,y]=>exact e2 _ _ _
    |_::_::_::_=>rfl
   |min=>
    match xs with
    | []=>rfl
    | [x]=>rfl
    | [x,y]=>exact e2 _ _ _
    |_::_::_::_=>rfl
   |append=>
    match xs with
    | []=>rfl
    | [x]=>rfl
    | [x,y]=>exact cV _ fun T=>cV _ fun T'=>cV _ fun v=>cV _ fun u=>vV _ _
    |_::_::_::_=>rfl
   |copy=>
    match xs with
    | []=>rfl
    | [x]=>rfl
    | [x,y]=>exact cV _ fun T=>cV _ fun v=>cV _ fun u=>vV _ _
    |_::_::_::_=>rfl
   |cap=>
    match xs with
    | []=>rfl
    | [x]=>exact cV _ fun T=>cV _ fun v=>cV _ fun g=>rfl
    |_::_::_=>rfl
   |_=>rfl
 |_=>rfl
theorem Ai {σ σ':GF}:∀{xs:List Operand},(∀x∈xs,hN σ x=hN σ' x)->Ci σ xs=Ci σ' xs
 | [],_=>rfl
 |x::xs,h=>by
  show ob (hN σ x) (fun v=>ob (Ci σ xs) fun vs=>some (v::vs))=ob (hN σ' x) (fun v=>ob (Ci σ' xs) fun vs=>some (v::vs))
  rw[h x List.mem_cons_self,Ai fun y hy=>h y (List.mem_cons_of_mem _ hy)]
theorem Aj {σ σ':GF}:∀{xs:List (Nat×Operand)},(∀x∈xs,hN σ x.2=hN σ' x.2)->rD σ xs=rD σ' xs
 | [],_=>rfl
 |x::xs,h=>by
  show ob (hN σ x.2) (fun v=>ob (rD σ xs) fun vs=>some ((x.1,v)::vs))=ob (hN σ' x.2) (fun v=>ob (rD σ' xs) fun vs=>some ((x.1,v)::vs))
  rw[h x List.mem_cons_self,Aj fun y hy=>h y (List.mem_cons_of_mem _ hy)]
theorem Fx {σ σ':GF} {o:Option Operand} (h:∀x∈o.toArray,hN σ x=hN σ' x):DF σ o=DF σ' o:=by
 cases o with
 |none=>rfl
 |some x=>
  show ob (hN σ x) (fun v=>some (some v))=ob (hN σ' x) (fun v=>some (some v))
  rw[h x (by simp)]
theorem Nb {tb:TB} {ih:CH} {σ σ':GF} {H:GH} {o:Op} {k:GV->GH->Option R} (h:∀x∈o.operands,hN σ x=hN σ' x):IE tb ih o σ H k=IE tb ih o σ' H k:=by
 have e1:∀x (f:GV->Option GV),hN σ x=hN σ' x->k1 x f σ H k=k1 x f σ' H k:=fun x f e=>by simp only[k1,ob,e]
 have e2:∀x y (f:GV->GV->Option GV),hN σ x=hN σ' x->hN σ y=hN σ' y->k2 x y f σ H k=k2 x y f σ' H k:=fun x y f e e'=>by simp only[k2,ob,e,e']
 have e3:∀x y z (f:GV->GV->GV->Option GV),hN σ x=hN σ' x->hN σ y=hN σ' y->hN σ z=hN σ' z->k3 x y z f σ H k=k3 x y z f σ' H k:=fun x y z f e e' e''=>by simp only[k3,ob,e,e',e'']
 cases o with
 |move x=>show Ei x σ H k=Ei x σ' H k;simp only[Ei,ob,h x (by simp[Op.operands])]
 |assign x=>show Ei x σ H k=Ei x σ' H k;simp only[Ei,ob,h x (by simp[Op.operands])]
 |pick c x y=>exact e3 _ _ _ _ (h _ (by simp[Op.operands])) (h _ (by simp[Op.operands])) (h _ (by simp[Op.operands]))
 |alloc T=>rfl
 |box T x=>show Q_ x σ H k=Q_ x σ' H k;simp only[Q_,ob,h x (by simp[Op.operands])]
 | build T ps =>
  show ob (rD σ ps.toList) _=ob (rD σ' ps.toList) _
  rw[Aj fun x hx=>h x.2 (by
   have:x∈ps:=by simpa using hx
   simp only[Op.operands,List.mem_toArray,List.mem_map];exact⟨x,hx,rfl⟩)]
 | buildSlice T m ps =>
  show ob (rD σ ps.toList) _=ob (rD σ' ps.toList) _
  rw[Aj fun x hx=>h x.2 (by
   simp only[Op.operands,List.mem_toArray,List.mem_map];exact⟨x,hx,rfl⟩)]
 |load T x=>show LF tb T x σ H k=LF tb T x σ' H k;simp only[LF,ob,h x (by simp[Op.operands])]
 |store T x y=>show H_ tb T x y σ H k=H_ tb T x y σ' H k;simp only[H_,ob,h x (by simp[Op.operands]),h y (by simp[Op.operands])]
 |nilCheck x=>exact e1 _ _ (h _ (by simp[Op.operands]))
 |binOp op T x y T'=>exact e2 _ _ _ (h _ (by simp[Op.operands])) (h _ (by simp[Op.operands]))
 |unOp op T x=>exact e1 _ _ (h _ (by simp[Op.operands]))
 |convert S D x=>exact e1 _ _ (h _ (by simp[Op.operands]))
 | makeFunc fn first caps =>
  cases fn with
  | func f =>
   show ob (Ci σ first.toList) _=ob (Ci σ' first.toList) _
   rw[Ai fun x hx=>h x (by simp only[Op.operands,Array.mem_append];exact .inl (by simpa using hx)),
    Ai (xs:=caps.toList) fun x hx=>h x (by simp only[Op.operands,Array.mem_append];exact .inr (by simpa using hx))]
  |_=>rfl
 |makeMap T q=>
  cases q with
  |none=>rfl
  |some x=>rfl
 |makeSlice T x y=>show LJ tb T x y σ H k=LJ tb T x y σ' H k;simp only[LJ,ob,h x (by simp[Op.operands]),h y (by simp[Op.operands])]
 | slice T x lo hi mx =>
  cases mx with
  |none=>
   show ob (some x) (fun x=>ob (hN σ x) fun v=>ob (DF σ lo) fun l=>ob (DF σ hi) fun h=>ob (AA tb T v l h H) fun g=>k g H)=ob (some x) (fun x=>ob (hN σ' x) fun v=>ob (DF σ' lo) fun l=>ob (DF σ' hi) fun h=>ob (AA tb T v l h H) fun g=>k g H)
   have hlo:DF σ lo=DF σ' lo:=Fx fun y hy=>h y (by simp only[Op.operands,Array.mem_append];exact .inl (.inl (.inr hy)))
   have hhi:DF σ hi=DF σ' hi:=Fx fun y hy=>h y (by simp only[Op.operands,Array.mem_append];exact .inl (.inr hy))
   have hx:hN σ x=hN σ' x:=h x (by simp only[Op.operands,Array.mem_append];exact .inl (.inl (.inl (by simp))))
   simp only[ob,hlo,hhi,hx]
  |some y=>rfl
 |fieldAddr T x f=>exact e1 _ _ (h _ (by simp[Op.operands]))
 |field T x f=>exact e1 _ _ (h _ (by simp[Op.operands]))
 |indexAddr T x y=>exact e2 _ _ _ (h _ (by simp[Op.operands])) (h _ (by simp[Op.operands]))
 |index T x y=>exact e2 _ _ _ (h _ (by simp[Op.operands])) (h _ (by simp[Op.operands]))
 |lookup T x y ok=>show LG tb T x y ok σ H k=LG tb T x y ok σ' H k;simp only[LG,ob,h x (by simp[Op.operands]),h y (by simp[Op.operands])]
 |mapUpdate T x y z=>show HZ tb T x y z σ H k=HZ tb T x y z σ' H k;simp only[HZ,ob,h x (by simp[Op.operands]),h y (by simp[Op.operands]),h z (by simp[Op.operands])]
 |extract x i=>exact e1 _ _ (h _ (by simp[Op.operands]))
 | call c =>
  obtain⟨cal,xs,ts⟩:=c
  cases cal with
  |value f=>
   have hf:hN σ f=hN σ' f:=h f (by simp[Op.operands,Call.operands])
   have hxs:Ci σ xs.toList=Ci σ' xs.toList:=Ai fun x hx=>h x (by simp[Op.operands,Call.operands];exact .inr (by simpa using hx))
   show ob (hN σ f) _=ob (hN σ' f) _
   simp only[ob,hf,hxs]
  |invoke x m=>rfl
  | builtin b =>
   show KJ tb xs ts b σ H k=KJ tb xs ts b σ' H k
   have hx:∀x∈xs,hN σ x=hN σ' x:=fun x hx=>h x (by simp[Op.operands,Call.operands];exact hx)
   obtain⟨xs⟩:=xs
   cases b with
   |len=>
    match xs,hx with
    | [],_=>rfl
    | [x],hx=>show Nj tb ts.toList x σ H k=Nj tb ts.toList x σ' H k;simp only[Nj,ob,hx x (by simp)]
    |_::_::_,_=>rfl
   |max=>
    match xs,hx with
    | [],_=>rfl
    | [x],_=>rfl
    | [x,y],hx=>exact e2 _ _ _ (hx _ (by simp)) (hx _ (by simp))
    |_::_::_::_,_=>rfl
   |min=>
    match xs,hx with
    | [],_=>rfl
    | [x],_=>rfl
    | [x,y],hx=>exact e2 _ _ _ (hx _ (by simp)) (hx _ (by simp))
    |_::_::_::_,_=>rfl
   |append=>
    match xs,hx with
    | [],_=>rfl
    | [x],_=>rfl
    | [x,y],hx=>show OV tb ts.toList x y σ H k=OV tb ts.toList x y σ' H k;simp only[OV,ob,hx x (by simp),hx y (by simp)]
    |_::_::_::_,_=>rfl
   |copy=>
    match xs,hx with
    | [],_=>rfl
    | [x],_=>rfl
    | [x,y],hx=>show Jj tb ts.toList x y σ H k=Jj tb ts.toList x y σ' H k;simp only[Jj,ob,hx x (by simp),hx y (by simp)]
    |_::_::_::_,_=>rfl
   |cap=>
    match xs,hx with
    | [],_=>rfl
    | [x],hx=>show Ni tb ts.toList x σ H k=Ni tb ts.toList x σ' H k;simp only[Ni,ob,hx x (by simp)]
    |_::_::_,_=>rfl
   |_=>rfl
 |_=>rfl
end
noncomputable def BF (tb:TB) (ih:CH) (all:List Oper) (o:Oper) (σ:GF) (H:GH):OR:=Option.casesOn (motive:=fun _=>OR) o.guard (IE tb ih o.op σ H BN) fun g=>ob (Dn all g.1) fun oj=>ob oj.dst fun dj=>ob (BG σ dj) fun v=>UB tb ih o ⟨σ,H⟩ g.2 v
theorem QT {tb:TB} {ih:CH} {all:List Oper} {o:Oper} {k:GS->RS} {s:GS}:Ft tb ih all o k s=eD (BF tb ih all o s.σ s.H) (CU o.dst s k):=by
 unfold Ft BF
 cases o.guard with
 |none=>exact QZ _ _
 |some g=>exact cV _ fun oj=>cV _ fun dj=>cV _ fun v=>rfl
theorem Bw {tb:TB} {ih:CH} {all:List Oper} {o:Oper} {k:GS->RS} {s:GS} {out:IQ} (h:Ft tb ih all o k s=some out):∃g H',BF tb ih all o s.σ s.H=some (g,H')∧k ⟨putD o.dst g s.σ,H'⟩=some out:=by
 rw[QT]at h
 obtain⟨g,H',h1,h2⟩:=jL h
 exact⟨g,H',h1,h2⟩
theorem KC {tb:TB} {ih:CH} {all:List Oper} {o:Oper} {σ σ':GF} {H:GH} (h:∀t∈o.looksAt all.toArray,BG σ t=BG σ' t):BF tb ih all o σ H=BF tb ih all o σ' H:=by
 have hop:IE tb ih o.op σ H BN=IE tb ih o.op σ' H BN:=Nb fun x hx=>by
  cases x with
  |tmp t=>exact h t (List.mem_append_left _ (List.mem_filterMap.2 ⟨.tmp t,by simpa using hx,rfl⟩))
  |_=>rfl
 unfold BF
 cases hg:o.guard with
 |none=>exact hop
 | some g =>
  show ob (Dn all g.1) _=ob (Dn all g.1) _
  cases hn:Dn all g.1 with
  |none=>rfl
  | some oj =>
   show ob oj.dst _=ob oj.dst _
   cases hd:oj.dst with
   |none=>rfl
   | some dj =>
    have ht:dj∈o.looksAt all.toArray:=by
     rw[rE]at hn
     simp[Oper.looksAt,hg,hn,hd]
    show ob (BG σ dj) (fun v=>UB tb ih o ⟨σ,H⟩ g.2 v)=ob (BG σ' dj) (fun v=>UB tb ih o ⟨σ',H⟩ g.2 v)
    rw[h dj ht]
    cases BG σ' dj with
    |none=>rfl
    | some v =>
     show UB tb ih o ⟨σ,H⟩ g.2 v=UB tb ih o ⟨σ',H⟩ g.2 v
     cases v with
     |bool q=>
      show Bool.casesOn (motive:=fun _=>OR) (LA q g.2) (some (.un,H)) (IE tb ih o.op σ H BN)=Bool.casesOn (motive:=fun _=>OR) (LA q g.2) (some (.un,H)) (IE tb ih o.op σ' H BN)
      rw[hop]
     |_=>rfl
section
variable {P:Program} {tb:TB} {gs:zH} {w0:fU gs}
theorem Bv {ih:CH} {all:List Oper} {n:Nat} {o:Oper} {σ:GF} {H H':GH} {g:GV} {ρ:eL} {a:Act} (F:iN ρ n σ a) (h:BF tb ih all o σ H=some (g,H')):
  (Region.wanted o (yielded all.toArray a.tmps)=true∧IE tb ih o.op σ H BN=some (g,H'))∨(Region.wanted o (yielded all.toArray a.tmps)=false∧g = .un∧H'=H):=by
 unfold BF at h
 cases hg:o.guard with
 |none=>
  rw[hg]at h
  exact .inl ⟨by simp[Region.wanted,hg],h⟩
 | some gd =>
  rw[hg]at h
  obtain⟨oj,hoj,h⟩:=aE.1 (show ob (Dn all gd.1) _=some (g,H')from h)
  obtain⟨dj,hdj,h⟩:=aE.1 h
  obtain⟨v,hv,hgv⟩:=aE.1 h
  have hslot:=F.slot dj v hv
  rw[rE]at hoj
  have hy:yielded all.toArray a.tmps gd.1=(match a.tmps[dj]? with|some (.bool b)=>some b|_=>none):=by
   unfold yielded
   have:(all.toArray[gd.1]?).bind (·.dst)=some dj:=by simp[hoj,hdj]
   rw[this];rfl
  cases v with
  | bool q =>
   have he:=hslot.bool_inv
   have hq:a.tmps[dj]? = some (.bool q):=by
    simp only[Act.eval,Array.getD_eq_getD_getElem?]at he
    cases hx:a.tmps[dj]? with
    |none=>rw[hx]at he;cases he
    |some z=>rw[hx]at he;simp at he;rw[he]
   rw[hq]at hy
   have hgv':Bool.casesOn (motive:=fun _=>OR) (LA q gd.2) (some (.un,H)) (IE tb ih o.op σ H BN)=some (g,H'):=hgv
   rw[Cg]at hgv'
   have hw:Region.wanted o (yielded all.toArray a.tmps)=(q==gd.2):=by
    simp only[Region.wanted,hg]
    rw[hy]
    cases q<;>cases gd.2<;>rfl
   cases hqb:(q==gd.2)with
   |true=>rw[hqb]at hgv';exact .inl ⟨by rw[hw,hqb],hgv'⟩
   |false=>rw[hqb]at hgv';cases hgv';exact .inr ⟨by rw[hw,hqb],rfl,rfl⟩
  | un =>
   have he:=hslot.un_inv
   cases hgv
   refine .inr ⟨?_,rfl,rfl⟩
   simp only[Region.wanted,hg]
   rw[hy]
   have:(match a.tmps[dj]? with|some (.bool b)=>some b|_=>none)=(none:Option Bool):=by
    simp only[Act.eval,Array.getD_eq_getD_getElem?]at he
    cases hx:a.tmps[dj]? with
    |none=>rfl
    |some z=>rw[hx]at he;simp at he;rw[he];rfl
   rw[this];rfl
  |_=>cases hgv
theorem EH {ih:CH} (hG:eB P tb) (hih:oZ P w0 ih) {all:List Oper} {n:Nat} {o:Oper} {σ:GF} {H H':GH} {g:GV} {ρ:eL} {a:Act} {w:World} (ho:DK n o=true) (F:iN ρ n σ a) (R:gJ w0 ρ H w) (h:BF tb ih all o σ H=some (g,H')):
  (Region.wanted o (yielded all.toArray a.tmps)=true∧zK P w0 ρ σ a w o g H H')∨(Region.wanted o (yielded all.toArray a.tmps)=false∧g = .un∧H'=H):=by
 obtain⟨_,_,h3⟩:=qU ho
 rcases Bv F h with⟨hw,hg⟩|h
 ·obtain⟨g',H'',hk,hs⟩:=KF hG hih F R h3 hg
  cases hk
  exact .inl ⟨hw,hs⟩
 ·exact .inr h
def PK (tb:TB) (T:TypeId):Bool:=match tb T with
 |some t=>(match t.desc with|.array .. => false|_=>true)
 |none=>false
def pureOp (tb:TB):Op->Bool
 | .move _ | .assign _ | .pick .. | .build .. | .nilCheck _ | .binOp .. | .unOp .. | .convert .. | .makeFunc .. | .fieldAddr .. | .field .. | .indexAddr .. | .index .. | .extract .. => true
 | .slice T _ _ _ _=>PK tb T
 | .call ⟨.builtin .len,_,_⟩ | .call ⟨.builtin .max,_,_⟩ | .call ⟨.builtin .min,_,_⟩=>true
 |_=>false
def isFloat:Op->Bool
 | .buildSlice .. | .alloc .. | .box .. | .makeSlice .. => true
 |_=>false
theorem fB {ρ:eL} {g:GV} {s:Sem Value} {a:Act} {o:Oper} (h:zZ P ρ s g) (he:∀w v,s.run P w = .ok v w->(execOp a.eval o).run P w = .ok (.value v) w):∃v,Rl ρ g v∧∀w,(execOp a.eval o).run P w = .ok (.value v) w:=
 let ⟨v,hv,hr⟩:=h;⟨v,hv,fun w=>he w v (hr w)⟩
theorem OQ {ih:CH} (hG:eB P tb) {ρ:eL} {n:Nat} {σ:GF} {a:Act} (F:iN ρ n σ a) {o:Oper} {H H':GH} {g:GV} (hp:pureOp tb o.op=true) (hoa:FK o.op=true) (h:IE tb ih o.op σ H BN=some (g,H')):
  H'=H∧∃v,Rl ρ g v∧∀w,(execOp a.eval o).run P w = .ok (.value v) w:=by
 obtain⟨d,op,ty,pos,aft,gd⟩:=o
 cases op with
 |move x=>
  obtain⟨v,hv,h⟩:=aE.1 (show ob (hN σ x) _=some (g,H')from h)
  cases h
  exact⟨rfl,_,cD F hv,fun w=>by simp[execOp]⟩
 |assign x=>
  obtain⟨v,hv,h⟩:=aE.1 (show ob (hN σ x) _=some (g,H')from h)
  cases h
  exact⟨rfl,_,cD F hv,fun w=>by simp[execOp]⟩
 |pick c x y=>
  obtain⟨v,hv,h⟩:=aE.1 (show ob (hN σ c) _=some (g,H')from h)
  obtain⟨u,hu,h⟩:=aE.1 h
  obtain⟨t,ht,h⟩:=aE.1 h
  obtain⟨g',hg,h⟩:=aE.1 h
  cases h
  obtain⟨b,hb,hg⟩:=aE.1 (show ob v.asB _=some g from hg)
  have hc:=cD F hv
  rw[AX hb]at hc
  cases b with
  |true=>cases hg;exact⟨rfl,_,cD F hu,fun w=>by simp[execOp,hc.bool_inv,asBool]⟩
  |false=>cases hg;exact⟨rfl,_,cD F ht,fun w=>by simp[execOp,hc.bool_inv,asBool]⟩
 | build T ps =>
  obtain⟨vs,hvs,h⟩:=aE.1 (show ob (rD σ ps.toList) _=some (g,H')from h)
  obtain⟨g',hg,h⟩:=aE.1 h
  cases h
  exact⟨rfl,fB (Ho hG (zQ F hvs) hg) (fun w v hr=>by
   have e:(ps.toList.map fun p=>(p.1,a.eval p.2)).toArray=ps.map fun p=>(p.1,a.eval p.2):=by apply Array.toList_inj.1;simp
   rw[e]at hr
   simp[execOp,hr])⟩
 |nilCheck x=>
  obtain⟨v,hv,h⟩:=aE.1 (show ob (hN σ x) _=some (g,H')from h)
  obtain⟨g',hg,h⟩:=aE.1 h
  cases h
  obtain⟨rfl,hr⟩:=Jp (P:=P) (cD F hv) hg
  exact⟨rfl,_,cD F hv,fun w=>hr _ x a.eval rfl rfl w⟩
 | binOp op T x y T' =>
  obtain⟨v,hv,h⟩:=aE.1 (show ob (hN σ x) _=some (g,H')from h)
  obtain⟨u,hu,h⟩:=aE.1 h
  obtain⟨g',hg,h⟩:=aE.1 h
  cases h
  exact⟨rfl,fB (Mt hG x y (cD F hv) (cD F hu) hg) (fun w v hr=>by
   simp only[execOp]
   simp at hr ⊢
   cases hq:Sem.run P (eqGuard op T x y (a.eval x) (a.eval y)) w with
   |ok u w1=>rw[hq]at hr;simp at hr;simp[hr]
   |halt h1 w1=>rw[hq]at hr;cases hr)⟩
 |unOp op T x=>
  obtain⟨v,hv,h⟩:=aE.1 (show ob (hN σ x) _=some (g,H')from h)
  obtain⟨g',hg,h⟩:=aE.1 h
  cases h
  exact⟨rfl,fB (Qc (cD F hv) hg) (fun w v hr=>by simp[execOp,hr])⟩
 |convert S D x=>
  obtain⟨v,hv,h⟩:=aE.1 (show ob (hN σ x) _=some (g,H')from h)
  obtain⟨g',hg,h⟩:=aE.1 h
  cases h
  exact⟨rfl,fB (JM hG (cD F hv) hg) (fun w v hr=>by simp[execOp,hr])⟩
 | makeFunc fn first caps =>
  cases fn with
  |func f=>
   obtain⟨us,hus,h⟩:=aE.1 (show ob (Ci σ first.toList) _=some (g,H')from h)
   obtain⟨vs,hvs,h⟩:=aE.1 h
   cases h
   refine⟨rfl,_,Kp (By F hus) (By F hvs),fun w=> ?_⟩
   have e1:(first.toList.map a.eval).toArray=first.map a.eval:=by apply Array.toList_inj.1;simp
   have e2:(caps.toList.map a.eval).toArray=caps.map a.eval:=by apply Array.toList_inj.1;simp
   rw[e1,e2]
   simp[execOp,Instr.makeFunc]
  |_=>cases h
 |fieldAddr T x f=>
  obtain⟨v,hv,h⟩:=aE.1 (show ob (hN σ x) _=some (g,H')from h)
  obtain⟨g',hg,h⟩:=aE.1 h
  cases h
  exact⟨rfl,fB (Hp hG (cD F hv) hg) (fun w v hr=>by simp[execOp,hr])⟩
 |field T x f=>
  obtain⟨v,hv,h⟩:=aE.1 (show ob (hN σ x) _=some (g,H')from h)
  obtain⟨g',hg,h⟩:=aE.1 h
  cases h
  exact⟨rfl,fB (JP hG (cD F hv) hg) (fun w v hr=>by simp[execOp,hr])⟩
 |indexAddr T x y=>
  obtain⟨v,hv,h⟩:=aE.1 (show ob (hN σ x) _=some (g,H')from h)
  obtain⟨u,hu,h⟩:=aE.1 h
  obtain⟨g',hg,h⟩:=aE.1 h
  cases h
  exact⟨rfl,fB (Hr hG (cD F hv) (cD F hu) hg) (fun w v hr=>by simp[execOp,hr])⟩
 |index T x y=>
  obtain⟨v,hv,h⟩:=aE.1 (show ob (hN σ x) _=some (g,H')from h)
  obtain⟨u,hu,h⟩:=aE.1 h
  obtain⟨g',hg,h⟩:=aE.1 h
  cases h
  exact⟨rfl,fB (PV hG (cD F hv) (cD F hu) hg) (fun w v hr=>by simp[execOp,hr])⟩
 | slice T x lo hi mx =>
  cases mx with
  | none =>
   obtain⟨v,hv,h⟩:=aE.1 (show ob (hN σ x) _=some (g,H')from h)
   obtain⟨l,hl,h⟩:=aE.1 h
   obtain⟨e,he,h⟩:=aE.1 h
   obtain⟨g',hg,h⟩:=aE.1 h
   cases h
   have hA:∀t,tb T=some t->Ur t.desc=none:=fun t ht=>by
    have hs:PK tb T=true:=hp
    unfold PK at hs
    rw[ht]at hs
    simp only at hs
    cases hq:t.desc<;>rw[hq]at hs<;>first|rfl|cases hs
   exact⟨rfl,fB (Hs (gs:=Ve) hG (.inr hA) (cD F hv) (EK F hl) (EK F he) hg) (fun w v hr=>by simp[execOp,hr])⟩
  |some y=>cases h
 |extract x i=>
  obtain⟨v,hv,h⟩:=aE.1 (show ob (hN σ x) _=some (g,H')from h)
  obtain⟨g',hg,h⟩:=aE.1 h
  cases h
  exact⟨rfl,fB (Mv (cD F hv) hg) (fun w v hr=>by simp[execOp,hr])⟩
 | call c =>
  obtain⟨cal,xs,ts⟩:=c
  cases cal with
  |value f=>cases hp
  |invoke x m=>cases hp
  | builtin b =>
   have hlen:ts.size=xs.size:=Nat.eq_of_beq_eq_true hoa
   have h:KJ tb xs ts b σ H BN=some (g,H'):=h
   cases b with
   | len =>
    obtain⟨x,hx,h⟩:=Al (show Fz xs.toList (Nj tb ts.toList) σ H BN=some (g,H')from h)
    obtain⟨T,hT,h⟩:=aE.1 (show ob (Dn ts.toList 0) _=some (g,H')from h)
    obtain⟨v,hv,h⟩:=aE.1 h
    obtain⟨g',hg,h⟩:=aE.1 h
    cases h
    have ex:=EW hx
    subst ex
    have et:ts = #[T]:=by
     rw[rE]at hT
     obtain⟨l⟩:=ts
     match l,hlen with
     | [t],_=>simp at hT;subst hT;rfl
    subst et
    exact⟨rfl,fB (Mw hG (ty:=ty) (cD F hv) hg) (fun w v hr=>by simp[execOp,resolve,invoke,builtin,hr])⟩
   | cap =>
    obtain⟨x,hx,h⟩:=Al (show Fz xs.toList (Ni tb ts.toList) σ H BN=some (g,H')from h)
    obtain⟨T,hT,h⟩:=aE.1 (show ob (Dn ts.toList 0) _=some (g,H')from h)
    obtain⟨v,hv,h⟩:=aE.1 h
    obtain⟨g',hg,h⟩:=aE.1 h
    cases h
    have ex:=EW hx
    subst ex
    have et:ts = #[T]:=by
     rw[rE]at hT
     obtain⟨l⟩:=ts
     match l,hlen with
     | [t],_=>simp at hT;subst hT;rfl
    subst et
    exact⟨rfl,fB (Mu hG (ty:=ty) (cD F hv) hg) (fun w v hr=>by simp[execOp,resolve,invoke,builtin,hr])⟩
   | max =>
    obtain⟨x,y,hx,h⟩:=vO (show Be xs.toList (fun x y=>k2 x y Qb) σ H BN=some (g,H')from h)
    obtain⟨v,hv,h⟩:=aE.1 (show ob (hN σ x) _=some (g,H')from h)
    obtain⟨u,hu,h⟩:=aE.1 h
    obtain⟨g',hg,h⟩:=aE.1 h
    cases h
    have ex:=BD hx
    subst ex
    obtain⟨t1,t2,et⟩:∃t1 t2,ts = #[t1,t2]:=by
     obtain⟨l⟩:=ts
     match l,hlen with
     | [t,t'],_=>exact⟨t,t',rfl⟩
    subst et
    exact⟨rfl,fB (Mz (t1:=t1) (t2:=t2) (ty:=ty) (cD F hv) (cD F hu) hg) (fun w v hr=>by simp[execOp,resolve,invoke,builtin,hr])⟩
   | min =>
    obtain⟨x,y,hx,h⟩:=vO (show Be xs.toList (fun x y=>k2 x y RP) σ H BN=some (g,H')from h)
    obtain⟨v,hv,h⟩:=aE.1 (show ob (hN σ x) _=some (g,H')from h)
    obtain⟨u,hu,h⟩:=aE.1 h
    obtain⟨g',hg,h⟩:=aE.1 h
    cases h
    have ex:=BD hx
    subst ex
    obtain⟨t1,t2,et⟩:∃t1 t2,ts = #[t1,t2]:=by
     obtain⟨l⟩:=ts
     match l,hlen with
     | [t,t'],_=>exact⟨t,t',rfl⟩
    subst et
    exact⟨rfl,fB (MA (t1:=t1) (t2:=t2) (ty:=ty) (cD F hv) (cD F hu) hg) (fun w v hr=>by simp[execOp,resolve,invoke,builtin,hr])⟩
   |_=>cases hp
 |_=>cases hp
theorem JL (hG:eB P tb) {T:TypeId} {n:Nat} {l:List (Nat×GV)} {parts:List (Nat×Value)} {ρ:eL} {H H':GH} {g:GV} (hp:Ux ρ l parts) (h:x_ tb T n l H=some (g,H')):
  ∃cs a' T' len sz,H'=H.new (.cells cs)∧g = .sl H.n 0 len sz∧Lo ρ cs a'∧cs.length=a'.size∧∀w:World,∃V,(Instr.buildSlice T n parts.toArray).run P w = .ok V (w.alloc (.cells a' T'))∧∀ρ':eL,ρ' H.n=some ⟨w.heap.size,0,a'.size,.cells a' T',.cells cs⟩->Rl ρ' g V:=by
 obtain⟨te,hte,h⟩:=aE.1 (show ob (xF tb T) _=some (g,H')from h)
 obtain⟨zc,hz,h⟩:=aE.1 h
 obtain⟨hlen,h⟩:=bL.1 h
 obtain⟨hbig,h⟩:=bL.1 h
 obtain⟨h0,h⟩:=jV.1 h
 obtain⟨cs,hfill,h⟩:=aE.1 h
 rw[gN]at h;cases h
 obtain⟨⟨d,hd,hde⟩,hE,htab⟩:=tE hG hte
 obtain⟨dz,hdz,_,hC⟩:=rA (ρ:=ρ) hG hz
 rw[htab]at hdz;cases hdz
 have hlen:zc.length=te.2.size:=Nat.eq_of_beq_eq_true hlen
 have h0:te.2.size≠0:=fun e=>by rw[e]at h0;cases h0
 have hbig:n*te.2.size<16777216:=by simpa [Nat.blt_eq]using hbig
 have hrep:=CX hC (by omega) n
 rw[hlen]at hrep
 obtain⟨a',f1,f2⟩:=Bz hp hrep hfill
 have hsz0:cs.length=a'.size:=by have:=f2.r.len;simpa using this
 have hsz:a'.size=n*te.2.size:=by
  have e1:=f2.r.len
  have:cs.length=(Kd zc n).length:=Cj hfill
  rw[this,CW,hlen]at e1
  simp at e1;omega
 refine⟨cs,a',te.1,n,te.2.size,rfl,rfl,f2,hsz0,fun w=>⟨.slice (some ⟨w.heap.size,0,none⟩) n n,?_,fun ρ' hρ=> .sl (l:=⟨w.heap.size,0,a'.size,.cells a' te.1,.cells cs⟩) hρ (Nat.le_refl _) (.inr ⟨rfl,by simp[hsz]⟩)⟩⟩
 have hu:=hd.run_und w
 rw[hde]at hu
 by_cases hn:n*te.2.size=0
 ·have hz0:n=0:=by rcases Nat.mul_eq_zero.1 hn with h|h;exact h;exact absurd h h0
  subst hz0
  have e0:(Array.range (0*te.2.size)).map (te.2.zero.cells[· % te.2.zero.cells.size]!)=(#[]:Array Value):=by simp
  rw[e0]at f1
  have e1:(Array.range 0).map (fun _=>(default:Value)) = #[]:=by simp
  simp[Instr.buildSlice,hu,hE.run_size w,newRow]
  simp[e1,f1]
 ·simp[Instr.buildSlice,hu,hE.run_size w,hE.run_zero w,hn,f1,newRow,show¬(16777216<n*te.2.size) by omega]
theorem NY {ρ0 ρ1 ρ2:eL} (hk:∀h l0 l,ρ0 h=some l0->ρ1 h=some l->ρ2 h=some l) {g:GV} {v:Value} (h1:Rl ρ1 g v):∀{v0:Value},Rl ρ0 g v0->Rl ρ2 g v:=by
 induction h1 with
 |int k n=>exact fun _=> .int k n
 |bool b=>exact fun _=> .bool b
 |str s=>exact fun _=> .str s
 |ptr off hl=>exact fun h0=>by cases h0 with|ptr _ hl0=>exact .ptr off (hk _ _ _ hl0 hl)
 |pnil=>exact fun _=> .pnil
 |sl hl hc ha=>exact fun h0=>by cases h0 with|sl hl0 _ _=>exact .sl (hk _ _ _ hl0 hl) hc ha
 |snil=>exact fun _=> .snil
 |map hl=>exact fun h0=>by cases h0 with|map hl0=>exact .map (hk _ _ _ hl0 hl)
 | fn f a b c d ihb ihd =>
   intro v0 h0
   cases h0 with
   | fn _ a0 b0 c0 d0 =>
    refine .fn f a (fun i g v hg hv=> ?_) c (fun i g v hg hv=> ?_)
    ·have:=aV hg
     exact ihb i g v hg hv (b0 i g _ hg (List.getElem?_eq_getElem (by omega)))
    ·have:=aV hg
     exact ihd i g v hg hv (d0 i g _ hg (List.getElem?_eq_getElem (by omega)))
 |fnil=>exact fun _=> .fnil
 |inil=>exact fun _=> .inil
 | agg a b c ihb =>
   intro v0 h0
   cases h0 with
   |agg a0 b0 c0=>
    refine .agg a (fun i g v hg hv=> ?_) c
    have:=aV hg
    exact ihb i g v hg hv (b0 i g _ hg (List.getElem?_eq_getElem (by omega)))
 | tup a b ihb =>
   intro v0 h0
   cases h0 with
   |tup a0 b0=>
    refine .tup a (fun i g v hg hv=> ?_)
    have:=aV hg
    exact ihb i g v hg hv (b0 i g _ hg (List.getElem?_eq_getElem (by omega)))
 |un=>exact fun _=> .un
 |bad v=>exact fun _=> .bad v
 | opn v h hx =>
   intro v0 h0
   obtain⟨l0,a,_⟩:=h0.opn_inv
   exact .opn v (hk _ _ _ a h) hx
structure RZ (tb:TB) (ih:CH) (all l:List Oper) (S:Nat->GF) (HH:Nat->GH) (gg:Nat->GV):Prop where
 st:∀i o,l[i]? = some o->BF tb ih all o (S i) (HH i)=some (gg i,HH (i+1))
 up:∀i o,l[i]? = some o->S (i+1)=putD o.dst (gg i) (S i)
theorem GX {ih:CH} {all:List Oper} {k:GS->RS} {out:IQ}:∀(l:List Oper) (s:GS),BJ tb ih all k l s=some out->∃S HH gg,S 0=s.σ∧HH 0=s.H∧RZ tb ih all l S HH gg∧k ⟨S l.length,HH l.length⟩=some out
 | [],s,h=>⟨fun _=>s.σ,fun _=>s.H,fun _=> .un,rfl,rfl,⟨fun i o ho=>by simp at ho,fun i o ho=>by simp at ho⟩,h⟩
 | o :: l, s, h => by
  obtain⟨g,H',h1,h2⟩:=Bw (show Ft tb ih all o (BJ tb ih all k l) s=some out from h)
  obtain⟨S,HH,gg,e1,e2,ht,hk⟩:=GX l _ h2
  refine⟨fun i=>Nat.casesOn i s.σ S,fun i=>Nat.casesOn i s.H HH,fun i=>Nat.casesOn i g gg,rfl,rfl,⟨fun i o' ho=> ?_,fun i o' ho=> ?_⟩,hk⟩
  ·cases i with
   |zero=>simp at ho;subst ho;show BF tb ih all o s.σ s.H=some (g,HH 0);rw[h1,e2]
   |succ i=>exact ht.st i o' (by simpa using ho)
  ·cases i with
   |zero=>simp at ho;subst ho;exact e1
   |succ i=>exact ht.up i o' (by simpa using ho)
theorem yI {o:Op} (h:kS o=true):dO o=false:=by
 cases o<;>first|rfl|cases h
structure Wa (all l:List Oper) (m:List Nat) (i:Nat) (S:Nat->GF) (HH:Nat->GH) (pr:List (Nat×Option (Nat×Nat))) (hs:List (Nat×GH)):Prop where
 pr:∀q h v,(q,some (h,v))∈pr->∀j oj,l[j]? = some oj->dO oj.op=true->before m (i+j) q=false->(HH (j+1)).ver h=some v
 hs:∀k ok h,l[k]? = some ok->kS ok.op=true->Rf (S k) ok.op=some h->∃v,(HH k).ver h=some v∧∀q Hq,(q,Hq)∈hs->before m (i+k) q=false->Hq.ver h=some v
 lo:∀k ok h v,l[k]? = some ok->kS ok.op=true->Rf (S k) ok.op=some h->(HH k).ver h=some v->
  (∀j oj,j<k->l[j]? = some oj->dO oj.op=true->before m (i+k) (i+j)=false->(HH j).ver h=some v)∧(∀j oj,k<j->l[j]? = some oj->dO oj.op=true->before m (i+j) (i+k)=false->(HH (j+1)).ver h=some v)
theorem Wa.cons {all l:List Oper} {m:List Nat} {i:Nat} {S:Nat->GF} {HH:Nat->GH} {pr pr':List (Nat×Option (Nat×Nat))} {hs hs':List (Nat×GH)} {o:Oper} {σ:GF} {H:GH} (V:Wa all l m (i+1) S HH pr' hs')
  (hpr:∀p∈pr,p∈pr') (hhs:∀p∈hs,p∈hs') (h1:dO o.op=true->(i,H)∈hs'∧∀p∈pr,before m i p.1=false->∀hv,p.2=some hv->(HH 0).ver hv.1=some hv.2)
  (h2:kS o.op=true->∀h,Rf σ o.op=some h->∃v,H.ver h=some v∧(i,some (h,v))∈pr'∧∀q Hq,(q,Hq)∈hs->before m i q=false->Hq.ver h=some v):
  Wa all (o::l) m i (fun j=>Nat.casesOn j σ S) (fun j=>Nat.casesOn j H HH) pr hs:=by
 have e:∀j,i+(j+1)=i+1+j:=fun j=>by omega
 refine⟨fun q h v hq j oj hj hl hb=> ?_,fun k ok h hk hl hh=> ?_,fun k ok h v hk hl hh hv=>⟨fun j oj hjk hj hlj hb=> ?_,fun j oj hjk hj hlj hb=> ?_⟩⟩
 ·cases j with
  |zero=>simp at hj;subst hj;exact(h1 hl).2 _ hq (by simpa using hb) _ rfl
  |succ j=>exact V.pr q h v (hpr _ hq) j oj (by simpa using hj) hl (by rw[<-e];exact hb)
 ·cases k with
  |zero=>
   simp at hk;subst hk
   obtain⟨v,a,_,c⟩:=h2 hl h hh
   exact⟨v,a,fun q Hq hq hb=>c q Hq hq (by simpa using hb)⟩
  |succ k=>
   obtain⟨v,a,b⟩:=V.hs k ok h (by simpa using hk) hl hh
   exact⟨v,a,fun q Hq hq hb=>b q Hq (hhs _ hq) (by rw[<-e];exact hb)⟩
 ·cases k with
  |zero=>omega
  | succ k =>
   have hk:l[k]? = some ok:=by simpa using hk
   cases j with
   |zero=>
    simp at hj;subst hj
    obtain⟨v',a,b⟩:=V.hs k ok h hk hl hh
    have a:(HH k).ver h=some v':=a
    have hv:(HH k).ver h=some v:=hv
    rw[a]at hv;cases hv
    exact b i H (h1 hlj).1 (by rw[<-e];simpa using hb)
   |succ j=>exact(V.lo k ok h v hk hl hh hv).1 j oj (by omega) (by simpa using hj) hlj (by rw[<-e,<-e];exact hb)
 ·cases j with
  |zero=>omega
  | succ j =>
   have hj:l[j]? = some oj:=by simpa using hj
   cases k with
   |zero=>
    simp at hk;subst hk
    obtain⟨v',a,b,_⟩:=h2 hl h hh
    have hv:H.ver h=some v:=hv
    rw[a]at hv;cases hv
    exact V.pr i h v b j oj hj hlj (by rw[<-e];simpa using hb)
   |succ k=>exact(V.lo k ok h v (by simpa using hk) hl hh hv).2 j oj (by omega) hj hlj (by rw[<-e,<-e];exact hb)
theorem EI {ih:CH} {all:List Oper} {m:List Nat} {k:GS->RS} {out:IQ}:∀(l:List Oper) (i:Nat) (pr:List (Nat×Option (Nat×Nat))) (hs:List (Nat×GH)) (s:GS),UD tb ih all m k l i pr hs s=some out->
  ∃S HH gg,S 0=s.σ∧HH 0=s.H∧RZ tb ih all l S HH gg∧Wa all l m i S HH pr hs∧k ⟨S l.length,HH l.length⟩=some out
 | [],i,pr,hs,s,h=>⟨fun _=>s.σ,fun _=>s.H,fun _=> .un,rfl,rfl,⟨fun i o ho=>by simp at ho,fun i o ho=>by simp at ho⟩,⟨fun _ _ _ _ j oj hj=>by simp at hj,fun k ok h hk=>by simp at hk,fun k ok h v hk=>by simp at hk⟩,h⟩
 | o :: l, i, pr, hs, s, h => by
  have h':ON tb ih all m o (UD tb ih all m k l) i pr hs s=some out:=h
  have trc:∀{g:GV} {H':GH} {S:Nat->GF} {HH:Nat->GH} {gg:Nat->GV},BF tb ih all o s.σ s.H=some (g,H')->S 0=putD o.dst g s.σ->HH 0=H'->RZ tb ih all l S HH gg->RZ tb ih all (o::l) (fun j=>Nat.casesOn j s.σ S) (fun j=>Nat.casesOn j s.H HH) (fun j=>Nat.casesOn j g gg):=fun {g H' S HH gg} h1 e1 e2 ht=>⟨fun i o' ho=>by
    cases i with
    |zero=>simp at ho;subst ho;show BF tb ih all o s.σ s.H=some (g,HH 0);rw[h1,e2]
    |succ i=>exact ht.st i o' (by simpa using ho),fun i o' ho=>by
    cases i with
    |zero=>simp at ho;subst ho;exact e1
    |succ i=>exact ht.up i o' (by simpa using ho)⟩
  unfold ON at h'
  cases hlo:dO o.op with
  |true=>
   rw[hlo]at h'
   obtain⟨g,H',h1,h2⟩:=Bw h'
   obtain⟨_,h4,h3⟩:=aE.1 h2
   have h4:=Bb h4
   obtain⟨S,HH,gg,e1,e2,ht,hv,hk⟩:=EI l _ _ _ _ h3
   refine⟨_,_,_,rfl,rfl,trc h1 e1 e2 ht,hv.cons (fun _ h=>h) (fun p hp=>List.mem_cons_of_mem _ hp) (fun _=>⟨List.mem_cons_self,fun p hp hb hv' he=>by rw[e2];exact h4 p hp hb hv' he⟩) (fun hld=>by rw[yI hld]at hlo;cases hlo),hk⟩
  | false =>
   rw[hlo]at h'
   cases hld:kS o.op with
   |true=>
    simp only[hld]at h'
    obtain⟨g,H',h1,h2⟩:=Bw h'
    obtain⟨e,h4,h3⟩:=aE.1 h2
    obtain⟨S,HH,gg,e1,e2,ht,hv,hk⟩:=EI l _ _ _ _ h3
    refine⟨_,_,_,rfl,rfl,trc h1 e1 e2 ht,hv.cons (fun p hp=>List.mem_cons_of_mem _ hp) (fun _ h=>h) (fun h=>by rw[hlo]at h;cases h) (fun _ hh hldh=> ?_),hk⟩
    rw[hldh]at h4
    obtain⟨v,hv1,h4⟩:=aE.1 (show ob (s.H.ver hh) (fun v=>Fo m i hh v hs)=some e from h4)
    obtain⟨rfl,h5⟩:=Bc h4
    exact⟨v,hv1,List.mem_cons_self,fun q Hq hq hb=>h5 (q,Hq) hq hb⟩
   |false=>
    simp only[hld]at h'
    obtain⟨g,H',h1,h2⟩:=Bw h'
    obtain⟨S,HH,gg,e1,e2,ht,hv,hk⟩:=EI l _ _ _ _ h2
    exact⟨_,_,_,rfl,rfl,trc h1 e1 e2 ht,hv.cons (fun _ h=>h) (fun _ h=>h) (fun h=>by rw[hlo]at h;cases h) (fun h=>by rw[hld]at h;cases h),hk⟩
theorem OM {ih:CH} (hG:eB P tb) (hih:oZ P w0 ih) {all:List Oper} {n:Nat} {o:Oper} {σ:GF} {H H':GH} {g:GV} {ρ:eL} {a:Act} {w:World} (ho:DK n o=true) (F:iN ρ n σ a) (R:gJ w0 ρ H w) (h:BF tb ih all o σ H=some (g,H')):
  ∃ρ' a' w',ρ.le ρ'∧gJ w0 ρ' H' w'∧iN ρ' n (putD o.dst g σ) a':=by
 obtain⟨_,hdst,_⟩:=qU ho
 rcases EH hG hih ho F R h with⟨_,hs⟩|⟨_,rfl,rfl⟩
 ·rcases hs with⟨_,_,_,rfl,v,hv,_⟩|⟨_,_,rfl,v,_,_,_,_,_,hv,_⟩|⟨_,_,rfl,v,hv,_⟩|⟨_,hr⟩
  ·exact⟨ρ,_,w,eL.le_refl _,R,F.putD hdst hv⟩
  ·exact⟨ρ,_,w,eL.le_refl _,R,F.putD hdst hv⟩
  ·exact⟨ρ,_,w,eL.le_refl _,R,F.putD hdst hv⟩
  ·obtain⟨a',w',ρ',v,h1,h2,h3,rfl⟩:=Jr (hr (fun a' w'=>∃ρ' v,ρ.le ρ'∧gJ w0 ρ' H' w'∧Rl ρ' g v∧a'=a.put o.dst v) fun ρ' w' v h1 h2 h3=>⟨ρ',v,h1,h2,h3,rfl⟩)
   exact⟨ρ',_,w',h1,h2,(F.le h1).putD hdst h3⟩
 ·exact⟨ρ,_,w,eL.le_refl _,R,F.putD hdst .un⟩
theorem Hk {ih:CH} (hG:eB P tb) (hih:oZ P w0 ih) {all:List Oper} {n:Nat} (hall:all.all (DK n)=true) {S:Nat->GF} {HH:Nat->GH} {gg:Nat->GV} (T:RZ tb ih all all S HH gg) {ρ:eL} {a:Act} {w:World} (F:iN ρ n (S 0) a) (R:gJ w0 ρ (HH 0) w):
    ∀m,m<=all.length->∃ρs:Nat->eL,(∀i,i<=m->∃a w,gJ w0 (ρs i) (HH i) w∧iN (ρs i) n (S i) a)∧∀i,i<m->(ρs i).le (ρs (i+1))
  | 0, _ => ⟨fun _ => ρ, fun i hi => by
      have : i = 0 := by omega
      subst this;exact⟨a,w,R,F⟩,fun i hi=>by omega⟩
  | m + 1, hm => by
    obtain⟨ρs,h1,h2⟩:=Hk hG hih hall T F R m (by omega)
    obtain⟨a1,w1,R1,F1⟩:=h1 m (Nat.le_refl _)
    have hget:all[m]? = some all[m]:=List.getElem?_eq_getElem (by omega)
    obtain⟨ρ2,a2,w2,hle,h3,h4⟩:=OM hG hih (List.all_eq_true.1 hall _ (List.getElem_mem (by omega))) F1 R1 (T.st m _ hget)
    refine⟨fun i=>if i<=m then ρs i else ρ2,fun i hi=> ?_,fun i hi=> ?_⟩
    · by_cases e:i<=m
      · simp only[e,if_true];exact h1 i e
      · have:i=m+1:=by omega
        subst this
        simp only[e,if_false]
        exact⟨a2,w2,h3,by rw[T.up m _ hget];exact h4⟩
    · by_cases e:i+1<=m
      · simp only[e,show i<=m by omega,if_true];exact h2 i (by omega)
      · have:i=m:=by omega
        subst this
        simp only[e,Nat.le_refl,if_true,if_false];exact hle
theorem JH {HH:Nat->GH} {m:Nat} (h1:∀i,i<m->(HH i).n<=(HH (i+1)).n) {i:Nat}:∀{j:Nat},i<=j->j<=m->(HH i).n<=(HH j).n
  | 0, h, _ => by
      have : i = 0 := by omega
      subst this;exact Nat.le_refl _
  | j + 1, h, hj => by
    by_cases e:i=j+1
    · subst e;exact Nat.le_refl _
    · exact Nat.le_trans (JH h1 (by omega) (by omega)) (h1 j (by omega))
theorem Gc {ih:CH} {all:List Oper} {S:Nat->GF} {HH:Nat->GH} {gg:Nat->GV} (T:RZ tb ih all all S HH gg) {t:Nat} {g:GV}:∀k,k<=all.length->BG (S k) t=some g->
  (∃i o,i<k∧all[i]? = some o∧o.dst=some t∧gg i=g∧∀j oj,i<j->j<k->all[j]? = some oj->oj.dst≠some t)∨((∀j oj,j<k->all[j]? = some oj->oj.dst≠some t)∧BG (S 0) t=some g)
 |0,_,h=> .inr ⟨fun j oj hj=>by omega,h⟩
 | k + 1, hk, h => by
  have hget:all[k]? = some all[k]:=List.getElem?_eq_getElem (by omega)
  rw[T.up k _ hget]at h
  have old:all[k].dst≠some t->BG (S k) t=some g->_:=fun hne h=>
   match Gc T k (by omega) h with
   | .inl ⟨i, o, h1, h2, h3, h4, h5⟩ => (.inl ⟨i, o, by omega, h2, h3, h4, fun j oj hij hj hoj => by
     by_cases e:j=k
     ·subst e;rw[hget]at hoj;cases hoj;exact hne
     ·exact h5 j oj hij (by omega) hoj⟩:(∃i o,i<k+1∧all[i]? = some o∧o.dst=some t∧gg i=g∧∀j oj,i<j->j<k+1->all[j]? = some oj->oj.dst≠some t)∨((∀j oj,j<k+1->all[j]? = some oj->oj.dst≠some t)∧BG (S 0) t=some g))
   | .inr ⟨h1, h2⟩ => .inr ⟨fun j oj hj hoj => by
     by_cases e:j=k
     ·subst e;rw[hget]at hoj;cases hoj;exact hne
     ·exact h1 j oj (by omega) hoj,h2⟩
  cases hd:all[k].dst with
  |none=>
   rw[hd]at h
   exact old (by rw[hd];simp) h
  | some d =>
   rw[hd]at h
   have h:BG ((d,gg k)::S k) t=some g:=h
   rw[yE]at h
   by_cases e:t=d
   ·subst e
    rw[if_pos rfl]at h;cases h
    exact .inl ⟨k,_,by omega,hget,hd,rfl,fun j oj h1 h2=>by omega⟩
   ·rw[if_neg e]at h
    exact old (by rw[hd];intro e';cases e';exact e rfl) h
def nJ (o:Op):Bool:=dO o && !isFloat o
def FD (tb:TB) (x o:Op):Bool:=pureOp tb x||pureOp tb o||isFloat o||(!dO x && !dO o)||(kS x&&dO o)||(dO x&&kS o)
def chkF (tb:TB) (l:List Oper) (m:List Nat):Bool:=
 (List.range l.length).all fun i=>match l[i]? with
  |none=>false
  |some o=>
   (rB o).all (fun e=>Nat.blt e i&&before m i e&&(List.range i).all (fun k=> !before m e k||before m i k)) &&
   (List.range l.length).all (fun k=> !before m i k||(Nat.blt k i&&(rB o).any (fun e=>Nat.beq e k||before m e k))) &&
   !zR o.op &&
   (List.range i).all (fun x=>before m i x||(match l[x]? with|none=>false|some ox=>ox.apart l.toArray o&&FD tb ox.op o.op))
structure NN (tb:TB) (l:List Oper) (m:List Nat):Prop where
 edge:∀(i:Nat) (o:Oper),l[i]? = some o->∀e∈rB o,e<i∧before m i e=true
 trans:∀(i:Nat) (o:Oper),l[i]? = some o->∀k,before m i k=true->k<l.length->k<i∧∃e∈rB o,e=k∨before m e k=true
 ind:∀(i x:Nat) (oi ox:Oper),l[i]? = some oi->l[x]? = some ox->x<i->before m i x=false->ox.apart l.toArray oi=true∧FD tb ox.op oi.op=true
theorem Dx {l:List Oper} {m:List Nat} (h:chkF tb l m=true):NN tb l m:=by
 have key:∀(i:Nat) (o:Oper),l[i]? = some o->
   ((rB o).all (fun e=>Nat.blt e i&&before m i e&&(List.range i).all (fun k=> !before m e k||before m i k))=true)∧
   ((List.range l.length).all (fun k=> !before m i k||(Nat.blt k i&&(rB o).any (fun e=>Nat.beq e k||before m e k)))=true)∧zR o.op=false∧
   ((List.range i).all (fun x=>before m i x||(match l[x]? with|none=>false|some ox=>ox.apart l.toArray o&&FD tb ox.op o.op))=true):=by
  intro i o ho
  have:=List.all_eq_true.1 h i (List.mem_range.2 (aV ho))
  simp only[ho,Bool.and_eq_true,Bool.not_eq_true']at this
  exact⟨this.1.1.1,this.1.1.2,this.1.2,this.2⟩
 refine⟨?_,?_,?_⟩
 ·intro i o ho e he
  have:=List.all_eq_true.1 (key i o ho).1 e he
  simp only[Bool.and_eq_true,Nat.blt_eq]at this
  exact⟨this.1.1,this.1.2⟩
 ·intro i o ho k hk hlt
  have:=List.all_eq_true.1 (key i o ho).2.1 k (List.mem_range.2 hlt)
  simp only[hk,Bool.not_true,Bool.false_or,Bool.and_eq_true,Nat.blt_eq,List.any_eq_true,Bool.or_eq_true]at this
  obtain⟨h1,e,he,h2⟩:=this
  refine⟨h1,e,he,?_⟩
  rcases h2 with h2|h2
  ·exact .inl (Nat.eq_of_beq_eq_true h2)
  ·exact .inr h2
 ·intro i x oi ox hi hx hlt hb
  have:=(key i oi hi).2.2.2
  have:=List.all_eq_true.1 this x (List.mem_range.2 hlt)
  simp only[hb,Bool.false_or,hx,Bool.and_eq_true]at this
  exact this
theorem Nx (hG:eB P tb) {T:TypeId} {ρ:eL} {H H':GH} {g v u:GV} {V U:Value} (hv:Rl ρ v V) (hu:Rl ρ u U) (h:JN tb T v u H=some (g,H')):
  ∃cs a' T',H'=H.new (.cells cs)∧Lo ρ cs a'∧cs.length=a'.size∧∀w:World,∃X,(Instr.makeSlice T V U).run P w = .ok X (w.alloc (.cells a' T'))∧∀ρ':eL,ρ' H.n=some ⟨w.heap.size,0,a'.size,.cells a' T',.cells cs⟩->Rl ρ' g X:=by
 obtain⟨te,hte,h⟩:=aE.1 (show ob (xF tb T) _=some (g,H')from h)
 obtain⟨zc,hz,h⟩:=aE.1 h
 obtain⟨k,hk,h⟩:=aE.1 h
 obtain⟨c,hc,h⟩:=aE.1 h
 obtain⟨heq,h⟩:=bL.1 h
 obtain⟨n,hn,h⟩:=aE.1 h
 obtain⟨hlen,h⟩:=bL.1 h
 obtain⟨hby,h⟩:=bL.1 h
 obtain⟨hn2,h⟩:=bL.1 h
 obtain⟨h0,h⟩:=jV.1 h
 rw[OO,gN]at h;cases h
 obtain⟨⟨d,hd,hde⟩,hE,htab⟩:=tE hG hte
 obtain⟨dz,hdz,_,hC⟩:=rA (ρ:=ρ) hG hz
 rw[htab]at hdz;cases hdz
 have hlen:zc.length=te.2.size:=Nat.eq_of_beq_eq_true hlen
 have h0:te.2.size≠0:=fun e=>by rw[e]at h0;cases h0
 have hby:n*te.2.bytes<16777216:=by simpa [Nat.blt_eq]using hby
 have hn2:n<16777216:=by simpa [Nat.blt_eq]using hn2
 rw[kQ hk]at hv
 rw[kQ hc]at hu
 rw[DD]at heq
 have heq:=of_decide_eq_true heq
 rw[hv.int_inv,hu.int_inv,<-heq,Cc hn]
 have hrep:=CX hC (by omega) n
 rw[hlen]at hrep
 obtain⟨iE,hiE,hs,hb,hze⟩:=hE.info
 have hund:=hd.und
 rw[hde]at hund
 have hbb:(iE.bytes:Int)*(n:Int)<=281474976710656:=by
  have e:(te.2.bytes:Int)*(n:Int)=((n*te.2.bytes:Nat):Int):=by rw[Nat.mul_comm];simp
  rw[hb,e];omega
 refine⟨_,_,te.1,rfl,hrep,by have:=hrep.r.len;simpa using this,fun w=>⟨_,?_,fun ρ' hρ=> .sl hρ (Nat.le_refl n) (.inr ⟨rfl,?_⟩)⟩⟩
 ·rw[run_make (P:=P) w T te.1 iE te.2.zero hund hiE hze k.1 c.1 n n (by omega) (Int.le_refl _) hbb (by omega)]
  simp[madeCells,hs]
 ·simp
theorem GZ {ih:CH} (hG:eB P tb) {all:List Oper} {n:Nat} {o:Oper} {σ:GF} {H H':GH} {g:GV} {ρ:eL} {a:Act} (hf:isFloat o.op=true) (F:iN ρ n σ a) (h:BF tb ih all o σ H=some (g,H')):
  (Region.wanted o (yielded all.toArray a.tmps)=false∧g = .un∧H'=H)∨
  (Region.wanted o (yielded all.toArray a.tmps)=true∧∃cs a' T',H'=H.new (.cells cs)∧Lo ρ cs a'∧cs.length=a'.size∧∀w:World,∃V,(execOp a.eval o).run P w = .ok (.value V) (w.alloc (.cells a' T'))∧∀ρ':eL,ρ' H.n=some ⟨w.heap.size,0,a'.size,.cells a' T',.cells cs⟩->Rl ρ' g V):=by
 rcases Bv F h with⟨hw,hg⟩|h
 ·refine .inr ⟨hw,?_⟩
  obtain⟨d,op,ty,pos,aft,gd⟩:=o
  cases op with
  |buildSlice T m ps=>
   obtain⟨vs,hvs,hg⟩:=aE.1 (show ob (rD σ ps.toList) _=some (g,H')from hg)
   obtain⟨g',H'',hg,hk⟩:=jL hg
   cases hk
   obtain⟨cs,a',T',len,sz,h1,h2,h3,h4,h5⟩:=JL (P:=P) hG (zQ F hvs) hg
   refine⟨cs,a',T',h1,h3,h4,fun w=> ?_⟩
   obtain⟨V,hr,hv⟩:=h5 w
   refine⟨V,?_,hv⟩
   have e:(ps.toList.map fun p=>(p.1,a.eval p.2)).toArray=ps.map fun p=>(p.1,a.eval p.2):=by apply Array.toList_inj.1;simp
   rw[e]at hr
   simp[execOp,hr]
  |alloc T=>
   obtain⟨g',H'',hg,hk⟩:=jL (show eD (oO tb T H) BN=some (g,H')from hg)
   cases hk
   obtain⟨zc,hz,hg⟩:=aE.1 (show ob (zG tb T) _=some (g,H')from hg)
   rw[gN]at hg;cases hg
   obtain⟨d,hd,hT,hC⟩:=rA (ρ:=ρ) hG hz
   refine⟨zc,d.zero.cells,T,rfl,hC,by have:=hC.r.len;simpa using this,fun w=>⟨_,?_,fun ρ' hρ=> .ptr (l:=⟨w.heap.size,0,d.zero.cells.size,.cells d.zero.cells T,.cells zc⟩) 0 hρ⟩⟩
   simp[execOp,DN w hT]
  |makeSlice T x y=>
   obtain⟨v,hv,hg⟩:=aE.1 (show ob (hN σ x) (fun v=>ob (hN σ y) fun u=>eD (JN tb T v u H) BN)=some (g,H')from hg)
   obtain⟨u,hu,hg⟩:=aE.1 hg
   obtain⟨g',H'',hg,hk⟩:=jL hg
   cases hk
   obtain⟨cs,a',T',h1,h3,h4,h5⟩:=Nx (P:=P) hG (cD F hv) (cD F hu) hg
   refine⟨cs,a',T',h1,h3,h4,fun w=> ?_⟩
   obtain⟨V,hr,hv⟩:=h5 w
   refine⟨V,?_,hv⟩
   simp[execOp,hr]
  |box T x=>
   obtain⟨v,hv,hg⟩:=aE.1 (show ob (hN σ x) (fun v=>eD (Dk v H) BN)=some (g,H')from hg)
   obtain⟨g',H'',hg,hk⟩:=jL hg
   cases hk
   obtain⟨vc,hc,hg⟩:=aE.1 (show ob v.cells _=some (g,H')from hg)
   rw[gN]at hg;cases hg
   obtain⟨vs,e,hr,h1⟩:=(cD F hv).cells hc
   refine⟨vc,(a.eval x).cells,T,rfl,by rw[e];exact⟨hr,h1⟩,by rw[e];have:=hr.len;simpa using this,fun w=>⟨_,?_,fun ρ' hρ=> .ptr (l:=⟨w.heap.size,0,(a.eval x).cells.size,.cells (a.eval x).cells T,.cells vc⟩) 0 hρ⟩⟩
   simp[execOp,Instr.box,newVar,newRow]
  |_=>cases hf
 ·exact .inl h
end
end
section
def Cv (ρ pm:eL):eL:=fun h=>match ρ h with
 |some l=>some l
 |none=>pm h
theorem tV {ρ pm:eL} {h:Nat} {l:Ka} (e:ρ h=some l):Cv ρ pm h=some l:=by simp[Cv,e]
theorem tU {ρ pm:eL} {h:Nat} (e:ρ h=none):Cv ρ pm h=pm h:=by simp[Cv,e]
theorem CQ {ρ pm:eL}:ρ.le (Cv ρ pm):=fun _ _ e=>tV e
def UJ (all:List Oper) (S0:GF) (gg:Nat->GV) (D:Nat->Bool) (t:Nat) (g:GV):Prop:=
 (∃i o,D i=true∧all[i]? = some o∧o.dst=some t∧gg i=g∧∀j oj,D j=true->all[j]? = some oj->oj.dst=some t->j<=i)∨((∀j oj,D j=true->all[j]? = some oj->oj.dst≠some t)∧BG S0 t=some g)
def ins (D:Nat->Bool) (k:Nat):Nat->Bool:=fun j=>j==k||D j
theorem yG (D:Nat->Bool) (k:Nat):ins D k k=true:=by simp[ins]
theorem xG {D:Nat->Bool} {k j:Nat} (h:j≠k):ins D k j=D j:=by simp[ins,h]
theorem yF {D:Nat->Bool} {k j:Nat} (h:D j=true):ins D k j=true:=by simp[ins,h]
noncomputable def AE (σ:GF) (L:List Nat):GF:=L.filterMap fun t=>(BG σ t).map fun g=>(t,g)
theorem zP {σ:GF} {t:Nat}:∀{L:List Nat},BG (AE σ L) t=if t∈L then BG σ t else none
 | []=>rfl
 | x :: L => by
  have ih:=zP (σ:=σ) (t:=t) (L:=L)
  cases hx:BG σ x with
  |none=>
   have e:AE σ (x::L)=AE σ L:=by simp[AE,hx]
   rw[e,ih]
   by_cases e1:t=x
   ·subst e1;simp[hx]
   ·simp[e1]
  |some g=>
   have e:AE σ (x::L)=(x,g)::AE σ L:=by simp[AE,hx]
   rw[e,yE,ih]
   by_cases e1:t=x
   ·subst e1;simp[hx]
   ·simp[e1]
section
variable {P:Program} {tb:TB} {gs:zH} {w0:fU gs} {ih:CH} {all:List Oper} {n:Nat} {S:Nat->GF} {HH:Nat->GH} {gg:Nat->GV}
structure tD (P:Program) (tb:TB) {gs:zH} (w0:fU gs) (ih:CH) (all:List Oper) (n:Nat) (S:Nat->GF) (HH:Nat->GH) (gg:Nat->GV):Prop where
 tab:eB P tb
 call:∀w0:fU gs,oZ P w0 ih
 ops:all.all (DK n)=true
 chk:NN tb all (lM all)
 trc:RZ tb ih all all S HH gg
 vrs:∀k ok h v,all[k]? = some ok->kS ok.op=true->Rf (S k) ok.op=some h->(HH k).ver h=some v->
  (∀j oj,j<k->all[j]? = some oj->dO oj.op=true->before (lM all) k j=false->(HH j).ver h=some v)∧(∀j oj,k<j->all[j]? = some oj->dO oj.op=true->before (lM all) j k=false->(HH (j+1)).ver h=some v)
 chain:∃ρs:Nat->eL,(∀i,i<=all.length->∃a w,gJ w0 (ρs i) (HH i) w∧iN (ρs i) n (S i) a)∧∀i,i<all.length->(ρs i).le (ρs (i+1))
theorem tD.ghost (E:tD P tb w0 ih all n S HH gg) (i:Nat) (hi:i<=all.length):∃ρ a w,gJ w0 ρ (HH i) w∧iN ρ n (S i) a:=
 let ⟨ρs,h,_⟩:=E.chain
 ⟨ρs i,h i hi⟩
theorem tD.mono (E:tD P tb w0 ih all n S HH gg) (i:Nat) (hi:i<all.length):(HH i).n<=(HH (i+1)).n:=by
 obtain⟨ρs,h,hle⟩:=E.chain
 obtain⟨_,_,R1,_⟩:=h i (Nat.le_of_lt hi)
 obtain⟨_,_,R2,_⟩:=h (i+1) hi
 exact R1.mono R2 (hle i hi)
theorem Je {ρs:Nat->eL} {m:Nat} (h:∀i,i<m->(ρs i).le (ρs (i+1))) {i:Nat}:∀{j:Nat},i<=j->j<=m->(ρs i).le (ρs j)
  | 0, h1, _ => by
      have : i = 0 := by omega
      subst this;exact eL.le_refl _
  | j + 1, h1, hj => by
    by_cases e:i=j+1
    · subst e;exact eL.le_refl _
    · exact eL.le_trans (Je h (by omega) (by omega)) (h j (by omega))
theorem tD.same (E:tD P tb w0 ih all n S HH gg) {i j:Nat} (hij:i<=j) (hj:j<=all.length) {h v:Nat} (h1:(HH i).ver h=some v) (h2:(HH j).ver h=some v):(HH i).get h=(HH j).get h:=by
 obtain⟨ρs,hg,hle⟩:=E.chain
 have hc:=Je hle hij hj
 obtain⟨_,w1,R1,_⟩:=hg i (by omega)
 obtain⟨_,w2,R2,_⟩:=hg j hj
 have live:∀{k:Nat},(HH k).ver h=some v->∃o,(HH k).get h=some o:=fun {k} hv=>by
  obtain⟨p,hp,_⟩:=aE.1 (show ob ((HH k).t.get h) _=some v from hv)
  exact⟨p.2,by unfold GH.get;rw[hp];rfl⟩
 obtain⟨o1,ho1⟩:=live h1
 obtain⟨o2,ho2⟩:=live h2
 obtain⟨l1,hl1,_⟩:=R1.live h o1 ho1
 obtain⟨l2,hl2,_⟩:=R2.live h o2 ho2
 obtain⟨lv1,a1,_,b1⟩:=R1.vers h v l1 h1 hl1
 obtain⟨lv2,a2,_,b2⟩:=R2.vers h v l2 h2 hl2
 have:=hc _ _ a1
 rw[a2]at this;cases this
 rw[b1,b2]
theorem tD.op (E:tD P tb w0 ih all n S HH gg) {k:Nat} {o:Oper} (hk:all[k]? = some o):DK n o=true:=List.all_eq_true.1 E.ops o (List.mem_of_getElem? hk)
theorem tD.quiet (E:tD P tb w0 ih all n S HH gg) {k:Nat} {o:Oper} (hk:all[k]? = some o) (hq:dO o.op=false):HH (k+1)=HH k:=by
 obtain⟨ρ,a,w,R,F⟩:=E.ghost k (Nat.le_of_lt (aV hk))
 rcases EH E.tab (E.call w0) (E.op hk) F R (E.trc.st k o hk)with⟨_,hs⟩|⟨_,_,h⟩
 ·rcases hs with⟨_,_,_,h,_⟩|⟨_,_,h,_⟩|⟨_,_,h,_⟩|⟨h,_⟩
  ·exact h
  ·exact h
  ·exact h
  ·rw[hq]at h;cases h
 ·exact h
theorem tD.floats (E:tD P tb w0 ih all n S HH gg) {k:Nat} {o:Oper} (hk:all[k]? = some o) (hf:isFloat o.op=true):HH (k+1)=HH k∨∃cs,HH (k+1)=(HH k).new (.cells cs):=by
 obtain⟨ρ,a,w,R,F⟩:=E.ghost k (Nat.le_of_lt (aV hk))
 rcases GZ (P:=P) E.tab hf F (E.trc.st k o hk)with⟨_,_,h⟩|⟨_,cs,_,_,h,_⟩
 ·exact .inl h
 ·exact .inr ⟨cs,h⟩
theorem Pe {H:GH} {o:GO} (h:H=H.new o):False:=by
 have:H.n=H.n+1:=congrArg GH.n h
 omega
theorem Nn {H:GH} {c c':List GV} (h:H.new (.cells c)=H.new (.cells c')):c=c':=by
 have h1:=o_ H (.cells c) H.n
 have h2:=o_ H (.cells c') H.n
 rw[if_pos rfl]at h1 h2
 rw[h,h2]at h1
 cases h1;rfl
theorem tD.mono' (E:tD P tb w0 ih all n S HH gg) {i j:Nat} (h:i<=j) (hj:j<=all.length):(HH i).n<=(HH j).n:=JH E.mono h hj
theorem tD.apart (E:tD P tb w0 ih all n S HH gg) {i j:Nat} {ci cj:List GV} (hi:i<all.length) (hj:j<all.length) (ei:HH (i+1)=(HH i).new (.cells ci)) (ej:HH (j+1)=(HH j).new (.cells cj)) (h:(HH i).n=(HH j).n):i=j:=by
 have ei':(HH (i+1)).n=(HH i).n+1:=by rw[ei];rfl
 have ej':(HH (j+1)).n=(HH j).n+1:=by rw[ej];rfl
 rcases Nat.lt_trichotomy i j with h1|h1|h1
 ·have:=E.mono' (i:=i+1) (j:=j) (by omega) (by omega);omega
 ·exact h1
 ·have:=E.mono' (i:=j+1) (j:=i) (by omega) (by omega);omega
structure tK {gs:zH} (w0:fU gs) (ρb:eL) (n:Nat) (all:List Oper) (S0:GF) (HH:Nat->GH) (gg:Nat->GV) (D:Nat->Bool) (a:Act) (w:World) (t:Nat) (ρ pm:eL):Prop where
 tm:t<=all.length
 lou:∀j o,all[j]? = some o->nJ o.op=true->(D j=true↔j<t)
 flo:∀j o,all[j]? = some o->isFloat o.op=true->j<t->D j=true
 rel:gJ w0 ρ (HH t) w
 up:ρb.le ρ
 defers:a.defers=[]
 size:a.tmps.size=n
 slot:∀s g,UJ all S0 gg D s g->Rl (Cv ρ pm) g (a.eval (.tmp s))
 pend:∀i o cs,all[i]? = some o->isFloat o.op=true->HH (i+1)=(HH i).new (.cells cs)->t<=i->D i=true->∃l,pm (HH i).n=some l∧w0.mine l.b∧¬NP ρ (HH t) l.b∧w.heap[l.b]? = some l.x∧AB (Cv ρ pm) w l (.cells cs)∧l.o = .cells cs
 only:∀h l,pm h=some l->∃i o cs,all[i]? = some o∧isFloat o.op=true∧HH (i+1)=(HH i).new (.cells cs)∧t<=i∧D i=true∧h=(HH i).n
 inj:∀h h' l l',pm h=some l->pm h'=some l'->l.b=l'.b->h=h'
variable {D:Nat->Bool} {a:Act} {w:World} {t:Nat} {ρ pm ρb:eL}
theorem tK.low (E:tD P tb w0 ih all n S HH gg) (I:tK w0 ρb n all (S 0) HH gg D a w t ρ pm) {h:Nat} {l:Ka} (hp:pm h=some l):(HH t).n<=h:=by
 obtain⟨i,o,cs,h1,_,_,h4,_,rfl⟩:=I.only h l hp
 exact E.mono' h4 (Nat.le_of_lt (aV h1))
theorem tK.adopt (E:tD P tb w0 ih all n S HH gg) (I:tK w0 ρb n all (S 0) HH gg D a w t ρ pm) {o:Oper} (ho:all[t]? = some o) (hl:nJ o.op=false) (hf:isFloat o.op=true->D t=true):
  ∃ρ' pm',tK w0 ρb n all (S 0) HH gg D a w (t+1) ρ' pm'∧Cv ρ' pm'=Cv ρ pm:=by
 have ht:=aV ho
 have lou':∀j o,all[j]? = some o->nJ o.op=true->(D j=true↔j<t+1):=fun j oj hj hlj=>by
  have hne:j≠t:=fun e=>by subst e;rw[ho]at hj;cases hj;rw[hl]at hlj;cases hlj
  rw[I.lou j oj hj hlj];omega
 have flo':∀j o,all[j]? = some o->isFloat o.op=true->j<t+1->D j=true:=fun j oj hj hfj hlt=>by
  by_cases e:j=t
  ·subst e;rw[ho]at hj;cases hj;exact hf hfj
  ·exact I.flo j oj hj hfj (by omega)
 -- nothing is taken up
 have same:HH (t+1)=HH t->∃ρ' pm',tK w0 ρb n all (S 0) HH gg D a w (t+1) ρ' pm'∧Cv ρ' pm'=Cv ρ pm:=fun e=>
  ⟨ρ,pm,⟨ht,lou',flo',by rw[e];exact I.rel,I.up,I.defers,I.size,I.slot,fun i oi cs h1 h2 h3 h4 h5=>by rw[e];exact I.pend i oi cs h1 h2 h3 (by omega) h5,fun h l hp=>by
   obtain⟨i,oi,cs,h1,h2,h3,h4,h5,h6⟩:=I.only h l hp
   refine⟨i,oi,cs,h1,h2,h3,?_,h5,h6⟩
   by_cases e':i=t
   ·subst e';rw[e]at h3;exact(Pe h3).elim
   ·omega,I.inj⟩,rfl⟩
 cases hfl:isFloat o.op with
 |false=>exact same (E.quiet ho (by simpa [nJ,hfl]using hl))
 | true =>
  rcases E.floats ho hfl with e|⟨cs,e⟩
  ·exact same e
  obtain⟨l,hp,hmine,hheld,hx,hobj,hlo⟩:=I.pend t o cs ho hfl e (Nat.le_refl _) (hf hfl)
  have hfresh:ρ (HH t).n=none:=I.rel.fresh _ (Nat.le_refl _)
  let ρ':=ρ.upd (HH t).n l
  let pm':eL:=fun h=>if h=(HH t).n then none else pm h
  have hself:ρ' (HH t).n=some l:=by simp[ρ',eL.upd]
  have hoth:∀h,h≠(HH t).n->ρ' h=ρ h:=fun h hh=>by simp[ρ',eL.upd,hh]
  have hjn:Cv ρ' pm'=Cv ρ pm:=by
   funext h
   by_cases eh:h=(HH t).n
   ·subst eh;rw[tV hself,tU hfresh,hp]
   ·unfold Cv;rw[hoth h eh];simp[pm',eh]
  have hn:(HH (t+1)).n=(HH t).n+1:=by rw[e];rfl
  -- what the object holds is older
  have hcut:∀{g:GV} {v v0:Value} {ρ0:eL},(∀h l,ρ0 h=some l->h<(HH (t+1)).n)->Rl (Cv ρ pm) g v->Rl ρ0 g v0->Rl ρ' g v:=fun {g v v0 ρ0} hlow h1 h0=>by
   refine NY (fun h l0 l1 e0 e1=> ?_) h1 h0
   have hlt:=hlow h l0 e0
   by_cases eh:h=(HH t).n
   ·subst eh;rw[tU hfresh,hp]at e1;rw[hself];exact e1
   ·rw[hoth h eh]
    cases hr:ρ h with
    |some l2=>rw[tV hr]at e1;exact e1
    |none=>
     rw[tU hr]at e1
     have:=I.low E e1
     omega
  obtain⟨ρ0,a0,wg,R0,F0⟩:=E.ghost (t+1) ht
  have hlow0:∀h l,ρ0 h=some l->h<(HH (t+1)).n:=fun h l hl=>by
   rcases Nat.lt_or_ge h (HH (t+1)).n with h'|h'
   ·exact h'
   ·rw[R0.fresh h h']at hl;cases hl
  have hgetn:(HH (t+1)).get (HH t).n=some (.cells cs):=by rw[e,o_,if_pos rfl]
  obtain⟨l0,_,_,hob0⟩:=R0.live _ _ hgetn
  obtain⟨cur0,T0,q1,q2,q3,q4⟩:=hob0
  have hobj':AB ρ' w l (.cells cs):=by
   obtain⟨cur,T,p1,p2,p3,p4⟩:=hobj
   refine⟨cur,T,p1,p2,p3,fun i g hg=> ?_⟩
   obtain⟨v,r1,r2,r3⟩:=p4 i g hg
   obtain⟨v0,_,s2,_⟩:=q4 i g hg
   exact⟨v,r1,hcut hlow0 r2 s2,r3⟩
  obtain⟨hle,R'⟩:=I.rel.new (o:= .cells cs) (l:=l) I.rel.ext (fun h o' l' hg hl'=>⟨rfl,fun eb=>hheld ⟨h,o',l',hg,hl',eb⟩⟩) hmine hobj' hx hlo
  rw[<-e]at R'
  refine⟨ρ',pm',⟨ht,lou',flo',R',eL.le_trans I.up hle,I.defers,I.size,fun s g hs=>by rw[hjn];exact I.slot s g hs,fun i oi ci h1 h2 h3 h4 h5=> ?_,fun h l1 hp1=> ?_,fun h h' l1 l2 h1 h2 hb=> ?_⟩,hjn⟩
  ·obtain⟨li,a1,a2,a3,a4,a5,a6⟩:=I.pend i oi ci h1 h2 h3 (by omega) h5
   have hne:(HH i).n≠(HH t).n:=fun eh=>by
    have:=E.apart (aV h1) ht h3 e eh;omega
   refine⟨li,by simp[pm',hne,a1],a2,?_,a4,by rw[hjn];exact a5,a6⟩
   rintro⟨h,o',l',hg,hl',eb⟩
   rw[e,o_]at hg
   by_cases eh:h=(HH t).n
   ·subst eh;rw[hself]at hl';cases hl'
    exact hne (I.inj _ _ _ _ a1 hp eb.symm)
   ·rw[if_neg eh]at hg
    rw[hoth h eh]at hl'
    exact a3 ⟨h,o',l',hg,hl',eb⟩
  ·have hne:h≠(HH t).n:=fun eh=>by subst eh;simp[pm']at hp1
   have hp1:pm h=some l1:=by simpa [pm',hne]using hp1
   obtain⟨i,oi,ci,h1,h2,h3,h4,h5,h6⟩:=I.only h l1 hp1
   refine⟨i,oi,ci,h1,h2,h3,?_,h5,h6⟩
   by_cases e':i=t
   ·subst e';exact absurd h6 hne
   ·omega
  ·have h1:pm h=some l1:=by
    by_cases eh:h=(HH t).n
    ·simp[pm',eh]at h1
    ·simpa [pm',eh]using h1
   have h2:pm h'=some l2:=by
    by_cases eh:h'=(HH t).n
    ·simp[pm',eh]at h2
    ·simpa [pm',eh]using h2
   exact I.inj h h' l1 l2 h1 h2 hb
theorem tK.adoptTo (E:tD P tb w0 ih all n S HH gg):∀(d t k:Nat) (ρ pm:eL),tK w0 ρb n all (S 0) HH gg D a w t ρ pm->t+d=k->k<=all.length->(∀j o,t<=j->j<k->all[j]? = some o->nJ o.op=false∧(isFloat o.op=true->D j=true))->
  ∃ρ' pm',tK w0 ρb n all (S 0) HH gg D a w k ρ' pm'∧Cv ρ' pm'=Cv ρ pm
 |0,t,k,ρ,pm,I,hd,hk,_=>by
  have:t=k:=by omega
  subst this
  exact⟨ρ,pm,I,rfl⟩
 |d+1,t,k,ρ,pm,I,hd,hk,h=>by
  have ho:all[t]? = some all[t]:=List.getElem?_eq_getElem (by omega)
  obtain⟨h1,h2⟩:=h t _ (Nat.le_refl _) (by omega) ho
  obtain⟨ρ1,pm1,I1,e1⟩:=I.adopt E ho h1 h2
  obtain⟨ρ2,pm2,I2,e2⟩:=tK.adoptTo E d (t+1) k ρ1 pm1 I1 (by omega) hk (fun j o h1 h2=>h j o (by omega) h2)
  exact⟨ρ2,pm2,I2,by rw[e2,e1]⟩
def Cl (all:List Oper) (D:Nat->Bool):Prop:=∀j k,D j=true->before (lM all) j k=true->k<all.length->D k=true
structure Ko (all:List Oper) (D:Nat->Bool) (k:Nat) (o:Oper):Prop where
 get:all[k]? = some o
 undone:D k=false
 past:∀j,before (lM all) k j=true->j<all.length->D j=true
theorem Ko.behind (C:NN tb all (lM all)) (hcl:Cl all D) {k:Nat} {o:Oper} (hr:Ko all D k o) {j:Nat} {oj:Oper} (hj:all[j]? = some oj) (hD:D j=true) (hlt:k<j):o.apart all.toArray oj=true∧FD tb o.op oj.op=true:=by
 cases hb:before (lM all) j k with
 |false=>exact C.ind j k oj o hj hr.get hlt hb
 |true=>
  have:=hcl j k hD hb (aV hr.get)
  rw[hr.undone]at this;cases this
theorem Ko.ahead (C:NN tb all (lM all)) {k:Nat} {o:Oper} (hr:Ko all D k o) {j:Nat} {oj:Oper} (hj:all[j]? = some oj) (hlt:j<k):D j=true∨oj.apart all.toArray o=true∧FD tb oj.op o.op=true:=by
 cases hb:before (lM all) k j with
 |true=>exact .inl (hr.past j hb (aV hj))
 |false=>exact .inr (C.ind k j o oj hr.get hj hlt hb)
theorem Ko.look (E:tD P tb w0 ih all n S HH gg) (hcl:Cl all D) {k:Nat} {o:Oper} (hr:Ko all D k o) {s:Nat} {g:GV} (hs:s∈o.looksAt all.toArray) (hg:BG (S k) s=some g):UJ all (S 0) gg D s g:=by
 have none_behind:∀j oj,D j=true->all[j]? = some oj->oj.dst=some s->j<k:=fun j oj hD hj hd=>by
  rcases Nat.lt_trichotomy j k with h|h|h
  ·exact h
  ·subst h;rw[hr.undone]at hD;cases hD
  ·obtain⟨h1,_⟩:=hr.behind E.chk hcl hj hD h
   exact absurd hs ((Oper.apart_spec h1).2.2 s hd)
 rcases Gc E.trc k (Nat.le_of_lt (aV hr.get)) hg with⟨i,oi,h1,h2,h3,h4,h5⟩|⟨h1,h2⟩
 ·refine .inl ⟨i,oi,?_,h2,h3,h4,fun j oj hD hj hd=> ?_⟩
  ·rcases hr.ahead E.chk h2 h1 with h|⟨h,_⟩
   ·exact h
   ·exact absurd hs ((Oper.apart_spec h).1 s h3)
  ·have:=none_behind j oj hD hj hd
   rcases Nat.lt_or_ge i j with h|h
   ·exact absurd hd (h5 j oj h this hj)
   ·exact h
 ·exact .inr ⟨fun j oj hD hj hd=>h1 j oj (none_behind j oj hD hj hd) hj hd,h2⟩
theorem Ko.slot (C:NN tb all (lM all)) (hcl:Cl all D) {S0:GF} {k:Nat} {o:Oper} (hr:Ko all D k o) (hdst:∀d,o.dst=some d->d<n) (hsz:a.tmps.size=n) {ρ1 ρ2:eL} (hle:ρ1.le ρ2) (hslot:∀s g,UJ all S0 gg D s g->Rl ρ1 g (a.eval (.tmp s))) {v:Value} (hv:Rl ρ2 (gg k) v):
  ∀s g,UJ all S0 gg (ins D k) s g->Rl ρ2 g ((a.put o.dst v).eval (.tmp s)):=fun s g hs=>by
 have behind:∀j oj,D j=true->all[j]? = some oj->o.dst=some s->oj.dst=some s->j<k:=fun j oj hD hj hd hd'=>by
  rcases Nat.lt_trichotomy j k with h|h|h
  ·exact h
  ·subst h;rw[hr.undone]at hD;cases hD
  ·obtain⟨h1,_⟩:=hr.behind C hcl hj hD h
   exact absurd hd' ((Oper.apart_spec h1).2.1 s hd)
 by_cases hd:o.dst=some s
 ·have hg:gg k=g:=by
   rcases hs with⟨i,oi,h1,h2,h3,h4,h5⟩|⟨h1,_⟩
   ·have hk:=h5 k o (yG D k) hr.get hd
    by_cases e:i=k
    ·subst e;exact h4
    ·rw[xG e]at h1
     have:=behind i oi h1 h2 hd h3
     omega
   ·exact absurd hd (h1 k o (yG D k) hr.get)
  rw[hd,<-hg]
  have hs':=hdst s hd
  have:(a.put (some s) v).eval (.tmp s)=v:=by simp[Act.put,Act.eval,hsz,hs']
  rw[this];exact hv
 ·have he:(a.put o.dst v).eval (.tmp s)=a.eval (.tmp s):=Act.eval_put fun d hd' e=>by cases e;exact hd hd'
  rw[he]
  refine(hslot s g ?_).le hle
  rcases hs with⟨i,oi,h1,h2,h3,h4,h5⟩|⟨h1,h2⟩
  ·have e:i≠k:=fun e=>by subst e;rw[hr.get]at h2;cases h2;exact hd h3
   rw[xG e]at h1
   exact .inl ⟨i,oi,h1,h2,h3,h4,fun j oj hD=>h5 j oj (yF hD)⟩
  ·exact .inr ⟨fun j oj hD=>h1 j oj (yF hD),h2⟩
theorem BC (a:Act) (d:Option Tmp) (v:Value):(a.put d v).defers=a.defers∧(a.put d v).tmps.size=a.tmps.size:=by
 cases d with
 |none=>exact⟨rfl,rfl⟩
 |some d=>exact⟨rfl,by simp[Act.put]⟩
theorem tK.plain (E:tD P tb w0 ih all n S HH gg) (hcl:Cl all D) (I:tK w0 ρb n all (S 0) HH gg D a w t ρ pm) {k:Nat} {o:Oper} (hr:Ko all D k o) (hl:nJ o.op=false) (hf:isFloat o.op=true->HH (k+1)=HH k) {v:Value} (hv:Rl (Cv ρ pm) (gg k) v):
  tK w0 ρb n all (S 0) HH gg (ins D k) (a.put o.dst v) w t ρ pm:=by
 obtain⟨_,hdst,_⟩:=qU (E.op hr.get)
 obtain⟨p1,p2⟩:=BC a o.dst v
 refine⟨I.tm,fun j oj hj hlj=> ?_,fun j oj hj hfj hlt=>yF (I.flo j oj hj hfj hlt),I.rel,I.up,by rw[p1];exact I.defers,by rw[p2];exact I.size,hr.slot E.chk hcl hdst I.size (eL.le_refl _) I.slot hv,fun i oi cs h1 h2 h3 h4 h5=> ?_,fun h l hp=> ?_,I.inj⟩
 ·have e:j≠k:=fun e=>by subst e;rw[hr.get]at hj;cases hj;rw[hl]at hlj;cases hlj
  rw[xG e];exact I.lou j oj hj hlj
 ·have e:i≠k:=fun e=>by
   subst e;rw[hr.get]at h1;cases h1;rw[hf h2]at h3;exact Pe h3
  rw[xG e]at h5
  exact I.pend i oi cs h1 h2 h3 h4 h5
 ·obtain⟨i,oi,cs,h1,h2,h3,h4,h5,h6⟩:=I.only h l hp
  exact⟨i,oi,cs,h1,h2,h3,h4,yF h5,h6⟩
def Hy (all:List Oper) (D:Nat->Bool) (t:Nat):Prop:=t=0∨∃o,all[t - 1]? = some o∧nJ o.op=true∧D (t - 1)=true
theorem Hy.ins {k:Nat} (h:Hy all D t):Hy all (ins D k) t:=by
 rcases h with h|⟨o,h1,h2,h3⟩
 ·exact .inl h
 ·exact .inr ⟨o,h1,h2,yF h3⟩
theorem BB {o:Op} (h:pureOp tb o=true):dO o=false:=by
 unfold pureOp at h
 split at h<;>first|rfl|cases h
theorem Ch {o:Op} (h:isFloat o=true):dO o=true:=by
 unfold isFloat at h
 split at h<;>first|rfl|cases h
theorem Fv {o:Op} (h:isFloat o=true):pureOp tb o=false:=by
 cases hp:pureOp tb o with
 |false=>rfl
 |true=>have:=BB hp;rw[Ch h]at this;cases this
theorem tK.reach (E:tD P tb w0 ih all n S HH gg) (hcl:Cl all D) (I:tK w0 ρb n all (S 0) HH gg D a w t ρ pm) (hlast:Hy all D t) {k:Nat} {o:Oper} (hr:Ko all D k o) (hp:pureOp tb o.op=false) (hf:isFloat o.op=false) (hld:kS o.op=false):
  ∃ρ' pm',tK w0 ρb n all (S 0) HH gg D a w k ρ' pm'∧Cv ρ' pm'=Cv ρ pm:=by
 have hk:=aV hr.get
 have htk:t<=k:=by
  rcases hlast with h|⟨oj,h1,h2,h3⟩
  ·omega
  ·rcases Nat.lt_or_ge (t - 1) k with h|h
   ·omega
   ·exfalso
    by_cases e:t - 1=k
    ·rw[e,hr.undone]at h3;cases h3
    ·obtain⟨_,h4⟩:=hr.behind E.chk hcl h1 h3 (by omega)
     simp only[nJ,Bool.and_eq_true,Bool.not_eq_true']at h2
     have:pureOp tb oj.op=false:=by
      cases hq:pureOp tb oj.op with
      |false=>rfl
      |true=>have:=BB hq;rw[h2.1]at this;cases this
     have hlj:kS oj.op=false:=by
      cases hq:kS oj.op with
      |false=>rfl
      |true=>rw[yI hq]at h2;cases h2.1
     simp[FD,hp,this,h2.1,h2.2,hld,hlj]at h4
 refine I.adoptTo E (k - t) t k ρ pm (by omega) (by omega) fun j oj h1 h2 hj=> ?_
 have hnot:D j=true∨dO oj.op=false∨pureOp tb oj.op=true:=by
  rcases hr.ahead E.chk hj h2 with h|⟨_,h⟩
  ·exact .inl h
  ·simp only[FD,hp,hf,hld,Bool.or_false,Bool.and_false,Bool.or_eq_true,Bool.and_eq_true,Bool.not_eq_true']at h
   rcases h with(h|h)|h
   ·exact .inr (.inr h)
   ·exact .inr (.inl h.1)
   ·exact .inr (.inl (yI h.1))
 refine⟨?_,fun hfj=> ?_⟩
 ·cases hlj:nJ oj.op with
  |false=>rfl
  |true=>
   exfalso
   have hlj':=hlj
   simp only[nJ,Bool.and_eq_true,Bool.not_eq_true']at hlj'
   rcases hnot with h|h|h
   ·have:=(I.lou j oj hj hlj).1 h;omega
   ·rw[hlj'.1]at h;cases h
   ·have:=BB h;rw[hlj'.1]at this;cases this
 ·rcases hnot with h|h|h
  ·exact h
  ·rw[Ch hfj]at h;cases h
  ·rw[Fv hfj]at h;cases h
theorem tK.frame (E:tD P tb w0 ih all n S HH gg) (hcl:Cl all D) (I:tK w0 ρb n all (S 0) HH gg D a w t ρ pm) {k:Nat} {o:Oper} (hr:Ko all D k o):iN (Cv ρ pm) n (AE (S k) (o.looksAt all.toArray)) a:=
 ⟨I.defers,I.size,fun s g hg=>by
  rw[zP]at hg
  by_cases hs:s∈o.looksAt all.toArray
  ·rw[if_pos hs]at hg;exact I.slot s g (hr.look E hcl hs hg)
  ·rw[if_neg hs]at hg;cases hg⟩
theorem tK.frame' (E:tD P tb w0 ih all n S HH gg) (hcl:Cl all D) {k:Nat} (I:tK w0 ρb n all (S 0) HH gg D a w k ρ pm) {o:Oper} (hr:Ko all D k o):iN ρ n (AE (S k) (o.looksAt all.toArray)) a:=by
 have F:=I.frame E hcl hr
 obtain⟨ρ0,a0,wg,R0,F0⟩:=E.ghost k (Nat.le_of_lt (aV hr.get))
 refine⟨F.defers,F.size,fun s g hg=> ?_⟩
 have h1:=F.slot s g hg
 rw[zP]at hg
 by_cases hs:s∈o.looksAt all.toArray
 ·rw[if_pos hs]at hg
  refine NY (fun h l0 l e0 e1=> ?_) h1 (F0.slot s g hg)
  cases hrr:ρ h with
  |some l2=>rw[tV hrr]at e1;exact e1
  |none=>
   rw[tU hrr]at e1
   have h2:=I.low E e1
   rw[R0.fresh h h2]at e0;cases e0
 ·rw[if_neg hs]at hg;cases hg
theorem tD.st (E:tD P tb w0 ih all n S HH gg) {k:Nat} {o:Oper} (hk:all[k]? = some o):BF tb ih all o (AE (S k) (o.looksAt all.toArray)) (HH k)=some (gg k,HH (k+1)):=by
 rw[<-E.trc.st k o hk]
 exact KC fun s hs=>by rw[zP,if_pos hs]
theorem tK.loads (E:tD P tb w0 ih all n S HH gg) (hcl:Cl all D) (I:tK w0 ρb n all (S 0) HH gg D a w t ρ pm) (hlast:Hy all D t) {k:Nat} {o:Oper} (hr:Ko all D k o) (hld:kS o.op=true) {h:Nat} {ob:GO} (hh:Rf (S k) o.op=some h) (hob:(HH k).get h=some ob):
    ∃p ρ' pm',tK w0 ρb n all (S 0) HH gg D a w p ρ' pm'∧Cv ρ' pm'=Cv ρ pm∧(HH p).get h=some ob:=by
  have hk:=aV hr.get
  have hq:=yI hld
  have hpu:pureOp tb o.op=false:=by cases ho:o.op<;>rw[ho]at hld<;>first|rfl|cases hld
  have hfl:isFloat o.op=false:=by cases ho:o.op<;>rw[ho]at hld<;>first|rfl|cases hld
  obtain⟨v,hv⟩:∃v,(HH k).ver h=some v:=by
    obtain⟨p,hp,_⟩:=aE.1 (show Gx.ob ((HH k).t.get h) _=some ob from hob)
    exact⟨p.1,by unfold GH.ver;rw[hp];rfl⟩
  obtain⟨v1,v2⟩:=E.vrs k o h v hr.get hld hh hv
  rcases Nat.lt_or_ge k t with htk|htk
  · -- later than in the text
    rcases hlast with e|⟨oj,h1,h2,h3⟩
    · omega
    have hlj:=h2
    simp only[nJ,Bool.and_eq_true]at hlj
    have hb:before (lM all) (t - 1) k=false:=by
      cases hb:before (lM all) (t - 1) k with
      |false=>rfl
      |true=>have:=hcl _ _ h3 hb hk;rw[hr.undone]at this;cases this
    have hne:t - 1≠k:=fun e=>by rw[e,hr.undone]at h3;cases h3
    have:=v2 (t - 1) oj (by omega) h1 hlj.1 hb
    rw[show t - 1+1=t by omega]at this
    exact⟨t,ρ,pm,I,rfl,by rw[<-E.same (Nat.le_of_lt htk) I.tm hv this];exact hob⟩
  · -- earlier,or there
    let stp:Nat->Oper->Bool:=fun j oj=>nJ oj.op||(isFloat oj.op && !D j)
    have first:∀d t',t'+d=k->t<=t'->(∀j oj,t<=j->j<t'->all[j]? = some oj->stp j oj=false)->∃p,t<=p∧p<=k∧(∀j oj,t<=j->j<p->all[j]? = some oj->stp j oj=false)∧(p=k∨∃op,all[p]? = some op∧stp p op=true):=by
      intro d
      induction d with
      |zero=>exact fun t' e ht h=>⟨t',ht,by omega,h,.inl (by omega)⟩
      | succ d ihd =>
        intro t' e ht h
        have hget:all[t']? = some all[t']:=List.getElem?_eq_getElem (by omega)
        cases hl:stp t' all[t']with
        |true=>exact⟨t',ht,by omega,h,.inr ⟨_,hget,hl⟩⟩
        | false =>
          refine ihd (t'+1) (by omega) (by omega) fun j oj h1 h2 hj=> ?_
          by_cases e:j=t'
          · subst e;rw[hget]at hj;cases hj;exact hl
          · exact h j oj h1 (by omega) hj
    obtain⟨p,hp1,hp2,hp3,hp4⟩:=first (k - t) t (by omega) (Nat.le_refl _) (fun j oj h1 h2=>by omega)
    obtain⟨ρ1,pm1,I1,e1⟩:=I.adoptTo E (p - t) t p ρ pm (by omega) (by omega) fun j oj h1 h2 hj=>by
      have h3:=hp3 j oj h1 h2 hj
      simp only[stp,Bool.or_eq_false_iff,Bool.and_eq_false_iff,Bool.not_eq_false']at h3
      exact ⟨h3.1, fun hfj => by
          rcases h3.2 with h4 | h4; · rw [hfj] at h4; cases h4
          · exact h4⟩
    refine⟨p,ρ1,pm1,I1,e1,?_⟩
    rcases hp4 with e|⟨op,hop,hlp⟩
    · rw[e];exact hob
    · simp only[stp,Bool.or_eq_true,Bool.and_eq_true,Bool.not_eq_true']at hlp
      have hlo:dO op.op=true:=by
        rcases hlp with h|h
        · simp only[nJ,Bool.and_eq_true]at h;exact h.1
        · exact Ch h.1
      have hpk:p<k:=by
        rcases Nat.lt_or_ge p k with h|h
        · exact h
        · have:p=k:=by omega
          subst this;rw[hr.get]at hop;cases hop;rw[hq]at hlo;cases hlo
      have hDp:D p=false:=by
        rcases hlp with h|h
        · cases hd:D p with
          |false=>rfl
          |true=>have:=(I.lou p op hop h).1 hd;omega
        · exact h.2
      have hb:before (lM all) k p=false:=by
        cases hb:before (lM all) k p with
        |false=>rfl
        |true=>have:=hr.past p hb (by omega);rw[hDp]at this;cases this
      rw[E.same (Nat.le_of_lt hpk) (Nat.le_of_lt hk) (v1 p op hpk hop hlo hb) hv];exact hob
theorem tK.step (E:tD P tb w0 ih all n S HH gg) (hcl:Cl all D) (I:tK w0 ρb n all (S 0) HH gg D a w t ρ pm) (hlast:Hy all D t) {k:Nat} {o:Oper} (hr:Ko all D k o) {Q:Exit->Act->World->Prop} {K:Act->World->Prop}
  (hK:∀a' w' t' ρ' pm',tK w0 ρb n all (S 0) HH gg (ins D k) a' w' t' ρ' pm'->Hy all (ins D k) t'->K a' w'):Sx.wpOp P all.toArray Q k K a w:=by
 have hk:=aV hr.get
 obtain⟨_,hdst,hoa⟩:=qU (E.op hr.get)
 have hst:=E.st hr.get
 unfold Sx.wpOp
 simp only[List.getElem?_toArray,hr.get]
 cases hp:pureOp tb o.op with
 | true =>
  have hl:nJ o.op=false:=by simp[nJ,BB hp]
  have hnf:isFloat o.op=false:=by
   cases hf:isFloat o.op with
   |false=>rfl
   |true=>rw[Fv hf]at hp;cases hp
  have F:=I.frame E hcl hr
  rcases Bv F hst with⟨hw,hg⟩|⟨hw,hg,hH⟩
  ·rw[if_pos hw]
   have hoa':FK o.op=true:=by
    rcases hoa with h|⟨c,f,h1,h2⟩
    ·exact h
    ·obtain⟨cal,xs,ts⟩:=c
     simp only at h2
     rw[h1,h2]at hp;cases hp
   obtain⟨_,v,hv,hrun⟩:=OQ (P:=P) E.tab F hp hoa' hg
   left
   simp only[Oper.wp,hrun w,Oper.upon]
   exact hK _ _ t ρ pm (I.plain E hcl hr hl (fun h=>by rw[hnf]at h;cases h) hv) hlast.ins
  ·rw[if_neg (by rw[hw];simp)]
   exact hK _ _ t ρ pm (I.plain E hcl hr hl (fun h=>by rw[hnf]at h;cases h) (by rw[hg];exact .un)) hlast.ins
 | false =>
  cases hf:isFloat o.op with
  | true =>
   have hl:nJ o.op=false:=by simp[nJ,hf]
   have F:=I.frame E hcl hr
   rcases GZ (P:=P) E.tab hf F hst with⟨hw,hg,hH⟩|⟨hw,cs,a',T',hH,hC,hlen,hrun⟩
   ·rw[if_neg (by rw[hw];simp)]
    exact hK _ _ t ρ pm (I.plain E hcl hr hl (fun _=>hH) (by rw[hg];exact .un)) hlast.ins
   ·rw[if_pos hw]
    obtain⟨V,hV,hrel⟩:=hrun w
    left
    simp only[Oper.wp,hV,Oper.upon]
    have htk:t<=k:=by
     rcases Nat.lt_or_ge k t with h|h
     ·have:=I.flo k o hr.get hf h;rw[hr.undone]at this;cases this
     ·exact h
    let l:Ka:=⟨w.heap.size,0,a'.size,.cells a' T',.cells cs⟩
    have e:J_ w (w.alloc (.cells a' T')):=(Below.refl _ _).alloc (Nat.le_refl _) _
    have hρ:ρ (HH k).n=none:=I.rel.fresh _ (E.mono' htk (by omega))
    have hpm:pm (HH k).n=none:=by
     cases hq:pm (HH k).n with
     |none=>rfl
     |some l1=>
      obtain⟨i,oi,ci,h1,h2,h3,h4,h5,h6⟩:=I.only _ _ hq
      have:=E.apart (aV h1) hk h3 hH h6.symm
      subst this
      rw[hr.undone]at h5;cases h5
    let pm':=pm.upd (HH k).n l
    have hself:pm' (HH k).n=some l:=by simp[pm',eL.upd]
    have hoth:∀h,h≠(HH k).n->pm' h=pm h:=fun h hh=>by simp[pm',eL.upd,hh]
    have hle:(Cv ρ pm).le (Cv ρ pm'):=fun h l1 h1=>by
     cases hr1:ρ h with
     |some l2=>rw[tV hr1]at h1;rw[tV hr1];exact h1
     |none=>
      rw[tU hr1]at h1;rw[tU hr1,hoth h (fun eh=>by subst eh;rw[hpm]at h1;cases h1)];exact h1
    have hjl:Cv ρ pm' (HH k).n=some l:=by rw[tU hρ,hself]
    obtain⟨p1,p2⟩:=BC a o.dst V
    have old:∀h l1,pm h=some l1->l1.b<w.heap.size:=fun h l1 h1=>by
     obtain⟨i,oi,ci,q1,q2,q3,q4,q5,rfl⟩:=I.only _ _ h1
     obtain⟨l2,r1,_,_,r4,_⟩:=I.pend i oi ci q1 q2 q3 q4 q5
     rw[h1]at r1;cases r1
     exact(Array.getElem?_eq_some_iff.1 r4).1
    refine hK _ _ t ρ pm' ⟨I.tm,fun j oj hj hlj=> ?_,fun j oj hj hfj hlt=>yF (I.flo j oj hj hfj hlt),I.rel.ext' e,I.up,by rw[p1];exact I.defers,by rw[p2];exact I.size,hr.slot E.chk hcl hdst I.size hle I.slot (hrel _ hjl),fun i oi ci h1 h2 h3 h4 h5=> ?_,fun h l1 hp1=> ?_,fun h h' l1 l2 h1 h2 hb=> ?_⟩ hlast.ins
    ·have e:j≠k:=fun e=>by subst e;rw[hr.get]at hj;cases hj;rw[hl]at hlj;cases hlj
     rw[xG e];exact I.lou j oj hj hlj
    ·by_cases ei:i=k
     ·subst ei
      rw[hH]at h3
      have:=Nn h3
      subst this
      refine⟨l,hself,.inl I.rel.ext.size,?_,heap_alloc_new w _,⟨a',T',heap_alloc_new w _,rfl,by show 0+cs.length<=a'.size;omega,fun j g hg=> ?_⟩,rfl⟩
      ·rintro⟨h,o',l',hg,hl',eb⟩
       obtain⟨l2,r1,_,r3⟩:=I.rel.live h o' hg
       rw[hl']at r1;cases r1
       have:=r3.lt
       rw[eb]at this
       exact absurd this (Nat.lt_irrefl _)
      ·obtain⟨x,hx,hrx⟩:=hC.r.get hg
       rw[Array.getElem?_toList]at hx
       exact⟨x,by show a'[0+j]? = some x;simpa using hx,hrx.le hle,HX hC.one hx⟩
     ·rw[xG ei]at h5
      obtain⟨l1,a1,a2,a3,a4,a5,a6⟩:=I.pend i oi ci h1 h2 h3 h4 h5
      have hne:(HH i).n≠(HH k).n:=fun eh=>ei (E.apart (aV h1) hk h3 hH eh)
      have hb:=old _ _ a1
      exact⟨l1,by rw[hoth _ hne];exact a1,a2,a3,by rw[e.block _ hb];exact a4,a5.move hle (e.block _ hb),a6⟩
    ·by_cases eh:h=(HH k).n
     ·exact⟨k,o,cs,hr.get,hf,hH,htk,yG D k,eh⟩
     ·rw[hoth h eh]at hp1
      obtain⟨i,oi,ci,q1,q2,q3,q4,q5,q6⟩:=I.only h l1 hp1
      exact⟨i,oi,ci,q1,q2,q3,q4,yF q5,q6⟩
    ·by_cases eh:h=(HH k).n
     ·by_cases eh':h'=(HH k).n
      ·rw[eh,eh']
      ·rw[hoth h' eh']at h2
       subst eh;rw[hself]at h1;cases h1
       have:=old _ _ h2
       rw[<-hb]at this
       exact absurd this (Nat.lt_irrefl _)
     ·rw[hoth h eh]at h1
      by_cases eh':h'=(HH k).n
      ·subst eh';rw[hself]at h2;cases h2
       have:=old _ _ h1
       rw[hb]at this
       exact absurd this (Nat.lt_irrefl _)
      ·rw[hoth h' eh']at h2
       exact I.inj h h' l1 l2 h1 h2 hb
  | false =>
   cases hld:kS o.op with
   | true =>
    have hl:nJ o.op=false:=by simp[nJ,yI hld]
    have F0:=I.frame E hcl hr
    rcases Bv F0 hst with⟨hw,hg⟩|⟨hw,hg,hH⟩
    ·rw[if_pos hw]
     have hopl:∃T x,o.op = .load T x:=by
      cases ho:o.op<;>rw[ho]at hld<;>first|exact⟨_,_,rfl⟩|cases hld
     obtain⟨T,x,hox⟩:=hopl
     rw[hox]at hg
     obtain⟨va,hva,hg⟩:=aE.1 (show ob (hN (AE (S k) (o.looksAt all.toArray)) x) _=some (gg k,HH (k+1))from hg)
     obtain⟨g',hld',hk'⟩:=aE.1 hg
     have eg:g'=gg k:=by
      have:=congrArg (fun o=>o.map Prod.fst) (show some (g',HH k)=some (gg k,HH (k+1))from hk')
      simpa using this
     rw[eg]at hld'
     obtain⟨q,hq,hc⟩:=aE.1 (show ob va.asP _=some (gg k)from hld')
     obtain⟨cs,hcs,hc⟩:=aE.1 hc
     have hget:=gA.1 hcs
     have hxt:∀s,x = .tmp s->s∈o.looksAt all.toArray:=fun s e=>List.mem_append_left _ (List.mem_filterMap.2 ⟨.tmp s,by rw[hox,e];simp[Op.operands],rfl⟩)
     have hva':hN (S k) x=some va:=by
      rw[<-hva]
      cases x with
      |tmp s=>
       show BG (S k) s=BG (AE (S k) (o.looksAt all.toArray)) s
       rw[zP,if_pos (hxt s rfl)]
      |_=>rfl
     have hh:Rf (S k) o.op=some q.1:=by
      rw[hox]
      show ob (hN (S k) x) _=_
      rw[hva']
      show ob va.asP _=_
      rw[hq];rfl
     obtain⟨p,ρ1,pm1,I1,hj1,hgp⟩:=I.loads E hcl hlast hr hld hh hget
     have hv0:=cD F0 hva
     have hv1:Rl ρ1 va (a.eval x):=by
      rw[AY hq]at hv0 ⊢
      obtain⟨l,hl,e⟩:=hv0.ptr_inv
      obtain⟨l1,hl1,_⟩:=I1.rel.live _ _ hgp
      rw[<-hj1,tV hl1]at hl
      cases hl
      rw[e];exact .ptr _ hl1
     have hload:tJ tb T va (HH p)=some (gg k):=by
      show ob va.asP _=_
      rw[hq]
      show ob ((HH p).cells q.1) _=_
      rw[gA.2 hgp]
      exact hc
     obtain⟨X,_,l,_,_,_,hX,hrun⟩:=Ge (P:=P) E.tab I1.rel hv1 hload
     left
     have hr1:(execOp a.eval o).run P w = .ok (.value X) w:=by
      have:=hrun w rfl
      obtain⟨d,op,ty,pos,aft,gd⟩:=o
      simp only at hox
      subst hox
      simp[execOp,this]
     simp only[Oper.wp,hr1,Oper.upon]
     exact hK _ _ t ρ pm (I.plain E hcl hr hl (fun h=>by rw[hf]at h;cases h) (by rw[<-hj1];exact hX.le CQ)) hlast.ins
    ·rw[if_neg (by rw[hw];simp)]
     exact hK _ _ t ρ pm (I.plain E hcl hr hl (fun h=>by rw[hf]at h;cases h) (by rw[hg];exact .un)) hlast.ins
   |false=>
   obtain⟨ρ1,pm1,I1,hj1⟩:=I.reach E hcl hlast hr hp hf hld
   have F:=I1.frame' E hcl hr
   cases hlo:dO o.op with
   | false =>
    have hl:nJ o.op=false:=by simp[nJ,hlo]
    have fin:∀v,Rl ρ1 (gg k) v->tK w0 ρb n all (S 0) HH gg (ins D k) (a.put o.dst v) w t ρ pm:=fun v hv=>
     I.plain E hcl hr hl (fun h=>by rw[hf]at h;cases h) (by rw[<-hj1];exact hv.le CQ)
    rcases EH E.tab (E.call w0) (E.op hr.get) F I1.rel hst with⟨hw,hs⟩|⟨hw,hg,hH⟩
    ·rw[if_pos hw]
     left
     rcases hs with⟨_,_,_,_,v,hv,hrun⟩|⟨_,_,_,v,_,_,_,_,_,hv,hrun⟩|⟨_,_,_,v,hv,hrun⟩|⟨hq,_⟩
     ·simp only[Oper.wp,hrun w,Oper.upon];exact hK _ _ t ρ pm (fin v hv) hlast.ins
     ·simp only[Oper.wp,hrun w rfl,Oper.upon];exact hK _ _ t ρ pm (fin v hv) hlast.ins
     ·simp only[Oper.wp,hrun,Oper.upon];exact hK _ _ t ρ pm (fin v hv) hlast.ins
     ·rw[hlo]at hq;cases hq
    ·rw[if_neg (by rw[hw];simp)]
     exact hK _ _ t ρ pm (fin undef (by rw[hg];exact .un)) hlast.ins
   | true =>
    have hl:nJ o.op=true:=by simp[nJ,hlo,hf]
    have hkn:∀(i:Nat) (oi:Oper) (ci:List GV),all[i]? = some oi->isFloat oi.op=true->i≠k:=fun i oi ci h1 h2 e=>by
     subst e;rw[hr.get]at h1;cases h1;rw[hf]at h2;cases h2
    have lou':∀j o,all[j]? = some o->nJ o.op=true->(ins D k j=true↔j<k+1):=fun j oj hj hlj=>by
     by_cases e:j=k
     ·subst e;simp[yG]
     ·rw[xG e,I1.lou j oj hj hlj];omega
    have flo':∀j o,all[j]? = some o->isFloat o.op=true->j<k+1->ins D k j=true:=fun j oj hj hfj hlt=>by
     have:=hkn j oj [] hj hfj
     exact yF (I1.flo j oj hj hfj (by omega))
    have only':∀h l,pm1 h=some l->∃i o cs,all[i]? = some o∧isFloat o.op=true∧HH (i+1)=(HH i).new (.cells cs)∧k+1<=i∧ins D k i=true∧h=(HH i).n:=fun h l hp1=>by
     obtain⟨i,oi,ci,q1,q2,q3,q4,q5,q6⟩:=I1.only h l hp1
     have:=hkn i oi ci q1 q2
     exact⟨i,oi,ci,q1,q2,q3,by omega,yF q5,q6⟩
    have hlast':Hy all (ins D k) (k+1):= .inr ⟨o,by simpa using hr.get,hl,by simp[yG]⟩
    rcases EH E.tab (E.call I1.rel.base) (E.op hr.get) F I1.rel.rebase hst with⟨hw,hs⟩|⟨hw,hg,hH⟩
    ·rw[if_pos hw]
     left
     rcases hs with⟨hq,_⟩|⟨hq,_⟩|⟨hq,_⟩|⟨_,hrun⟩
     ·rw[hlo]at hq;cases hq
     ·rw[hlo]at hq;cases hq
     ·rw[hlo]at hq;cases hq
     refine FJ (hrun _ fun ρ2 w2 v hle R2 hv=>hK _ _ (k+1) ρ2 pm1 ?_ hlast')
     obtain⟨R3,hframe⟩:=I1.rel.back R2
     have hj:(Cv ρ1 pm1).le (Cv ρ2 pm1):=fun h l h1=>by
      cases hr1:ρ1 h with
      |some l2=>rw[tV hr1]at h1;cases h1;exact tV (hle _ _ hr1)
      |none=>
       rw[tU hr1]at h1
       obtain⟨i,oi,ci,q1,q2,q3,q4,q5,rfl⟩:=only' h l h1
       rw[tU (R2.fresh _ (E.mono' q4 (Nat.le_of_lt (aV q1))))];exact h1
     obtain⟨p1,p2⟩:=BC a o.dst v
     refine⟨hk,lou',flo',R3,eL.le_trans I1.up hle,by rw[p1];exact I1.defers,by rw[p2];exact I1.size,hr.slot E.chk hcl hdst I1.size hj I1.slot (hv.le CQ),fun i oi ci h1 h2 h3 h4 h5=> ?_,only',I1.inj⟩
     rw[xG (hkn i oi ci h1 h2)]at h5
     obtain⟨l1,a1,a2,a3,a4,a5,a6⟩:=I1.pend i oi ci h1 h2 h3 (by omega) h5
     have hb:l1.b<w.heap.size:=(Array.getElem?_eq_some_iff.1 a4).1
     refine⟨l1,a1,a2,?_,by rw[hframe _ hb a3];exact a4,a5.move hj (hframe _ hb a3),a6⟩
     rintro⟨h,o',l',hg,hl',eb⟩
     obtain⟨l2,r1,r2,_⟩:=R2.live h o' hg
     rw[hl']at r1;cases r1
     rw[eb]at r2
     rcases r2 with r2|r2
     ·have:w.heap.size<=l1.b:=r2
      omega
     ·exact a3 r2
    ·rw[if_neg (by rw[hw];simp)]
     obtain⟨p1,p2⟩:=BC a o.dst undef
     refine hK _ _ (k+1) ρ1 pm1 ⟨hk,lou',flo',by rw[hH];exact I1.rel,I1.up,by rw[p1];exact I1.defers,by rw[p2];exact I1.size,hr.slot E.chk hcl hdst I1.size (eL.le_refl _) I1.slot (by rw[hg];exact .un),fun i oi ci h1 h2 h3 h4 h5=> ?_,only',I1.inj⟩ hlast'
     rw[xG (hkn i oi ci h1 h2)]at h5
     rw[hH]
     exact I1.pend i oi ci h1 h2 h3 (by omega) h5
theorem tK.done (E:tD P tb w0 ih all n S HH gg) (I:tK w0 ρb n all (S 0) HH gg D a w t ρ pm) (hall:∀i,i<all.length->D i=true):∃ρ',ρb.le ρ'∧gJ w0 ρ' (HH all.length) w∧iN ρ' n (S all.length) a:=by
 obtain⟨ρ1,pm1,I1,_⟩:=I.adoptTo E (all.length - t) t all.length ρ pm (by have:=I.tm;omega) (Nat.le_refl _) fun j oj h1 h2 hj=>by
  refine⟨?_,fun _=>hall j h2⟩
  cases hl:nJ oj.op with
  |false=>rfl
  |true=>have:=(I.lou j oj hj hl).1 (hall j h2);omega
 refine⟨ρ1,I1.up,I1.rel,I1.defers,I1.size,fun s g hg=> ?_⟩
 have hpm:∀h,pm1 h=none:=fun h=>by
  cases hq:pm1 h with
  |none=>rfl
  |some l=>
   obtain⟨i,oi,ci,h1,_,_,h4,_⟩:=I1.only h l hq
   have:=aV h1;omega
 have hj:Cv ρ1 pm1=ρ1:=by
  funext h
  unfold Cv
  rw[hpm]
  cases ρ1 h<;>rfl
 have hs:UJ all (S 0) gg D s g:=by
  rcases Gc E.trc all.length (Nat.le_refl _) hg with⟨i,o,h1,h2,h3,h4,h5⟩|⟨h1,h2⟩
  ·refine .inl ⟨i,o,hall i h1,h2,h3,h4,fun j oj hD hj hd=> ?_⟩
   rcases Nat.lt_or_ge i j with h|h
   ·exact absurd hd (h5 j oj h (aV hj) hj)
   ·exact h
  ·exact .inr ⟨fun j oj hD hj=>h1 j oj (aV hj) hj,h2⟩
 have:=I1.slot s g hs
 rwa[hj]at this
theorem M_ (E:tD P tb w0 ih all n S HH gg) {Q:Exit->Act->World->Prop} (hQ:∀ρ' a' w',ρb.le ρ'->gJ w0 ρ' (HH all.length) w'->iN ρ' n (S all.length) a'->Q .normal a' w'):
  ∀(fuel:Nat) (L:List Nat) (listed:Array Bool) (a:Act) (w:World) (t:Nat) (ρ pm:eL),L.length<=fuel->listed.size=all.length->(∀i,i<all.length->listed.getD i false=false->i∈L)->Cl all (fun j=>listed.getD j false)->
  tK w0 ρb n all (S 0) HH gg (fun j=>listed.getD j false) a w t ρ pm->Hy all (fun j=>listed.getD j false) t->Sx.wpAny P .any all.toArray Q fuel listed a w:=by
 intro fuel
 induction fuel with
 | zero =>
  intro L listed a w t ρ pm hlen hsz hmem hcl I hlast
  have hL:L=[]:=List.eq_nil_of_length_eq_zero (by omega)
  subst hL
  have hall:∀i,i<all.length->listed.getD i false=true:=fun i hi=>by
   cases hq:listed.getD i false with
   |true=>rfl
   |false=>have:=hmem i hi hq;simp at this
  refine⟨?_,?_⟩
  ·rw[List.eq_nil_iff_forall_not_mem]
   intro i hi
   obtain⟨h0,o,ho,_⟩:=mem_ready.1 hi
   have hlt:i<all.length:=by have:=(Array.getElem?_eq_some_iff.1 ho).1;simpa using this
   have:=hall i hlt
   have hs:i<listed.size:=by omega
   simp[hs]at this h0
   rw[h0]at this;cases this
  ·obtain⟨ρ',h0,h1,h2⟩:=I.done E hall
   exact hQ ρ' a w h0 h1 h2
 | succ fuel ihf =>
  intro L listed a w t ρ pm hlen hsz hmem hcl I hlast
  refine⟨fun hrd=> ?_,fun k hk=> ?_⟩
  ·have hall:∀i,i<all.length->listed.getD i false=true:=by
    intro i
    induction i using Nat.strongRecOn with
    | ind i ihi =>
     intro hi
     cases hq:listed.getD i false with
     |true=>rfl
     | false =>
      exfalso
      have ho:all[i]? = some all[i]:=List.getElem?_eq_getElem hi
      have hmr:i∈Region.ready .any all.toArray listed:=by
       refine mem_ready.2 ⟨?_,all[i],by simp,fun e he hb=> ?_⟩
       ·have hs:i<listed.size:=by omega
        simp[hs]at hq ⊢;exact hq
       ·have hee:e.on∈rB all[i]:=List.mem_map.2 ⟨e,List.mem_filter.2 ⟨by simpa using he,hb⟩,rfl⟩
        have:=(E.chk.edge i _ ho e.on hee).1
        exact ihi e.on this (by omega)
      rw[hrd]at hmr
      simp at hmr
   obtain⟨ρ',h0,h1,h2⟩:=I.done E hall
   exact hQ ρ' a w h0 h1 h2
  ·obtain⟨h0,o,ho',hedge⟩:=mem_ready.1 hk
   have ho:all[k]? = some o:=by simpa using ho'
   have hkl:k<all.length:=aV ho
   have hks:k<listed.size:=by omega
   have h0':listed.getD k false=false:=by simp[hks]at h0 ⊢;exact h0
   have hr:Ko all (fun j=>listed.getD j false) k o:=by
    refine⟨ho,h0',fun j hb hj=> ?_⟩
    obtain⟨_,e,he,hej⟩:=E.chk.trans k o ho j hb hj
    obtain⟨ed,hed,rfl⟩:=List.mem_map.1 he
    obtain⟨hed1,hed2⟩:=List.mem_filter.1 hed
    have hl:=hedge ed (by simpa using hed1) hed2
    rcases hej with rfl|hej
    ·exact hl
    ·exact hcl _ _ hl hej hj
   have hD:(fun j=>(listed.setIfInBounds k true).getD j false)=ins (fun j=>listed.getD j false) k:=by
    funext j
    by_cases e:j=k
    ·subst e;rw[yG];simp[hks]
    ·rw[xG e]
     exact getD_set_ne false (Ne.symm e)
   refine I.step E hcl hlast hr fun a' w' t' ρ' pm' I' hlast'=> ?_
   refine ihf (L.erase k) _ a' w' t' ρ' pm' ?_ (by simp[hsz]) (fun i hi hq=> ?_) ?_ (by rw[hD];exact I') (by rw[hD];exact hlast')
   ·have hm:=hmem k hkl h0'
    rw[List.length_erase_of_mem hm]
    omega
   ·have e:i≠k:=fun e=>by
     subst e
     have:=congrFun hD i
     rw[yG]at this
     rw[hq]at this;cases this
    have:listed.getD i false=false:=by
     have:=congrFun hD i
     rw[xG e]at this
     rw[<-this];exact hq
    exact(List.mem_erase_of_ne e).2 (hmem i hi this)
   ·rw[hD]
    intro j k' hj hb hk'
    by_cases e:j=k
    ·subst e;exact yF (hr.past k' hb hk')
    ·rw[xG e]at hj
     exact yF (hcl j k' hj hb hk')
theorem HV (hG:eB P tb) (hcall:∀w0:fU gs,oZ P w0 ih) (hm:P.follows .mixedOrders=true) {ops:List Oper} {id:Nat} (hops:ops.all (DK n)=true) (hc:chkF tb ops (lM ops)=true) {k:GS->RS} {s:GS} {out:IQ} {ρ:eL} {a:Act} {w:World} {Q:Exit->Act->World->Prop} (F:iN ρ n s.σ a) (R:gJ w0 ρ s.H w) (h:(BJ tb ih ops k ops s=some out∧BA ops kS=true)∨UD tb ih ops (lM ops) k ops 0 [] [] s=some out)
  (hk:∀s' ρ' a' w',k s'=some out->ρ.le ρ'->iN ρ' n s'.σ a'->gJ w0 ρ' s'.H w'->Q .normal a' w'):(Code.region id ops.toArray true).wpr none P Q a w:=by
 have hnd:ops.all fV=true:=List.all_eq_true.2 fun o hmo=>(qU (List.all_eq_true.1 hops o hmo)).1
 obtain⟨S,HH,gg,e1,e2,T,hvrs,hout⟩:∃S HH gg,S 0=s.σ∧HH 0=s.H∧RZ tb ih ops ops S HH gg∧(∀k ok h v,ops[k]? = some ok->kS ok.op=true->Rf (S k) ok.op=some h->(HH k).ver h=some v->
   (∀j oj,j<k->ops[j]? = some oj->dO oj.op=true->before (lM ops) k j=false->(HH j).ver h=some v)∧(∀j oj,k<j->ops[j]? = some oj->dO oj.op=true->before (lM ops) j k=false->(HH (j+1)).ver h=some v))∧k ⟨S ops.length,HH ops.length⟩=some out:=by
  rcases h with⟨h,ho⟩|h
  ·obtain⟨S,HH,gg,e1,e2,T,hout⟩:=GX ops s h
   refine⟨S,HH,gg,e1,e2,T,fun k ok h v hk hl _ _=>⟨fun j oj hjk hj hlj hb=> ?_,fun j oj hjk hj hlj hb=> ?_⟩,hout⟩
   ·rcases CV ho hk hj hl hlj with h1|h1
    ·rw[h1]at hb;cases hb
    ·have:=((Dx hc).trans j oj hj k h1 (aV hk)).1;omega
   ·rcases CV ho hk hj hl hlj with h1|h1
    ·have:=((Dx hc).trans k ok hk j h1 (aV hj)).1;omega
    ·rw[h1]at hb;cases hb
  ·obtain⟨S,HH,gg,e1,e2,T,V,hout⟩:=EI ops 0 [] [] s h
   exact⟨S,HH,gg,e1,e2,T,fun k ok h v hk hl hh hv=>by have:=V.lo k ok h v hk hl hh hv;simpa using this,hout⟩
 rw[<-e1]at F
 rw[<-e2]at R
 have E:tD P tb w0 ih ops n S HH gg:=⟨hG,hcall,hops,Dx hc,T,hvrs,Hk hG (hcall w0) hops T F R _ (Nat.le_refl _)⟩
 have hD:∀j,(Array.replicate ops.length false).getD j false=false:=fun j=>by
  by_cases h:j<ops.length<;>simp[h]
 refine Bt hnd hm ?_
 have hsz:ops.toArray.size=ops.length:=by simp
 rw[hsz]
 refine M_ (ρb:=ρ) E (fun ρ' a' w' h0 h1 h2=>hk ⟨S ops.length,HH ops.length⟩ ρ' a' w' hout h0 h2 h1) ops.length (List.range ops.length) _ a _ 0 ρ (fun _=>none) (by simp) (by simp) (fun i hi _=>List.mem_range.2 hi) (fun j k' hj=>by simp only[hD]at hj;cases hj) ?_ (.inl rfl)
 refine⟨Nat.zero_le _,fun j o _ _=>by simp only[hD];simp,fun j o _ _ h=>absurd h (Nat.not_lt_zero j),R.ext' ((Below.refl _ _).drew),eL.le_refl _,F.defers,F.size,fun s' g hs=> ?_,fun i o cs _ _ _ _ h5=>(by simp only[hD]at h5;cases h5),fun h l hp=>(by cases hp),fun h h' l l' hp=>(by cases hp)⟩
 rcases hs with⟨i,o,h1,_⟩|⟨_,h2⟩
 ·simp only[hD]at h1;cases h1
 ·exact(F.slot s' g h2).le CQ
end
end
section
def Do (tb:TB) (n:Nat):Code->Bool
 | .skip | .exit _ | .ret=>true
 | .region _ ops dr=>ops.toList.all (DK n)&&(!dr||chkF tb ops.toList (lM ops.toList))
 | .seq a b=>Do tb n a&&Do tb n b
 | .cond _ a b=>Do tb n a&&Do tb n b
 | .block _ b=>Do tb n b
 | .loop b=>Do tb n b
 |_=>false
section
variable {P:Program} {G:GP} {tb:TB} {Fs:FT} {gs:zH} {w0:fU gs}
def AR (P:Program) (body:Code) (Q:Exit->Act->World->Prop) (a:Act) (w:World):Prop:=
 ∀(b:Frame) (k:List Item) (cs:List Frame),b.roundOf=(FR none).round->(FR none).fn b.fn->(FR none).room (cs.length+1+0)->
  ∃e a' w',Q e a' w'∧ArrivesIn (Machine.fenced P (FR none)) P (lone (b.atR a (.code body :: .inLoop body::k)) cs w) b k cs e a' w'
theorem AR.loop {body:Code} {Q:Exit->Act->World->Prop} {a:Act} {w:World} (h:AR P body Q a w):(Code.loop body).wpr none P Q a w:=by
 intro b k cs hro hb hr
 obtain⟨e,a',w',hq,harr⟩:=h b k cs hro hb hr
 exact⟨e,a',w',hq,.of_steps (.one (fenced_calm hb hr rfl) stepR_loop) harr⟩
theorem AR.round {body:Code} {Q:Exit->Act->World->Prop} {a:Act} {w:World} (h:body.wpr none P (Exit.then (AR P body Q) Q) a w):AR P body Q a w:=by
 intro b k cs hro hb hr
 obtain⟨e,a₁,w₁,hq,harr⟩:=h b (.inLoop body::k) cs hro hb hr
 cases e with
 |normal=>
  obtain⟨e₂,a₂,w₂,hq₂,harr₂⟩:=hq b k cs hro hb hr
  exact⟨e₂,a₂,w₂,hq₂,.of_steps (StepsIn.trans harr (.one (fenced_calm hb hr rfl) stepR_inLoop)) harr₂⟩
 |exit id=>exact⟨_,a₁,w₁,hq,.pass (x:= .inLoop body) rfl (fun _ _=> .inl (by simp)) harr⟩
 |goto l=>exact⟨_,a₁,w₁,hq,.pass (x:= .inLoop body) rfl (fun _ _=> .inl (by simp)) harr⟩
 |ret=>exact⟨_,a₁,w₁,hq,.pass (x:= .inLoop body) rfl (fun _ _=> .inl (by simp)) harr⟩
 |panic ch=>exact⟨_,a₁,w₁,hq,.pass (x:= .inLoop body) rfl (fun _ _=> .inl (by simp)) harr⟩
 |outgrown=>exact⟨_,a₁,w₁,hq,.pass (x:= .inLoop body) rfl (fun _ _=> .inl (by simp)) harr⟩
noncomputable def EJ (cx:Cx) (id:Nat) (s:GS):RS:=some ⟨.exit id,zT s.σ (iS (zE cx.env id)),s.H⟩
structure NT {gs:zH} (w0:fU gs) (tb:TB) (n:Nat) (cx:Cx) (k:GS->RS) (out:IQ) (ρ:eL) (Q:Exit->Act->World->Prop):Prop where
 k:∀s' ρ' a' w',k s'=some out->ρ.le ρ'->iN ρ' n s'.σ a'->gJ w0 ρ' s'.H w'->Q .normal a' w'
 x:∀id s' ρ' a' w',EJ cx id s'=some out->ρ.le ρ'->iN ρ' n s'.σ a'->gJ w0 ρ' s'.H w'->Q (.exit id) a' w'
 r:∀s' ρ' a' w',KX tb cx s'=some out->ρ.le ρ'->iN ρ' n s'.σ a'->gJ w0 ρ' s'.H w'->Q .ret a' w'
def Dt (P:Program) {gs:zH} (w0:fU gs) (tb:TB) (lp:LH):Prop:=∀b cx vs H out,lp b cx vs H=some out->∀n σ ρ a w Q,Do tb n b=true->gW (iS (live (.loop b) 0 cx)) vs some=some σ->iN ρ n σ a->gJ w0 ρ H w->
 (∀id s' ρ' a' w',EJ cx id s'=some out->ρ.le ρ'->iN ρ' n s'.σ a'->gJ w0 ρ' s'.H w'->Q (.exit id) a' w')->
 (∀s' ρ' a' w',KX tb cx s'=some out->ρ.le ρ'->iN ρ' n s'.σ a'->gJ w0 ρ' s'.H w'->Q .ret a' w')->AR P b Q a w
theorem Im {cx:Cx} {s:GS} {out:IQ} (h:KX tb cx s=some out):out.e = .ret:=by
 obtain⟨vs,_,h⟩:=aE.1 (show ob (Jx tb s cx.res) _=some out from h)
 cases h;rfl
theorem yA {cx:Cx} {id:Nat} {s:GS} {out:IQ} (h:EJ cx id s=some out):out.e = .exit id:=by cases h;rfl
theorem KW {ks:List Nat} {s:GS} {out:IQ} (h:CY ks s=some out):out.e = .normal∧out.vs=zT s.σ ks∧out.H=s.H:=by cases h;exact⟨rfl,rfl,rfl⟩
theorem KI {n:Nat} {cx:Cx} {ks:List Nat} {k:GS->RS} {o out:IQ} {ρ:eL} {Q:Exit->Act->World->Prop} (L:NT w0 tb n cx k out ρ Q) (h:gW ks o.vs (fun σ=>k ⟨σ,o.H⟩)=some out) {s':GS} {ρ':eL} {a':Act} {w':World}
  (hv:o.vs=zT s'.σ ks) (hH:o.H=s'.H) (hle:ρ.le ρ') (F:iN ρ' n s'.σ a') (R:gJ w0 ρ' s'.H w'):Q .normal a' w':=by
 obtain⟨σ,h1,h2⟩:=nG h
 rw[hv]at h1
 exact L.k ⟨σ,o.H⟩ ρ' a' w' h2 hle (EO F h1) (by rw[hH];exact R)
theorem Ah {ch:CH} {lp:LH} (hG:eB P tb) (hm:P.follows .mixedOrders=true) (hcall:∀w0:fU gs,oZ P w0 ch) (hloop:Dt P w0 tb lp) {n:Nat}:∀(c:Code) (m:Nat) (cx:Cx) (k:GS->RS) (s:GS) (out:IQ) (ρ:eL) (a:Act) (w:World) (Q:Exit->Act->World->Prop),
  Do tb n c=true->QR tb ch lp c m cx k s=some out->iN ρ n s.σ a->gJ w0 ρ s.H w->NT w0 tb n cx k out ρ Q->c.wpr none P Q a w
 | .skip,m,cx,k,s,out,ρ,a,w,Q,_,h,F,R,L=>JZ (L.k s ρ a w h (eL.le_refl _) F R)
 | .region id ops dr, m, cx, k, s, out, ρ, a, w, Q, ho, h, F, R, L => by
  have ho':ops.toList.all (DK n)=true∧(!dr||chkF tb ops.toList (lM ops.toList))=true:=by simpa [Do]using ho
  have hnd:ops.toList.all fV=true:=List.all_eq_true.2 fun o hmo=>(qU (List.all_eq_true.1 ho'.1 o hmo)).1
  have h':Bool.casesOn (motive:=fun _=>RS) (Uu dr ops.toList) (BJ tb ch ops.toList k ops.toList s) (UD tb ch ops.toList (lM ops.toList) k ops.toList 0 [] [] s)=some out:=h
  have e:ops=ops.toList.toArray:=by simp
  cases dr with
  |false=>
   rw[e]
   exact qH hnd (CN hG (hcall w0) ops.toList s ρ a w ho'.1 F R h' L.k)
  | true =>
   rw[e]
   have hF:chkF tb ops.toList (lM ops.toList)=true:=by simpa using ho'.2
   have h2:(BJ tb ch ops.toList k ops.toList s=some out∧BA ops.toList kS=true)∨UD tb ch ops.toList (lM ops.toList) k ops.toList 0 [] [] s=some out:=by
    cases hwl:Uu true ops.toList with
    |true=>rw[hwl]at h';exact .inr h'
    |false=>
     rw[hwl]at h'
     have:(!BA ops.toList kS)=false:=hwl
     exact .inl ⟨h',by simpa using this⟩
   exact HV hG hcall hm ho'.1 hF F R h2 L.k
 | .seq x y,m,cx,k,s,out,ρ,a,w,Q,ho,h,F,R,L=>by
  have ho':Do tb n x=true∧Do tb n y=true:=by simpa [Do]using ho
  refine MF (Ah hG hm hcall hloop x (live y m cx) cx (QR tb ch lp y m cx k) s out ρ a w _ ho'.1 h F R ⟨fun s' ρ' a' w' hk hle F' R'=> ?_,L.x,L.r⟩)
  exact Ah hG hm hcall hloop y m cx k s' out ρ' a' w' Q ho'.2 hk F' R' ⟨fun s2 ρ2 a2 w2 h1 h2=>L.k s2 ρ2 a2 w2 h1 (eL.le_trans hle h2),fun id s2 ρ2 a2 w2 h1 h2=>L.x id s2 ρ2 a2 w2 h1 (eL.le_trans hle h2),fun s2 ρ2 a2 w2 h1 h2=>L.r s2 ρ2 a2 w2 h1 (eL.le_trans hle h2)⟩
 | .cond x thn els, m, cx, k, s, out, ρ, a, w, Q, ho, h, F, R, L => by
  have ho':Do tb n thn=true∧Do tb n els=true:=by simpa [Do]using ho
  obtain⟨v,hv,h⟩:=aE.1 (show ob (hN s.σ x) _=some out from h)
  obtain⟨b,hb,h⟩:=aE.1 h
  obtain⟨o,h1,h⟩:=aE.1 (show ob _ (fun o=>Ex.casesOn (motive:=fun _=>RS) o.e (gW (iS m) o.vs fun σ=>k ⟨σ,o.H⟩) (fun _=>some o) (some o))=some out from h)
  have hx:=cD F hv
  rw[AX hb]at hx
  have L':NT w0 tb n cx (CY (iS m)) o ρ Q:=by
   refine⟨fun s' ρ' a' w' hk hle F' R'=> ?_,fun id s' ρ' a' w' hk hle F' R'=> ?_,fun s' ρ' a' w' hk hle F' R'=> ?_⟩
   ·obtain⟨e1,e2,e3⟩:=KW hk
    rw[e1]at h
    exact KI L h e2 e3 hle F' R'
   ·have e1:=yA hk
    rw[e1]at h;cases h
    exact L.x id s' ρ' a' w' hk hle F' R'
   ·have e1:=Im hk
    rw[e1]at h;cases h
    exact L.r s' ρ' a' w' hk hle F' R'
  refine Br hx.bool_inv (fun hbt=> ?_) (fun hbf=> ?_)
  ·rw[hbt]at h1
   exact Ah hG hm hcall hloop thn m cx (CY (iS m)) s o ρ a w Q ho'.1 h1 F R L'
  ·rw[hbf]at h1
   exact Ah hG hm hcall hloop els m cx (CY (iS m)) s o ρ a w Q ho'.2 h1 F R L'
 | .block id b, m, cx, k, s, out, ρ, a, w, Q, ho, h, F, R, L => by
  have ho':Do tb n b=true:=by simpa [Do]using ho
  obtain⟨o2,h2,h⟩:=aE.1 (show ob (nB id (QR tb ch lp b m ⟨cx.res,cx.retm,(id,m)::cx.env⟩ (CY (iS m)) s)) (fun o=>Ex.casesOn (motive:=fun _=>RS) o.e (gW (iS m) o.vs fun σ=>k ⟨σ,o.H⟩) (fun _=>some o) (some o))=some out from h)
  obtain⟨o,h1,h2⟩:=aE.1 (show ob (QR tb ch lp b m ⟨cx.res,cx.retm,(id,m)::cx.env⟩ (CY (iS m)) s) (fun o=>Ex.casesOn (motive:=fun _=>RS) o.e (some o) (fun i=>Bool.casesOn (motive:=fun _=>RS) (Nat.beq i id) (some o) (some ⟨.normal,o.vs,o.H⟩)) (some o))=some o2 from h2)
  refine Ht (Ah hG hm hcall hloop b m _ (CY (iS m)) s o ρ a w _ ho' h1 F R ⟨fun s' ρ' a' w' hk hle F' R'=> ?_,fun i s' ρ' a' w' hk hle F' R'=> ?_,fun s' ρ' a' w' hk hle F' R'=> ?_⟩)
  ·obtain⟨e1,e2,e3⟩:=KW hk
   rw[e1]at h2;cases h2
   rw[e1]at h
   exact KI L h e2 e3 hle F' R'
  ·have e1:=yA hk
   rw[e1]at h2
   by_cases hi:i=id
   ·subst hi
    have hb:Nat.beq i i=true:=by simp
    simp only[hb]at h2
    cases h2
    show Exit.inBlock i Q (.exit i) a' w'
    simp only[Exit.inBlock,if_true]
    have hk':o=⟨.exit i,zT s'.σ (iS (zE ((i,m)::cx.env) i)),s'.H⟩:=by cases hk;rfl
    have he:zE ((i,m)::cx.env) i=m:=by
     show(bif Nat.beq i i then m else zE cx.env i)=m
     rw[hb];rfl
    rw[he]at hk'
    exact KI (o:=⟨.normal,o.vs,o.H⟩) L h (by rw[hk']) (by rw[hk']) hle F' R'
   ·have hb:Nat.beq i id=false:=kR hi
    simp only[hb]at h2
    cases h2
    rw[e1]at h
    cases h
    show Exit.inBlock id Q (.exit i) a' w'
    simp only[Exit.inBlock,if_neg hi]
    refine L.x i s' ρ' a' w' ?_ hle F' R'
    have he:zE ((id,m)::cx.env) i=zE cx.env i:=by
     show(bif Nat.beq id i then m else zE cx.env i)=_
     rw[kR (Ne.symm hi)];rfl
    rw[<-hk]
    show EJ cx i s'=some ⟨.exit i,zT s'.σ (iS (zE ((id,m)::cx.env) i)),s'.H⟩
    rw[he];rfl
  ·have e1:=Im hk
   rw[e1]at h2;cases h2
   rw[e1]at h;cases h
   exact L.r s' ρ' a' w' hk hle F' R'
 | .loop b,m,cx,k,s,out,ρ,a,w,Q,ho,h,F,R,L=>by
  have ho':Do tb n b=true:=by simpa [Do]using ho
  have h':lp b cx (zT s.σ (iS (live (.loop b) 0 cx))) s.H=some out:=h
  have hun:=Ij s.σ (iS (live (.loop b) 0 cx))
  obtain⟨σ,hσ⟩:=hun
  exact AR.loop (hloop b cx _ s.H out h' n σ ρ a w Q ho' hσ (EO F hσ) R L.x L.r)
 | .exit id,m,cx,k,s,out,ρ,a,w,Q,_,h,F,R,L=>JX (L.x id s ρ a w h (eL.le_refl _) F R)
 | .ret,m,cx,k,s,out,ρ,a,w,Q,_,h,F,R,L=>ME (L.r s ρ a w h (eL.le_refl _) F R)
 | .rangeFunc _ _ _ _,m,cx,k,s,out,ρ,a,w,Q,ho,_,_,_,_=>by simp[Do]at ho
 | .scope _,m,cx,k,s,out,ρ,a,w,Q,ho,_,_,_,_=>by simp[Do]at ho
 | .label _,m,cx,k,s,out,ρ,a,w,Q,ho,_,_,_,_=>by simp[Do]at ho
 | .goto _,m,cx,k,s,out,ρ,a,w,Q,ho,_,_,_,_=>by simp[Do]at ho
 | .refuse _,m,cx,k,s,out,ρ,a,w,Q,ho,_,_,_,_=>by simp[Do]at ho
theorem Rw (hG:eB P tb) {n:Nat} {s:GS} {ρ:eL} {a:Act} {w:World} (F:iN ρ n s.σ a) (R:gJ w0 ρ s.H w) {r:ResultVar} {g:GV} (h:Uf tb s r=some g):∃v,Rl ρ g v∧(Dc a.tmps r).run P w = .ok v w:=by
 cases r with
 |tmp t=>exact⟨_,F.slot t g h,by simp[Dc,Act.eval]⟩
 |cell q T=>
  obtain⟨v,hv,h⟩:=aE.1 (show ob (BG s.σ q) _=some g from h)
  have hs:=F.slot q v hv
  obtain⟨x,_,_,_,_,_,hx,hr⟩:=Ge (P:=P) hG R hs h
  have hr:=hr w rfl
  refine⟨x,hx,?_⟩
  obtain⟨p,hp,_⟩:=aE.1 (show ob v.asP _=some g from h)
  rw[AY hp]at hs
  obtain⟨l,hl,e⟩:=hs.ptr_inv
  have e':a.tmps.getD q undef = .pointer (some ⟨l.b,l.off+p.2,none⟩):=e
  rw[e]at hr
  simp only[Instr.loadAt,Instr.sureAddr]at hr
  simp only[Dc,e',asAddr]
  simpa using hr
theorem Jy (hG:eB P tb) {n:Nat} {s:GS} {ρ:eL} {a:Act} {w:World} (F:iN ρ n s.σ a) (R:gJ w0 ρ s.H w):∀{l:List ResultVar} {gs:List GV},Jx tb s l=some gs->∃vs,tP ρ gs vs∧(l.mapM (Dc a.tmps)).run P w = .ok vs w
 | [],gs,h=>by cases h;exact⟨[],.nil,by simp⟩
 |r::l,gs,h=>by
  obtain⟨g,hg,h⟩:=aE.1 (show ob (Uf tb s r) (fun v=>ob (Jx tb s l) fun vs=>some (v::vs))=some gs from h)
  obtain⟨gs',hgs,h⟩:=aE.1 h
  cases h
  obtain⟨v,hv,h1⟩:=Rw (P:=P) hG F R hg
  obtain⟨vs,hvs,h2⟩:=Jy hG F R hgs
  exact⟨v::vs,.cons hv hvs,by simp[List.mapM_cons,h1,h2]⟩
theorem Pm {ρ:eL} {gs:List GV} {vs:List Value} (h:tP ρ gs vs):Rl ρ (Np gs) (if h:vs.toArray.size=1 then vs.toArray[0]else .tuple vs.toArray):=by
 cases gs with
 |nil=>rw[h.of_nil];exact EE .nil
 | cons g gs =>
  obtain⟨v,vs,rfl,h1,h2⟩:=h.of_cons
  cases gs with
  |nil=>rw[h2.of_nil];show Rl ρ g _;simpa using h1
  |cons g' gs=>
   obtain⟨v',vs',rfl,h3,h4⟩:=h2.of_cons
   rw[dif_neg (by simp)]
   exact EE (.cons h1 (.cons h3 h4))
theorem CZ (hG:eB P tb) {fn:Func} {cx:Cx} (hcx:cx.res=fn.results.toList) {n:Nat} {s:GS} {ρ:eL} {a:Act} {w:World} {out:IQ} (F:iN ρ n s.σ a) (R:gJ w0 ρ s.H w) (h:KX tb cx s=some out):out.H=s.H∧∃v,Rl ρ (Np out.vs) v∧(results fn a.tmps).run P w = .ok v w:=by
 obtain⟨gs,hgs,h⟩:=aE.1 (show ob (Jx tb s cx.res) _=some out from h)
 cases h
 obtain⟨vs,hvs,hr⟩:=Jy (P:=P) hG F R hgs
 rw[hcx]at hr
 refine⟨rfl,_,Pm hvs,?_⟩
 rw[Cn]
 have hm:(fn.results.mapM (Dc a.tmps)).run P w = .ok vs.toArray w:=by
  rw[Array.mapM_eq_mapM_toList]
  simp[hr]
 simp[hm]
structure Uv (P:Program) (G:GP) (Fs:FT) {gs:zH} (w0:fU gs):Prop where
 tab:eB P G.tab
 mixed:P.follows .mixedOrders=true
 fns:∀{f fn},Fs f=some fn->P.funcs[f]? = some fn∧bE P f∧(∀c,fn.body=some c->Do G.tab fn.ntmps c=true)∧fn.params.size+fn.nfree<=fn.ntmps
 ext:∀{f us H g H'},G.ext f us H=some (g,H')->∀ρ w vs,gJ w0 ρ H w->tP ρ us vs->sI P w0 ρ f vs w g H'
 exn:∀{f us g},G.exn f us=some g->∀ρ w vs H,gJ w0 ρ H w->tP ρ us vs->sI P w0 ρ f vs w g H
 /-- the function that catches returns 0 and 0 if its argument returns;its two variables are new objects -/
 cat:∀{ρ:eL} {g us cs w H H' c1 c2},gJ w0 ρ H w->(∀ρ' w',ρ.le ρ'->gJ w0 ρ' ((H.new (.cells [vG])).new (.cells [vG])) w'->∃x,sI P w0 ρ' g (us++cs) w' x H')->H'.cells H.n=some [c1]->H'.cells (H.n+1)=some [c2]->
  sI P w0 ρ G.cat [.func (.func g) us.toArray cs.toArray] w (.tup [vG,vG]) ((((H'.set H.n (.cells [vG])).set (H.n+1) (.cells [vG])).del H.n).del (H.n+1))
def NO (P:Program) {gs:zH} (w0:fU gs) (ih:IH):Prop:=∀f us H out,ih (.fn f) us H=some out->out.e = .ret->∀ρ w vs,gJ w0 ρ H w->tP ρ us vs->
 bE P f∧Calls P f vs.toArray w fun e w'=>∃v ρ',e = .returned v∧ρ.le ρ'∧gJ w0 ρ' out.H w'∧Rl ρ' (Np out.vs) v
theorem Ja {ih:IH} (h:NO P w0 ih):oZ P w0 (US ih):=fun f us H g H' hc ρ w vs R hr=>by
 obtain⟨o,h1,h2⟩:=aE.1 (show ob (ih (.fn f) us H) _=some (g,H')from hc)
 cases he:o.e with
 |normal=>rw[he]at h2;cases h2
 |exit id=>rw[he]at h2;cases h2
 |ret=>
  rw[he]at h2;cases h2
  obtain⟨hb,hcalls⟩:=h f us H o h1 he ρ w vs R hr
  exact .inr ⟨hb _ w,hcalls⟩
theorem Fi {ih:IH} (hG:Uv P G Fs w0) (h:NO P w0 ih):oZ P w0 (Ba G ih):=fun f us H g H' hc ρ w vs R hr=>by
 unfold Ba callQ at hc
 cases hf:Nat.beq f G.cat with
 | false =>
  rw[hf]at hc
  cases he:G.ext f us H with
  |some r=>
   simp only[he]at hc
   cases hc
   exact hG.ext he ρ w vs R hr
  | none =>
   simp only[he]at hc
   cases hn:G.exn f us with
   |some r=>
    simp only[hn]at hc
    cases hc
    exact hG.exn hn ρ w vs _ R hr
   |none=>
    simp only[hn]at hc
    exact Ja h f us H g H' hc ρ w vs R hr
 | true =>
  rw[hf]at hc
  have hf:=Nat.eq_of_beq_eq_true hf
  subst hf
  cases us with
  |nil=>cases hc
  | cons u us =>
   cases us with
   |cons _ _=>cases hc
   |nil=>
    obtain⟨p,hp,hc⟩:=aE.1 (show ob u.asF _=some (g,H')from hc)
    rw[gN,gN]at hc
    obtain⟨x,hx,hc⟩:=aE.1 hc
    obtain⟨c1,hc1,hc⟩:=aE.1 hc
    obtain⟨c2,hc2,hc⟩:=aE.1 hc
    obtain⟨hl1,hc⟩:=bL.1 hc
    obtain⟨hl2,hc⟩:=bL.1 hc
    rw[vJ,vJ,BX,BX]at hc
    cases hc
    obtain⟨a1,rfl⟩:=List.length_eq_one_iff.1 (Nat.eq_of_beq_eq_true hl1)
    obtain⟨a2,rfl⟩:=List.length_eq_one_iff.1 (Nat.eq_of_beq_eq_true hl2)
    obtain⟨v,vs,rfl,h1,h2⟩:=hr.of_cons
    rw[h2.of_nil]
    rw[Of hp]at h1
    obtain⟨us',cs',rfl,hu,hcs⟩:=h1.fn_inv
    exact hG.cat R (fun ρ' w' hle R'=>⟨x.1,Ja h p.1 _ _ x.1 x.2 hx ρ' w' _ R' ((hu.le hle).append (hcs.le hle))⟩) hc1 hc2
theorem TF {ih:IH} (hG:∀w0:fU gs,Uv P G Fs w0) (hfn:∀w0:fU gs,NO P w0 ih) (hloop:Dt P w0 G.tab fun b cx=>ih (.loop b cx)) {f:Nat} {fn:Func} {us:List GV} {H:GH} {out:IQ} (hf:Fs f=some fn) (h:MZ G.tab (Ba G ih) (fun b cx=>ih (.loop b cx)) fn us H=some out) (he:out.e = .ret) {ρ:eL} {w:World} {vs:List Value} (R:gJ w0 ρ H w) (hr:tP ρ us vs):
  bE P f∧Calls P f vs.toArray w fun e w'=>∃v ρ',e = .returned v∧ρ.le ρ'∧gJ w0 ρ' out.H w'∧Rl ρ' (Np out.vs) v:=by
 obtain⟨h1,h2,h3,h4⟩:=(hG w0).fns hf
 refine⟨h2,?_⟩
 obtain⟨body,hb,h⟩:=aE.1 (show ob fn.body _=some out from h)
 obtain⟨σ,hσ,h⟩:=nG h
 rw[List.range_eq_range']at hσ
 have hlen:=Ff hσ
 have hvl:vs.length<=fn.ntmps:=by rw[<-hr.len,hlen];exact h4
 refine Ag h1 hb ?_
 have F:iN ρ fn.ntmps σ {tmps:=vs.toArray++Array.replicate (fn.ntmps - vs.toArray.size) undef,defers:=[]}:=by
  refine HD rfl (by simp;omega) hr (fun j v hv=> ?_) hσ
  have hlt:=aV hv
  rw[Nat.zero_add,Array.getElem?_append_left (by simpa using hlt)]
  simpa using hv
 refine Ah (hG w0).tab (hG w0).mixed (fun w0=>Fi (hG w0) (hfn w0)) hloop body _ _ _ ⟨σ,H⟩ out ρ _ w _ (h3 body hb) h F R ⟨fun s' ρ' a' w' hk hle' F' R'=> ?_,fun id s' ρ' a' w' hk hle' F' R'=> ?_,fun s' ρ' a' w' hk hle' F' R'=> ?_⟩
 ·obtain⟨e1,v,hv,hres⟩:=CZ (fn:=fn) (hG w0).tab rfl F' R' hk
  exact Sx.body_end (.inr rfl) F'.defers hres ⟨v,ρ',rfl,hle',by rw[e1];exact R',hv⟩
 ·have:=yA hk
  rw[he]at this;cases this
 ·obtain⟨e1,v,hv,hres⟩:=CZ (fn:=fn) (hG w0).tab rfl F' R' hk
  exact Sx.body_end (.inl rfl) F'.defers hres ⟨v,ρ',rfl,hle',by rw[e1];exact R',hv⟩
theorem Uh (hG:∀w0:fU gs,Uv P G Fs w0):∀(fuel:Nat) (w0:fU gs),NO P w0 (run G Fs fuel)∧Dt P w0 G.tab fun b cx=>run G Fs fuel (.loop b cx):=by
 intro fuel
 induction fuel with
 |zero=>exact fun w0=>⟨fun f us H out h=>(by cases h),fun b cx vs H out h=>(by cases h)⟩
 | succ fuel ih =>
  have ihf:∀w0:fU gs,NO P w0 (run G Fs fuel):=fun w0=>(ih w0).1
  intro w0
  have ihl:=(ih w0).2
  refine⟨fun f us H out h he ρ w vs R hr=> ?_,fun b cx vs H out h n σ ρ a w Q ho hσ F R hx hret=> ?_⟩
  ·obtain⟨fn,hfn,h⟩:=aE.1 (show ob (Fs f) _=some out from h)
   exact TF hG ihf ihl hfn h he R hr
  ·have h':gW (iS (live (.loop b) 0 cx)) vs (fun σ=>ob (QR G.tab (Ba G (run G Fs fuel)) (fun b cx=>run G Fs fuel (.loop b cx)) b (live (.loop b) 0 cx) cx (CY (iS (live (.loop b) 0 cx))) ⟨σ,H⟩) fun o=>Ex.casesOn (motive:=fun _=>RS) o.e (run G Fs fuel (.loop b cx) o.vs o.H) (fun _=>some o) (some o))=some out:=h
   obtain⟨σ',hσ',h'⟩:=nG h'
   rw[hσ]at hσ';cases hσ'
   obtain⟨o,h1,h2⟩:=aE.1 h'
   refine AR.round (Ah (hG w0).tab (hG w0).mixed (fun w0=>Fi (hG w0) (ihf w0)) ihl b _ cx _ ⟨σ,H⟩ o ρ a w _ ho h1 F R ⟨fun s' ρ' a' w' hk hle F' R'=> ?_,fun id s' ρ' a' w' hk hle F' R'=> ?_,fun s' ρ' a' w' hk hle F' R'=> ?_⟩)
   ·obtain⟨e1,e2,e3⟩:=KW hk
    rw[e1,e2,e3]at h2
    obtain⟨σ2,hσ2⟩:=Ij s'.σ (iS (live (.loop b) 0 cx))
    exact ihl b cx _ s'.H out h2 n σ2 ρ' a' w' Q ho hσ2 (EO F' hσ2) R' (fun id s2 ρ2 a2 w2 x1 x2=>hx id s2 ρ2 a2 w2 x1 (eL.le_trans hle x2)) (fun s2 ρ2 a2 w2 x1 x2=>hret s2 ρ2 a2 w2 x1 (eL.le_trans hle x2))
   ·have e1:=yA hk
    rw[e1]at h2;cases h2
    exact hx id s' ρ' a' w' hk hle F' R'
   ·have e1:=Im hk
    rw[e1]at h2;cases h2
    exact hret s' ρ' a' w' hk hle F' R'
theorem OC (hG:∀w0:fU gs,Uv P G Fs w0) {fuel f:Nat} {us:List GV} {H H':GH} {g:GV} (h:OB G Fs fuel f us H=some (g,H')) {ρ:eL} {w:World} {vs:List Value} (R:gJ w0 ρ H w) (hr:tP ρ us vs):sI P w0 ρ f vs w g H':=
 Fi (hG w0) (Uh hG fuel w0).1 f us H g H' h ρ w vs R hr
theorem GN (b:fU gs) (he:gs.env=[]):gJ b (fun _=>none) H0 b.w:=⟨AQ.refl _,fun h o hg=>(by cases hg),fun h h' o o' l l' hg=>(by cases hg),fun _ _=>rfl,fun h hh=>absurd hh (Nat.not_lt_zero h),fun h v l hv=>(by cases hv),fun i v e=>by rw[he]at e;simp at e⟩
end
end
end Go.Gx
end
section
namespace Go.Gx
open Go Go.Sx
noncomputable section
def oN (vs:List GV) (H:GH):RS:=some ⟨.normal,vs,H⟩
def oX (id:Nat) (vs:List GV) (H:GH):RS:=some ⟨.exit id,vs,H⟩
def oR (vs:List GV) (H:GH):RS:=some ⟨.ret,vs,H⟩
def jn (r:RS) (k:List GV->GH->RS):RS:=ob r fun o=>Ex.casesOn (motive:=fun _=>RS) o.e (k o.vs o.H) (fun _=>some o) (some o)
def rG (v:GV) (b:Bool) (H:GH) (X:OR):OR:=GV.casesOn (motive_1:=fun _=>OR) v (fun _ _=>none) (fun q=>Bool.casesOn (motive:=fun _=>OR) (LA q b) (some (.un,H)) X) (fun _ _=>none) (fun _ _=>none) none (fun _ _ _ _=>none) none (fun _=>none) (fun _ _ _=>none) none none (fun _=>none) (fun _=>none) (some (.un,H)) none (fun _=>none)
def U0 {R:Type} (r0:List GV) (f:Option R):Option R:=List.casesOn (motive:=fun _=>Option R) r0 (f) fun _ _=>none
def U1 {R:Type} (r0:List GV) (f:GV->Option R):Option R:=List.casesOn (motive:=fun _=>Option R) r0 none fun a0 r1=>List.casesOn (motive:=fun _=>Option R) r1 (f a0) fun _ _=>none
def U2 {R:Type} (r0:List GV) (f:GV->GV->Option R):Option R:=List.casesOn (motive:=fun _=>Option R) r0 none fun a0 r1=>List.casesOn (motive:=fun _=>Option R) r1 none fun a1 r2=>List.casesOn (motive:=fun _=>Option R) r2 (f a0 a1) fun _ _=>none
def U3 {R:Type} (r0:List GV) (f:GV->GV->GV->Option R):Option R:=List.casesOn (motive:=fun _=>Option R) r0 none fun a0 r1=>List.casesOn (motive:=fun _=>Option R) r1 none fun a1 r2=>List.casesOn (motive:=fun _=>Option R) r2 none fun a2 r3=>List.casesOn (motive:=fun _=>Option R) r3 (f a0 a1 a2) fun _ _=>none
def U4 {R:Type} (r0:List GV) (f:GV->GV->GV->GV->Option R):Option R:=List.casesOn (motive:=fun _=>Option R) r0 none fun a0 r1=>List.casesOn (motive:=fun _=>Option R) r1 none fun a1 r2=>List.casesOn (motive:=fun _=>Option R) r2 none fun a2 r3=>List.casesOn (motive:=fun _=>Option R) r3 none fun a3 r4=>List.casesOn (motive:=fun _=>Option R) r4 (f a0 a1 a2 a3) fun _ _=>none
def U5 {R:Type} (r0:List GV) (f:GV->GV->GV->GV->GV->Option R):Option R:=List.casesOn (motive:=fun _=>Option R) r0 none fun a0 r1=>List.casesOn (motive:=fun _=>Option R) r1 none fun a1 r2=>List.casesOn (motive:=fun _=>Option R) r2 none fun a2 r3=>List.casesOn (motive:=fun _=>Option R) r3 none fun a3 r4=>List.casesOn (motive:=fun _=>Option R) r4 none fun a4 r5=>List.casesOn (motive:=fun _=>Option R) r5 (f a0 a1 a2 a3 a4) fun _ _=>none
def U6 {R:Type} (r0:List GV) (f:GV->GV->GV->GV->GV->GV->Option R):Option R:=List.casesOn (motive:=fun _=>Option R) r0 none fun a0 r1=>List.casesOn (motive:=fun _=>Option R) r1 none fun a1 r2=>List.casesOn (motive:=fun _=>Option R) r2 none fun a2 r3=>List.casesOn (motive:=fun _=>Option R) r3 none fun a3 r4=>List.casesOn (motive:=fun _=>Option R) r4 none fun a4 r5=>List.casesOn (motive:=fun _=>Option R) r5 none fun a5 r6=>List.casesOn (motive:=fun _=>Option R) r6 (f a0 a1 a2 a3 a4 a5) fun _ _=>none
def U7 {R:Type} (r0:List GV) (f:GV->GV->GV->GV->GV->GV->GV->Option R):Option R:=List.casesOn (motive:=fun _=>Option R) r0 none fun a0 r1=>List.casesOn (motive:=fun _=>Option R) r1 none fun a1 r2=>List.casesOn (motive:=fun _=>Option R) r2 none fun a2 r3=>List.casesOn (motive:=fun _=>Option R) r3 none fun a3 r4=>List.casesOn (motive:=fun _=>Option R) r4 none fun a4 r5=>List.casesOn (motive:=fun _=>Option R) r5 none fun a5 r6=>List.casesOn (motive:=fun _=>Option R) r6 none fun a6 r7=>List.casesOn (motive:=fun _=>Option R) r7 (f a0 a1 a2 a3 a4 a5 a6) fun _ _=>none
def U9 {R:Type} (r0:List GV) (f:GV->GV->GV->GV->GV->GV->GV->GV->GV->Option R):Option R:=List.casesOn (motive:=fun _=>Option R) r0 none fun a0 r1=>List.casesOn (motive:=fun _=>Option R) r1 none fun a1 r2=>List.casesOn (motive:=fun _=>Option R) r2 none fun a2 r3=>List.casesOn (motive:=fun _=>Option R) r3 none fun a3 r4=>List.casesOn (motive:=fun _=>Option R) r4 none fun a4 r5=>List.casesOn (motive:=fun _=>Option R) r5 none fun a5 r6=>List.casesOn (motive:=fun _=>Option R) r6 none fun a6 r7=>List.casesOn (motive:=fun _=>Option R) r7 none fun a7 r8=>List.casesOn (motive:=fun _=>Option R) r8 none fun a8 r9=>List.casesOn (motive:=fun _=>Option R) r9 (f a0 a1 a2 a3 a4 a5 a6 a7 a8) fun _ _=>none
def Lb:List Nat->Code->Code
 | [],c=>c
 |0::p,.seq a _=>Lb p a
 |1::p,.seq _ b=>Lb p b
 |0::p,.cond _ a _=>Lb p a
 |1::p,.cond _ _ b=>Lb p b
 |0::p,.block _ b=>Lb p b
 |0::p,.loop b=>Lb p b
 |_,c=>c
def dH (fn:Func) (p:List Nat):Code:=match fn.body with
 |some c=>Lb p c
 |none=> .skip
def jR (fn:Func) (env:Dj):Cx:=⟨fn.results.toList,ER fn.results.toList,env⟩
abbrev f_:=CH->QH->List GV->GH->RS
structure Fb where
 fn:Nat->Option (Func×f_)
 lp:Nat->Option ((Code×Cx)×f_)
def Fb.fns (T:Fb) (f:Nat):Option Func:=ob (T.fn f) fun e=>some e.1
def Fb.loop (T:Fb) (lp:LH):QH:=fun i vs H=>ob (T.lp i) fun e=>lp e.1.1 e.1.2 vs H
def rr (T:Fb) (G:GP) (n:Nat):Bool->QH:=Nat.rec (motive:=fun _=>Bool->QH) (fun _ _ _ _=>none) (fun _ ih b t vs H=>Bool.casesOn (motive:=fun _=>RS) b (ob (T.fn t) fun e=>e.2 (callQ G (ih false)) (ih true) vs H) (ob (T.lp t) fun e=>e.2 (callQ G (ih false)) (ih true) vs H)) n
structure Kr (T:Fb) (tb:TB):Prop where
 fn:∀{f e},T.fn f=some e->∀(c:CH) (lp:LH) us H,e.2 c (T.loop lp) us H=MZ tb c lp e.1 us H
 lp:∀{i e},T.lp i=some e->∀(c:CH) (lp:LH) us H,e.2 c (T.loop lp) us H=UC tb c lp e.1.1 e.1.2 us H
theorem Vx {T:Fb} {G:GP} (h:Kr T G.tab):∀n,rr T G n false=(fun f us H=>run G T.fns n (.fn f) us H)∧rr T G n true=T.loop (fun b cx=>run G T.fns n (.loop b cx)):=by
 intro n
 induction n with
 |zero=>
  refine⟨rfl,?_⟩
  funext i vs H
  show none=ob (T.lp i) fun e=>none
  cases T.lp i<;>rfl
 | succ n ih =>
  obtain⟨ih1,ih2⟩:=ih
  constructor
  ·funext f us H
   show ob (T.fn f) (fun e=>e.2 (callQ G (rr T G n false)) (rr T G n true) us H)=ob (T.fns f) fun fn=>MZ G.tab (Ba G (run G T.fns n)) (fun b cx=>run G T.fns n (.loop b cx)) fn us H
   unfold Fb.fns
   cases hf:T.fn f with
   |none=>rfl
   |some e=>
    show e.2 (callQ G (rr T G n false)) (rr T G n true) us H=MZ G.tab (Ba G (run G T.fns n)) (fun b cx=>run G T.fns n (.loop b cx)) e.1 us H
    rw[ih1,ih2]
    exact h.fn hf _ _ us H
  ·funext i vs H
   show ob (T.lp i) (fun e=>e.2 (callQ G (rr T G n false)) (rr T G n true) vs H)=ob (T.lp i) fun e=>run G T.fns (n+1) (.loop e.1.1 e.1.2) vs H
   cases hf:T.lp i with
   |none=>rfl
   |some e=>
    show e.2 (callQ G (rr T G n false)) (rr T G n true) vs H=UC G.tab (Ba G (run G T.fns n)) (fun b cx=>run G T.fns n (.loop b cx)) e.1.1 e.1.2 vs H
    rw[ih1,ih2]
    exact h.lp hf _ _ vs H
theorem Sj {α:Type} {f i:Nat} {x e:α} {R:α->Prop} (h:R x):(bif Nat.beq f i then some x else none)=some e->R e:=by
 cases Nat.beq f i
 ·exact fun h=>by cases h
 ·exact fun e=>by cases e;exact h
def TS (tb:TB) (fn:Func):Bool:=match fn.body with
 |some c=>Do tb fn.ntmps c&&Nat.ble (fn.params.size+fn.nfree) fn.ntmps
 |none=>false
theorem Js {tb:TB} {fn:Func} (h:TS tb fn=true):(∀c,fn.body=some c->Do tb fn.ntmps c=true)∧fn.params.size+fn.nfree<=fn.ntmps:=by
 unfold TS at h
 cases hb:fn.body with
 |none=>rw[hb]at h;cases h
 |some c=>
  rw[hb]at h
  simp only[Bool.and_eq_true]at h
  exact⟨fun c' hc=>by cases hc;exact h.1,by simpa using h.2⟩
def OD (T:Fb) (G:GP) (fuel:Nat) (f:FuncId) (args:List GV) (H:GH):OR:=callQ G (rr T G fuel false) f args H
theorem OE {T:Fb} {G:GP} (h:Kr T G.tab) (fuel:Nat) (f:FuncId) (args:List GV) (H:GH):OD T G fuel f args H=OB G T.fns fuel f args H:=by
 unfold OD OB Ba
 rw[(Vx h fuel).1]
end
end Go.Gx
end
