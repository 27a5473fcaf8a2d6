/- Models and proofs. Conditions: none. -/
import Derived.Test.YtjlbcgddhnjcjaaGreatDoorZCWi2
import Derived.Test.YtjlbcgddhnjcjaaGreatDoorZCWi7
import Derived.Test.YtjlbcgddhnjcjaaGreatDoorZCWi5
import Derived.Test.YtjlbcgddhnjcjaaGreatDoorZCWi6
import Derived.Test.YtjlbcgddhnjcjaaGreatDoorZCWi1
import Derived.OpenShut
import Derived.LaidLaws
import Derived.LaidHandle
import Derived.Lay
import Derived.MakeChecks
set_option linter.unusedVariables false
set_option linter.unusedSimpArgs false
set_option maxHeartbeats 4000000
set_option maxRecDepth 20000
section
namespace Go.Proofs.YtjlbcgddhnjcjaaGreatDoor
open Go.Sx
def lG  (a5:dM):Option c_:=
 some (a5.1,a5.2)
def lH (p0:Kq) (a12:Int×Int×Int×aL) (ag11:(Int×Int×Int×aL)->Option c_) (a18:oU):Option c_:=
 ag11 ((CU .u32 a12.1 (at' p0.1 a12.2.2.1)),a18.1,(wI .i64 (a12.2.2.1+(1:Int))),a18.2)
def iX (p0:Kq) (a12:Int×Int×Int×aL) (ag11:(Int×Int×Int×aL)->Option c_) (a25:Int×Int×aL) (ag24:(Int×Int×aL)->Option c_):Option c_:=
 if a25.2.1<(24:Int)then(ck ((0<=a25.2.1∧a25.2.1<((24:Nat):Int))∧List.length a25.2.2=24) (ck (0<=a25.2.1) (ck ((0<=a25.2.1∧a25.2.1<((24:Nat):Int))∧List.length a25.2.2=24) (ck ((0<=a25.2.1∧a25.2.1<((24:Nat):Int))∧List.length (List.set a25.2.2 (Int.toNat a25.2.1) (wI .i64 ((at' a25.2.2 a25.2.1)+(wI .i64 (cH .u32 (mH .u32 (at' p0.1 a12.2.2.1) a25.2.1) (1:Int))))))=24) (ag24 ((max a25.1 (at' (List.set a25.2.2 (Int.toNat a25.2.1) (wI .i64 ((at' a25.2.2 a25.2.1)+(wI .i64 (cH .u32 (mH .u32 (at' p0.1 a12.2.2.1) a25.2.1) (1:Int)))))) a25.2.1)),(wI .i64 (a25.2.1+(1:Int))),(List.set a25.2.2 (Int.toNat a25.2.1) (wI .i64 ((at' a25.2.2 a25.2.1)+(wI .i64 (cH .u32 (mH .u32 (at' p0.1 a12.2.2.1) a25.2.1) (1:Int))))))))))))else(lH p0 a12 ag11 (a25.1,a25.2.2))
def eV (U:Nat) (p0:Kq) (a12:Int×Int×Int×aL) (ag11:(Int×Int×Int×aL)->Option c_):Option c_:=
 if a12.2.2.1<(List.length p0.1:Int)then(ck (0<=a12.2.2.1∧a12.2.2.1<(List.length p0.1:Int)) (bD (iX p0 a12 ag11) U (a12.2.1,(0:Int),a12.2.2.2)))else(lG  (a12.1,a12.2.1))
def eF (U:Nat) (p0:Kq):Option c_:=
 bD (eV U p0) U ((0:Int),(0:Int),(0:Int),(List.replicate 24 (0:Int)))
theorem PZ:aN Tryz.prog 46:=Tryz.call46
theorem uS (U:Nat) {p0:Kq} (v0:Value)  (v1:Value)  (v2:Value)  (z3:qK) (r:dM) (h:eF U p0=some r):
  aT Tryz.prog 46 #[Value.agg #[v0,v1,v2,vI (p0.2.2.2.1),vI (p0.2.2.2.2.1),vI (p0.2.2.2.2.2.1),vI (p0.2.2.2.2.2.2.1),vU (p0.2.2.2.2.2.2.2)]] [Sl sW v0 p0.1,Sl sW v1 p0.2.1,S2 bK v2 z3 p0.2.2.1] (fun x:Unit=>Value.tuple #[vU (r.1),vI (r.2)]) (fun x l=>l) (fun _ l=>l):=by
 refine aT.of Tryz.func46 rfl Tryz.ntmps46 rfl fun c=>?_
 unfold eF at h
 refine sqR<|aF (aJ.box (cs:=[v0,v1,v2,vI (p0.2.2.2.1),vI (p0.2.2.2.2.1),vI (p0.2.2.2.2.2.1),vI (p0.2.2.2.2.2.2.1),vU (p0.2.2.2.2.2.2.2)]) rfl rfl) rfl fun b1=>qkAsg rfl<|qkAsg rfl<|dtN<|sqR ?_
 refine aF (aJ.alloc (cs:=cellsOf bV (List.replicate 24 (0:Int))) rfl (by kernel_rfl)) rfl fun b2=>?_
 refine dtN<|aH<|midU (fun a5=>lG  a5=some r) (fun a5 b6=>[(2,vU (a5.1)),(3,vI (a5.2))]) (fun a5 b6=>[]) ?_ ?_
 ·refine sqR<|qkFld rfl<|qkLd 1 rfl<|qkLen (aC.fact 0 rfl) rfl<|qkMove rfl<|dtN<|aM<|loopL (eV U p0) (fun a12 b13=>[(2,vU (a12.1)),(3,vI (a12.2.1)),(4,vP b2),(9,v0),(10,vI (List.length p0.1:Int)),(11,vI (a12.2.2.1))]) (fun a12 b13=>[bT b2 (cellsOf bV a12.2.2.2) 144]) ((0:Int),(0:Int),(0:Int),(List.replicate 24 (0:Int))) () h SF (aW.ix [0] rfl rfl) ?_
  intro k14 a12 b13 h
  refine sqR<|qkLss rfl<|dtN<|aH ?_
  refine eN h rfl (fun h=>?_) fun h=>?_
  ·refine cF<|aH<|midU (fun a18=>lH p0 a12 (bD (eV U p0) k14) a18=some r) (fun a18 b19=>[(2,vU (CU .u32 a12.1 (at' p0.1 a12.2.2.1))),(3,vI (a18.1)),(4,vP b2),(9,v0),(10,vI (List.length p0.1:Int)),(11,vI (a12.2.2.1))]) (fun a18 b19=>[bT b2 (cellsOf bV a18.2) 144]) ?_ ?_
   ·refine aM<|sqR<|ckE h fun j20 h=>aB (aY rfl rfl (aC.fact 0 rfl) rfl rfl j20) rfl<|aB (bY rfl (aC.fact 0 rfl) rfl rfl rfl zV j20) rfl<|qkAsg rfl<|dtN<|sqR<|qkMove rfl<|qkMove rfl<|aB (Lb rfl rfl) rfl<|qkAsg rfl<|dtN<|sqR<|qkMove rfl<|dtN<|aM<|loopL (iX p0 a12 (bD (eV U p0) k14)) (fun a25 b26=>[(2,vU (CU .u32 a12.1 (at' p0.1 a12.2.2.1))),(3,vI (a25.1)),(4,vP b2),(6,vU (at' p0.1 a12.2.2.1)),(9,v0),(10,vI (List.length p0.1:Int)),(11,vI (a12.2.2.1)),(18,vI (a25.2.1))]) (fun a25 b26=>[bT b2 (cellsOf bV a25.2.2) 144]) (a12.2.1,(0:Int),a12.2.2.2) () h SF (aW.refl _) ?_
    intro k27 a25 b26 h
    refine sqR<|qkLss rfl<|dtN<|aH ?_
    refine eN h rfl (fun h=>?_) fun h=>?_
    ·refine cF<|aH<|aM<|sqR<|qkMove rfl<|qkAsg rfl<|dtN<|aH ?_
     refine JR.start [0,1,3,0,0,24,56,120,255,511,1023] 8 mixedOrders (by decide +kernel) ?_
     refine JR.open (by exact rfl) ?_
     refine jkMove rfl<|ckE h fun j29 h=>jqN rfl (iI rfl rfl rfl rfl rfl j29.1)<|bH rfl (aW.cons 0 rfl .nil) .nil (Da (e:=bV) rfl (aC.res 0 rfl) rfl rfl rfl rfl j29) aO.z<|jkMove rfl<|jkMove rfl<|ckE h fun j30 h=>jqN rfl (DG rfl rfl j30)<|jqN rfl (Ji rfl rfl)<|jqN rfl (ER rfl rfl rfl)<|bS 8 rfl rfl<|qkAdd rfl<|ckE h fun j31 h=>aB (iI rfl rfl rfl rfl rfl j31.1) rfl<|BA 0 (e:=bV) (wI .i64 ((at' a25.2.2 a25.2.1)+(wI .i64 (cH .u32 (mH .u32 (at' p0.1 a12.2.2.1) a25.2.1) (1:Int))))) j31 rfl rfl rfl rfl rfl rfl rfl<|dtN<|aK<|qkMove rfl<|qkMove rfl<|ckE h fun j32 h=>aB (iI rfl rfl rfl rfl rfl j32.1) rfl<|aB (Da (e:=bV) rfl (aC.res 0 rfl) rfl rfl rfl rfl j32) rfl<|aB (ES rfl rfl) rfl<|qkAsg rfl<|dA<|inT<|aK<|qkAdd rfl<|qkMove rfl<|dtN ?_
     exact xO ((max a25.1 (at' (List.set a25.2.2 (Int.toNat a25.2.1) (wI .i64 ((at' a25.2.2 a25.2.1)+(wI .i64 (cH .u32 (mH .u32 (at' p0.1 a12.2.2.1) a25.2.1) (1:Int)))))) a25.2.1)),(wI .i64 (a25.2.1+(1:Int))),(List.set a25.2.2 (Int.toNat a25.2.1) (wI .i64 ((at' a25.2.2 a25.2.1)+(wI .i64 (cH .u32 (mH .u32 (at' p0.1 a12.2.2.1) a25.2.1) (1:Int))))))) () h SF rfl
    refine rE<|eS<|eS<|vJ<|inT ?_
    exact iG (a25.1,a25.2.2) () h SF rfl
   intro a18 b19 h
   unfold lH at h
   refine aK<|qkAdd rfl<|qkMove rfl<|dtN ?_
   exact xO ((CU .u32 a12.1 (at' p0.1 a12.2.2.1)),a18.1,(wI .i64 (a12.2.2.1+(1:Int))),a18.2) () h SF rfl
  refine fL ?_
  exact cG (a12.1,a12.2.1) () h SF .nil (aD.refl _ _)
 intro a5 b6 h
 unfold lG at h
 refine sqR<|qkMove rfl<|qkMove rfl<|qkAsg rfl<|qkAsg rfl<|dtN<|aP ?_
 cases h
 exact fI () rfl rfl (RV.tmp rfl) (RV.tmp rfl) (aW.refl _) aD.nil
end Go.Proofs.YtjlbcgddhnjcjaaGreatDoor
end
section
namespace Go.Proofs.YtjlbcgddhnjcjaaGreatDoor
open Go Go.Sx
section
def Ij (ch:iO):Nat:=ch.foldl (· ||| ·) 0
theorem RD (ch:iO) (t:Nat):Ij (ch++[t])=Ij ch ||| t:=by unfold Ij;rw[List.foldl_append];rfl
theorem UA (v:Nat):∀ch:iO,(Ij ch).testBit v=true↔0<zN ch v:=by
 have key:∀(ch:iO) (a:Nat),(ch.foldl (· ||| ·) a).testBit v=true↔a.testBit v=true∨0<zN ch v:=by
  intro ch
  induction ch with
  |nil=>intro a;simp[zN]
  | cons t ch ih =>
   intro a
   rw[List.foldl_cons,ih,Nat.testBit_or,Bool.or_eq_true,or_assoc]
   have:zN (t::ch) v=zN ch v+if t.testBit v=true then 1 else 0:=by unfold zN;rw[List.countP_cons]
   rw[this]
   by_cases h:t.testBit v=true
   ·rw[if_pos h];exact⟨fun _=> .inr (by omega),fun _=> .inr (.inl h)⟩
   ·rw[if_neg h]
    exact⟨fun q=>q.elim .inl fun q=>q.elim (fun q=>absurd q h) .inr,fun q=>q.elim .inl fun q=> .inr (.inr q)⟩
 intro ch
 have:=key ch 0
 unfold Ij
 rw[this];simp
theorem RB:∀{ch:iO},(∀t∈ch,t<4294967296)->Ij ch<4294967296:=by
 have key:∀(ch:iO) (a:Nat),a<4294967296->(∀t∈ch,t<4294967296)->ch.foldl (· ||| ·) a<4294967296:=by
  intro ch
  induction ch with
  |nil=>intro a ha _;exact ha
  |cons t ch ih=>intro a ha h;exact ih _ (RE ha (h t (by simp))) fun s hs=>h s (by simp[hs])
 intro ch h
 exact key ch 0 (by omega) h
theorem YV {a k:Nat} (hk:k<32) (ha:a<4294967296):cH .u32 (mH .u32 (a:Int) (k:Int)) 1=if a.testBit k=true then 1 else 0:=by
 split
 ·rename_i h;exact(Lv hk ha).2 h
 ·rename_i h;exact(Rq hk ha).2 (by simpa using h)
theorem Rn {ch:iO} (hch:∀t∈ch,t<4294967296) (hl:ch.length<=900) {b:Nat} (hb:∀v,v<24->zN ch v<=b) (r1:aL) (r2:bG) (r3:CT):
  ∃most:Int,eF 1000 (Aj ch,r1,r2,r3)=some (((Ij ch:Nat):Int),most)∧most<=(b:Int):=by
 have hil:(Aj ch).length=ch.length:=by simp[Aj]
 let F:Nat->Nat->Int:=fun k v=>((zN (ch.take k) v:Nat):Int)
 let Q:Nat->aL:=fun k=>(List.range 24).map (F k)
 have hle:∀k v,zN (ch.take k) v<=900:=fun k v=>Nat.le_trans List.countP_le_length (by simp;omega)
 have hlb:∀k v,v<24->zN (ch.take k) v<=b:=fun k v hv=>Nat.le_trans (List.Sublist.countP_le (List.take_sublist k ch)) (hb v hv)
 unfold eF
 rw[show List.replicate 24 (0:Int)=Q 0 by
  refine List.ext_getElem (by simp[Q]) fun i h1 h2=> ?_
  rw[List.getElem_replicate];simp[Q,F,zN]]
 obtain⟨⟨o,mo,k,q⟩,⟨e1,e2,e3,e4⟩,he⟩:=pX (step:=eV 1000 (Aj ch,r1,r2,r3)) (K:=fun x=>some (x.1,x.2.1)) ch.length
  (fun k x=>x.1=((Ij (ch.take k):Nat):Int)∧x.2.1<=(b:Int)∧x.2.2.1=(k:Int)∧x.2.2.2=Q k) (fun k x ag hk hI=>by
  obtain⟨o,mo,i,q⟩:=x
  obtain⟨e1,e2,e3,e4⟩:=hI
  dsimp only at e1 e2 e3 e4
  subst e1 e3 e4
  have ht:at' (Aj ch) (k:Int)=((ch[k]:Nat):Int):=by rw[jY (by omega)];simp[Aj]
  have ht32:=hch ch[k] (List.getElem_mem hk)
  have htk:ch.take (k+1)=ch.take k++[ch[k]]:=by rw[x_ hk,jY hk]
  let G:Nat->aL:=fun j=>(List.range j).map (F (k+1))++(List.range' j (24 - j)).map (F k)
  have hG:∀j,j<=24->(G j).length=24:=fun j hj=>by simp[G];omega
  have hGj:∀j,j<24->at' (G j) (j:Int)=F k j:=fun j hj=>by
   rw[jY (by rw[hG j (by omega)];exact hj)];simp[G]
  have hGs:∀j,j<24->(G j).set j (F (k+1) j)=G (j+1):=fun j hj=>by
   show((List.range j).map (F (k+1))++(List.range' j (24 - j)).map (F k)).set j (F (k+1) j)=(List.range (j+1)).map (F (k+1))++(List.range' (j+1) (24 - (j+1))).map (F k)
   rw[List.set_append_right _ _ (by simp),List.length_map,List.length_range,Nat.sub_self,show 24 - j=(24 - (j+1))+1 by omega,List.range'_succ,List.map_cons,List.set_cons_zero,List.range_succ,List.map_append,List.map_singleton,List.append_assoc]
   rfl
  unfold eV
  dsimp only
  rw[if_pos (by omega),cN (by omega),show Q k=G 0 by simp[Q,G,List.range_eq_range']]
  obtain⟨⟨m',j',q'⟩,⟨i1,i2,i3⟩,hi⟩:=pX (step:=iX (Aj ch,r1,r2,r3) (((Ij (ch.take k):Nat):Int),mo,(k:Int),G 0) ag) (K:=fun y=>ag (CU .u32 ((Ij (ch.take k):Nat):Int) ((ch[k]:Nat):Int),y.1,((k+1:Nat):Int),y.2.2)) 24
   (fun j y=>y.1<=(b:Int)∧y.2.1=(j:Int)∧y.2.2=G j) (fun j y ag2 hj hJ=>by
   obtain⟨m',j',q'⟩:=y
   obtain⟨i1,i2,i3⟩:=hJ
   dsimp only at i1 i2 i3
   subst i2 i3
   have hs:=Oe (ch.take k) ch[k] j
   rw[<-htk]at hs
   have:=hle k j
   have hbj:=hlb (k+1) j hj
   have hGl:=hG j (by omega)
   have e:wI .i64 (at' (G j) (j:Int)+wI .i64 (cH .u32 (mH .u32 ((ch[k]:Nat):Int) (j:Int)) 1))=F (k+1) j:=by
    rw[YV (by omega) ht32,hGj j hj]
    show wI .i64 (((zN (ch.take k) j:Nat):Int)+_)=((zN (ch.take (k+1)) j:Nat):Int)
    rw[hs]
    split
    ·rw[show wI .i64 (1:Int)=1 from rfl,eC (by omega)]
    ·rw[show wI .i64 (0:Int)=0 from rfl,wr (by omega) (by omega)];omega
   refine⟨(max m' (F (k+1) j),((j+1:Nat):Int),G (j+1)),⟨?_,rfl,rfl⟩,?_⟩
   ·have:F (k+1) j<=(b:Int):=by show((zN (ch.take (k+1)) j:Nat):Int)<=_;omega
    dsimp only;omega
   ·unfold iX
    dsimp only
    have hat:at' ((G j).set j (F (k+1) j)) (j:Int)=F (k+1) j:=by rw[rW _ _ _ _ (by omega),if_pos rfl]
    rw[if_pos (by omega),cN (by omega),cN (by omega),cN (by omega),ht,e,Int.toNat_natCast,cN (by rw[List.length_set];omega),hat,eC (by omega),hGs j hj]) (fun y ag2 hJ=>by
   obtain⟨m',j',q'⟩:=y
   obtain⟨i1,i2,i3⟩:=hJ
   dsimp only at i1 i2 i3
   subst i2 i3
   unfold iX lH
   dsimp only
   rw[if_neg (by omega),ht,eC (by omega)]) 1000 (mo,(0:Int),G 0) ⟨e2,rfl,rfl⟩ (by omega)
  dsimp only at i1 i2 i3 hi
  refine⟨_,⟨?_,i1,rfl,?_⟩,hi⟩
  ·dsimp only
   rw[htk,RD,XQ (RB fun t h=>hch t (List.mem_of_mem_take h)) ht32]
  ·dsimp only
   rw[i3];simp[G,Q]) (fun x ag hI=>by
  obtain⟨o,mo,i,q⟩:=x
  obtain⟨e1,e2,e3,e4⟩:=hI
  dsimp only at e1 e2 e3 e4
  subst e3
  unfold eV lG
  dsimp only
  rw[if_neg (by omega)]) 1000 ((0:Int),(0:Int),(0:Int),Q 0) ⟨rfl,by dsimp only;omega,rfl,rfl⟩ (by omega)
 dsimp only at e1 e2 he
 refine⟨mo,?_,e2⟩
 rw[he,e1,List.take_length]
end
section
def guL:E:= .bi 41 (.lf 5 0) (.ag 21 (.lf 12 0))
def guE:E:= .bi 41 (.un 19 (.lf 5 0)) (.un 19 (.ag 21 (.lf 12 0)))
def RM:List RL:=[(guL,[(0,.lf 3 0)]),(guE,[(0,.lf 2 0)])]
theorem UJ:uN 1 RM=true:=by decide +kernel
theorem loM (g:GR) (v:Nat):lo g (at' rV ((0:Nat):Int)) v=0:=rfl
theorem hiM (g:GR) (v:Nat):hi g (at' rV ((0:Nat):Int)) v=1:=rfl
theorem YC {g:GR} (hV:VG g):zY g rV:=by
 have h24:=hV.n24
 refine⟨by decide,Nu,fun x hx=> ?_,fun x hx _=> ?_⟩
 ·obtain rfl:x=0:=by simp[rV]at hx;exact hx
  exact .inr (.inl rfl)
 ·obtain rfl:x=0:=by simp[rV]at hx;exact hx
  rw[loM,hiM];omega
def SG (g:GR) (c:bG) (v:Nat):Prop:=∃i,i<(row g v).length∧LG g c v i≠0
section
variable {p:B_} {g:GR} {c:List (List Int)} {v:Nat}
theorem Ww:xQ (dG p g) c v guL=HL (decide (ID c v≠0)&&decide (HL (((List.range (row g v).length).map fun q=>LG g c v q).any nz)≠0)):=rfl
theorem Wv:xQ (dG p g) c v guE=HL (decide (HL (decide (ID c v=0))≠0)&&decide (HL (decide (HL (((List.range (row g v).length).map fun q=>LG g c v q).any nz)=0))≠0)):=rfl
theorem EY (b:Bool):HL b≠0↔b=true:=by cases b<;>simp[HL]
theorem XP (b:Bool):HL b=0↔b=false:=by cases b<;>simp[HL]
theorem PT:((List.range (row g v).length).map fun q=>LG g c v q).any nz=true↔SG g c v:=by
 unfold SG
 rw[List.any_eq_true]
 constructor
 ·rintro⟨x,hx,hn⟩
  obtain⟨i,hi,rfl⟩:=List.mem_map.1 hx
  exact⟨i,List.mem_range.1 hi,by simpa [nz]using hn⟩
 ·rintro⟨i,hi,hn⟩
  exact⟨_,List.mem_map.2 ⟨i,List.mem_range.2 hi,rfl⟩,by simpa [nz]using hn⟩
theorem Tf:((List.range (row g v).length).map fun q=>LG g c v q).any nz=false↔¬SG g c v:=by
 rw[<-PT];simp
theorem Ul:xQ (dG p g) c v guL≠0↔ID c v≠0∧SG g c v:=by
 rw[Ww,EY,Bool.and_eq_true,decide_eq_true_eq,decide_eq_true_eq,EY,PT]
theorem Uk:xQ (dG p g) c v guE≠0↔ID c v=0∧¬SG g c v:=by
 rw[Wv,EY,Bool.and_eq_true,decide_eq_true_eq,decide_eq_true_eq,EY,EY,decide_eq_true_eq,decide_eq_true_eq,XP,Tf]
theorem RU (h:0<=uR (dG p g) RM c v):(uR (dG p g) RM c v=0∧ID c v≠0∧SG g c v)∨(uR (dG p g) RM c v=1∧ID c v=0∧¬SG g c v):=by
 obtain⟨i,h1,h2,h3⟩:=(JZ (dG p g) RM c v).resolve_left (fun e=>by omega)
 have h2:i<2:=h2
 match i,h2 with
 |0,_=>exact .inl ⟨h1,Ul.1 h3⟩
 |1,_=>exact .inr ⟨h1,Uk.1 h3⟩
theorem Yo (hr:(at' c (v:Int)).length=1):at' (zF (dG p g) rV RM c v 0) 0=0:=by
 have e:zF (dG p g) rV RM c v 0=(at' c (v:Int)).set 0 0:=rfl
 rw[e]
 have:=rW (at' c (v:Int)) 0 0 (0:Int) (by omega)
 rw[if_pos rfl]at this
 exact this
theorem Yp (hr:(at' c (v:Int)).length=1):at' (zF (dG p g) rV RM c v 1) 0=1:=by
 have e:zF (dG p g) rV RM c v 1=(at' c (v:Int)).set 0 1:=rfl
 rw[e]
 have:=rW (at' c (v:Int)) 0 0 (1:Int) (by omega)
 rw[if_pos rfl]at this
 exact this
end
end
section
def StM (g:GR) (c:bG) (v:Nat):Prop:=ID c v≠0∧¬SG g c v
section
variable {p:B_} {g:GR} {c:List (List Int)} {lv t:Nat}
theorem OT (hr:U_ g c rV) (hsub:∀i,t.testBit i=true->(yB (dG p g) RM lv c).testBit i=true):
  (∀v,t.testBit v=true->v<g.2.length∧((ID c v≠0∧SG g c v∧ID (qH (dG p g) rV RM c t) v=0)∨(ID c v=0∧¬SG g c v∧ID (qH (dG p g) rV RM c t) v=1)))∧∀v,v<g.2.length->t.testBit v=false->ID (qH (dG p g) rV RM c t) v=ID c v:=by
 have hcl:=hr.len
 have hat:∀v,v<g.2.length->at' (qH (dG p g) rV RM c t) (v:Int)=if t.testBit v=true then zF (dG p g) rV RM c v (uR (dG p g) RM c v)else at' c (v:Int):=fun v hv=>Kj (by rw[hcl];exact hv)
 refine⟨fun v hv=> ?_,fun v hv hb=> ?_⟩
 ·obtain⟨h1,h2,_⟩:=(Eu (dG p g) RM lv c v).1 (hsub v hv)
  refine⟨h1,?_⟩
  unfold ID
  rw[hat v h1,if_pos hv]
  rcases RU h2 with⟨e,a,b⟩|⟨e,a,b⟩
  ·rw[e];exact .inl ⟨a,b,Yo (hr.row v h1)⟩
  ·rw[e];exact .inr ⟨a,b,Yp (hr.row v h1)⟩
 ·unfold ID
  rw[hat v hv,if_neg (by rw[hb];decide)]
variable (hV:VG g) (hr:U_ g c rV) (hsub:∀i,t.testBit i=true->(yB (dG p g) RM lv c).testBit i=true)
 include hV hr hsub
theorem enterM (hind:∀v u,t.testBit v=true->t.testBit u=true->¬EJ g v u) {v:Nat} (hb:t.testBit v=true) (h:ID c v=0):StM g (qH (dG p g) rV RM c t) v:=by
 obtain⟨h1,h0⟩:=OT hr hsub
 obtain⟨hv,q⟩:=h1 v hb
 rcases q with⟨q,_⟩|⟨_,hn,e⟩
 ·exact absurd h q
 ·refine⟨by rw[e];decide,?_⟩
  rintro⟨i,hi,he⟩
  obtain⟨u,hu,hue,hadj⟩:=hV.port hv hi
  have hub:t.testBit u=false:=by
   cases hq:t.testBit u with
   |false=>rfl
   |true=>exact absurd hadj (hind v u hb hq)
  rw[Nc hue,h0 u hu hub]at he
  exact hn ⟨i,hi,by rw[Nc hue];exact he⟩
end
end
section




abbrev pM (z:List tY):B_:=(ByteArray.mk #[105,110,100,101,112,101,110,100,101,110,116],rV,z)
end
end Go.Proofs.YtjlbcgddhnjcjaaGreatDoor
end
section
namespace Go.Proofs.YtjlbcgddhnjcjaaGreatDoor
open Go.Sx
section
def m_ (U:Nat)  : Option (ByteArray):=
 some (ByteArray.mk #[112,114,111,103,114,97,109,32,105,110,100,101,112,101,110,100,101,110,116,59,10,118,97,114,32,109,32,58,32,98,111,111,108,59,10,114,117,108,101,32,108,101,97,118,101,58,32,109,32,38,38,32,115,111,109,101,40,113,46,109,41,32,45,62,32,109,32,58,61,32,102,97,108,115,101,59,10,114,117,108,101,32,101,110,116,101,114,58,32,33,109,32,38,38,32,33,115,111,109,101,40,113,46,109,41,32,45,62,32,109,32,58,61,32,116,114,117,101,59,10])
theorem XV:aN Tryz.prog 9:=Tryz.call9
theorem BQ (U:Nat)  (r:ByteArray) (h:m_ U  = some r):
  aT Tryz.prog 9 #[] [] (fun x:Unit=>vS (r)) (fun x l=>l) (fun _ l=>l):=by
 refine aT.of Tryz.func9 rfl Tryz.ntmps9 rfl fun c=>?_
 unfold m_ at h
 refine sqR<|qkAsg rfl<|dtN<|sqR<|qkAsg rfl<|dtN<|aP ?_
 cases h
 exact kW rfl
end
section
def iF (U:Nat) (p0:vF) (p1:dN) (p2:Int) (p3:bG) (p4:aL):Option ((Int×Int×Int×Int×Bool×bG)×Int):=
 Option.bind (lL U ((p0.1,p0.2.1,p0.2.2)) ((p1.1,p1.2)) p2 p3 p4) fun r4=>(if r4.2≠(0:Int)then(some ((((0:Int),(0:Int),(0:Int),(0:Int),false,([]:bG))),r4.2))else(Option.bind (eF U ((r4.1.1,r4.1.2.1,r4.1.2.2.1,((r4.1.2.2.2.1,r4.1.2.2.2.2.1,r4.1.2.2.2.2.2.1,r4.1.2.2.2.2.2.2.1,r4.1.2.2.2.2.2.2.2))))) fun r12=>(ck (0<=(wI .i64 ((List.length r4.1.2.1:Int) - (1:Int)))∧(wI .i64 ((List.length r4.1.2.1:Int) - (1:Int)))<(List.length r4.1.2.1:Int)) (some (((r12.1,r12.2,r4.1.2.2.2.2.1,r4.1.2.2.2.2.2.2.1,(decide ((at' r4.1.2.1 (wI .i64 ((List.length r4.1.2.1:Int) - (1:Int))))=(0:Int))),r4.1.2.2.1)),(0:Int))))))
theorem VN:aN Tryz.prog 17:=Tryz.call17
theorem zQ (U:Nat) {p0:vF} {p1:dN} {p2:Int} {p3:bG} {p4:aL} (v0:Value)  (v1:Value)  (v2:Value)  (v3:Value)  (z4:mT)  (v5:Value)  (z6:qK)  (v7:Value) (r:(Int×Int×Int×Int×Bool×bG)×Int) (h:iF U p0 p1 p2 p3 p4=some r):
  aT Tryz.prog 17 #[Value.agg #[vS (p0.1),v0,v1],Value.agg #[v2,v3],vI (p2),v5,v7] [Sl aI v0 p0.2.1,Sl aE v1 p0.2.2,PF (Value.agg #[vS p0.1,v0,v1]),Sl bK v2 p1.1,S2 aZ v3 z4 p1.2,S2 bK v5 z6 p3,Sl sW v7 p4,Gb 0 (cellsOf CX rU)] (fun x:Gf=>Value.tuple #[Value.agg #[vU (r.1.1),vI (r.1.2.1),vI (r.1.2.2.1),vI (r.1.2.2.2.1),vB (r.1.2.2.2.2.1),x.1],vI (r.2)]) (fun x l=>Ar dH.raw x.1 x.2::jW bV x.2 r.1.2.2.2.2.2::l) (fun _ l=>l):=by
 refine aT.of Tryz.func17 rfl Tryz.ntmps17 rfl fun c=>?_
 refine sqR<|aF (aJ.box (cs:=[vS (p0.1),v0,v1]) rfl rfl) rfl fun b1=>aF (aJ.box (cs:=[v2,v3]) rfl rfl) rfl fun b2=>aF (aJ.alloc (cs:=vD5) rfl rfl) rfl fun b3=>qkAsg rfl<|dtN<|sqR<|qkLdA 2 rfl<|qkLdA 1 rfl<|qkMove rfl<|qkMove rfl<|qkMove rfl<|bnE h fun r4 w5 h=>aF (aJ.callQ PY (CP U v0 v1 v2 v3 z4 v5 z6 v7 r4 w5) rfl (nY [0,1,2,3,4,5,6,7] rfl)) rfl fun x6=>qkMove rfl<|qkExt rfl<|qkExt rfl<|aF (aJ.alloc (cs:=Dz) rfl rfl) rfl fun b7=>bP (Know.one ((aV (aC.res 1 rfl) l_))) fun ho8=>bP (Know.one ((aV (aC.res 2 rfl) l_))) fun ho9=>bP (Know.one (aC.sl (bF (i:=3) (j:=4) rfl rfl cW))) fun ho10=>bB 0 (vs:=[x6.1,x6.2.1,x6.2.2.1,vI (r4.1.2.2.2.1),vI (r4.1.2.2.2.2.1),vI (r4.1.2.2.2.2.2.1),vI (r4.1.2.2.2.2.2.2.1),vU (r4.1.2.2.2.2.2.2.2)]) rfl rfl (dU ho8 (dU ho9 (dU ho10 (dU rfl (dU rfl (dU rfl (dU rfl (dU rfl rfl)))))))) rfl rfl rfl<|qkAsg rfl<|dtN<|aH<|sqR<|qkMove rfl<|qkNeq rfl<|dtN ?_
 refine eN h rfl (fun h=>?_) fun h=>?_
 ·refine sqR ?_
  refine aB (C_ (r:=Value.agg #[vU (0:Int),vI (0:Int),vI (0:Int),vI (0:Int),vB (false),kX]) (by intro w;simp[Instr.build,Instr.fill,dB,cO,cD,dC,dD,cP,eD])) rfl ?_
  refine qkMove rfl<|bB 5 (vs:=vD5) rfl rfl rfl rfl rfl rfl<|qkAsg rfl<|dtN<|aP<|aG<|jC (gR dH.raw) (jC (t_ bV) ?_)
  cases h
  exact fI ((kX),([]:fP)) rfl rfl (RV.cell 7 rfl rfl rfl rfl) (RV.tmp rfl) (aW.ix [1,0] rfl rfl) aD.nil
 refine cF<|sqR<|qkLdA 0 rfl<|bnE h fun r12 w13 h=>aF (aJ.callQ PZ (uS U x6.1 x6.2.1 x6.2.2.1 (List.zip x6.2.2.2 r4.1.2.2.1) r12 w13) rfl (aD.cons (aV (aC.res 1 rfl) l_) (aD.cons (aV (aC.res 2 rfl) l_) (aD.cons (bF (i:=3) (j:=4) rfl rfl cW) .nil)))) rfl fun x14=>qkMove rfl<|qkExt rfl<|qkExt rfl<|qkAsg rfl<|qkAsg rfl<|dtN<|aH ?_
 refine JR.start [0,0,0,4,12,0,32,96,0,256,0,1024,3072,7168,16128,32512,65280,0,131072,524287,1048575,2097151] 19 mixedOrders (by decide +kernel) ?_
 refine JR.open (by exact rfl) ?_
 refine jkMove rfl<|jkMove rfl<|jkFld rfl<|jkFld rfl<|jkLd 0 rfl<|jkFld rfl<|jkFld rfl<|jkLd 0 rfl<|jkFld rfl<|jkLd 0 rfl<|jkFld rfl<|jkLd 0 rfl<|bH rfl (aW.cons 2 rfl .nil) .nil (jF rfl (aV (aC.res 0 rfl) l_) rfl) aO.z<|jqN rfl (nW rfl rfl)<|ckE h fun j15 h=>bH rfl (aW.cons 2 rfl .nil) .nil (aY rfl rfl (aV (aC.res 0 rfl) l_) rfl rfl j15) aO.z<|bH rfl (aW.cons 2 rfl .nil) .nil (bY rfl (aV (aC.res 0 rfl) l_) rfl rfl rfl zV j15) aO.z<|jqN rfl (Jj rfl rfl)<|jkFld rfl<|jkLd 0 rfl<|bS 19 rfl rfl<|bP (Know.one (aC.sl (bF (i:=3) (j:=4) rfl rfl cW))) fun ho16=>?_
 refine aB (Y.bld6 (r:=Value.agg #[vU (r12.1),vI (r12.2),vI (r4.1.2.2.2.2.1),vI (r4.1.2.2.2.2.2.2.1),vB (decide ((at' r4.1.2.1 (wI .i64 ((List.length r4.1.2.1:Int) - (1:Int))))=(0:Int))),x6.2.2.1]) rfl rfl rfl rfl rfl rfl (by intro w;simp[Instr.build,Instr.fill,dB,cO,cD,dC,dD,cP,eD,iN ho16])) rfl ?_
 refine bP (Know.one (aC.sl (bF (i:=3) (j:=4) rfl rfl cW))) fun ho17=>bB 5 (vs:=[vU (r12.1),vI (r12.2),vI (r4.1.2.2.2.2.1),vI (r4.1.2.2.2.2.2.2.1),vB (decide ((at' r4.1.2.1 (wI .i64 ((List.length r4.1.2.1:Int) - (1:Int))))=(0:Int))),x6.2.2.1]) rfl rfl (dU rfl (dU rfl (dU rfl (dU rfl (dU rfl (dU ho17 rfl)))))) rfl rfl rfl<|qkAsg rfl<|dtN<|aP ?_
 cases h
 exact fI (x6.2.2.1,x6.2.2.2) rfl rfl (RV.cell 5 rfl rfl rfl rfl) (RV.tmp rfl) (aW.ix [3,4] rfl rfl) aD.nil
end
section
def kU  (a18:Int):Option c_:=
 some (a18,(0:Int))
def cI (U:Nat) (r14:aL) (a23:dM) (ag22:c_->Option c_):Option c_:=
 if a23.1≠(0:Int)then(Option.bind (fF U a23.1) fun r27=>(ck (0<=r27∧r27<(List.length r14:Int)) (if(at' r14 r27)<(0:Int)then(some ((-1:Int),(0:Int)))else(ag22 ((cH .u32 a23.1 (wI .u32 (a23.1 - (1:Int)))),(max a23.2 (at' r14 r27)))))))else(kU  (a23.2))
def gF (U:Nat) (p0:vF) (p1:dN) (p2:Int) (p3:bG) (p4:aL) (p5:Int):Option c_:=
 Option.bind (lL U ((p0.1,p0.2.1,p0.2.2)) ((p1.1,p1.2)) p2 p3 p4) fun r3=>(if r3.2≠(0:Int)then(some ((0:Int),r3.2))else(Option.bind (eF U ((r3.1.1,r3.1.2.1,r3.1.2.2.1,((r3.1.2.2.2.1,r3.1.2.2.2.2.1,r3.1.2.2.2.2.2.1,r3.1.2.2.2.2.2.2.1,r3.1.2.2.2.2.2.2.2))))) fun r11=>(Option.bind (eL U ((p1.1,p1.2)) p5) fun r14=>(bD (cI U r14) U (r11.1,(-1:Int))))))
theorem VO:aN Tryz.prog 19:=Tryz.call19
theorem Av (U:Nat) {p0:vF} {p1:dN} {p2:Int} {p3:bG} {p4:aL} {p5:Int} (v0:Value)  (v1:Value)  (v2:Value)  (v3:Value)  (z4:mT)  (v5:Value)  (z6:qK)  (v7:Value) (r:dM) (h:gF U p0 p1 p2 p3 p4 p5=some r):
  aT Tryz.prog 19 #[Value.agg #[vS (p0.1),v0,v1],Value.agg #[v2,v3],vI (p2),v5,v7,vU (p5)] [Sl aI v0 p0.2.1,Sl aE v1 p0.2.2,PF (Value.agg #[vS p0.1,v0,v1]),Sl bK v2 p1.1,S2 aZ v3 z4 p1.2,S2 bK v5 z6 p3,Sl sW v7 p4,Gb 0 (cellsOf CX rU)] (fun x:Unit=>Value.tuple #[vI (r.1),vI (r.2)]) (fun x l=>l) (fun _ l=>l):=by
 refine aT.of Tryz.func19 rfl Tryz.ntmps19 rfl fun c=>?_
 refine sqR<|aF (aJ.box (cs:=[vS (p0.1),v0,v1]) rfl rfl) rfl fun b1=>aF (aJ.box (cs:=[v2,v3]) rfl rfl) rfl fun b2=>qkAsg rfl<|qkAsg rfl<|dtN<|sqR<|qkLdA 1 rfl<|qkLdA 0 rfl<|qkMove rfl<|qkMove rfl<|qkMove rfl<|bnE h fun r3 w4 h=>aF (aJ.callQ PY (CP U v0 v1 v2 v3 z4 v5 z6 v7 r3 w4) rfl (nY [0,1,2,3,4,5,6,7] rfl)) rfl fun x5=>qkMove rfl<|qkExt rfl<|qkExt rfl<|aF (aJ.alloc (cs:=Dz) rfl rfl) rfl fun b6=>bP (Know.one ((aV (aC.res 1 rfl) l_))) fun ho7=>bP (Know.one ((aV (aC.res 2 rfl) l_))) fun ho8=>bP (Know.one (aC.sl (bF (i:=3) (j:=4) rfl rfl cW))) fun ho9=>bB 0 (vs:=[x5.1,x5.2.1,x5.2.2.1,vI (r3.1.2.2.2.1),vI (r3.1.2.2.2.2.1),vI (r3.1.2.2.2.2.2.1),vI (r3.1.2.2.2.2.2.2.1),vU (r3.1.2.2.2.2.2.2.2)]) rfl rfl (dU ho7 (dU ho8 (dU ho9 (dU rfl (dU rfl (dU rfl (dU rfl (dU rfl rfl)))))))) rfl rfl rfl<|qkAsg rfl<|dtN<|aH<|sqR<|qkMove rfl<|qkNeq rfl<|dtN ?_
 refine eN h rfl (fun h=>?_) fun h=>?_
 ·refine sqR<|qkMove rfl<|qkAsg rfl<|qkAsg rfl<|dtN<|aP<|aG ?_
  cases h
  exact fI () rfl rfl (RV.tmp rfl) (RV.tmp rfl) .nil aD.nil
 refine cF<|sqR<|qkLdA 0 rfl<|bnE h fun r11 w12 h=>aF (aJ.callQ PZ (uS U x5.1 x5.2.1 x5.2.2.1 (List.zip x5.2.2.2 r3.1.2.2.1) r11 w12) rfl (aD.cons (aV (aC.res 1 rfl) l_) (aD.cons (aV (aC.res 2 rfl) l_) (aD.cons (bF (i:=3) (j:=4) rfl rfl cW) .nil)))) rfl fun x13=>qkMove rfl<|qkExt rfl<|qkExt rfl<|qkAsg rfl<|qkAsg rfl<|dtN<|sqR<|qkLdA 5 rfl<|qkMove rfl<|bnE h fun r14 w15 h=>aF (aJ.callQ P_ (sU U v2 v3 z4 r14 w15) rfl (nY [3,4] rfl)) rfl fun x16=>qkAsg rfl<|dtN<|sqR<|qkAsg rfl<|dtN<|aH<|midU (fun a18=>kU  a18=some r) (fun a18 b19=>[(19,vI (a18))]) (fun a18 b19=>[]) ?_ ?_
 ·refine aM<|loopL (cI U r14) (fun a23 b24=>[(16,vU (a23.1)),(18,x16),(19,vI (a23.2))]) (fun a23 b24=>[Ar bV x16 r14]) (r11.1,(-1:Int)) () h SF (aW.ix [0] rfl rfl) ?_
  intro k25 a23 b24 h
  refine aH<|sqR<|qkMove rfl<|qkNeq rfl<|dtN ?_
  refine eN h rfl (fun h=>?_) fun h=>?_
  ·refine cF<|aH<|aM<|sqR<|qkMove rfl<|qkMove rfl<|bnE h fun r27 w28 h=>aF (aJ.callQ Lh (nA U  r27 w28) rfl (nY [7] rfl)) rfl fun x29=>ckE h fun j30 h=>aB (aY rfl rfl (aV (aC.res 0 rfl) cW) rfl rfl j30) rfl<|aB (bY rfl (aV (aC.res 0 rfl) cW) rfl rfl rfl eI j30) rfl<|qkAsg rfl<|dtN<|aH<|sqR<|qkMove rfl<|qkLss rfl<|dtN ?_
   refine eN h rfl (fun h=>?_) fun h=>?_
   ·refine sqR<|qkAsg rfl<|qkAsg rfl<|dtN<|aP<|aG<|bJ<|aG<|aG<|bJ<|aG ?_
    cases h
    exact fI () rfl rfl (RV.tmp rfl) (RV.tmp rfl) .nil aD.nil
   refine cF<|aK<|qkMove rfl<|qkMove rfl<|aB (ES rfl rfl) rfl<|qkAsg rfl<|dA<|inT<|aK<|qkMove rfl<|qkMove rfl<|aB (nW rfl rfl) rfl<|qkAnd rfl<|qkAsg rfl<|dtN ?_
   exact xO ((cH .u32 a23.1 (wI .u32 (a23.1 - (1:Int)))),(max a23.2 (at' r14 r27))) () h SF rfl
  refine fL ?_
  exact cG (a23.2) () h SF .nil (aD.refl _ _)
 intro a18 b19 h
 unfold kU at h
 refine sqR<|qkMove rfl<|qkAsg rfl<|qkAsg rfl<|dtN<|aP ?_
 cases h
 exact fI () rfl rfl (RV.tmp rfl) (RV.tmp rfl) (aW.refl _) aD.nil
end
end Go.Proofs.YtjlbcgddhnjcjaaGreatDoor
end
section
namespace Go.Proofs.YtjlbcgddhnjcjaaGreatDoor
open Go Go.Sx Go.Gx
set_option maxRecDepth 100000
def pZ (fuel:Nat):Option (Bool):=some (true)
theorem Lg:aN Tryz.prog 21:=Tryz.call21
theorem Qm:okT (Fc Dt gp2 4000 21 [] H0)=true:=by kernel_rfl
theorem Bq (fuel:Nat) (r:Bool) (h:pZ fuel=some r):
  aT Tryz.prog 21 #[] [Gb 0 (cellsOf CX rU)] (fun x:Unit=>Value.bool (r)) (fun x l=>l) (fun _ l=>l):=by
 obtain rfl:=Option.some.inj h
 obtain⟨H',h1⟩:=Ry Qm
 rw[Ch CF]at h1
 exact Ie QP Lg (fun ρ V' h=>h.bool_inv) fun T b=>Cg (gs:=gl T) abi h1 (dR.start b rfl) .nil
end Go.Proofs.YtjlbcgddhnjcjaaGreatDoor
end
section
namespace Go.Proofs.YtjlbcgddhnjcjaaGreatDoor
open Go.Sx
noncomputable def eX  (a48:Bool):Option (Bool):=
 some (a48)
noncomputable def eY  (a55:Bool):Option (Bool):=
 some (a55)
noncomputable def gN (U:Nat) (p3:Int) (r2:(aL×dQ)) (r22:bG) (r28:Int) (r31:(Int×Int×Int×Int×Bool×bG)×Int) (r36:dM) (a40:Bool):Option (Bool):=
 if a40=true then(some (false))else(Option.bind (rO U (List.length r22:Int)) fun r43=>(if(cH .u32 p3 r43)=(0:Int)then(Option.bind (pZ U) fun r50=>(if r50=true then(eX  (decide (r36.1=(-1:Int))))else(eX  (false))))else(Option.bind (pZ U) fun r57=>(if r57=true then(Option.bind (i_ U ((r2.1,r2.2)) p3 r28) fun r61=>(eY  (((decide (r36.1<=r28))==(decide ((rX .u32 r31.1.1 r61)=(0:Int)))))))else(eY  (false))))))
noncomputable def kZ (U:Nat) (p0:zR) (p1:aL) (p2:aL) (p3:Int) (p4:Int):Option (Bool):=
 Option.bind (gE U ((p0.1,p0.2.1,p0.2.2.1,p0.2.2.2.1,p0.2.2.2.2.1,p0.2.2.2.2.2)) (8:Int)) fun r2=>(Option.bind (m_ U) fun r8=>(Option.bind (nM U r8) fun r11=>PR r11.2.2 fun z14=>(Option.bind (yT U) fun r19=>(Option.bind (kJ U ((r2.1,r2.2)) r19 p1) fun r22=>(Option.bind (mQ U p2 (25:Int)) fun r25=>(Option.bind (eB U p4 (8:Int)) fun r28=>(Option.bind (iF U ((r11.1,r11.2.1,z14)) ((r2.1,r2.2)) (3:Int) r22 r25) fun r31=>(Option.bind (gF U ((r11.1,r11.2.1,z14)) ((r2.1,r2.2)) (3:Int) r22 r25 p3) fun r36=>(if r31.2≠(0:Int)then(gN U p3 r2 r22 r28 r31 r36 (true))else(gN U p3 r2 r22 r28 r31 r36 (decide (r36.2≠(0:Int)))))))))))))
theorem wK (U:Nat) {p0:zR} {p1:aL} {p2:aL} {p3:Int} {p4:Int} (v0:Value)  (v1:Value)  (v2:Value)  (v3:Value)  (v4:Value) (r:Bool) (h:kZ U p0 p1 p2 p3 p4=some r):
  aT Tryz.prog 4 #[Value.agg #[vI (p0.1),v0,v1,v2,vB (p0.2.2.2.2.1),vB (p0.2.2.2.2.2)],v3,v4,vU (p3),vI (p4)] [Sl bK v0 p0.2.1,Sl bK v1 p0.2.2.1,Sl bK v2 p0.2.2.2.1,Sl bK v3 p1,Sl sW v4 p2,Gb 0 (cellsOf CX rU)] (fun x:Unit=>vB (r)) (fun x l=>l) (fun _ l=>l):=by
 refine aT.of Tryz.func4 rfl Tryz.ntmps4 rfl fun c=>?_
 refine sqR<|aF (aJ.box (cs:=[vI (p0.1),v0,v1,v2,vB (p0.2.2.2.2.1),vB (p0.2.2.2.2.2)]) rfl rfl) rfl fun b1=>qkAsg rfl<|dtN<|sqR<|qkLdA 0 rfl<|bnE h fun r2 w3 h=>aF (aJ.callQ VP (xZ U v0 v1 v2 r2 w3) rfl (nY [0,1,2] rfl)) rfl fun x4=>aF (aJ.alloc (cs:=[kX,kX]) rfl rfl) rfl fun b5=>bP (Know.one ((aV (aC.res 1 rfl) cW))) fun ho6=>bP (Know.one (aC.sl (bF (i:=2) (j:=3) rfl rfl bI))) fun ho7=>bB 0 (vs:=[x4.1,x4.2.1]) rfl rfl (dU ho6 (dU ho7 rfl)) rfl rfl rfl<|dtN<|sqR<|bnE h fun r8 w9 h=>aF (aJ.callQ XV (BQ U  r8 w9) rfl .nil) rfl fun x10=>bnE h fun r11 w12 h=>aF (aJ.call PX (Ei U r11 w12) rfl (qF 5 rfl) (fun _ _=>rfl) (fun _ _=>rfl)) rfl fun⟨x13a,x13b,z14,hz15⟩=>?_
 have h:=NU h z14 hz15
 refine aF (aJ.alloc (cs:=[vS (ByteArray.mk #[]),kX,kX]) rfl rfl) rfl fun b16=>bP (Know.one ((aC.fact 0 rfl))) fun ho17=>bP (Know.one ((aC.fact 1 rfl))) fun ho18=>bB 0 (vs:=[vS (r11.1),x13a,x13b]) rfl rfl (dU rfl (dU ho17 (dU ho18 rfl))) rfl rfl rfl<|dtN<|aH ?_
 refine JR.start [0,0,0,7,15] 3 mixedOrders (by decide +kernel) ?_
 refine JR.open (by exact rfl) ?_
 refine jkLdA 1 rfl<|bnE h fun r19 w20 h=>JR.loud rfl rfl rfl (aJ.callQ VJ (Iw U  r19 w20) rfl .nil) rfl (fun x21=>(vG [([2],[])] rfl)) fun x21=>jqN rfl (lO rfl)<|bS 3 rfl rfl<|bnE h fun r22 w23 h=>aF (aJ.callQ VK (Ga U x4.1 x4.2.1 (List.zip x4.2.2 r2.2) x21 v3 r22 w23) rfl (aD.cons (aV (aC.res 3 rfl) cW) (aD.cons (bF (i:=4) (j:=5) rfl rfl bI) (aD.cons (aV (aC.res 0 rfl) pN) (nY [6] rfl))))) rfl fun x24=>qkAsg rfl<|dtN<|sqR<|qkMove rfl<|bnE h fun r25 w26 h=>aF (aJ.callQ VL (Gc U v4 r25 w26) rfl (nY [7] rfl)) rfl fun x27=>qkAsg rfl<|dtN<|sqR<|qkMove rfl<|bnE h fun r28 w29 h=>aF (aJ.callQ yL (gO U  r28 w29) rfl .nil) rfl fun x30=>qkAsg rfl<|dtN<|sqR<|qkLdA 4 rfl<|qkLdA 5 rfl<|qkMove rfl<|qkMove rfl<|bnE h fun r31 w32 h=>aF (aJ.callQ VN (zQ U x13a x13b x4.1 x4.2.1 (List.zip x4.2.2 r2.2) x24.1 (List.zip x24.2 r22) x27 r31 w32) rfl (aD.cons (aC.fact 0 rfl) (aD.cons (aC.fact 1 rfl) (aD.cons (aC.fact 2 rfl) (aD.cons (aV (aC.res 6 rfl) cW) (aD.cons (bF (i:=7) (j:=8) rfl rfl bI) (aD.cons (bF (i:=1) (j:=2) rfl rfl cW) (aD.cons (aV (aC.res 0 rfl) l_) (nY [8] rfl))))))))) rfl fun x33=>qkMove rfl<|qkExt rfl<|qkExt rfl<|aF (aJ.alloc (cs:=vD5) rfl rfl) rfl fun b34=>bP (Know.one (aC.sl (bF (i:=1) (j:=2) rfl rfl cW))) fun ho35=>bB 0 (vs:=[vU (r31.1.1),vI (r31.1.2.1),vI (r31.1.2.2.1),vI (r31.1.2.2.2.1),vB (r31.1.2.2.2.2.1),x33.1]) rfl rfl (dU rfl (dU rfl (dU rfl (dU rfl (dU rfl (dU ho35 rfl)))))) rfl rfl rfl<|qkAsg rfl<|dtN<|sqR<|qkLdA 7 rfl<|qkLdA 8 rfl<|qkMove rfl<|qkMove rfl<|qkMove rfl<|bnE h fun r36 w37 h=>aF (aJ.callQ VO (Av U x13a x13b x4.1 x4.2.1 (List.zip x4.2.2 r2.2) x24.1 (List.zip x24.2 r22) x27 r36 w37) rfl (aD.cons (aC.fact 0 rfl) (aD.cons (aC.fact 1 rfl) (aD.cons (aC.fact 2 rfl) (aD.cons (aV (aC.res 9 rfl) cW) (aD.cons (bF (i:=10) (j:=11) rfl rfl bI) (aD.cons (bF (i:=4) (j:=5) rfl rfl cW) (aD.cons (aV (aC.res 3 rfl) l_) (nY [8] rfl))))))))) rfl fun x38=>qkMove rfl<|qkExt rfl<|qkExt rfl<|qkAsg rfl<|qkAsg rfl<|dtN<|aH<|aH<|wW (B:=Unit) (fun a40=>gN U p3 r2 r22 r28 r31 r36 a40=some r) (fun a40 b41=>[(3,vU (p3)),(4,vI (r28)),(11,vP b5),(13,x24.1),(15,vP b34),(17,vI (r36.1)),(53,vB (a40))]) (fun a40 b41=>[bT b34 [vU (r31.1.1),vI (r31.1.2.1),vI (r31.1.2.2.1),vI (r31.1.2.2.2.1),vB (r31.1.2.2.2.2.1),x33.1] 43,Ar dH.raw x33.1 x33.2,jW bV x33.2 r31.1.2.2.2.2.2,Ar dH.raw x24.1 x24.2,jW bV x24.2 r22,bT b5 [x4.1,x4.2.1] 29,Ar bV x4.1 r2.1,Ar dH.raw x4.2.1 x4.2.2,jW bR x4.2.2 r2.2]) (fun a40 b41=>[Sl aI x13a r11.2.1,Sl aE x13b z14,PF (Value.agg #[vS r11.1,x13a,x13b]),Sl bK v0 p0.2.1,Sl bK v1 p0.2.2.1,Sl bK v2 p0.2.2.2.1,Sl bK v3 p1,Sl sW v4 p2,Gb 0 (cellsOf CX rU)]) ?_ ?_
 ·refine aK<|qkMove rfl<|qkNeq rfl<|qkMove rfl ?_
  refine Bi h rfl (fun _ h=>?_) fun _ h=>?_
  ·refine gdSkip rfl<|gdSkip rfl<|qkPkT rfl<|dtN ?_
   exact cG (true) () h SF (aW.ix [0,1,2,4,5,8,9,10,11] rfl rfl) (aD.refl _ _)
  refine gyMove rfl<|aS rfl (EU rfl rfl) rfl<|qkPkF rfl<|dtN ?_
  exact cG (decide (r36.2≠(0:Int))) () h SF (aW.ix [0,1,2,4,5,8,9,10,11] rfl rfl) (aD.refl _ _)
 intro a40 b41 h
 refine Ab h rfl (fun _ h=>?_) fun _ h=>?_
 ·refine sqR<|qkAsg rfl<|dtN<|aP<|aG ?_
  cases h
  exact wG rfl
 refine cF<|aH<|sqR<|qkMove rfl<|qkMove rfl<|aB (lN rfl (bF (i:=3) (j:=4) rfl rfl cW) rfl) rfl<|bnE h fun r43 w44 h=>aF (aJ.callQ VQ (Km U  r43 w44) rfl .nil) rfl fun x45=>qkAnd rfl<|qkEql rfl<|dtN ?_
 refine eN h rfl (fun h=>?_) fun h=>?_
 ·refine aH<|wW (B:=Unit) (fun a48=>eX  a48=some r) (fun a48 b49=>[(10,vB (a48))]) (fun a48 b49=>[]) (fun a48 b49=>[Sl aI x13a r11.2.1,Sl aE x13b z14,PF (Value.agg #[vS r11.1,x13a,x13b]),Sl bK v0 p0.2.1,Sl bK v1 p0.2.2.1,Sl bK v2 p0.2.2.2.1,Sl bK v3 p1,Sl sW v4 p2,Gb 0 (cellsOf CX rU)]) ?_ ?_
  ·refine aK<|bnE h fun r50 w51 h=>aF (aJ.callQ Lg (Bq U  r50 w51) rfl (nY [8] rfl)) rfl fun x52=>qkMove rfl ?_
   refine BY (by exact rfl) (by exact rfl) (fun hp53=>?_) (fun hp53=>?_)
   ·have h:=SE hp53 h
    refine gyMove rfl<|aS rfl (Jj rfl rfl) rfl<|qkPkT rfl<|qkAsg rfl<|dtN ?_
    exact cG (decide (r36.1=(-1:Int))) () h SF .nil (aD.refl _ _)
   have h:=Ov hp53 h
   refine gdSkip rfl<|gdSkip rfl<|qkPkF rfl<|qkAsg rfl<|dtN ?_
   exact cG (false) () h SF .nil (aD.refl _ _)
  intro a48 b49 h
  unfold eX at h
  refine aP<|aG ?_
  cases h
  exact kW rfl
 refine cF<|aH<|wW (B:=Unit) (fun a55=>eY  a55=some r) (fun a55 b56=>[(10,vB (a55))]) (fun a55 b56=>[]) (fun a55 b56=>[Sl aI x13a r11.2.1,Sl aE x13b z14,PF (Value.agg #[vS r11.1,x13a,x13b]),Sl bK v0 p0.2.1,Sl bK v1 p0.2.2.1,Sl bK v2 p0.2.2.2.1,Sl bK v3 p1,Sl sW v4 p2,Gb 0 (cellsOf CX rU)]) ?_ ?_
 ·refine JR.start [0,1,3,3,15,3,35,3,3,3,899,2019,4067,8191,16383,32767] 13 mixedOrders (by decide +kernel) ?_
  refine JR.open (by exact rfl)<|bnE h fun r57 w58 h=>JR.loud rfl rfl rfl (aJ.callQ Lg (Bq U  r57 w58) rfl (nY [8] rfl)) rfl (fun x59=>wH.z) fun x59=>jqN rfl (lO rfl) ?_
  refine JR.guard (by exact rfl) (by exact rfl) (by exact rfl) (fun hp60=>?_) (fun hp60=>?_)
  ·have h:=SE hp60 h
   refine wY rfl .nil .nil (lO rfl) (Ou rfl)<|wY rfl .nil .nil (lO rfl) (Ou rfl)<|wY rfl .nil .nil (wN rfl rfl) (Ou rfl)<|wY rfl .nil .nil (dZ rfl rfl rfl rfl rfl) (Ou rfl)<|wY rfl (aW.cons 0 rfl .nil) .nil (fK 0 rfl rfl rfl rfl rfl) (Ou rfl)<|wY rfl (aW.cons 5 rfl .nil) .nil (oJ 0 rfl rfl rfl rfl) (Ou rfl)<|wY rfl .nil .nil (lO rfl) (Ou rfl)<|wY rfl .nil .nil (lO rfl) (Ou rfl)<|bnE h fun r61 w62 h=>Pt rfl rfl rfl rfl (aJ.callQ VR (Au U x4.1 x4.2.1 (List.zip x4.2.2 r2.2) r61 w62) rfl (aD.cons (aV (aC.res 6 rfl) cW) (aD.cons (bF (i:=7) (j:=8) rfl rfl bI) .nil))) rfl (fun x63=>(vG [([0],[])] rfl)) fun x63=>wY rfl .nil .nil (Cf rfl rfl) (Ou rfl)<|wY rfl .nil .nil (Jj rfl rfl) (Ou rfl)<|bS 13 rfl rfl<|aS rfl (VB rfl rfl rfl) rfl<|qkPkT rfl<|qkAsg rfl<|dtN ?_
   exact cG (((decide (r36.1<=r28))==(decide ((rX .u32 r31.1.1 r61)=(0:Int))))) () h SF .nil (aD.refl _ _)
  have h:=Ov hp60 h
  refine mB rfl rfl rfl rfl<|mB rfl rfl rfl rfl<|mB rfl rfl rfl rfl<|mB rfl rfl rfl rfl<|mB rfl rfl rfl rfl<|mB rfl rfl rfl rfl<|mB rfl rfl rfl rfl<|mB rfl rfl rfl rfl<|mB rfl rfl rfl rfl<|mB rfl rfl rfl rfl<|mB rfl rfl rfl rfl<|bS 13 rfl rfl<|gdSkip rfl<|qkPkF rfl<|qkAsg rfl<|dtN ?_
  exact cG (false) () h SF .nil (aD.refl _ _)
 intro a55 b56 h
 unfold eY at h
 refine aP ?_
 cases h
 exact kW rfl
end Go.Proofs.YtjlbcgddhnjcjaaGreatDoor
end
section
namespace Go.Proofs.YtjlbcgddhnjcjaaGreatDoor
open Go Go.Sx
theorem Qn {g:GR} (hV:VM g.1 g.2) (h:∀v:Nat,1<=v->v<g.2.length->∃u:Nat,u<v∧jX g.2 u v):YO g:=by
 have hg:VG g:=hV.vg
 have h1:=hV.n1
 have w0:∀v,v<g.2.length->∃k,oY g 0 k v:=by
  intro v
  induction v using Nat.strongRecOn with
  | _ v ih =>
   intro hv
   by_cases h0:v=0
   ·subst h0;exact⟨0,rfl,hv⟩
   ·obtain⟨u,hu,x,hx,he⟩:=h v (by omega) hv
    obtain⟨k,hw⟩:=ih u hu (by omega)
    obtain⟨i,hi,hie⟩:=AH hx
    refine⟨k+1,u,hw,i,hi,?_⟩
    show(at' (at' g.2 (u:Int)) (i:Int)).1=_
    rw[hie,he]
 intro u v hu hv
 obtain⟨a,ha⟩:=w0 u hu
 obtain⟨b,hb⟩:=w0 v hv
 exact⟨a+b,oY.trans (Jh hg ha) hb⟩
theorem Kh {l:aL} {n:Nat} (hl:l.length=n) (hn:n<=24):∀(d s fuel w:Nat) (r:Int),s+d=32->w<4294967296->(∀i,i<s->w.testBit i=false)->(∀i,w.testBit i=true->i<n∧0<=D l i)->d<fuel->
  ∃r':Int,bD (cI 1000 l) fuel ((w:Int),r)=some (r',0)∧∀q:Nat,r'<=(q:Int)↔r<=(q:Int)∧∀i,w.testBit i=true->D l i<=(q:Int):=by
 intro d
 induction d using Nat.strongRecOn with
 | _ d ih =>
  intro s fuel w r hs hw hlow hin hf
  obtain⟨f,rfl⟩:∃f,fuel=f+1:=⟨fuel - 1,by omega⟩
  show∃r':Int,cI 1000 l ((w:Int),r) (bD (cI 1000 l) f)=some (r',0)∧_
  unfold cI
  dsimp only
  by_cases e:w=0
  ·subst e
   rw[if_neg (by simp)]
   exact⟨r,rfl,fun q=>by simp⟩
  ·obtain⟨k,hk⟩:=BL e
   obtain⟨hkn,hk0⟩:=hin k hk.bit
   have hks:s<=k:=Nat.le_of_not_lt fun q=>by have:=hlow k q;rw[hk.bit]at this;cases this
   obtain⟨w',e1,e2,e3⟩:=HR hw hk
   have hD:at' l (k:Int)=D l k:=rfl
   rw[if_pos (by omega),bA (Nw 1000 hw hk),cN (by omega),if_neg (by omega),e1]
   obtain⟨r',h1,h2⟩:=ih (32 - (k+1)) (by omega) (k+1) f w' (max r (D l k)) (by omega) e2 (fun i hi=>by
    rw[e3]
    by_cases q:i=k
    ·simp[q]
    ·rw[hk.low i (by omega)];rfl) (fun i hi=>by
    rw[e3,Bool.and_eq_true]at hi
    exact hin i hi.1) (by omega)
   refine⟨r',h1,fun q=> ?_⟩
   rw[h2 q]
   constructor
   ·rintro⟨a,b⟩
    refine⟨by omega,fun i hi=> ?_⟩
    by_cases e:i=k
    ·subst e;omega
    ·exact b i (by rw[e3,hi,decide_eq_true e];rfl)
   ·rintro⟨a,b⟩
    have:=b k hk.bit
    exact⟨by omega,fun i hi=>b i (by rw[e3,Bool.and_eq_true]at hi;exact hi.1)⟩
theorem Ki {l:aL} {n:Nat} (hl:l.length=n) (hn:n<=24) {m:Nat} (hm:m<4294967296) (hin:∀i,m.testBit i=true->i<n) (h1:∀i,i<n->D l i = -1):bD (cI 1000 l) 1000 ((m:Int),(-1:Int))=some ((-1:Int),0):=by
 show cI 1000 l ((m:Int),(-1:Int)) _=_
 unfold cI kU
 dsimp only
 by_cases e:m=0
 ·subst e
  rw[if_neg (by simp)]
 ·obtain⟨k,hk⟩:=BL e
  have hkn:=hin k hk.bit
  have hD:at' l (k:Int) = -1:=h1 k hkn
  rw[if_pos (by omega),bA (Nw 1000 hm hk),cN (by omega),if_pos (by omega)]
theorem Xf:∀x,x<rV.length->zX (at' rV (x:Int)) ∧ -100000<=(at' rV (x:Int)).2.2.1∧(at' rV (x:Int)).2.2.1<=(at' rV (x:Int)).2.2.2.1:=by
 intro x hx
 refine⟨Nu x hx,?_⟩
 obtain rfl:x=0:=by simp[rV]at hx;exact hx
 exact⟨by decide,by decide⟩
theorem UE {n:Nat} (hn:n<=24):rO 1000 (n:Int)=some ((2^n - 1:Nat):Int):=by
 have e:∀k,qA (fun _=>true) k=2^k - 1:=fun k=>Nb fun i=>by rw[AP,Mq,Bool.and_true]
 rw[<-e]
 unfold rO
 refine dV (F:=fun v:Nat=>(((qA (fun _=>true) v:Nat):Int),(v:Int))) n (fun v ag hv=> ?_) (fun ag=> ?_) 1000 (by omega)
 ·have hm:=Cu (fun _=>true) (k:=v) (by omega)
  unfold sL sK
  dsimp only
  rw[if_pos (by omega),decide_eq_true (by omega),if_pos rfl,abx (by omega),cN (by omega),EZ hm (by omega),eC (by omega)]
  rfl
 ·unfold sL sK vE
  dsimp only
  rw[if_neg (by omega),if_neg (by decide)]
theorem KB (x:NQ) (raw wishes:aL) (p3 p4:Int) (h0:0<=p3) (h1:p3<4294967296):kZ 1000 x raw wishes p3 p4=some true:=by
 obtain⟨d,rfl⟩:∃d:Nat,p3=d:=⟨p3.toNat,by omega⟩
 have hd:d<4294967296:=by omega
 obtain⟨g,hg,hVM,hn8,hT⟩:=HS x 8 (by omega) (by omega)
 have hV:VG g:=hVM.vg
 have h24:=hV.n24
 have hC:=Qn hVM hT
 obtain⟨c0,hc,hc0⟩:=Of hV rV raw (by decide) Xf
 obtain⟨ws,hws,hwl,hwb⟩:=OX wishes (n:=25) (by omega)
 obtain⟨l,hl,hN⟩:=FK hV hd
 have hwi:=pI p4 8 (by omega) (by omega)
 obtain⟨q,hq⟩:∃q:Nat,p4%8=(q:Int):=⟨(p4%8).toNat,by omega⟩
 obtain⟨m1,hm1,hreg,hb1⟩:=OM (r:=q) hV hd
 unfold kZ
 rw[show gE 1000 (x.1,x.2.1,x.2.2.1,x.2.2.2.1,x.2.2.2.2.1,x.2.2.2.2.2) 8=some g from hg,bA rfl,bA (show m_ 1000=some BM from rfl),bA (RJ 1000)]
 refine Td fun z hz=> ?_
 have hz:z.map vQ=Ea RM:=hz
 rw[Xe,bA rfl,show kJ 1000 (g.1,g.2) rV raw=some c0 from hc,bA rfl,bA (show mQ 1000 wishes 25=_ from hws),bA hwi]
 obtain⟨k,c,ch,cnt,ens,hrun,hI,hsh,hk,hchl,hel,hea,hend,hcR,hne⟩:=Lq (p:=pM z) hV (YC hV) hz UJ (kind:=3) (by omega) (by omega) hc0 (ws:=ws) (by omega) hwb
  (fun k c ch=>∀t∈ch,Pj g t) (fun t h=>by cases h)
  (fun k c ch t hk hsh hI hne ht0 hsub hind s hs=>by
   rcases List.mem_append.1 hs with h|h
   ·exact hI s h
   ·rw[List.mem_singleton.1 h];exact fun i hi=>((Eu _ RM _ c i).1 (hsub i hi)).1)
 have hch:∀t∈ch,t<4294967296:=fun t h=>by have:=(hI t h).lt hV;omega
 have hM32:=RB hch
 have hMin:∀i,(Ij ch).testBit i=true->i<g.2.length:=fun i hi=>by
  have h:=(UA i ch).1 hi
  unfold zN at h
  obtain⟨t,ht,hb⟩:=List.countP_pos_iff.1 h
  exact hI t ht i hb
 obtain⟨most,hmov,_⟩:=Rn hch (by omega) (b:=900) (fun v _=>Nat.le_trans List.countP_le_length (by omega)) ens c cnt
 have e1:wI .i64 ((ens.length:Int) - 1)=(k:Int):=by rw[wr (by omega) (by omega)];omega
 have hrec:∃b1 b2 b3 b4,iF 1000 (pM z) g 3 c0 ws=some ((((Ij ch:Nat):Int),b1,b2,b3,b4,c),0):=by
  unfold iF
  rw[bA (show lL 1000 (pM z) g 3 c0 ws=_ from hrun)]
  dsimp only
  rw[if_neg (by decide),bA (show eF 1000 (Aj ch,ens,c,cnt)=_ from hmov),e1,cN (by omega)]
  exact⟨_,_,_,_,rfl⟩
 obtain⟨b1,b2,b3,b4,hrec⟩:=hrec
 have hspr:gF 1000 (pM z) g 3 c0 ws (d:Int)=bD (cI 1000 l) 1000 (((Ij ch:Nat):Int),(-1:Int)):=by
  unfold gF
  rw[bA (show lL 1000 (pM z) g 3 c0 ws=_ from hrun)]
  dsimp only
  rw[if_neg (by decide),bA (show eF 1000 (Aj ch,ens,c,cnt)=_ from hmov),bA (show eL 1000 (g.1,g.2) (d:Int)=_ from hl)]
 refine(bA (show iF 1000 (pM z) g 3 c0 ws=_ from hrec)).trans ?_
 have hcl:=hc0.len
 have hall:rO 1000 (c0.length:Int)=some ((jM g:Nat):Int):=by rw[hcl];exact UE h24
 have hA:=Mo hV
 have hAb:∀i,(jM g).testBit i=decide (i<g.2.length):=fun i=>Mq
 have hll:=hN.len
 have key:∃s:Int,gF 1000 (pM z) g 3 c0 ws (d:Int)=some (s,0)∧(d &&& jM g=0->s = -1)∧(d &&& jM g≠0->(s<=(q:Int)↔Ck (Ij ch) m1=0)):=by
  rw[hspr]
  by_cases e:d &&& jM g=0
  ·refine⟨-1,Ki hll (by omega) hM32 hMin fun i hi=> ?_,fun _=>rfl,fun h=>absurd e h⟩
   have h0:=hN.lo i hi
   refine Decidable.byContradiction fun hne=> ?_
   have hb:=(hN.ball hV hi (r:=(D l i).toNat)).1 ⟨by omega,by omega⟩
   obtain⟨f,hf,m,hm,hw⟩:=hb
   have hfn:=oY.from hw
   have:(d &&& jM g).testBit f=true:=by rw[Nat.testBit_and,hf,hAb,decide_eq_true hfn];rfl
   rw[e]at this;simp at this
  ·obtain⟨f,hf⟩:=BL e
   have hfb:=hf.bit
   rw[Nat.testBit_and,Bool.and_eq_true,hAb,decide_eq_true_eq]at hfb
   have hge:∀i,i<g.2.length->0<=D l i:=fun i hi=>by
    obtain⟨m,hw⟩:=hC f i hfb.2 hi
    exact((hN.ball hV hi (r:=m)).2 ⟨f,hfb.1,m,Nat.le_refl m,hw⟩).1
   obtain⟨s,hs,hsq⟩:=Kh hll (by omega) 32 0 1000 (Ij ch) (-1) (by omega) hM32 (fun i hi=>by omega) (fun i hi=>⟨hMin i hi,hge i (hMin i hi)⟩) (by omega)
   refine⟨s,hs,fun h=>absurd h e,fun _=> ?_⟩
   rw[hsq q]
   constructor
   ·rintro⟨_,h⟩
    refine Nb fun i=> ?_
    rw[De hM32 hm1]
    cases hx:(Ij ch).testBit i with
    |false=>simp
    |true=>
     have:=(hb1 i).2 ((hN.ball hV (hMin i hx) (r:=q)).1 ⟨hge i (hMin i hx),h i hx⟩)
     rw[this];simp
   ·intro h
    refine⟨by omega,fun i hi=> ?_⟩
    have hx:(Ck (Ij ch) m1).testBit i=false:=by rw[h];simp
    rw[De hM32 hm1,hi]at hx
    have hy:m1.testBit i=true:=by
     cases hy:m1.testBit i with
     |true=>rfl
     |false=>rw[hy]at hx;cases hx
    exact((hN.ball hV (hMin i hi) (r:=q)).2 ((hb1 i).1 hy)).2
 obtain⟨s,hs,hs0,hs1⟩:=key
 rw[hq]
 refine(bA (show gF 1000 (pM z) g 3 c0 ws (d:Int)=_ from hs)).trans ?_
 dsimp only
 rw[if_neg (by decide),decide_eq_false (by decide)]
 unfold gN eX eY
 rw[if_neg (by decide),bA hall,DI hd hA]
 dsimp only
 by_cases e:d &&& jM g=0
 ·rw[e,if_pos (by rfl),bA (show pZ 1000=some true from rfl),if_pos rfl,hs0 e]
  rfl
 ·rw[if_neg (by omega),bA (show pZ 1000=some true from rfl),if_pos rfl,bA (show i_ 1000 (g.1,g.2) (d:Int) (q:Int)=_ from hreg),Jp]
  have h:=hs1 e
  have h2:(((Ck (Ij ch) m1:Nat):Int)=0)↔Ck (Ij ch) m1=0:=by omega
  by_cases hq:s<=(q:Int)
  ·rw[decide_eq_true hq,decide_eq_true (h2.2 (h.1 hq))];rfl
  ·rw[decide_eq_false hq,decide_eq_false fun w=>hq (h.2 (h2.1 w))];rfl
end Go.Proofs.YtjlbcgddhnjcjaaGreatDoor
end
section
namespace Go.Sx
open Go.RowKit Go.ChangeShapes Go.WideShapes Go.ChangeAt Go.Proofs Go.Joins Go.Deep
section
variable {H:Type} {enc:TypeId×Value->H} {P:Program} {w:World} {base:Nat} {spare:Nat->Bool} {held:Bool}
theorem Gn {α:Type} (l:List α) (d:α):l=(List.range l.length).map fun i=>l.getD i d:=by
 apply List.ext_getElem?
 intro i
 by_cases h:i<l.length
 ·simp[h]
 ·simp[h]
theorem RA {r:Reach} {b0:Nat} {t:TypeId} {fs:Array Field} {v:Value} {d:DataW H} {p:List MemPlace} (hs:P.underlying t=some (.struct fs)) (hone:oneCellFields P fs=true) (hC:P.cellsOf t=fs.size)
  (hv:Value.okWide P w r b0 t v) (h:DataW.Trod enc P w base spare held t v d p):
  ∃(V:Nat->Value) (Y:Nat->DataW H×List MemPlace) (n:Nat),v = .agg ((List.range fs.size).map V).toArray∧∀(i:Nat) (f:Field),fs[i]? = some f->DataW.trod enc P w base spare held n f.type [V i]=some (Y i):=by
 obtain⟨cs,rfl,hsz⟩:=okWide_struct hs hv
 obtain⟨fuel,hf⟩:=h
 obtain⟨xs,n,_,_,_,hlen,hg⟩:=DataW.trod_struct hs hf
 refine⟨fun i=>cs.toList.getD i undef,fun i=>xs.getD i (.nil,[]),n,?_,fun i f hi=> ?_⟩
 ·congr 1
  apply Array.toList_inj.1
  show cs.toList=(List.range fs.size).map fun i=>cs.toList.getD i undef
  have h2:fs.size=cs.toList.length:=by rw[<-hC,<-hsz];rfl
  rw[h2]
  exact Gn cs.toList undef
 ·have hlt:i<fs.size:=(Array.getElem?_eq_some_iff.1 hi).1
  obtain⟨o,k⟩:=hone_of hone i f hi
  have g:=hg i f hi
  have hcl:(Value.cells (.agg cs)).toList=cs.toList:=rfl
  have hl:i<cs.toList.length:=by rw[Array.length_toList];omega
  rw[o,k,hcl,take1_drop _ _ undef hl]at g
  rw[g]
  have hx:i<xs.length:=by omega
  simp[hx]
theorem Rb {k:IntKind} {e:TypeId} (he:P.underlying e=some (.int k)) {n:Nat} {v:Value} {x:DataW H×List MemPlace} (h:DataW.trod enc P w base spare held n e [v]=some x):∃y:Int,v = .int k y:=by
 obtain⟨y,hy,_,_⟩:=DataW.trod_int he h
 exact⟨y,by simpa using hy⟩
theorem Hb {e:TypeId} (he:P.underlying e=some .bool) {n:Nat} {v:Value} {x:DataW H×List MemPlace} (h:DataW.trod enc P w base spare held n e [v]=some x):∃y:Bool,v = .bool y:=by
 obtain⟨y,hy,_⟩:=DataW.trod_bool he h
 exact⟨y,by simpa using hy⟩
theorem SB {n:Int} (h:(Lit.int .u32 n).wf=true):0<=n∧n<4294967296:=by
 simp only[Lit.wf,Bool.and_eq_true,decide_eq_true_eq]at h
 have e1:IntKind.u32.min=0:=by decide
 have e2:IntKind.u32.max=4294967295:=by decide
 omega
end
end Go.Sx
end
section
set_option maxRecDepth 100000
namespace Go.Sx
open Go.RowKit Go.ChangeShapes Go.WideShapes Go.ChangeAt Go.Proofs Go.Joins
theorem Lr {P:Program} {W:World} {n:String} {b m t t':Nat} {k:IntKind} {xs:aL} (h:laidMet P [(n,.agg (xs.map fun x=> .lit (.int k x)))] W) (hg:P.globalNamed n=some b)
  (ht:(P.globals[b]?).map (·.type)=some t) (hu:P.underlying t=some (.array m t')) (hu':P.underlying t'=some (.int k)) (hc:P.cellsOf t'=1) (hcm:P.cellsOf t=m) (hm:0<m):(Gb b (cellsOf (dH.int k) xs)).p W (fun _=>True):=by
 obtain⟨ps,⟨g,t2,cs,fuel,p,q,e1,e2,e3,e4,e5,e6⟩,hnd,hcell⟩:=h
 rw[hg]at e1;cases e1
 rw[ht]at e2;cases e2
 refine⟨trivial,?_⟩
 obtain⟨ys,ml,_,e7,hl,hyl,hf⟩:=DataW.trod_array hu e4
 simp only[Prod.mk.injEq,DataW.agg.injEq]at e7
 have hlen:xs.length=m:=by rw[<-hyl];simpa using congrArg List.length e7.1
 have hcl:cs.size=m:=by rw[<-hcm,<-hl];simp
 have hcs:cs.toList=cellsOf (dH.int k) xs:=by
  refine List.ext_getElem? fun i=> ?_
  by_cases hi:i<m
  ·have h1:=hf i hi
   rw[hc,Nat.mul_one]at h1
   have hx:xs[i]? = some (xs[i]'(by omega)):=List.getElem?_eq_getElem _
   have h2:=rJ (dH.int k) xs i _ hx 0 _ rfl
   rw[show i*(dH.int k).sz+0=i from Nat.mul_one i]at h2
   rw[h2]
   have hy:ys[i]? = some (ys[i]'(by omega)):=List.getElem?_eq_getElem _
   rw[hy]at h1
   obtain⟨z,hz,hz2,_⟩:=DataW.trod_int hu' h1
   have hc0:cs.toList[i]? = some (.int k z):=by
    have:=congrArg (·[0]?) hz
    simpa [List.getElem?_take,List.getElem?_drop]using this
   rw[hc0]
   have h3:=congrArg (·[i]?) e7.1
   simp only[List.getElem?_map,hx,hy,Option.map_some,Option.some.injEq]at h3
   rw[hz2]at h3
   have h4:xs[i]=z:=by simpa using h3
   rw[h4]
  ·rw[List.getElem?_eq_none (by simp;omega),List.getElem?_eq_none (by rw[cR,hlen];show m*1<=i;omega)]
 have hmem:MemPlace.cell b 0∈ps:=by
  rw[e6]
  refine List.mem_append_left _ (List.mem_append_left _ ?_)
  exact List.mem_map.2 ⟨0,by simp;omega,rfl⟩
 obtain⟨⟨c,T,hb⟩,_⟩:=hcell b 0 hmem
 refine⟨T,?_⟩
 have h5:c=cs:=by
  have h6:(W.var? P n)=some c:=by unfold World.var?;rw[hg];simp[hb]
  rw[h6]at e3;exact Option.some.inj e3
 rw[hb,h5,<-hcs]
theorem JB {H:Type} {enc:TypeId×Value->H} {os:Os} (ld:List (String×DataW Unit)) (hpl:(ld.all fun x=>x.2.handleName?.isNone)=true) (started:os.Started) {f:FuncId} {fn:Func} {s:ChangeSpec} {r:Bool} (hfn:Tryz.prog.funcs[f]? = some fn) (noInit:Tryz.prog.inits.idxOf? f=none)
  (hread:(fn.params.toList.all fun t=>Tryz.prog.readableRec t&&decide (t<Tryz.prog.types.size))=true) (hres:fn.resultTypes = #[4]) (hvars:s.vars=[])
  (hspec:∀ds:List (DataW H),ds.length=fn.params.toList.length->s.fn H ds={results:=[.lit (.bool true)],args:=ds})
  (witness:∃(w:World) (tape:Tape) (i:Input),w.os=os∧(w.forCall tape i).Shaped Tryz.prog∧i.vars=[]∧Input.okWide Tryz.prog (w.forCall tape i) .any w.heap.size f i∧
   ((s.pre enc Tryz.prog fn [] false (w.forCall tape i).memory i.args∧laidMetH Tryz.prog ld (w.forCall tape i).memory)∧sizedMet enc Tryz.prog fn (OpenSpec.ofChange s) false (w.forCall tape i).memory i.args)∧({}:Assume).holds Tryz.prog (lone (Frame.enter Tryz.prog f i.args .normal) [] (w.forCall tape i)))
  (main:∀(W:World) (base:Nat) (args:Array Value) (ds:List (DataW H)) (p:List MemPlace),laidMetH Tryz.prog ld W->(∀(j:Nat) t v,fn.params[j]? = some t->args[j]? = some v->Value.okWide Tryz.prog W .any base t v)->
   DataW.TrodAll enc Tryz.prog W 0 (fun _=>true) true fn.params.toList args.toList ds p->Calls Tryz.prog f args W fun e W'=>e = .returned (.bool true)∧Hy W W'):
  ReturnsInHanded {} Go.Proofs.YtjlbcgddhnjcjaaGreatDoor.Tryz.pinned.checked os f .any (fun w args=>(s.pre enc Tryz.prog fn [] false w args∧laidMetH Tryz.prog ld w)∧sizedMet enc Tryz.prog fn (OpenSpec.ofChange s) false w args) (s.post enc Tryz.prog fn false r false false):=by
 refine returnsInHanded_of_change_and (C:=Go.Proofs.YtjlbcgddhnjcjaaGreatDoor.Tryz.pinned.checked) (X:=fun w _=>laidMetH Tryz.prog ld w) (fun _ _ _ hh h=>by rw[MakeChecks.laidMetH_plain _ _ _ hpl]at h ⊢;exact h.of_heap hh) abr started noInit hfn witness ?_
 intro W base args ds gs before hval hW _ _ hL _
 have hlt:=hW.lt
 have hW':=hW
 obtain⟨p,q,hA,hV,rfl,_,_⟩:=hW
 rw[hvars]at hV
 obtain⟨rfl,rfl⟩:=trodVars_none hV
 refine(main W base args ds p hL hval hA).mono ?_
 rintro e W' ⟨rfl,hb⟩
 refine⟨_,rfl,?_⟩
 have hlen:ds.length=fn.params.toList.length:=by
  have:∀(ts:List TypeId) (vs:fP) (ds:List (DataW H)) (p:List MemPlace),DataW.TrodAll enc Tryz.prog W 0 (fun _=>true) true ts vs ds p->ds.length=ts.length:=by
   intro ts
   induction ts with
   |nil=>intro vs ds p h;cases vs<;>cases ds<;>first|rfl|exact h.elim
   | cons t ts ih =>
    intro vs ds p h
    cases vs with
    |nil=>exact h.elim
    |cons v vs=>
     cases ds with
     |nil=>exact h.elim
     |cons d ds=>obtain⟨_,_,_,h2,_⟩:=h;simp[ih vs ds _ h2]
  exact this _ _ _ _ hA
 have hs:s.fn H (ds++[])={results:=[.lit (.bool true)],args:=ds}:=by rw[List.append_nil];exact hspec ds hlen
 refine⟨ds,[],p++[],[],p,[],hW',?_,?_,?_,hb.frame _,fun h=>by cases h⟩
 ·rw[hs,hres]
  exact trodAll_mk1 (shut_bool Tryz.underlying4 true)
 ·rw[hs]
  exact Bt Yl hb _ _ _ _ hread hA (fun x hx=>hlt x (List.mem_append_left _ hx))
 ·rw[hs,hvars];exact rfl
theorem Oz {P:Program} {n:String} {k:IntKind} {xs:aL} {W:World} (h:laidMetH P [(n,.agg (xs.map fun x=> .lit (.int k x)))] W):laidMet P [(n,.agg (xs.map fun x=> .lit (.int k x)))] W:=by
 rw[MakeChecks.laidMetH_plain _ _ _ (by rfl)]at h;exact h
end Go.Sx
end
