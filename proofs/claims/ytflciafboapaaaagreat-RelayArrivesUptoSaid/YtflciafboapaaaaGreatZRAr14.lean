/- Models and proofs. Conditions: none. -/
import Derived.Test.YtflciafboapaaaaGreatZRAr13
set_option linter.unusedVariables false
set_option linter.unusedSimpArgs false
set_option maxHeartbeats 4000000
set_option maxRecDepth 20000
open Go.Proofs.Tryz
variable (U:Nat)
namespace Go.Proofs.YtflciafboapaaaaGreat
open Go Go.Sx Go.Gx
set_option maxRecDepth 100000
def Ej (a:Nat):V1 V4:=some (true)
theorem aay:aU prog 16:=call16
theorem aaT:okT (Ik Ct gp2 4000 16 [] H0)=true:=by kernel_rfl
theorem OS (a:Nat) (r:V4) (h:Ej a=some r):
  aZ prog 16 #[] [] (λx:Unit=>Value.bool (r)) (λx l=>l) (λ_ l=>l):=by
 obtain rfl:=Option.some.inj h;have⟨d,c⟩:=aco aaT;rw[Dd tD]at c;exact Rp NJ aay (λf e h=>h.bool_inv) λT b=>Jn (gs:=gl T) amw c (g_.start b Z) .nil
end Go.Proofs.YtflciafboapaaaaGreat
namespace Go.Proofs.YtflciafboapaaaaGreat
open Go Go.Sx
theorem abL:Ej 1000=some true:=rfl
theorem TM {S:Gc} {vars:V6 Ah} {R:V6 RL} {c:bJ} {v:Nat} (a:v<S.2.1.2.length) (b:c.length=S.2.1.2.length):at' (DX S vars R c (Tm S R c)) (v:Int)=Sj S vars R c v:=by
 rw[Oi V7,My,zAe a,zBi];unfold Sj;by_cases h:0<=lK S R c v
 .rw[if_pos (zAe h),if_pos h]
 .rw[if_neg (by simpa using h),if_neg h]
structure Gk (g:GR) (vars:List Ah) (nx:bJ->Nat->aX) (P:Nat->Nat->aX->Prop):Prop where
 start:∀v s,v<g.2.length->GM g vars v s=true->P 0 v s
 ok:∀k v s,v<g.2.length->P k v s->GM g vars v s=true
 down:∀k v s,v<g.2.length->P (k+1) v s->P k v s
 next:∀k c,c.length=g.2.length->(∀x,x<g.2.length->P k x (at' c (x:Int)))->∀v,v<g.2.length->P (k+1) v (nx c v)
structure RP (g:GR) (cap:Nat) (P:Nat->Nat->aX->Prop) (k:Nat) (y:zV):Prop where
 sh:SH g y
 all:Da g (P k) y
 cp:Wy g cap y
def evZ (e:Nat×Nat×Nat):Int×Int×Int:=((e.1:Int),(e.2.1:Int),(e.2.2:Int))
def Dr (g:GR) (a:Nat):nX:=(Ld g a).map evZ
theorem Zn (g:GR) (d:bJ->Nat->aX) (c:Nat) (y:zV) (a b:nX):perfs g d c y (a++b)=perfs g d c (perfs g d c y a) b:=by unfold perfs;rw[List.foldl_append]
theorem afE (g:GR) (nx:bJ->Nat->aX) (a:Nat) (y:zV) (l:V6 (Nat×Nat×Nat)):perfs g nx a y (l.map evZ)=l.foldl (kU g nx a) y:=by unfold perfs;rw[List.foldl_map];rfl
theorem aaO {g:GR} {a:Nat} {y:zV} (h:Sm g y):Wy g a y:=λv i c b=>by rw[h.w v i c b];exact Nat.zero_le _
section
variable {g:GR} {vars:V6 Ah} {nx:V6 (V6 Int)->Nat->V6 Int} {P:Nat->Nat->V6 Int->Prop} {cap k:Nat} {y:zV}
theorem Gk.keep (C:Gk g vars nx P) (f:VG g):∀(l:V6 (Int×Int×Int)) {y:zV},RP g cap P k y->(∀e∈l,LC g e=true)->RP g cap P k (perfs g nx cap y l)
 | [],_,h,_=>h
 |e::l,y,h,hl=>by
  have⟨a,b,c⟩:=TQ f h.sh h.all h.cp (abi (hl e (zAd ..))) λc j d v i=>C.down k v _ i (C.next k c j d v i);exact C.keep f l (y:=kU g nx cap y (evN e)) ⟨a,b,c⟩ λx d=>hl x (zAk _ d)
theorem Gk.sweep (C:Gk g vars nx P) (e:VG g) (h:RP g cap P k y) (d:1<=cap):RP g cap P (k+1) (perfs g nx cap y (Dr g cap))/\Sm g (perfs g nx cap y (Dr g cap)):=by
 unfold Dr;rw[afE];have⟨a,b,c⟩:=adf (nx:=nx) (P':=P (k+1)) e h.sh h.all h.cp d (λv s f=>C.down k v s f) (C.next k);exact⟨⟨a,b,aaO c⟩,c⟩
theorem Gk.vy (C:Gk g vars nx P) (a:VG g) (h:RP g cap P k y):VY g vars cap y:=⟨h.sh,h.all.mono (λv s b=>C.ok k v s b) a,h.cp⟩
theorem Gk.begin (C:Gk g vars nx P) (a:VG g) (h:VY g vars cap y):RP g cap P 0 y:=⟨h.sh,h.all.mono (λv s b=>C.start v s b) a,h.cp⟩
end
theorem VY.up {g:GR} {c:V6 Ah} {a b:Nat} {y:zV} (h:VY g c a y) (d:a<=b):VY g c b y:=⟨h.sh,h.all,λv i f e=>zB6 (h.cp v i f e) d⟩
theorem afO {g:GR} {b:V6 Ah} {d:V6 (V6 Int)->Nat->V6 Int} {a:Nat} {y:zV} {l:V6 (Int×Int×Int)} (i:1<=a) (j:a<=8) (h:VY g b a y) (f:∀e∈l,LC g e=true):afN g b d (a:Int) y l=(perfs g d a y l,0):=by
 unfold afN;rw[Q3,if_pos (MP.2 ⟨V7,by rw[zAf];exact h⟩),if_pos (qK.2 λk c=>f _ (by rw[i_ c];exact List.getElem_mem c)),zAf]
theorem abd {g:GR} {p:xO} {R:V6 RL} {y:zV} (c:VG g) (h:SH g y) (d:Sm g y):enR (bF p g) g R y=Tm (bF p g) R y.1:=by
 unfold enR Tm;refine LM λv b=>?_;have:vw g y v=y.1:=UF c h b (λj e=>d.a v j b e) _ (zAg _);rw[this]
theorem abK {g:GR} {y:zV} (b:Sm g y):knB g y=true:=by
 unfold knB;refine qK.2 λv d=>qK.2 λi c=>?_;unfold kwB;rw[b.a v i d c,b.w v i d c,zAe Z];rfl
theorem We {g:GR} {a:V6 Ah} {b:Nat} {p:xO} {R:V6 RL} {y:zV} (j:VG g) (f:b<=8) (h:VY g a b y) (d:Sm g y) (l:∀v,v<g.2.length->¬0<=lK (bF p g) R y.1 v):(ZE g a 8 y&&(knB g y&&decide (((enR (bF p g) g R y:Nat):Int)=0)))=true:=by
 have c:ZE g a 8 y=true:=MP.2 ⟨V7,h.up (by show b<=8;exact f)⟩;have k:enR (bF p g) g R y=0:=by
  rw[abd j h.sh d];refine Nat.eq_of_testBit_eq λi=>?_;rw[My,Nat.zero_testBit];by_cases e:i<g.2.length
  .rw[zA6 (l i e),Bool.and_false]
  .rw[zA6 (show¬i<(bF p g).2.1.2.length from e),Bool.false_and]
 rw[c,abK d,k];rfl
structure BF (g:GR) (F:Int->Int->Int) (r v j:Nat) (R:aX):Prop where
 len:R.length=g.2.length
 ge:∀x:Nat,x<g.2.length->mI g F x<=at' R (x:Int)
 done:∀x:Nat,x<g.2.length->rk g F x<=r->at' R (x:Int)=mI g F x
 now:∀x:Nat,x<v->x<g.2.length->rk g F x<=r+1->at' R (x:Int)=mI g F x
 here:∀i u w,i<j->Lk g v i u w->rk g F u<=r->at' R (v:Int)<=F (mI g F u) w
section
variable {g:GR} {F:Int->Int->Int} {L:Int} {r v j:Nat} {R:V6 Int}
theorem BF.relax (p:nM g F L) (q:v<g.2.length) (h:BF g F r v j R) {u:Nat} {w:Int} (m:Lk g v j u w):BF g F r v (j+1) (R.set v (min (at' R (v:Int)) (F (at' R (u:Int)) w))):=by
 have l:=h.len;have d:∀x:Nat,x<g.2.length->at' (R.set v (min (at' R (v:Int)) (F (at' R (u:Int)) w))) (x:Int)=if x=v then min (at' R (v:Int)) (F (at' R (u:Int)) w)else at' R (x:Int):=λx c=>by
  rw[qT _ _ _ _ V7]
 have A:mI g F v<=F (at' R (u:Int)) w:=by
  have a:=p.mono _ _ w (h.ge u m.2.1);have b:=VL p q m;omega
 refine⟨by simpa using l,λx c=>?_,λx c f=>?_,λx n c f=>?_,λi s B E k f=>?_⟩
 .rw[d x c];split
  .rename_i e;subst e;have:=h.ge x c;omega
  .exact h.ge x c
 .rw[d x c];split
  .rename_i e;subst e;have:=h.done x c f;omega
  .exact h.done x c f
 .rw[d x c,Q0];exact h.now x n c f
 .rw[d v q,if_pos Z];by_cases e:i=j
  .subst e;have⟨_,_,C,t⟩:=m;have⟨_,y,D,o⟩:=k;have z:u=s:=V7
   subst z;rw[t]at o;subst o;have:=h.done u y f;rw[this];omega
  .have:=h.here i s B V7 k f;omega
theorem BF.node (b:nM g F L) (A:v<g.2.length) (h:BF g F r v (row g v).length R):BF g F r (v+1) 0 R:=by
 refine⟨h.len,h.ge,h.done,λx o a m=>?_,λi u w l=>absurd l (zB8 i)⟩
 by_cases e:x=v
 .subst e;by_cases k:x=0
  .subst k;by_cases q:rk g F 0<=r
   .exact h.done 0 a q
   .have p:=Dk b a;have f:∀n,n<=g.2.length->Cy (mI g F) (mI g F 0) n=0:=by
     intro n
     induction n with
     |zero=>intro _;rfl
     |succ n s=>
      intro z;unfold Cy;rw[s V7,if_neg (by rw[p];have:=lZ b (show n<g.2.length by omega);omega)]
    exact absurd (show rk g F 0<=r by have:rk g F 0=0:=f _ (zAg _);omega) q
  .have⟨i,u,w,c,y,d⟩:=JB b a k;have t:=V_ b c.2.1 d;have:=h.here i u w c.1 c V7;have:=h.ge x a;omega
 .exact h.now x V7 a m
theorem BF.round (h:BF g F r g.2.length 0 R):BF g F (r+1) 0 0 R:=
 ⟨h.len,h.ge,λx a c=>h.now x a a c,λx a=>absurd a (zB8 x),λi u w b=>absurd b (zB8 i)⟩
theorem BF.fin (h:BF g F g.2.length 0 0 R) {x:Nat} (a:x<g.2.length):at' R (x:Int)=mI g F x:=h.done x a (Nat.le_of_lt (XN a))
theorem BF.start (c:nM g F L) (k:R.length=g.2.length) (d:0<g.2.length) (l:at' R 0=0) (f:∀x:Nat,x<g.2.length->x≠0->mI g F x<=at' R (x:Int)):BF g F 0 0 0 R:=by
 have m:=Dk c d;have b:at' R ((0:Nat):Int)=0:=l;refine⟨k,λx a=>?_,λx a n=>?_,λx a=>absurd a (zB8 x),λi u w h=>absurd h (zB8 i)⟩
 .by_cases e:x=0
  .subst e;rw[b];omega
  .exact f x a e
 .obtain rfl:=XO c a V7;rw[b];omega
end
section
variable {g:GR} {F:Int->Int->Int} {L:Int}
theorem afs (c:nM g F L) {v:Nat} (e:v<g.2.length) {y:Int} (h:Wv g F v y) (d:∀z,Wv g F v z->y<=z):mI g F v=y:=by
 have⟨a,b⟩:=Dj c e;have:=b y h;have:=d _ a;omega
theorem agb (c:VG g) {v:Nat} {y:Int} (h:Wv g fB v y):∃k:Nat,y=(k:Int)/\xZ g 0 k v:=by
 induction h with
 |zero=>exact⟨0,rfl,rfl,by have:=c.n1;omega⟩
 | @link u v i y w h hv hl ih=>
  obtain⟨k,rfl,d⟩:=ih;have⟨e,b,a⟩:=c.back hv ⟨i,hl.1,hl.2.2.1⟩;exact⟨k+1,by unfold fB;push_cast;rfl,u,d,e,b,a⟩
theorem Yo (a:VG g):∀{k v:Nat},xZ g 0 k v->Wv g fB v (k:Int)
 |0,v,⟨h,_⟩=>by subst h;exact .zero
 |k+1,v,⟨u,hw,ha⟩=>by
  have c:=xZ.lt a hw;have f:=a.adj_lt c ha;have⟨i,d,b⟩:=a.back c ha;have:=Wv.link (Yo a hw) f (i:=i) (w:=(gR (row g v) i).2) ⟨d,c,b,rfl⟩;have e:fB (k:Int) (gR (row g v) i).2=((k+1:Nat):Int):=by unfold fB;push_cast;rfl
  rw[e]at this;exact this
theorem Tz (a:VG g) (f:nM g fB 1) {d:V6 Int} (e:BQ g 0 d) (c:∀v,v<g.2.length->0<=D d v) {v:Nat} (b:v<g.2.length):mI g fB v=D d v:=by
 refine afs f b ?_ λz i=>?_
 .have:=Yo a (e.pos a b (c v b));rwa[show(((D d v).toNat:Nat):Int)=D d v from by have:=c v b;omega]at this
 .obtain⟨k,rfl,h⟩:=agb a i;exact(BQ.le a e h).2
theorem Tp {n:Nat} {P:Nat->Prop} [DecidablePred P] {i:Nat} (a:i<n) (h:P i) (c:∀j,j<i->¬P j):iA ((List.range n).map λq=>yA (decide (P q)))=(i:Int):=by
 refine z_ (l:=(List.range n).map λq=>yA (decide (P q))) (i:=i) (by simpa using a) ?_ λj b=>?_
 .rw[MG _ a,zAe h];decide
 .rw[MG _ V7,zA6 (c j b)];rfl
theorem Nz {n:Nat} {P:Nat->Prop} [DecidablePred P] (a:∀j,j<n->¬P j):iA ((List.range n).map λq=>yA (decide (P q))) = -1:=by
 have e:((List.range n).map λq=>yA (decide (P q))).findIdx? nz=none:=by
  rw[List.findIdx?_eq_none_iff];intro x c;obtain⟨q,b,rfl⟩:=zAr.1 c;rw[zA6 (a q (zAj.1 b))];rfl
 unfold iA;rw[e]
theorem Zt {m l:Int} (b:1<=l) (c:0<=m) {x:Int} (d:x<=m):x<(m / l+1)*l:=by
 have a:=Int.lt_ediv_add_one_mul_self m (show 0<l by omega);omega
end
noncomputable def ZL (g:GR) (F:Int->Int->Int) (v:Nat):Int:=if v=0 then -1 else iA ((LL g F v).map λy=>yA (decide (y=mI g F v)))
noncomputable def cE (g:GR) (F:Int->Int->Int):bJ:=(List.range g.2.length).map λv=>[mI g F v,ZL g F v]
section
variable {p:xO} {g:GR} {vars:V6 Ah} {eX eY:E} {F:Int->Int->Int} {L N:Int}
theorem Pt {v:Nat} (a:v<g.2.length):at' (cE g F) (v:Int)=[mI g F v,ZL g F v]:=MG _ a
theorem Kq:(cE g F).length=g.2.length:=by simp[cE]
theorem ahO (S:Pn g vars eX eY F L N) (j:VG g) {c:V6 (V6 Int)} (h:FJ g c vars) {K:Nat} (q:1<=K) (r:∀v,v<g.2.length->mI g F v<(K:Int)*L):cS p g vars (RY eX eY) c K=cE g F:=by
 have k:=(Tb (p:=p) S j h K).1;have d:=k.len;refine List.ext_getElem (by rw[d,Kq]) λi n o=>?_;have f:i<g.2.length:=V7
 have⟨a,b⟩:=ahN (p:=p) S j h q r f;have⟨x,y,e⟩:=aiO (at' (cS p g vars (RY eX eY) c K) (i:Int)) (by rw[k.shape.row i f];exact S.len);rw[<-i_ n,<-i_ o,Pt f,e];have l:HR (cS p g vars (RY eX eY) c K) i=x:=by unfold HR;rw[e];rfl
 have m:TU (cS p g vars (RY eX eY) c K) i=y:=by unfold TU;rw[e];rfl
 rw[l]at a;rw[m]at b;rw[a,b];rfl
theorem ahM (S:Pn g vars eX eY F L N) (b:VG g) {c:V6 (V6 Int)} (a:FJ g c vars) {K:Nat} (d:1<=K) (e:∀v,v<g.2.length->mI g F v<(K:Int)*L):FJ g (cE g F) vars:=by
 rw[<-ahO (p:=default) S b a d e];exact(Tb (p:=default) S b a K).1
end
theorem Nh (b:V4):yA b≠0↔b=true:=by cases b<;>simp[yA]
section
variable {p:xO} {g:GR} {c:V6 (V6 Int)} {v:Nat}
theorem YS (l:V6 Int) : -1<=iA l/\iA l<=(l.length:Int) - 1:=by
 unfold iA;cases h:l.findIdx? nz with
 |none=>dsimp only;omega
 |some i=>
  have⟨a,_⟩:=List.findIdx?_eq_some_iff_getElem.1 h;dsimp only;omega
theorem Ez {k a b x:Int} (d:a<=x) (e:x<=b):rP k (a,b) x=x:=by unfold rP;rw[if_pos ⟨d,e⟩]
end
def Cl (k:Nat) (x y:Int):Prop:=(y<(k:Int)->x=y)/\((k:Int)<=y->(k:Int)<=x)
section
variable {L:Int->Int->Int->Int} {deg:Nat} {x y:E} {q:Int}
theorem Xl:(E.bi 41 x y).den L deg q≠0↔x.den L deg q≠0/\y.den L deg q≠0:=by
 show yA (decide (x.den L deg q≠0)&&decide (y.den L deg q≠0))≠0↔_;rw[Nh,zA8,zA2,zA2]
theorem QV:(E.bi 42 x y).den L deg q≠0↔x.den L deg q≠0\/y.den L deg q≠0:=by
 show yA (decide (x.den L deg q≠0)||decide (y.den L deg q≠0))≠0↔_;rw[Nh,zB5,zA2,zA2]
theorem Ku:(E.bi 36 x y).den L deg q≠0↔x.den L deg q≠y.den L deg q:=by
 show yA (decide (x.den L deg q≠y.den L deg q))≠0↔_;rw[Nh,zA2]
end
def Gj (c:V6 (V6 Int)) (v:Nat) (x:Int):Int:=at' (at' c (v:Int)) x
def Si (g:GR) (c:V6 (V6 Int)) (v i:Nat) (x:Int):Int:=at' (at' c (gR (row g v) i).1) x
theorem acj {g:GR} {c:V6 (V6 Int)} {v i u:Nat} {x:Int} (h:(gR (row g v) i).1=(u:Int)):Si g c v i x=Gj c u x:=by unfold Si Gj;rw[h]
def ldK:E:= .bi 33 (.bi 30 (.lf 12 0) (.lf 6 0)) (.lf 12 1)
def ZJ:E:= .ag 24 (.ite (.bi 37 (.bi 33 (.lf 12 1) (.lf 1 1)) (.lf 6 0)) ldK (.bi 30 (.bi 33 (.lf 7 0) (.lf 1 1)) (.lf 6 0)))
def ldI:E:= .bi 30 (.lf 8 0) (.lf 6 0)
def ldQ:E:= .bi 31 ZJ (.lf 6 0)
def ldD:E:= .bi 33 (.bi 32 ZJ (.lf 6 0)) (.lf 1 1)
def ldP:E:= .ag 23 (.bi 35 ldK ZJ)
def guO:E:= .bi 41 (.bi 38 ldI ZJ) (.bi 42 (.bi 42 (.bi 36 (.lf 5 0) (.lf 8 0)) (.bi 36 (.lf 5 1) (.lf 1 0))) (.bi 36 (.lf 5 2) (.lf 4 0)))
def guJ:E:= .bi 41 (.bi 39 ldI ZJ) (.bi 42 (.bi 42 (.bi 36 (.lf 5 0) ldQ) (.bi 36 (.lf 5 1) ldD)) (.bi 36 (.lf 5 2) ldP))
def RE:V6 RL:=[(guO,[(0,.lf 8 0),(1,.lf 1 0),(2,.lf 4 0)]),(guJ,[(0,ldQ),(1,ldD),(2,ldP)])]
theorem XT:sK 3 RE=true:=by decide +kernel
def pS:V6 Ah:=[(ByteArray.mk #[108,101,97,100],1,0,0,0,1),(ByteArray.mk #[100],1,0,-1,1,0),(ByteArray.mk #[112],3,0,0,0,0)]
theorem ac_:∀x,x<pS.length->Eu (at' pS (x:Int)):=by
 intro x a;have a:x<3:=a
 match x,a with
 |0,_=>exact⟨Q2,Q2,Q2⟩
 |1,_=>exact⟨Q2,Q2,Q2⟩
 |2,_=>exact⟨Q2,Q2,Q2⟩
theorem afp (g:GR) (v:Nat):lo g (at' pS ((0:Nat):Int)) v=0:=rfl
theorem abT (g:GR) (v:Nat):lo g (at' pS ((1:Nat):Int)) v=0:=rfl
theorem aiy (g:GR) (v:Nat):lo g (at' pS ((2:Nat):Int)) v = -1:=rfl
theorem afd (g:GR) (v:Nat):hi g (at' pS ((0:Nat):Int)) v=fI g g.1.length:=by
 show(0:Int)+0*(g.2.length:Int)+1*fI g g.1.length=_;omega
theorem afe (g:GR) (v:Nat):hi g (at' pS ((1:Nat):Int)) v=(g.2.length:Int) - 1:=by
 show(-1:Int)+1*(g.2.length:Int)+0*fI g g.1.length=_;omega
theorem aio (g:GR) (v:Nat):hi g (at' pS ((2:Nat):Int)) v=((row g v).length:Int) - 1:=rfl
theorem agK {g:GR} (b:VG g):pV g pS:=by
 have e:=b.n24;have f:=b.n1;have d:=b.len;have h:=rZ b g.1.length V7;refine⟨Q2,ac_,λx a=>?_,λx a c=>?_⟩
 .have a:x<3:=a
  match x,a with
  |0,_=>exact .inl Z
  |1,_=>exact .inl Z
  |2,_=>exact .inr (.inr Z)
 .have a:x<3:=a
  match x,a,c with
  |0,_,_=>rw[afp,afd];omega
  |1,_,_=>rw[abT,afe];omega
  |2,_,c=>exact absurd c Q2
theorem TD (g:GR):∀{k v:Nat},v<k->at' g.1 (v:Int)<=fI g k
 |0,v,h=>absurd h (zB8 v)
 |k+1,v,h=>by
  simp only[fI];by_cases e:v=k
  .subst e;omega
  .have:=TD g (k:=k) (v:=v) V7;omega
theorem Uj {x:Int} (a : -1073741824<=x) (b:x<=1073741824):KZ (wI .i64 x)=x:=by
 rw[Q9];unfold KZ;omega
theorem VQ {a n:Int} (c:0<=a) (d:a<=300) (b:0<=n) (e:n<=24):0<=a*n/\a*n<=7200:=
 ⟨zBh c b,Int.mul_le_mul d e b V7⟩
theorem VP {a b n:Int} (h:a<b) (c:0<=n):a*n+n<=b*n:=by
 have:=Int.mul_le_mul_of_nonneg_right (show a+1<=b by omega) c;rw[Int.add_mul,Int.one_mul]at this;exact this
theorem XL {a b:Int} (c:0<=a) (d:a<=1073741824) (g:0<b):Ua a b=a / b:=by
 unfold Ua;have e:0<=a / b:=Int.ediv_nonneg c V7;have f:a / b<=a:=Int.ediv_le_self b c;rw[Q0,zA6 (show¬a<0 by omega),zA6 (show¬b<0 by omega),if_neg V8,Int.tdiv_eq_ediv_of_nonneg c,Q9]
theorem aic {a b:Int} (c:0<=a) (d:a<=1073741824) (e:0<b):biD 31 a b=a / b:=by
 show KZ (Ua a b)=_;have f:0<=a / b:=Int.ediv_nonneg c V7;have g:a / b<=a:=Int.ediv_le_self b c;rw[XL c d e];unfold KZ;omega
theorem aiC {a b:Int} (e:0<=a) (c:a<=1073741824) (d:0<b) (f:b<=1000):biD 32 a b=a%b:=by
 show(if b=0 then 0 else KZ (wI .i64 (a - wI .i64 (b*Ua a b))))=_;have g:=zB9 a (show b≠0 by omega);have h:=zB0 a d;have i:=Int.emod_def a b;rw[Q0,XL e c d,Q9 (x:=b*(a / b)),Uj V7 V7];omega
theorem Rm {a d n:Int} (b:0<=d) (c:d<n):(a*n+d) / n=a:=by
 rw[Int.add_comm,Int.add_mul_ediv_right _ _ V7,Int.ediv_eq_zero_of_lt b c];omega
theorem Xy {a d n:Int} (b:0<=d) (c:d<n):(a*n+d)%n=d:=by
 have h:=Int.emod_def (a*n+d) n;rw[Rm b c,Int.mul_comm n a]at h;omega
theorem aku (l:aX) (h:l.length=3) (x y z:Int):at' (((l.set 0 x).set 1 y).set 2 z) 0=x/\at' (((l.set 0 x).set 1 y).set 2 z) 1=y/\at' (((l.set 0 x).set 1 y).set 2 z) 2=z:=by
 match l,h with
 | [a,b,c],_=>exact⟨rfl,rfl,rfl⟩
def ZI (g:GR) (c:bJ) (v i:Nat):Int:=Si g c v i 0*(g.1.length:Int)+Si g c v i 1
def Tk (g:GR) (c:bJ) (v i:Nat):Int:=if Si g c v i 1+1<(g.1.length:Int)then ZI g c v i else(fI g g.2.length+1)*(g.1.length:Int)
def mL (g:GR) (c:bJ) (v:Nat):Int:=vV ((List.range (row g v).length).map (Tk g c v))
def yC (g:GR) (v:Nat):Int:=at' g.1 (v:Int)
def TL (g:GR) (c:bJ) (v:Nat):Int×Int×Int:=
 if yC g v*(g.1.length:Int)<=mL g c v then(yC g v,0,-1)
 else(mL g c v / (g.1.length:Int),mL g c v%(g.1.length:Int)+1,iA ((List.range (row g v).length).map λi=>yA (decide (ZI g c v i=mL g c v))))
def IsT (c:bJ) (v:Nat) (t:Int×Int×Int):Prop:=Gj c v 0=t.1/\Gj c v 1=t.2.1/\Gj c v 2=t.2.2
section
variable {p:xO} {g:GR} {c:V6 (V6 Int)} {v:Nat} (hV:VG g) (hc:FJ g c pS) (hv:v<g.2.length)
 include hV hc
theorem Tq {u:Nat} (e:u<g.2.length):(0<=Gj c u 0/\Gj c u 0<=fI g g.2.length)/\(0<=Gj c u 1/\Gj c u 1<=(g.2.length:Int) - 1)/\(-1<=Gj c u 2/\Gj c u 2<=((row g u).length:Int) - 1):=by
 have a:=hc.ok u e 0 Q2;have b:=hc.ok u e 1 Q2;have d:=hc.ok u e 2 Q2;rw[afp,afd,hV.len]at a;rw[abT,afe]at b;rw[aiy,aio]at d;exact⟨a,b,d⟩
 include hv
 omit hc in
theorem Zj {i:Nat} (d:i<(row g v).length):∃u:Nat,u<g.2.length/\(gR (row g v) i).1=(u:Int)/\ZO g v u/\Si g c v i 0=Gj c u 0/\Si g c v i 1=Gj c u 1:=by
  have⟨u,e,a,b⟩:=hV.port hv d;exact⟨u,e,a,b,acj a,acj a⟩
theorem abN {i:Nat} (f:i<(row g v).length):ldK.den (KL (bF p g,c,(v:Int),[])) (row g v).length (i:Int)=ZI g c v i:=by
 have e:=hV.n24;have d:=hV.len;have⟨u,h,_,_,j,l⟩:=Zj (c:=c) hV hv f;have⟨a,b,_⟩:=Tq hV hc h;have m:=rZ hV g.2.length V7;have k:=VQ (a:=Si g c v i 0) (n:=(g.1.length:Int)) V7 V7 V7 V7;show KZ (wI .i64 (KZ (wI .i64 (Si g c v i 0*(g.1.length:Int)))+Si g c v i 1))=ZI g c v i;rw[Uj (x:=Si g c v i 0*(g.1.length:Int)) V7 V7,Uj V7 V7];rfl
theorem NR (q:Int):ZJ.den (KL (bF p g,c,(v:Int),[])) (row g v).length q=mL g c v:=by
 have f:=hV.n24;have e:=hV.len;have r:=rZ hV g.2.length V7;refine congrArg vV (zBa λi d=>?_);have d:=zAj.1 d;have⟨u,l,_,_,m,o⟩:=Zj (c:=c) hV hv d;have⟨a,b,_⟩:=Tq hV hc l;have j:=abN (p:=p) hV hc hv d;have k:=VQ (a:=fI g g.2.length+1) (n:=(g.1.length:Int)) V7 V7 V7 V7;show(if yA (decide (KZ (wI .i64 (Si g c v i 1+1))<(g.1.length:Int)))≠0 then ldK.den (KL (bF p g,c,(v:Int),[])) (row g v).length (i:Int)else KZ (wI .i64 (KZ (wI .i64 (fI g g.2.length+1))*(g.1.length:Int))))=Tk g c v i;rw[Uj (x:=Si g c v i 1+1) V7 V7,Uj (x:=fI g g.2.length+1) V7 V7,Uj V7 V7,j];unfold Tk;by_cases h:Si g c v i 1+1<(g.1.length:Int)
 .rw[if_pos h,if_pos (by rw[Nh];exact zAe h)]
 .rw[if_neg h,if_neg (by rw[Nh];simpa using h)]
theorem ajE {i:Nat} (f:i<(row g v).length):0<=Tk g c v i:=by
 have e:=hV.n24;have d:=hV.len;have m:=rZ hV g.2.length V7;have⟨u,h,_,_,j,l⟩:=Zj (c:=c) hV hv f;have⟨a,b,_⟩:=Tq hV hc h;have k:=VQ (a:=fI g g.2.length+1) (n:=(g.1.length:Int)) V7 V7 V7 V7;have o:=VQ (a:=Si g c v i 0) (n:=(g.1.length:Int)) V7 V7 V7 V7;unfold Tk ZI;split<;>omega
theorem XC:(0<=mL g c v/\mL g c v<=1073741824)/\(∀i,i<(row g v).length->mL g c v<=Tk g c v i)/\(mL g c v=1073741824\/∃i,i<(row g v).length/\mL g c v=Tk g c v i):=by
 have h:∀i,i<(row g v).length->mL g c v<=Tk g c v i:=λi f=>CN (zAr.2 ⟨i,zAj.2 f,rfl⟩);have l:=hV.n24;have j:=hV.len;have s:=rZ hV g.2.length V7;have d:mL g c v=1073741824\/∃i,i<(row g v).length/\mL g c v=Tk g c v i:=by
  rcases Do ((List.range (row g v).length).map (Tk g c v))with e|e
  .exact .inl e
  .have⟨i,f,m⟩:=zAr.1 e;exact .inr ⟨i,zAj.1 f,m.symm⟩
 refine⟨?_,h,d⟩
 rcases d with e|⟨i,f,e⟩
 .omega
 .have:=ajE hV hc hv f;have⟨u,o,_,_,q,r⟩:=Zj (c:=c) hV hv f;have⟨a,b,_⟩:=Tq hV hc o;have k:=VQ (a:=fI g g.2.length+1) (n:=(g.1.length:Int)) V7 V7 V7 V7;have t:=VQ (a:=Si g c v i 0) (n:=(g.1.length:Int)) V7 V7 V7 V7;rw[e];refine⟨this,?_⟩
  unfold Tk ZI;split<;>omega
 omit hc in
theorem NL:(0<=yC g v/\yC g v<=fI g g.2.length)/\(0<=yC g v*(g.1.length:Int)/\yC g v*(g.1.length:Int)<=7200):=by
  have b:=hV.n24;have a:=hV.len;have i:=rZ hV g.2.length V7;have h:=(hV.node v hv).id;have d:=TD g (k:=g.2.length) hv;have e:yC g v=abD g v:=rfl;have f:at' g.1 (v:Int)=yC g v:=rfl;refine⟨V7,VQ V7 V7 V7 V7⟩
 omit hc in
theorem abM (q:Int):ldI.den (KL (bF p g,c,(v:Int),[])) (row g v).length q=yC g v*(g.1.length:Int):=by
  have⟨_,k⟩:=NL hV hv;show KZ (wI .i64 (yC g v*(g.1.length:Int)))=_;rw[Uj V7 V7]
theorem VI:fY (bF p g) c v ldQ=mL g c v / (g.1.length:Int):=by
 have b:=hV.n1;have a:=hV.len;have⟨k,_⟩:=XC hV hc hv;show biD 31 (ZJ.den (KL (bF p g,c,(v:Int),[])) (row g v).length (-1)) (g.1.length:Int)=_;rw[show ZJ.den (KL (bF p g,c,(v:Int),[])) (row g v).length (-1)=_ from NR hV hc hv _];exact aic k.1 k.2 V7
theorem VF:fY (bF p g) c v ldD=mL g c v%(g.1.length:Int)+1:=by
 have f:=hV.n1;have e:=hV.n24;have d:=hV.len;have⟨k,_⟩:=XC hV hc hv;have a:=zB9 (mL g c v) (show(g.1.length:Int)≠0 by omega);have b:=zB0 (mL g c v) (show 0<(g.1.length:Int) by omega);show KZ (wI .i64 (biD 32 (ZJ.den (KL (bF p g,c,(v:Int),[])) (row g v).length (-1)) (g.1.length:Int)+1))=_;rw[NR hV hc hv,aiC k.1 k.2 V7 V7,Uj V7 V7]
theorem VH:fY (bF p g) c v ldP=iA ((List.range (row g v).length).map λi=>yA (decide (ZI g c v i=mL g c v))):=by
 refine congrArg iA (zBa λi a=>?_);have a:=zAj.1 a;show yA (decide (ldK.den (KL (bF p g,c,(v:Int),[])) (row g v).length (i:Int)=ZJ.den (KL (bF p g,c,(v:Int),[])) (row g v).length (i:Int)))=_;rw[abN hV hc hv a,NR hV hc hv]
theorem Rf:fY (bF p g) c v guO≠0↔yC g v*(g.1.length:Int)<=mL g c v/\((Gj c v 0≠yC g v\/Gj c v 1≠0)\/Gj c v 2 ≠ -1):=by
 unfold fY guO;rw[Xl,QV,QV,Ku,Ku,Ku];refine and_congr ?_ Iff.rfl;show yA (decide (ldI.den (KL (bF p g,c,(v:Int),[])) (row g v).length (-1)<=ZJ.den (KL (bF p g,c,(v:Int),[])) (row g v).length (-1)))≠0↔_;rw[Nh,zA2,abM hV hv,NR hV hc hv]
theorem Re:fY (bF p g) c v guJ≠0↔mL g c v<yC g v*(g.1.length:Int)/\((Gj c v 0≠fY (bF p g) c v ldQ\/Gj c v 1≠fY (bF p g) c v ldD)\/Gj c v 2≠fY (bF p g) c v ldP):=by
 unfold fY guJ;rw[Xl,QV,QV,Ku,Ku,Ku];refine and_congr ?_ Iff.rfl;show yA (decide (ZJ.den (KL (bF p g,c,(v:Int),[])) (row g v).length (-1)<ldI.den (KL (bF p g,c,(v:Int),[])) (row g v).length (-1)))≠0↔_;rw[Nh,zA2,abM hV hv,NR hV hc hv]
theorem acO (h:0<=lK (bF p g) RE c v):(lK (bF p g) RE c v=0/\yC g v*(g.1.length:Int)<=mL g c v)\/(lK (bF p g) RE c v=1/\mL g c v<yC g v*(g.1.length:Int)):=by
 have⟨i,b,a,d⟩:=(GJ (bF p g) RE c v).resolve_left (λe=>V7);have a:i<2:=a
 match i,a with
 |0,_=>exact .inl ⟨b,((Rf hV hc hv).1 d).1⟩
 |1,_=>exact .inr ⟨b,((Re hV hc hv).1 d).1⟩
theorem Zv (h:¬0<=lK (bF p g) RE c v):IsT c v (TL g c v):=by
 have e:lK (bF p g) RE c v = -1:=by
  rcases GJ (bF p g) RE c v with e|⟨i,f,_⟩
  .exact e
  .omega
 have a:¬fY (bF p g) c v guO≠0:=λq=>q (Oe.1 e 0 Q2);have b:¬fY (bF p g) c v guJ≠0:=λq=>q (Oe.1 e 1 Q2);rw[Rf hV hc hv]at a;rw[Re hV hc hv,VI hV hc hv,VF hV hc hv,VH hV hc hv]at b;unfold IsT TL;by_cases h:yC g v*(g.1.length:Int)<=mL g c v
 .rw[if_pos h];exact⟨zAw.1 λq=>a ⟨h,.inl (.inl q)⟩,zAw.1 λq=>a ⟨h,.inl (.inr q)⟩,zAw.1 λq=>a ⟨h,.inr q⟩⟩
 .rw[if_neg h];have d:mL g c v<yC g v*(g.1.length:Int):=V7
  exact⟨zAw.1 λq=>b ⟨d,.inl (.inl q)⟩,zAw.1 λq=>b ⟨d,.inl (.inr q)⟩,zAw.1 λq=>b ⟨d,.inr q⟩⟩
theorem agv (h:mL g c v<yC g v*(g.1.length:Int)):∃i u:Nat,i<(row g v).length/\u<g.2.length/\ZO g v u/\Gj c u 1+1<(g.1.length:Int)/\mL g c v=Gj c u 0*(g.1.length:Int)+Gj c u 1/\mL g c v / (g.1.length:Int)=Gj c u 0/\mL g c v%(g.1.length:Int)=Gj c u 1:=by
 have⟨s,t⟩:=NL hV hv;obtain⟨_,_,e|⟨i,j,e⟩⟩:=XC hV hc hv
 .omega
 have⟨u,k,r,o,l,m⟩:=Zj (c:=c) hV hv j;have⟨w,x,_⟩:=Tq hV hc k;have f:Si g c v i 1+1<(g.1.length:Int):=by
  refine zAw.1 λq=>?_;unfold Tk at e;rw[if_neg q]at e;have:=VP (a:=yC g v) (b:=fI g g.2.length+1) (n:=(g.1.length:Int)) V7 V7;omega
 have d:mL g c v=Gj c u 0*(g.1.length:Int)+Gj c u 1:=by
  rw[e];unfold Tk ZI;rw[if_pos f,l,m]
 refine⟨i,u,j,k,o,V7,d,?_,?_⟩
 .rw[d];exact Rm V7 V7
 .rw[d];exact Xy V7 V7
theorem akn (h:0<=lK (bF p g) RE c v):at' (GE (bF p g) pS RE c v (lK (bF p g) RE c v)) 0=(TL g c v).1/\at' (GE (bF p g) pS RE c v (lK (bF p g) RE c v)) 1=(TL g c v).2.1/\at' (GE (bF p g) pS RE c v (lK (bF p g) RE c v)) 2=(TL g c v).2.2:=by
 have A:=hV.n1;have b:=hV.len;have m:(at' c (v:Int)).length=3:=hc.row v hv;have j:rQ g pS v 0=(0,fI g g.2.length):=by unfold rQ;rw[afp,afd,b]
 have k:rQ g pS v 1=(0,(g.2.length:Int) - 1):=by unfold rQ;rw[abT,afe]
 have l:rQ g pS v 2=(-1,((row g v).length:Int) - 1):=by unfold rQ;rw[aiy,aio]
 have⟨q,r⟩:=NL hV hv;rcases acO hV hc hv h with⟨e,a⟩|⟨e,a⟩
 .have d:GE (bF p g) pS RE c v 0=(((at' c (v:Int)).set 0 (rP 1 (rQ g pS v 0) (yC g v))).set 1 (rP 1 (rQ g pS v 1) 0)).set 2 (rP 3 (rQ g pS v 2) (-1)):=rfl;have f:TL g c v=(yC g v,0,-1):=by unfold TL;rw[if_pos a]
  rw[f,e,d,j,k,l,Ez V7 V7,Ez V7 V7,Ez V7 V7];exact aku _ m _ _ _
 .have d:GE (bF p g) pS RE c v 1=(((at' c (v:Int)).set 0 (rP 1 (rQ g pS v 0) (fY (bF p g) c v ldQ))).set 1 (rP 1 (rQ g pS v 1) (fY (bF p g) c v ldD))).set 2 (rP 3 (rQ g pS v 2) (fY (bF p g) c v ldP)):=rfl;have f:TL g c v=(mL g c v / (g.1.length:Int),mL g c v%(g.1.length:Int)+1,iA ((List.range (row g v).length).map λi=>yA (decide (ZI g c v i=mL g c v)))):=by unfold TL;rw[Q0]
  have⟨i,u,C,o,B,s,t,w,x⟩:=agv hV hc hv a;have⟨y,z,_⟩:=Tq hV hc o;have n:=YS ((List.range (row g v).length).map λi=>yA (decide (ZI g c v i=mL g c v)));rw[List.length_map,List.length_range]at n;rw[f,e,d,j,k,l,VI hV hc hv,VF hV hc hv,VH hV hc hv,Ez V7 V7,Ez V7 V7,Ez V7 V7];exact aku _ m _ _ _
end
structure Elc (g:GR) (s:Nat) (d:aX):Prop where
 slt:s<g.2.length
 dist:BQ g s d
 nn:∀v,v<g.2.length->0<=D d v
 lt:∀v,v<g.2.length->D d v<(g.2.length:Int)
 least:∀u,u<g.2.length->u≠s->yC g s<yC g u
def Zs (g:GR) (d:aX) (v:Nat):Int:=iA ((List.range (row g v).length).map λi=>yA (decide (D d (gR (row g v) i).1.toNat=D d v - 1)))
def LwE (g:GR) (s:Nat) (d:aX) (c:bJ) (v:Nat):Prop:=yC g s*(g.1.length:Int)+D d v<=Gj c v 0*(g.1.length:Int)+Gj c v 1
def RtE (g:GR) (s:Nat) (d:aX) (c:bJ) (v:Nat):Prop:=IsT c v (yC g s,D d v,Zs g d v)
def GL (g:GR) (s:Nat) (d:aX) (k:Nat) (c:bJ):Prop:=(∀v,v<g.2.length->(k:Int)<=Gj c v 1\/LwE g s d c v)/\∀v,v<g.2.length->(g.2.length:Int)+D d v<=(k:Int)->RtE g s d c v
section
variable {g:GR} {s:Nat} {d:V6 Int} {c c':V6 (V6 Int)} (hV:VG g) (E:Elc g s d)
 include hV E
theorem WA (H:FJ g c pS) (R:∀v,v<g.2.length->IsT c' v (TL g c v)) {k:Nat} (hG:GL g s d k c):GL g s d (k+1) c':=by
 have⟨F,Q⟩:=hG;have U:=hV.len;have h1:=hV.n1;have aa:=hV.n24;have hm:=rZ hV g.2.length V7;have y:∀v,v<g.2.length->v≠s->yC g s*(g.1.length:Int)+(g.1.length:Int)<=yC g v*(g.1.length:Int):=λv b e=>VP (E.least v b e) V7;have ae:yC g s*(g.1.length:Int)+(g.1.length:Int)<=(fI g g.2.length+1)*(g.1.length:Int):=VP (by have:=(NL hV E.slt).1;omega) V7;have ag:=(NL hV E.slt).2;refine⟨λv b=>?_,λv b hk=>?_⟩
 .have⟨m,f,o⟩:=R v b;by_cases h:yC g v*(g.1.length:Int)<=mL g c v
  .right;unfold TL at m f;rw[if_pos h]at m f;unfold LwE;rw[m,f];by_cases e:v=s
   .have:=(E.dist.zero v b).2 e;rw[this,e];exact Int.le_refl _
   .have:=y v b e;have:=E.lt v b;dsimp only;omega
  .have⟨i,u,n,a,G,b1,b2,b3,b4⟩:=agv hV H b V7;unfold TL at m f;rw[if_neg h]at m f;dsimp only at m f;rw[b3]at m;rw[b4]at f;have hn:=(E.dist.next u a (E.nn u a) v b (hV.back b G)).2;rcases F u a with q|q
   .left;rw[f];omega
   .right;unfold LwE at q ⊢;rw[m,f];omega
 .have af:=E.nn v b;have⟨m1,m2,V⟩:=XC hV H b;have⟨m,f,o⟩:=R v b;have w:∀i,i<(row g v).length->∃u:Nat,u<g.2.length/\(gR (row g v) i).1=(u:Int)/\ZI g c v i=Gj c u 0*(g.1.length:Int)+Gj c u 1/\Si g c v i 1=Gj c u 1/\D d v<=D d u+1:=λi n=>by
   have⟨u,a,l,G,e0,P⟩:=Zj (c:=c) hV b n;exact⟨u,a,l,by unfold ZI;rw[e0,P],P,(E.dist.next u a (E.nn u a) v b (hV.back b G)).2⟩
  by_cases e:v=s
  .have hD:=(E.dist.zero v b).2 e;have z:yC g v*(g.1.length:Int)<=mL g c v:=by
    rcases V with q|⟨i,n,q⟩
    .rw[q,e];omega
    .have⟨u,a,l,r,B,N⟩:=w i n;have:=E.nn u a;have ev:yC g v*(g.1.length:Int)=yC g s*(g.1.length:Int):=by rw[e]
     rw[q];unfold Tk;rw[B];rcases F u a with t|t
     .rw[Q0];omega
     .unfold LwE at t;split
      .rw[r];omega
      .omega
   unfold TL at m f o;rw[if_pos z]at m f o;refine⟨by rw[m,e],by rw[f,hD],?_⟩
   rw[o];have:Zs g d v = -1:=by
    unfold Zs;refine zZ λj J=>?_;rw[List.length_map,List.length_range]at J;rw[AQ _ J];have⟨u,a,l,_⟩:=w j J;have:=E.nn u a;rw[l,zAf,zA6 V7];rfl
   exact this.symm
  .have A:0<D d v:=by
    have:D d v≠0:=λq=>e ((E.dist.zero v b).1 q);omega
   have C:∀u,u<g.2.length->LwE g s d c u:=λu a=>(F u a).resolve_left (λq=>by have:=(Tq hV H a).2.1;omega);have⟨X,L,⟨M,x,T⟩,I⟩:=E.dist.near v b A;have⟨W,O,_⟩:=Q X L V7;dsimp only at W O;have ad:=E.lt v b;have S:Tk g c v M=yC g s*(g.1.length:Int)+(D d v - 1):=by
    have⟨u,a,l,r,B,N⟩:=w M x;obtain rfl:u=X:=V7
    unfold Tk;rw[B,O,Q3,r,W,O,I]
   have ac:=m2 M x;have ab:yC g s*(g.1.length:Int)+(D d v - 1)<=mL g c v:=by
    rcases V with q|⟨i,n,q⟩
    .omega
    .have⟨u,a,l,r,B,N⟩:=w i n;have t:=C u a;unfold LwE at t;rw[q];unfold Tk;split
     .rw[r];omega
     .omega
   have p:mL g c v=yC g s*(g.1.length:Int)+(D d v - 1):=V7
   have K:¬yC g v*(g.1.length:Int)<=mL g c v:=by have:=y v b e;omega
   unfold TL at m f o;rw[if_neg K]at m f o;dsimp only at m f o;rw[p,Rm V7 V7]at m;rw[p,Xy V7 V7]at f;refine⟨m,by rw[f];dsimp only;omega,?_⟩
   rw[o];show _=Zs g d v;unfold Zs;refine congrArg iA (zBa λi n=>?_);have n:=zAj.1 n;have⟨u,a,l,r,B,N⟩:=w i n;have t:=C u a;unfold LwE at t;refine congrArg yA (decide_eq_decide.2 ?_);rw[r,p,l,zAf];constructor
   .intro q;omega
   .intro q;have⟨Y,x1,_⟩:=Q u a V7;dsimp only at Y x1;rw[Y,x1,q]
end
abbrev pE (z:V6 oJ):xO:=(ByteArray.mk #[108,101,97,100,101,114],pS,z)
theorem abO {p:xO} {g:GR} (f:VG g) {c:V6 (V6 Int)} (d:FJ g c pS) {v:Nat} (a:v<g.2.length):IsT (DX (bF p g) pS RE c (Tm (bF p g) RE c)) v (TL g c v):=by
 have e:=d.len;have b:at' (DX (bF p g) pS RE c (Tm (bF p g) RE c)) (v:Int)=if(Tm (bF p g) RE c).testBit v=true then GE (bF p g) pS RE c v (lK (bF p g) RE c v)else at' c (v:Int):=Oi (by rw[e];exact a);have i:(Tm (bF p g) RE c).testBit v=true↔0<=lK (bF p g) RE c v:=by
  rw[My,zAe (show v<(bF p g).2.1.2.length from a),zBi,zA2]
 unfold IsT Gj;rw[b];by_cases h:(Tm (bF p g) RE c).testBit v=true
 .rw[if_pos h];exact akn f d a (i.1 h)
 .rw[if_neg h];exact Zv (p:=p) f d a λq=>h (i.2 q)
def PY (g:GR) (vars:V6 Ah) (F:Int->Int->Int) (L:Int) (k v:Nat) (s:aX):Prop:=GM g vars v s=true/\min (at' s 0) ((k:Int)*L)=min (mI g F v) ((k:Int)*L)/\(1<=k->mI g F v<(k:Int)*L->at' s 1=ZL g F v)
section
variable {p:xO} {g:GR} {vars:V6 Ah} {eX eY:E} {F:Int->Int->Int} {L N:Int} {c:V6 (V6 Int)} {v k:Nat}
theorem aiD (L:Int) (k:Nat):((k+1:Nat):Int)*L=(k:Int)*L+L:=by push_cast;rw[Int.add_mul,Int.one_mul]
theorem aax (S:Pn g vars eX eY F L N) (f:VG g) (d:FJ g c vars) (e:OE g F (HR c) ((k:Int)*L)):OE g F (λv=>(TY p g c v eX eY).1) (((k+1:Nat):Int)*L):=
 Ni S.grow e (N:=N) (λv a=>(Nr S d a).1) (by unfold TY;rw[if_pos Z]) S.cap λv a b=>agu S f d a b
theorem nxY (S:Pn g vars eX eY F L N) (d:VG g) (a:FJ g c vars) (b:v<g.2.length):Sj (bF p g) vars (RY eX eY) c v=[(TY p g c v eX eY).1,(TY p g c v eX eY).2]:=by
 rw[<-TM (S:=bF p g) b a.len];exact XE S d a b
theorem MZ (a:c.length=g.2.length) (h:∀x,x<g.2.length->PY g vars F L k x (at' c (x:Int))):FJ g c vars/\OE g F (HR c) ((k:Int)*L):=⟨Rz a λx b=>(h x b).1,λx b=>(h x b).2.1⟩
theorem aaV (S:Pn g vars eX eY F L N) (j:VG g) (m:p.2.1=vars) (w:sK vars.length (RY eX eY)=true):Gk g vars (Sj (bF p g) vars (RY eX eY)) (PY g vars F L):=by
 have A:=S.grow.L1;subst m;refine⟨λv s e h=>⟨h,?_,λq=>absurd q V7⟩,λk v s e h=>h.1,λk v s e ⟨a,b,d⟩=>⟨a,?_,λy z=>d V7 ?_⟩,λk c i t v e=>?_⟩
 .have a:=((Bc.1 h).2 0 (by rw[S.len];omega)).1;have u:lo g (at' p.2.1 ((0:Nat):Int)) v<=at' s 0:=a;rw[S.lo0]at u;have b:=lZ S.grow e;rw[show((0:Nat):Int)=0 from rfl,Int.zero_mul];omega
 .rw[aiD]at b;omega
 .rw[aiD];omega
 .have⟨l,o⟩:=MZ i t;have f:=aax (p:=p) S j l o;refine⟨VR (R:=RY eX eY) S.ok w c i (λx n=>(t x n).1) v e,?_⟩
  rw[nxY S j l e];exact⟨f v e,λ_ r=>KR S j l o e r (f.eq e (.inr r))⟩
theorem PY.fin (S:Pn g vars eX eY F L N) (j:c.length=g.2.length) (o:1<=k) (l:∀v,v<g.2.length->mI g F v<(k:Int)*L) (h:∀x,x<g.2.length->PY g vars F L k x (at' c (x:Int))):c=cE g F:=by
 refine List.ext_getElem (by rw[j,Kq]) λi m n=>?_;have f:i<g.2.length:=V7
 have⟨a,b,d⟩:=h i f;have⟨x,y,e⟩:=aiO (at' c (i:Int)) (by rw[(Bc.1 a).1];exact S.len);rw[e]at b d;have b:min x ((k:Int)*L)=min (mI g F i) ((k:Int)*L):=b;have d:y=ZL g F i:=d o (l i f);have:=l i f;rw[<-i_ m,<-i_ n,Pt f,e,d,show x=mI g F i by omega]
theorem PY.quiet (S:Pn g vars eX eY F L N) (j:VG g) (e:c.length=g.2.length) (q:1<=k) (f:∀v,v<g.2.length->mI g F v<(k:Int)*L) (h:∀x,x<g.2.length->PY g vars F L k x (at' c (x:Int))):∀v,v<g.2.length->¬0<=lK (bF p g) (RY eX eY) c v:=by
 intro v a;have⟨l,d⟩:=MZ e h;have r:=S.grow.L1;have b:mI g F v<((k+1:Nat):Int)*L:=by have:=f v a;rw[aiD];omega
 have i:=(aax (p:=p) S j l d).eq a (.inr b);have m:=KR (p:=p) S j l d a b i;have n:HR c v=mI g F v:=d.eq a (.inr (f v a));have o:TU c v=ZL g F v:=(h v a).2.2 q (f v a);rw[agE,if_pos ⟨n.trans i.symm,o.trans m.symm⟩];decide
end
def PE (g:GR) (s:Nat) (d:V6 Int) (k v:Nat) (a:V6 Int):Prop:=GM g pS v a=true/\((k:Int)<=at' a 1\/yC g s*(g.1.length:Int)+D d v<=at' a 0*(g.1.length:Int)+at' a 1)/\((g.2.length:Int)+D d v<=(k:Int)->at' a 0=yC g s/\at' a 1=D d v/\at' a 2=Zs g d v)
section
variable {g:GR} {s:Nat} {d:V6 Int} {c:V6 (V6 Int)} {k:Nat}
theorem PE.gl (a:c.length=g.2.length) (h:∀x,x<g.2.length->PE g s d k x (at' c (x:Int))):FJ g c pS/\GL g s d k c:=⟨Rz a λx e=>(h x e).1,λv b=>(h v b).2.1,λv b=>(h v b).2.2⟩
theorem aiI {p:xO} (f:VG g) (j:FJ g c pS) {v:Nat} (l:v<g.2.length) (h:IsT c v (TL g c v)):¬0<=lK (bF p g) RE c v:=by
 intro t;have⟨i,u,q,r⟩:=(GJ (bF p g) RE c v).resolve_left (λe=>V7);have q:i<2:=q;have⟨m,n,o⟩:=h;unfold TL at m n o
 match i,q with
 |0,_=>
  have⟨a,b⟩:=(Rf f j l).1 r;rw[if_pos a]at m n o;rcases b with(b|b)|b
  .exact b m
  .exact b n
  .exact b o
 |1,_=>
  have⟨a,b⟩:=(Re f j l).1 r;rw[Q0]at m n o;rw[VI f j l,VF f j l,VH f j l]at b;rcases b with(b|b)|b
  .exact b m
  .exact b n
  .exact b o
theorem ajD (z:V6 oJ) (l:VG g) (E:Elc g s d):Gk g pS (Sj (bF (pE z) g) pS RE) (PE g s d):=by
 refine⟨λv n f h=>⟨h,.inl ?_,λq=>?_⟩,λk v n f h=>h.1,λk v n f ⟨a,b,e⟩=>⟨a,?_,λq=>e V7⟩,λk c i t v f=>?_⟩
 .have a:lo g (at' pS ((1:Nat):Int)) v<=at' n 1:=((Bc.1 h).2 1 Q2).1;rw[abT]at a;exact a
 .have:=E.nn v f;have:=l.n1;omega
 .rcases b with b|b
  .left;omega
  .exact .inr b
 .have⟨r,u⟩:=PE.gl i t;have o:=WA l E r (λv f=>abO (p:=pE z) l r f) u;have j:=TM (S:=bF (pE z) g) (vars:=pS) (R:=RE) (c:=c) f i;refine⟨VR (p:=pE z) (R:=RE) (agK l) XT c i (λx m=>(t x m).1) v f,?_,λq=>?_⟩
  .have:=o.1 v f;unfold LwE Gj at this;rw[j]at this;exact this
  .have:=o.2 v f q;unfold RtE IsT Gj at this;rw[j]at this;exact this
theorem PE.fin (f:VG g) (E:Elc g s d) (a:c.length=g.2.length) (e:∀v,v<g.2.length->(g.2.length:Int)+D d v<=(k:Int)) (h:∀x,x<g.2.length->PE g s d k x (at' c (x:Int))):FJ g c pS/\∀v,v<g.2.length->RtE g s d c v:=⟨(PE.gl a h).1,λv b=>(PE.gl a h).2.2 v b (e v b)⟩
theorem PE.quiet (z:V6 oJ) (b:VG g) (E:Elc g s d) (f:c.length=g.2.length) (j:∀v,v<g.2.length->(g.2.length:Int)+D d v<=(k:Int)) (h:∀x,x<g.2.length->PE g s d k x (at' c (x:Int))):∀v,v<g.2.length->¬0<=lK (bF (pE z) g) RE c v:=by
 intro v a;have⟨e,i⟩:=PE.gl f h;have t:=WA b E e (λv a=>abO (p:=pE z) b e a) i;have⟨l,m,n⟩:=i.2 v a (j v a);have⟨o,q,r⟩:=t.2 v a (by have:=j v a;omega);have⟨u,w,y⟩:=abO (p:=pE z) b e a;exact aiI b e a ⟨by rw[l,<-o];exact u,by rw[m,<-q];exact w,by rw[n,<-r];exact y⟩
end
end Go.Proofs.YtflciafboapaaaaGreat
namespace Go.Proofs.YtflciafboapaaaaGreat
open Go.Sx
def AA (b:b_) (e:DK) (a:Int) (d:aX):V1 aX:=
 Option.bind (gK U ((b.1,b.2)) e d) λc=>(ck (0<=a/\a<(c.length:Int)) (some (at' c a)))
def AB (h:b_) (d:DK) (e:Int) (b:aX) (g:Int) (a:nD) (c:tV->V1 aX) (f:V4):V1 aX:=
 if f=true then(ck ((b.length:Int)≠0) (ck (0<=(Int.tmod (wI .i64 (g+a.1)) (b.length:Int))/\(Int.tmod (wI .i64 (g+a.1)) (b.length:Int))<(b.length:Int)) (ck (0<=(wI .i64 ((wI .i64 (e*(d.length:Int)))+a.1))/\(wI .i64 ((wI .i64 (e*(d.length:Int)))+a.1))<(a.2.length:Int)) (c ((wI .i64 (a.1+(1:Int))),(List.set a.2 (Int.toNat (wI .i64 ((wI .i64 (e*(d.length:Int)))+a.1))) (at' b (Int.tmod (wI .i64 (g+a.1)) (b.length:Int)))))))))else(AA U h d e (a.2))
def AC (e:b_) (c:DK) (f:Int) (d:aX) (g:Int) (b:nD) (a:tV->V1 aX):V1 aX:=
 if b.1<(c.length:Int)then(AB U e c f d g b a (decide ((0:Int)<(d.length:Int))))else(AB U e c f d g b a (false))
def qX (a:b_) (b:DK) (c:Int) (d:aX) (e:Int):V1 aX:=
 ck (0<=(wI .i64 ((a.2.length:Int)*(b.length:Int)))/\(wI .i64 ((a.2.length:Int)*(b.length:Int)))<=1099511627) (bE (AC U a b c d e) U ((0:Int),(List.replicate (Int.toNat (wI .i64 ((a.2.length:Int)*(b.length:Int)))) (0:Int))))
theorem aaF:aU prog 44:=call44
theorem Iw {g:b_} {k:DK} {d:Int} {m:aX} {n:Int} (A B:V0) (H:kI) (q D:V0) (r:aX) (h:qX U g k d m n=some r):
  aZ prog 44 #[Value.agg #[A,B],q,vI (d),D,vI (n)] [Sl aK A g.1,S2 aR B H g.2,Sl aG q k,Sl aK D m] (λx:V0=>x) (λx l=>l) (λx l=>Sl aK x r::l):=by
 refine aZ.of func44 Z ntmps44 Z λc=>aT<|aI (aN.box (cs:=[A,B]) Z Z) Z λC=>let o:=bG C [A,B] 31;Q5 Z<|aT<|bZ Z<|dO 0 Z<|aB (fR Z (n_ Z) Z) Z<|aA Z<|jH (uI Z) Z<|aB (uX Z Z) Z<|dQ h λI h=>aI (sV (e:=cY) (0:Int) Z Z Z Z I Z Z Z) Z λp=>Q5 Z<|aL<|fV (λs=>AA U g k d s=some r) (λs G=>[(1,q),(2,vI (d)),(5,vP C),(11,p)]) (λs G=>[Ar cY p s,o]) ?_ ?_
 .refine Q4 Z<|aQ<|fT (AC U g k d m n) (λa t=>[(1,q),(2,vI (d)),(3,D),(4,vI (n)),(5,vP C),(11,p),(12,vI (a.1))]) (λa t=>[Ar cY p a.2,o]) ((0:Int),(List.replicate (Int.toNat (wI .i64 ((g.2.length:Int)*(k.length:Int)))) (0:Int))) () h SF (aS.refl _) ?_;intro F a t h;let z:=(at' m (Int.tmod (wI .i64 (n+a.1)) (m.length:Int)))
  refine aL<|aL<|fV (λb=>AB U g k d m n a (bE (AC U g k d m n) F) b=some r) (λb u=>[(1,q),(2,vI (d)),(3,D),(4,vI (n)),(5,vP C),(11,p),(12,vI (a.1)),(28,vB (b))]) (λb u=>[Ar cY p a.2,o]) ?_ ?_
  .refine aP<|aA Z<|aA Z<|jH (uI Z) Z<|cN Z<|aA Z<|IX h Z (λ_ h=>?_) λ_ h=>?_
   .exact gW Z<|bB Z (eW Z (DJ Z) Z) Z<|bB Z (zW Z Z) Z<|gT Z<|aO<|jV (decide ((0:Int)<(m.length:Int))) () h SF Z
   exact aW Z<|aW Z<|aW Z<|iV Z<|aO<|jV (false) () h SF Z
  intro b u h;refine Ag h Z (λ_ h=>?_) λ_ h=>?_
  .exact cU<|aL<|aQ<|aP<|aA Z<|aA Z<|aA Z<|jH (uI Z) Z<|aB (uX Z Z) Z<|aA Z<|cH Z<|aA Z<|aA Z<|aA Z<|cH Z<|aA Z<|jH (DJ Z) Z<|dQ h λE h=>aB (SU Z Z E) Z<|dQ h λw h=>aB (bD Z Z (DJ Z) Z Z w) Z<|aB (bY Z (DJ Z) Z Z Z dJ w) Z<|dQ h λy h=>aB (bD Z Z (bI (aH.res 0 Z) eP) Z Z y) Z<|xX 0 z y Z Z Z Z Z Z Z<|fC<|mF<|aP<|aA Z<|cH Z<|Q5 Z<|Ci ((wI .i64 (a.1+(1:Int))),(List.set a.2 (Int.toNat (wI .i64 ((wI .i64 (d*(k.length:Int)))+a.1))) z)) () h SF Z
  exact fH<|jV (a.2) () h SF Z
 intro s G h;refine aT<|cL 1 Z<|aA Z<|aA Z<|fF h λJ K h=>aI (zBj aaD (Hb U A B H q p J K) Z (aD.cons (cP Z) (aD.cons (n_ Z) (aD.cons (uI Z) (aD.cons (bI (aH.res 0 Z) eP) .nil))))) Z λL=>cQ (lE 1 Z (wG (j:=0) Z eP))<|aA Z<|dQ h λf h=>aB (bX Z Z (eM (i:=0) (j:=0) Z Z) Z Z f) Z<|bO (bL (cP Z)) λv=>aB (m_ 0 Z Z v Z Z f) Z<|Q5 Z<|aV ?_;cases h;exact fD (at' L.2 d) Z Z (RV.tmp Z) .nil (aD.cons (cM (cP Z) f.1 f.2) aD.nil)
def uZ (b:bJ) (a:V6 bJ×V6 (V6 bJ)):V1 Bo:=
 some ((b,a.1,a.2))
def qI (c:Qf) (b:Ye->V1 Bo) (a:Int×V6 (V6 bJ)×V6 bJ):V1 Bo:=
 b (a.1,(wI .i64 (c.2.1+(1:Int))),a.2.2,a.2.1)
def u_ (a:Qf) (c:Ye->V1 Bo) (b:Int×bJ×V6 bJ):V1 Bo:=
 ck ((a.2.2.1.length:Int)+(List.length ([b.2.1]):Int)<=1099511627) (ck ((a.2.2.2.length:Int)+(List.length ([b.2.2]):Int)<=1099511627) (qI a c (b.1,(a.2.2.2++[b.2.2]),(a.2.2.1++[b.2.1]))))
def vA (a:Int×bJ×V6 bJ×Int) (c:(Int×bJ×V6 bJ×Int)->V1 Bo) (d:aX) (b:bJ):V1 Bo:=
 ck ((a.2.2.1.length:Int)+(List.length ([b]):Int)<=1099511627) (c ((wI .i64 (a.1+(1:Int))),(a.2.1++[d]),(a.2.2.1++[b]),(wI .i64 (a.2.2.2+(1:Int)))))
def vC (j:Iz) (i:b_) (k:DK) (h:Qf) (b:Int×bJ×V6 bJ×Int) (d:(Int×bJ×V6 bJ×Int)->V1 Bo) (g:aX) (f:Int) (a:bJ×Int) (e:(bJ×Int)->V1 Bo):V1 Bo:=
 if a.2<f then(Option.bind (qX U ((i.1,i.2)) k h.2.1 j.2.2.1 (wI .i64 ((wI .i64 ((5:Int)*b.1))+(wI .i64 ((2:Int)*a.2))))) λc=>(ck ((a.1.length:Int)+(List.length ([c]):Int)<=1099511627) (e ((a.1++[c]),(wI .i64 (a.2+(1:Int)))))))else(vA b d g (a.1))
def kJ (f:Iz) (g:b_) (h:DK) (e:Qf) (b:Int×bJ×V6 bJ×Int) (a:(Int×bJ×V6 bJ×Int)->V1 Bo) (d:aX) (c:Int):V1 Bo:=
 bE (vC U f g h e b a d c) U (([]:bJ),(0:Int))
def kK (e:Iz) (f:b_) (i:DK) (j:Int) (b:Qf) (g:Ye->V1 Bo) (a:Int×bJ×V6 bJ×Int) (c:(Int×bJ×V6 bJ×Int)->V1 Bo):V1 Bo:=
 ck (0<=b.2.1/\b.2.1<(f.2.length:Int)) (if a.2.2.2<((at' f.2 b.2.1).length:Int)then(ck (0<=b.2.1/\b.2.1<(f.2.length:Int)) (ck (0<=a.2.2.2/\a.2.2.2<((at' f.2 b.2.1).length:Int)) (Option.bind (qX U ((f.1,f.2)) i ((at' (at' f.2 b.2.1) a.2.2.2).1) e.2.1 (wI .i64 ((3:Int)*a.1))) λd=>(ck ((a.2.1.length:Int)+(List.length ([d]):Int)<=1099511627) (if(0:Int)<(e.2.2.2.length:Int)then(ck ((e.2.2.2.length:Int)≠0) (ck (0<=(Int.tmod a.1 (e.2.2.2.length:Int))/\(Int.tmod a.1 (e.2.2.2.length:Int))<(e.2.2.2.length:Int)) (Option.bind (dH U (at' e.2.2.2 (Int.tmod a.1 (e.2.2.2.length:Int))) (wI .i64 (j+(1:Int)))) λh=>(kJ U e f i b a c d (h)))))else(kJ U e f i b a c d (0:Int)))))))else(u_ b g (a.1,a.2.1,a.2.2.1)))
def gH (d:Iz) (c:b_) (e:DK) (f:Int) (g:bJ) (a:Qf) (b:Ye->V1 Bo):V1 Bo:=
 if a.2.1<(c.2.length:Int)then(bE (kK U d c e f a b) U (a.1,([]:bJ),([]:Ce),(0:Int)))else(uZ g (a.2.2.1,a.2.2.2))
def iM (b:Iz) (a:b_) (c:DK) (d:Int):V1 Bo:=
 Option.bind (gK U ((a.1,a.2)) c b.1) λe=>(bE (gH U b a c d e) U ((0:Int),(0:Int),([]:Ce),([]:Hi)))
theorem ahl:aU prog 11:=call11
theorem Ia (U:Nat) {S:Iz} {p1:b_} {p2:DK} {p3:Int} (v0 v1 v2 v3 v4 v5:V0) (z6:kI) (T:V0) (r:(bJ×List bJ×List (List bJ))) (h:iM U S p1 p2 p3=some r):
  aZ prog 11 #[Value.agg #[v0,v1,v2,v3],Value.agg #[v4,v5],T,vI (p3)] [Sl aK v0 S.1,Sl aK v1 S.2.1,Sl aK v2 S.2.2.1,Sl aK v3 S.2.2.2,Sl aK v4 p1.1,S2 aR v5 z6 p1.2,Sl aG T p2] (λx:X_=>Value.agg #[x.1,x.2.2.1,x.2.2.2.2.1]) (λx l=>l) (λx l=>S2 aK x.1 x.2.1 r.1::S3 aK x.2.2.1 x.2.2.2.1 r.2.1::S4 aK x.2.2.2.2.1 x.2.2.2.2.2 r.2.2::l):=by
 let ai:=(tg 1 ([]:gE))
 let L:=Sl aK v1 S.2.1;let K:=S2 aR v5 z6 p1.2;let am:=Sl aK v3 S.2.2.2;let al:=Sl aK v2 S.2.2.1;refine aZ.of func11 Z ntmps11 Z λc=>?_;refine aT<|aI (aN.box (cs:=[v0,v1,v2,v3]) Z Z) Z λb1=>let ao:=bG b1 [v0,v1,v2,v3] 26;aI (aN.box (cs:=[v4,v5]) Z Z) Z λb2=>let P:=bG b2 [v4,v5] 31;aI (aN.alloc (cs:=[eB,eB,eB]) Z Z) Z λb3=>let ak:=bG b3 [eB,eB,eB] 43;aO<|aT<|cL 1 Z<|aA Z<|bZ Z<|dO 2 Z<|fF h λr4 w5 h=>let aq:=(gH U S p1 p2 p3 r4);aI (zBj aaD (Hb U v4 v5 z6 T v0 r4 w5) Z (jJ [4,5,6,0] Z)) Z λQ=>let aj:=Ar bN.raw Q.1 Q.2;cQ (lE 1 Z (wG (j:=0) Z eP))<|bO (BH (eM (i:=0) (j:=0) Z Z)) λbB=>?_
 refine aB (Ve (r:=Value.agg #[Q.1,eB,eB]) Z (by intro w;simp[Instr.build,Instr.fill,dU,c_,cO,dV,dW,dC,eV,iK bB])) Z ?_;refine aI (aN.alloc (cs:=[eB,eB,eB]) Z Z) Z λb8=>bO (BH (eM (i:=1) (j:=0) Z Z)) λbC=>bP 0 (vs:=[Q.1,eB,eB]) Z Z (iZ bC (iZ Z (iZ Z Z))) Z Z Z<|aO<|aT<|aC Z<|aO<|aL<|lN (B:=Ya) (λV=>uZ r4 V=some r) (λV d=>[(8,vP b3),(9,vP b8)]) (λV d=>[bG b8 [Q.1,d.1,d.2.2.2.1] 43,aj,ak,Ar bN.raw d.1 d.2.1,hJ bN.raw d.2.1 d.2.2.1,Ar bN.raw d.2.2.2.1 d.2.2.2.2.1,Bu bN.raw d.2.2.2.2.1 d.2.2.2.2.2.1 d.2.2.2.2.2.2]) (λV d=>[uU aK Q.2 r4,Sl aK v0 S.1,L,al,am,Sl aK v4 p1.1,K,Sl aG T p2,DI aK d.2.2.1 V.1,Gp aK d.2.2.2.2.2.2 V.2]) ?_ ?_
 .refine aT<|aC Z<|aO<|aQ<|cQ (iJ bN.raw)<|cQ (mM bN.raw)<|cQ (dM (fX:aH _ _ (DI aK (tg 1 ([]:FX)) ([]:Ce))))<|cQ (iJ bN.raw)<|cQ (Bw bN.raw)<|cQ (dM (fX:aH _ _ (Gp aK (tg 2 ([]:Uu)) ([]:Hi))))<|qF (B:=Ya) aq (λk g=>[(2,T),(3,vI (p3)),(4,vP b1),(5,vP b2),(8,vP b3),(9,vP b8),(10,vI (k.1)),(11,vI (k.2.1))]) (λk g=>[bG b8 [Q.1,g.1,g.2.2.2.1] 43,aj,ak,P,ao,Ar bN.raw g.1 g.2.1,hJ bN.raw g.2.1 g.2.2.1,Ar bN.raw g.2.2.2.1 g.2.2.2.2.1,Bu bN.raw g.2.2.2.2.1 g.2.2.2.2.2.1 g.2.2.2.2.2.2]) (λk g=>[uU aK Q.2 r4,Sl aK v0 S.1,L,al,am,Sl aK v4 p1.1,K,Sl aG T p2,DI aK g.2.2.1 k.2.2.1,Gp aK g.2.2.2.2.2.2 k.2.2.2]) ((0:Int),(0:Int),([]:Ce),([]:Hi)) ((tg 1 (eB)),ai,(tg 1 ([]:FX)),(tg 2 (eB)),(tg 2 ([]:gE)),(tg 2 ([]:FX)),(tg 2 ([]:Uu))) h SF (aS.ix [4,5,6,7,8,3,2,1,0] Z Z) (jJ [2,3,4,5,6,7,8,9,1,0] Z) ?_;intro bm k g h;let ag:=Ar bN.raw g.1 g.2.1;let ae:=DI aK g.2.2.1 k.2.2.1;let ac:=hJ bN.raw g.2.1 g.2.2.1;let bb:=(kK U S p1 p2 p3 k (bE aq bm))
  let y:=g.2.2.2;let ah:=Ar bN.raw y.1 y.2.1;let af:=Gp aK y.2.2.2 k.2.2.2;let ad:=bG b8 [Q.1,g.1,y.1] 43;let a8:=Bu bN.raw y.2.1 y.2.2.1 y.2.2.2;refine aL<|aT<|aA Z<|bZ Z<|dO 3 Z<|aB (fR Z (Mb Z) Z) Z<|cN Z<|aO ?_;refine gC h Z (λh=>?_) λh=>?_
  .refine cU<|aL<|lN (B:=V0×V0×List V0×List (List V0)×List V0×List (List V0)×List (List (List V0))) (λN=>qI k (bE aq bm) N=some r) (λN n=>[(2,T),(3,vI (p3)),(4,vP b1),(5,vP b2),(8,vP b3),(9,vP b8),(10,vI (N.1)),(11,vI (k.2.1))]) (λN n=>[bG b8 [Q.1,n.1,n.2.1] 43,aj,ak,P,ao,Ar bN.raw n.1 n.2.2.1,hJ bN.raw n.2.2.1 n.2.2.2.1,Ar bN.raw n.2.1 n.2.2.2.2.1,Bu bN.raw n.2.2.2.2.1 n.2.2.2.2.2.1 n.2.2.2.2.2.2]) (λN n=>[Gp aK n.2.2.2.2.2.2 N.2.1,DI aK n.2.2.2.1 N.2.2,uU aK Q.2 r4,Sl aK v0 S.1,L,al,am,Sl aK v4 p1.1,K,Sl aG T p2]) ?_ ?_
   .refine aQ<|aT<|aC Z<|aO<|aT<|aC Z<|aO<|aL<|lN (B:=V0×List V0×V0×List V0×List (List V0)) (λO=>u_ k (bE aq bm) O=some r) (λO m=>[(2,T),(3,vI (p3)),(4,vP b1),(5,vP b2),(8,vP b3),(9,vP b8),(10,vI (O.1)),(11,vI (k.2.1)),(12,m.1),(13,m.2.2.1)]) (λO m=>[ad,aj,ak,P,ao,ag,ac,ah,a8,Ar bN.raw m.1 m.2.1,Ar bN.raw m.2.2.1 m.2.2.2.1,hJ bN.raw m.2.2.2.1 m.2.2.2.2]) (λO m=>[uU aK Q.2 r4,Sl aK v0 S.1,L,al,am,Sl aK v4 p1.1,K,Sl aG T p2,ae,af,uU aK m.2.1 O.2.1,DI aK m.2.2.2.2 O.2.2]) ?_ ?_
    .refine aT<|aC Z<|aO<|aQ<|cQ (iJ bN.raw)<|cQ (dM (fX:aH _ _ (uU aK ai ([]:bJ))))<|cQ (iJ bN.raw)<|cQ (mM bN.raw)<|cQ (dM (fX:aH _ _ (DI aK (tg 2 ([]:FX)) ([]:Ce))))<|qF (B:=V0×List V0×V0×List V0×List (List V0)) bb (λa f=>[(2,T),(3,vI (p3)),(4,vP b1),(5,vP b2),(8,vP b3),(9,vP b8),(10,vI (a.1)),(11,vI (k.2.1)),(12,f.1),(13,f.2.2.1),(14,vI (a.2.2.2))]) (λa f=>[ad,aj,ak,P,ao,ag,ac,ah,a8,Ar bN.raw f.1 f.2.1,Ar bN.raw f.2.2.1 f.2.2.2.1,hJ bN.raw f.2.2.2.1 f.2.2.2.2]) (λa f=>[uU aK Q.2 r4,Sl aK v0 S.1,L,al,am,Sl aK v4 p1.1,K,Sl aG T p2,ae,af,uU aK f.2.1 a.2.1,DI aK f.2.2.2.2 a.2.2.1]) (k.1,([]:bJ),([]:Ce),(0:Int)) ((tg 1 (eB)),ai,(tg 2 (eB)),(tg 2 ([]:gE)),(tg 2 ([]:FX))) h SF (aS.ix [3,4,5,6,7,8,9,10,11,2,1,0] Z Z) (jJ [2,3,4,5,6,7,8,9,10,11,1,0] Z) ?_;intro a2 a f h;let C:=f.2.2;let a7:=Ar bN.raw C.1 C.2.1;let a6:=DI aK C.2.2 a.2.2.1;let a5:=hJ bN.raw C.2.1 C.2.2;refine aL<|aT<|aA Z<|bZ Z<|dO 3 Z<|aA Z<|dQ h λap h=>aB (bX Z Z (Mb Z) Z Z ap) Z<|aB (cB Z (Mb Z) Z Z ap) Z<|aB (eW Z (zBk (Mb Z) ap.1 ap.2) Z) Z<|cN Z<|aO ?_;refine gC h Z (λh=>?_) λh=>?_
     .refine cU<|aL<|aQ<|aL ?_;refine Bf [0,0,0,0,8,0,56,120,0,504,1016,2040,0,4096,0,16384,65534,131070,262143,524287] 18 mixedOrders ?_;refine bM Z<|sP 3 Z<|bM Z<|cT Z<|gN 3 Z<|bM Z<|dQ h λR h=>aY Z .nil (iH 6 Z) (bX Z Z (cP Z) Z Z R) aJ.z<|aY Z .nil (iH 6 Z) (cB Z (cP Z) Z Z R) aJ.z<|bM Z<|dQ h λbe h=>aY Z .nil (iH 6 Z) (bD Z Z (zBk (cP Z) R.1 R.2) Z Z be) aJ.z<|jS Z (lF Z Z Z Z Z)<|aY Z .nil (iH 6 Z) (nR Z (zBk (cP Z) R.1 R.2) Z Z Z Br be) aJ.z<|cT Z<|gN 4 Z<|bM Z<|jS Z (uX Z Z)<|fF h λA bx h=>zBl Z Z Z (aN.call aaF (Iw U v4 v5 z6 T v1 A bx) Z (jW.cons (zA1 (i:=5) Z) (jW.cons (zA1 (i:=6) Z) (jW.cons (zA1 (i:=7) Z) (iH 2 Z)))) (λ_ _=>rfl) (λ_ _=>rfl)) Z (λu=>(oP [] Z)) λu=>let a3:=uU aK (f.2.1++[u]) (a.2.1++[A]);bQ (Know.one ((cP Z))) λaX=>zBm (dM (j_ (cP Z) fX))<|zBl Z Z Z (cC (e:=bN.raw) ([u]) [(0,u)] Z Z Z Z (kY (u) aX) Z Z (iZ aX Z)) Z (λbt=>(oP [] Z)) λbt=>bS 18 Z Z<|bO (bL (Fj Z)) λax=>bO (bL (cP Z)) λay=>dQ h λbf h=>cQ (dM (iY (Fj Z) (cP Z))) ?_
      refine aI (aN.append 10 0 Z Z Z Z Z Z Z (by have q:=bf;have q0:=ax;have q1:=ay;(try simp only[zAa,zAm,zA4]at *);omega) (by have q:=bf;have q0:=ax;have q1:=ay;(try simp only[zAa,zAm,zA4]at *);omega) Z) Z λan=>let a4:=Ar bN.raw an (f.2.1++[u]);?_
      refine aC Z<|aO<|aT<|aC Z<|aO<|aT<|aC Z<|aO<|aL<|lN (B:=Unit) (λD=>kJ U S p1 p2 k a (bE bb a2) A D=some r) (λD aw=>[(2,T),(3,vI (p3)),(4,vP b1),(5,vP b2),(8,vP b3),(9,vP b8),(10,vI (a.1)),(11,vI (k.2.1)),(12,an),(13,C.1),(14,vI (a.2.2.2)),(15,eB),(16,vI (D))]) (λD aw=>[ad,aj,ak,P,ao,ag,ac,ah,a8,a4,a7,a5]) (λD aw=>[a3,Sl aK u A,uU aK Q.2 r4,Sl aK v0 S.1,L,al,am,Sl aK v4 p1.1,K,Sl aG T p2,ae,af,a6]) ?_ ?_
      .refine aT<|bZ Z<|dO 5 Z<|jH (IP Z) Z<|aB (zW Z Z) Z<|aO ?_;refine gC h Z (λh=>?_) λh=>?_
       .refine Bf [0,1,0,0,8,24,60,127,255,0,512,2047,4095] 11 mixedOrders ?_;refine cT Z<|gN 5 Z<|bM Z<|cT Z<|gN 5 Z<|aY Z .nil (iH 7 Z) (eW Z (cP Z) Z) aJ.z<|dQ h λbs h=>jS Z (SU Z Z bs)<|dQ h λbi h=>aY Z .nil (iH 7 Z) (bD Z Z (cP Z) Z Z bi) aJ.z<|aY Z .nil (iH 7 Z) (bY Z (cP Z) Z Z Z dJ bi) aJ.z<|bM Z<|jS Z (Ak Z Z)<|bS 11 Z Z<|fF h λbl bA h=>aI (zBj xR (fL U bl bA) Z .nil) Z λbK=>aC Z<|aO ?_;exact cD (bl) () h SF (aS.ix [1,2,3,4,5,6,7,8,9,10,11,12] Z Z) (jJ [0,2,3,4,5,6,7,8,9,10,11,12,14] Z)
       refine cU ?_;exact cD (0:Int) () h SF (aS.ix [1,2,3,4,5,6,7,8,9,10,11,12] Z Z) (jJ [0,2,3,4,5,6,7,8,9,10,11,12,14] Z)
      intro D aw h;unfold kJ at h;refine aL<|lN (B:=Kc) (λM=>vA a (bE bb a2) A M=some r) (λM p=>[(2,T),(3,vI (p3)),(4,vP b1),(5,vP b2),(8,vP b3),(9,vP b8),(10,vI (a.1)),(11,vI (k.2.1)),(12,an),(13,C.1),(14,vI (a.2.2.2)),(15,p.1)]) (λM p=>[ad,aj,ak,P,ao,ag,ac,ah,a8,a4,a7,a5,Ar bN.raw p.1 p.2]) (λM p=>[a3,Sl aK u A,uU aK Q.2 r4,Sl aK v0 S.1,L,al,am,Sl aK v4 p1.1,K,Sl aG T p2,ae,af,a6,uU aK p.2 M]) ?_ ?_
      .refine aT<|aC Z<|aO<|aQ<|cQ (iJ bN.raw)<|cQ (dM (fX:aH _ _ (uU aK ai ([]:bJ))))<|qF (B:=Kc) (vC U S p1 p2 k a (bE bb a2) A D) (λE s=>[(2,T),(3,vI (p3)),(4,vP b1),(5,vP b2),(8,vP b3),(9,vP b8),(10,vI (a.1)),(11,vI (k.2.1)),(12,an),(13,C.1),(14,vI (a.2.2.2)),(15,s.1),(16,vI (D)),(17,vI (E.2))]) (λE s=>[ad,aj,ak,P,ao,ag,ac,ah,a8,a4,a7,a5,Ar bN.raw s.1 s.2]) (λE s=>[a3,Sl aK u A,uU aK Q.2 r4,Sl aK v0 S.1,L,al,am,Sl aK v4 p1.1,K,Sl aG T p2,ae,af,a6,uU aK s.2 E.1]) (([]:bJ),(0:Int)) ((tg 1 (eB)),ai) h SF (aS.ix [1,2,3,4,5,6,7,8,9,10,11,12,0] Z Z) (jJ [1,2,3,4,5,6,7,8,9,10,11,12,13,0] Z) ?_;intro bF E s h;refine aL<|aT<|aA Z<|aA Z<|cN Z<|aO ?_;refine gC h Z (λh=>?_) λh=>?_
       .refine cU<|aL<|aQ<|aP<|aA Z<|cL 3 Z<|aA Z<|aA Z<|bZ Z<|dO 4 Z<|aA Z<|aB (uX Z Z) Z<|aA Z<|aB (uX Z Z) Z<|cH Z<|fF h λbk bz h=>aI (aN.call aaF (Iw U v4 v5 z6 T v2 bk bz) Z (jW.cons (zA1 (i:=7) Z) (jW.cons (zA1 (i:=8) Z) (jW.cons (zA1 (i:=9) Z) (iH 5 Z)))) (λ_ _=>rfl) (λ_ _=>rfl)) Z λar=>bO (Know.one ((cP Z))) λa1=>cQ (dM (j_ (cP Z) fX))<|aI (cC (e:=bN.raw) ([ar]) [(0,ar)] Z Z Z Z (kY (ar) a1) Z Z (iZ a1 Z)) Z λbI=>bO (bL (aH.fact 15 Z)) λaU=>bO (bL (cP Z)) λaW=>dQ h λbh h=>cQ (dM (iY (aH.fact 15 Z) (cP Z))) ?_;refine aI (aN.append 13 0 Z Z Z Z Z Z Z (by have q:=bh;have q0:=aU;have q1:=aW;(try simp only[zAa,zAm,zA4]at *);omega) (by have q:=bh;have q0:=aU;have q1:=aW;(try simp only[zAa,zAm,zA4]at *);omega) Z) Z λbw=>?_;refine aC Z<|fC<|mF<|aP<|aA Z<|cH Z<|aC Z<|aO ?_;exact gA ((E.1++[bk]),(wI .i64 (E.2+(1:Int)))) (bw,(s.2++[ar])) h SF (aS.ix [1,2,3,4,5,6,7,8,9,10,11,12,13] Z Z) (jJ [3,4,5,6,7,8,9,10,11,12,13,14,15,0] Z)
       refine fH ?_;exact jV (E.1) (s.1,s.2) h SF Z
      intro M p h;refine aT<|aA Z<|aA Z<|bO (BH (eM (i:=12) (j:=13) Z Z)) λa0=>cQ (mM bN.raw)<|cQ (Bv 0 13 Z Z Z)<|cQ (dM (j_ (aH.fact 13 Z) fX))<|aI (cC (e:=bN.raw) ([p.1]) [(0,p.1)] Z Z Z Z (kY (p.1) a0) Z Z (iZ a0 Z)) Z λbH=>bO (bL (aH.fact 13 Z)) λaz=>bO (bL (cP Z)) λaE=>bO (eQ 13 Z) λaF=>bO (eQ 1 Z) λaM=>dQ h λbg h=>cQ (dM (iY (aH.fact 13 Z) (cP Z)))<|cQ (uV 13 1 Z Z Z) ?_;refine aI (aN.append 11 0 Z Z Z Z Z Z Z (by have q:=bg;have q0:=az;have q1:=aE;have q2:=aF;have q3:=aM;(try simp only[zAa,zAm,zA4]at *);omega) (by have q:=bg;have q0:=az;have q1:=aE;have q2:=aF;have q3:=aM;(try simp only[zAa,zAm,zA4]at *);omega) Z) Z λbu=>?_;refine aC Z<|aO<|aP<|aA Z<|cH Z<|aC Z<|fC<|mF<|aP<|aA Z<|cH Z<|aC Z<|aO ?_;exact gA ((wI .i64 (a.1+(1:Int))),(a.2.1++[A]),(a.2.2.1++[M]),(wI .i64 (a.2.2.2+(1:Int)))) (an,(f.2.1++[u]),bu,(C.2.1++[p.1]),(C.2.2++[p.2])) h SF (aS.ix [1,2,3,4,5,6,7,8,9,10,11,12] Z Z) (jJ [4,5,6,7,8,9,10,11,12,13,2,0] Z)
     refine fH ?_;exact jV (a.1,a.2.1,a.2.2.1) (f.1,f.2.1,C.1,C.2.1,C.2.2) h SF Z
    intro O m h;let t:=m.2.2.1;refine dQ h λau h=>dQ h λba h=>Er [0,1,0,4,15,0,32,0,128,511,127,2047,4095,8191] 11 [[0,1,2,5,6,7,3,4,10,8,9,11,12,13],[0,1,2,5,6,7,3,8,4,10,9,11,12,13],[0,1,2,5,6,7,8,3,4,10,9,11,12,13]] mixedOrders (by decide +kernel) (by decide +kernel) ?_;intro o ho;simp only[zAn,zAz,or_false]at ho;rcases ho with rfl|rfl|rfl
    all_goals
     iterate 11 first
      |refine aY (i:=0) Z .nil .nil (dN Z Z Z Z Z) aJ.z ?_
      |refine aY (i:=1) Z (aS.cons 0 Z .nil) .nil (eI 0 Z Z Z Z Z) aJ.z ?_
      |refine aY (i:=2) Z .nil .nil (f_ Z) aJ.z ?_
      |refine bQ (BH (eM (i:=9) (j:=10) Z Z)) λab=>?_
       refine zBm (mM bN.raw)<|zBm (Bv 0 10 Z Z Z)<|zBm (dM (j_ (aH.fact 10 Z) fX))<|zBl (i:=3) Z Z Z (cC (e:=bN.raw) ([m.1]) [(0,m.1)] Z Z Z Z (kY (m.1) ab) Z Z (iZ ab Z)) Z (λbn=>(oP [([2],[]),([2],[])] Z)) λbn=>?_
      |refine bQ (BH (eM (i:=11) (j:=11) Z Z)) λab=>?_
       refine zBm (mM bN.raw)<|zBm (Bv 0 12 Z Z Z)<|zBm (dM (j_ (aH.fact 11 Z) fX))<|zBl (i:=3) Z Z Z (cC (e:=bN.raw) ([m.1]) [(0,m.1)] Z Z Z Z (kY (m.1) ab) Z Z (iZ ab Z)) Z (λbn=>(oP [([4],[]),([4],[])] Z)) λbn=>?_
      |refine bQ (bL (VK Z)) λF=>?_
       refine bQ (bL (cP Z)) λG=>bQ (eQ 8 Z) λH=>bQ (eQ 1 Z) λI=>zBm (dM (iY (VK Z) (cP Z)))<|zBm (uV 8 1 Z Z Z) ?_;refine zBl (i:=4) Z Z Z (aN.append 6 0 Z Z Z Z Z Z Z (by have q:=au;have q0:=F;have q1:=G;have q2:=H;have q3:=I;(try simp only[zAa,zAm,zA4]at *);omega) (by have q:=au;have q0:=F;have q1:=G;have q2:=H;have q3:=I;(try simp only[zAa,zAm,zA4]at *);omega) Z) Z (λav=>(oP [([1],[])] Z)) λav=>?_
      |refine bQ (bL (aH.fact 10 Z)) λF=>?_
       refine bQ (bL (n_ Z)) λG=>bQ (eQ 10 Z) λH=>bQ (eQ 3 Z) λI=>zBm (dM (iY (aH.fact 10 Z) (n_ Z)))<|zBm (uV 10 3 Z Z Z) ?_;refine zBl (i:=4) Z Z Z (aN.append 8 2 Z Z Z Z Z Z Z (by have q:=au;have q0:=F;have q1:=G;have q2:=H;have q3:=I;(try simp only[zAa,zAm,zA4]at *);omega) (by have q:=au;have q0:=F;have q1:=G;have q2:=H;have q3:=I;(try simp only[zAa,zAm,zA4]at *);omega) Z) Z (λav=>(oP [([3],[])] Z)) λav=>?_
      |refine bQ (bL (aH.fact 10 Z)) λF=>?_
       refine bQ (bL (cP Z)) λG=>bQ (eQ 10 Z) λH=>bQ (eQ 1 Z) λI=>zBm (dM (iY (aH.fact 10 Z) (cP Z)))<|zBm (uV 10 1 Z Z Z) ?_;refine zBl (i:=4) Z Z Z (aN.append 8 0 Z Z Z Z Z Z Z (by have q:=au;have q0:=F;have q1:=G;have q2:=H;have q3:=I;(try simp only[zAa,zAm,zA4]at *);omega) (by have q:=au;have q0:=F;have q1:=G;have q2:=H;have q3:=I;(try simp only[zAa,zAm,zA4]at *);omega) Z) Z (λav=>(oP [([3],[])] Z)) λav=>?_
      |refine aY (i:=5) Z .nil .nil (dN Z Z Z Z Z) aJ.z ?_
      |refine aY (i:=6) Z (aS.cons 0 Z .nil) .nil (eI 0 Z Z Z Z Z) aJ.z ?_
      |refine aY (i:=7) Z .nil .nil (f_ Z) aJ.z ?_
      |refine bQ (BH (kE (i:=10) (q:=11) (j:=13) Z Z Z)) λJ=>?_
       refine zBm (Bw bN.raw)<|zBm (Jd 11 12 Z Z Z)<|zBm (EW 0 11 Z Z Z)<|zBm (dM (j_ (aH.fact 13 Z) fX))<|zBl (i:=8) Z Z Z (cC (e:=bN.raw) ([t]) [(0,t)] Z Z Z Z (kY (t) J) Z Z (iZ J Z)) Z (λa9=>(oP [([3],[]),([3],[])] Z)) λa9=>?_
      |refine bQ (BH (kE (i:=11) (q:=12) (j:=12) Z Z Z)) λJ=>?_
       refine zBm (Bw bN.raw)<|zBm (Jd 12 13 Z Z Z)<|zBm (EW 0 12 Z Z Z)<|zBm (dM (j_ (Fj Z) fX))<|zBl (i:=8) Z Z Z (cC (e:=bN.raw) ([t]) [(0,t)] Z Z Z Z (kY (t) J) Z Z (iZ J Z)) Z (λa9=>(oP [([4],[]),([4],[])] Z)) λa9=>?_
      |refine bQ (BH (kE (i:=10) (q:=11) (j:=11) Z Z Z)) λJ=>?_
       refine zBm (Bw bN.raw)<|zBm (Jd 11 12 Z Z Z)<|zBm (EW 0 11 Z Z Z)<|zBm (dM (j_ (aH.fact 11 Z) fX))<|zBl (i:=8) Z Z Z (cC (e:=bN.raw) ([t]) [(0,t)] Z Z Z Z (kY (t) J) Z Z (iZ J Z)) Z (λa9=>(oP [([2],[]),([2],[])] Z)) λa9=>?_
      |refine bQ (bL (Fj Z)) λW=>?_
       refine bQ (bL (by first|exact aH.fact 0 Z|exact aH.fact 1 Z)) λX=>?_;refine bQ (xY 11 Z) λY=>bQ (xY 1 Z) λaa=>?_;refine zBm (dM (by first|exact iY (Fj Z) (cP Z)|exact iY (Fj Z) (n_ Z))) ?_;refine zBm (ID 11 1 Z Z Z) ?_;refine zBl (i:=9) Z Z Z (aN.append 9 0 Z Z Z Z Z Z Z (by have q:=ba;have q0:=W;have q1:=X;have q2:=Y;have q3:=aa;(try simp only[zAa,zAm,zA4]at *);omega) (by have q:=ba;have q0:=W;have q1:=X;have q2:=Y;have q3:=aa;(try simp only[zAa,zAm,zA4]at *);omega) Z) Z (λbc=>(oP [] Z)) λbc=>?_
      |refine bQ (bL (Fj Z)) λW=>?_
       refine bQ (bL (uI Z)) λX=>bQ (xY 11 Z) λY=>bQ (xY 2 Z) λaa=>zBm (dM (iY (Fj Z) (uI Z)))<|zBm (ID 11 2 Z Z Z) ?_;refine zBl (i:=9) Z Z Z (aN.append 9 1 Z Z Z Z Z Z Z (by have q:=ba;have q0:=W;have q1:=X;have q2:=Y;have q3:=aa;(try simp only[zAa,zAm,zA4]at *);omega) (by have q:=ba;have q0:=W;have q1:=X;have q2:=Y;have q3:=aa;(try simp only[zAa,zAm,zA4]at *);omega) Z) Z (λbc=>(oP [] Z)) λbc=>?_
      |refine aY (i:=10) Z .nil .nil (dN Z Z Z Z Z) (by first|exact aJ.b Z (KH Z)|exact aJ.b Z NK|exact aJ.b Z NK) ?_
     refine bS 11 Z Z ?_
     first
      |refine bO (BH (kE (i:=7) (q:=8) (j:=2) Z Z Z)) λbd=>?_
      |refine bO (BH (kE (i:=7) (q:=8) (j:=1) Z Z Z)) λbd=>?_
     refine iB 2 Z Z bd Z Z Z<|bZ Z<|bO (BH (sU (i:=9) (q:=10) (j:=0) Z Z Z)) λbr=>iB 2 Z Z br Z Z Z<|fC<|mF ?_;exact cD (O.1,(k.2.2.2++[O.2.2]),(k.2.2.1++[O.2.1])) (av,bc,(g.2.1++[m.1]),(g.2.2.1++[m.2.1]),(y.2.1++[t]),(y.2.2.1++[m.2.2.2.1]),(y.2.2.2++[m.2.2.2.2])) h SF (aS.ix [2,3,4,5,6,7,8,9,10] Z Z) (by first|exact aD.cons (cP Z) (jJ [2,4,5,6,7,8,9,10,11] Z)|exact aD.cons (cP Z) (jJ [1,4,5,6,7,8,9,10,11] Z))
   intro N n h;unfold qI at h;refine aP<|aA Z<|cH Z<|aC Z<|aO ?_;exact gA (N.1,(wI .i64 (k.2.1+(1:Int))),N.2.2,N.2.1) (n.1,n.2.2.1,n.2.2.2.1,n.2.1,n.2.2.2.2.1,n.2.2.2.2.2.1,n.2.2.2.2.2.2) h SF (aS.refl _) (jJ [2,3,4,5,6,7,8,9,1,0] Z)
  refine fH ?_;exact cD (k.2.2.1,k.2.2.2) (g.1,g.2.1,g.2.2.1,y.1,y.2.1,y.2.2.1,y.2.2.2) h SF (aS.ix [0,1,2,5,6,7,8] Z Z) (aD.refl _ _)
 intro V d h;let v:=d.2.2.2;let bj:=Bu bN.raw v.2.1 v.2.2.1 v.2.2.2;unfold uZ at h;refine aT<|cL 0 Z<|bO (BH (eM (i:=1) (j:=0) Z Z)) λbo=>bO (BH (kE (i:=3) (q:=4) (j:=8) Z Z Z)) λbp=>bO (BH (sU (i:=5) (q:=6) (j:=9) Z Z Z)) λbq=>bP 2 (vs:=[Q.1,d.1,d.2.2.2.1]) Z Z (iZ bo (iZ bp (iZ bq Z))) Z Z Z<|aO<|aV<|cQ (lE 1 Z (eM (i:=0) (j:=0) Z Z))<|cQ (CV [Ar bN.raw d.1 d.2.1,hJ bN.raw d.2.1 d.2.2.1] [bG b8 [Q.1,d.1,v.1] 43,bG b3 [Q.1,d.1,v.1] 43,Ar bN.raw v.1 v.2.1,bj] (aS.ix [2,3,0,1,4,5] Z Z) (kE (i:=0) (q:=1) (j:=9) Z Z Z))<|cQ (CV [Ar bN.raw v.1 v.2.1,bj] [bG b8 [Q.1,d.1,v.1] 43,bG b3 [Q.1,d.1,v.1] 43] (aS.ix [2,3,0,1] Z Z) (sU (i:=0) (q:=1) (j:=11) Z Z Z)) ?_;cases h;exact fD (Q.1,(List.zip Q.2 r4),d.1,(Z3 d.2.1 d.2.2.1 V.1),v.1,(Z4 v.2.1 v.2.2.1 v.2.2.2 V.2)) Z Z (RV.cell 1 Z Z Z Z) .nil (jJ [2,1,0] Z)
def Cp (a:Hh):V1 pU:=
 some (a)
def tO (a:Qj) (c:Qi->V1 pU) (b:Hh):V1 pU:=
 c (b,(wI .i64 (a.2+(1:Int))))
def tP (a:Qj) (c:Qi->V1 pU) (d:Int) (b:e_) (e:V4):V1 pU:=
 if e=true then(ck ((a.1.length:Int)+(List.length ([(b.1,d,b.2)]):Int)<=1099511627) (tO a c (a.1++([(b.1,d,b.2)]))))else(tO a c (a.1))
def Cq (e:b_) (c:Qj) (d:Qi->V1 pU) (a:Int) (b:e_):V1 pU:=
 ck (0<=a/\a<(e.2.length:Int)) (if(0:Int)<((at' e.2 a).length:Int)then(tP c d a b (true))else(tP c d a b (decide (b.1=(1:Int)))))
def tM (d:b_) (c:nX) (a:Qj) (f:Qi->V1 pU) (e:V4):V1 pU:=
 if e=true then(ck (0<=a.2/\a.2<(c.length:Int)) (Option.bind (dH U ((at' c a.2).2.1) (d.2.length:Int)) λb=>(ck (0<=a.2/\a.2<(c.length:Int)) (ck (0<=a.2/\a.2<(c.length:Int)) (ck (0<=b/\b<(d.2.length:Int)) (Option.bind (dH U ((at' c a.2).1) (4:Int)) λg=>(Option.bind (dH U ((at' c a.2).2.2) ((at' d.2 b).length:Int)) λh=>(Cq d a f b ((wI .i64 ((1:Int)+g)),h)))))))))else(Cp (a.1))
def nG (d:b_) (c:nX) (a:Qj) (b:Qi->V1 pU):V1 pU:=
 if a.2<(c.length:Int)then(tM U d c a b (decide (a.2<(60:Int))))else(tM U d c a b (false))
def jF (a:b_) (b:nX):V1 pU:=
 bE (nG U a b) U (([]:nX),(0:Int))
theorem aaC:aU prog 30:=call30
theorem GY (U:Nat) {A:b_} {M:nX} (N O:V0) (z2:kI) (D:V0) (r:Hh) (h:jF U A M=some r):
  aZ prog 30 #[Value.agg #[N,O],D] [Sl aK N A.1,S2 aR O z2 A.2,Sl cJ D M] (λx:V0=>x) (λx l=>Ar cI x r::l) (λ_ l=>l):=by
 refine aZ.of func30 Z ntmps30 Z λc=>?_;unfold jF at h;refine aT<|aI (aN.box (cs:=[N,O]) Z Z) Z λE=>let q:=bG E [N,O] 31;aC Z<|aO<|aT<|aC Z<|aO<|aL<|HU (B:=V0) (λF=>Cp F=some r) (λF I=>[(5,I)]) (λF I=>[Ar cI I F]) ?_ ?_
 .refine aT<|aC Z<|aO<|aQ<|cQ (iJ cI)<|fT (B:=V0) (nG U A M) (λa g=>[(1,D),(2,vP E),(5,g),(6,vI (a.2))]) (λa g=>[q,Ar cI g a.1]) (([]:nX),(0:Int)) (eB) h SF (aS.ix [1,0] Z Z) ?_;intro Q a g h;let C:=Ar cI g a.1;let u:=(bE (nG U A M) Q)
  refine aL<|aL<|fV (λm=>tM U A M a u m=some r) (λm G=>[(1,D),(2,vP E),(5,g),(6,vI (a.2)),(16,vB (m))]) (λm G=>[q,C]) ?_ ?_
  .refine aP<|aA Z<|aA Z<|jH (uI Z) Z<|cN Z<|aA Z ?_;refine IX h Z (λ_ h=>?_) λ_ h=>?_
   .refine gW Z<|bB Z (Ew Z Z) Z<|gT Z<|aO ?_;exact jV (decide (a.2<(60:Int))) () h SF Z
   refine aW Z<|aW Z<|iV Z<|aO ?_;exact jV (false) () h SF Z
  intro m G h;refine Ag h Z (λ_ h=>?_) λ_ h=>?_
  .refine cU<|aL<|HU (B:=V0) (λj=>tO a u j=some r) (λj p=>[(1,D),(2,vP E),(5,p),(6,vI (a.2))]) (λj p=>[q,Ar cI p j]) ?_ ?_
   .refine aQ<|aL ?_;refine Bf [0,0,3,7,15,0,32,96,255,511] 8 mixedOrders ?_;refine bM Z<|bM Z<|dQ h λK h=>aY Z .nil (iH 2 Z) (bD Z Z (cP Z) Z Z K) aJ.z<|jS Z (lF Z Z Z Z Z)<|aY Z .nil (iH 2 Z) (nR Z (cP Z) Z Z Z OJ K) aJ.z<|cT Z<|gN 0 Z<|aY Z .nil (iH 1 Z) (fR Z (cP Z) Z) aJ.z<|bS 8 Z Z<|fF h λf S h=>aI (zBj xR (fL U f S) Z .nil) Z λab=>aC Z<|aO<|aL<|HU (B:=Nat) (λd=>Cq A a u f d=some r) (λd k=>[(1,D),(2,vP E),(5,g),(6,vI (a.2)),(7,vI (f)),(8,vP k)]) (λd k=>[bG k [vI (d.1),vI (f),vI (d.2)] 28,q,C]) ?_ ?_
    .have⟨j39,h⟩:=QS h;refine dQ h λL h=>dQ h λt h=>fF h λv T h=>fF h λy V h=>Er [0,0,3,7,15,31,63,0,0,0,768,1792,3840,0,8192,0,57344,122880,253952,524095,1048575,0,4194303] 22 [[0,1,2,3,4,7,8,9,10,11,12,13,14,15,16,17,18,5,6,19,20,21,22],[0,1,2,3,4,7,8,9,10,11,12,13,14,15,16,17,18,5,6,21,19,20,22],[0,1,2,3,4,7,8,9,10,11,12,13,14,15,16,17,18,21,5,6,19,20,22]] mixedOrders (by decide +kernel) (by decide +kernel) ?_;intro o Y;simp only[zAn,zAz,or_false]at Y;rcases Y with rfl|rfl|rfl
     all_goals
      iterate 22 first
       |refine aY (i:=0) Z .nil .nil (f_ Z) aJ.z ?_
       |refine aY (i:=1) Z .nil .nil (f_ Z) aJ.z ?_
       |refine aY (i:=2) Z .nil (iH 2 Z) (bD Z Z (cP Z) Z Z j39) aJ.z ?_
       |refine aY (i:=3) Z .nil .nil (lF Z Z Z Z Z) aJ.z ?_
       |refine aY (i:=4) Z .nil (iH 2 Z) (nR Z (cP Z) Z Z Z OI j39) aJ.z ?_
       |refine zBl (i:=5) Z Z Z (zBj xR (fL U v T) Z .nil) Z (λW=>(by first|exact oC.h .nil (iH 1 Z) (oP [([],[1]),([],[1]),([0],[]),([],[2]),([],[2])] Z)|exact oC.h .nil (iH 1 Z) (oP [([],[1]),([],[1]),([1],[]),([],[2]),([],[2])] Z))) λW=>?_
       |refine aY (i:=6) Z .nil .nil (Ak Z Z) (by first|exact aJ.b Z aJ.z|exact aJ.b Z NK) ?_
       |refine aY (i:=7) Z .nil .nil (f_ Z) aJ.z ?_
       |refine aY (i:=8) Z .nil .nil (f_ Z) aJ.z ?_
       |refine aY (i:=9) Z .nil .nil (f_ Z) aJ.z ?_
       |refine aY (i:=10) Z .nil (iH 2 Z) (bD Z Z (cP Z) Z Z L) aJ.z ?_
       |refine aY (i:=11) Z .nil .nil (lF Z Z Z Z Z) aJ.z ?_
       |refine aY (i:=12) Z .nil (iH 2 Z) (nR Z (cP Z) Z Z Z OM L) aJ.z ?_
       |refine aY (i:=13) Z .nil .nil (dN Z Z Z Z Z) aJ.z ?_
       |refine aY (i:=14) Z (aS.cons 0 Z .nil) .nil (eI 0 Z Z Z Z Z) aJ.z ?_
       |refine aY (i:=15) Z .nil .nil (f_ Z) aJ.z ?_
       |refine aY (i:=16) Z .nil (iH 1 Z) (bX Z Z (cP Z) Z Z t) aJ.z ?_
       |refine aY (i:=17) Z .nil (iH 1 Z) (cB Z (cP Z) Z Z t) aJ.z ?_
       |refine aY (i:=18) Z .nil (iH 1 Z) (eW Z (zBk (cP Z) t.1 t.2) Z) aJ.z ?_
       |refine zBl (i:=19) Z Z Z (zBj xR (fL U y V) Z .nil) Z (λX=>(oP [] Z)) λX=>?_
       |refine aY (i:=20) Z .nil .nil (QK (r:=Value.agg #[vI (wI .i64 ((1:Int)+v)),vI (f),vI (y)]) Z Z Z (by intro w;simp[Instr.build,Instr.fill,dU,c_,cO,dV,dW,dC,eV])) (by first|exact aJ.b Z (KH Z)|exact aJ.b Z NK|exact aJ.b Z NK) ?_
       |refine zBl (i:=21) Z Z Z (aN.alloc (cs:=[vI (0:Int),vI (0:Int),vI (0:Int)]) Z Z) Z (λJ=>(by first|exact oC.h .nil .nil (oP [([],[1]),([],[1]),([],[1]),([1],[]),([],[2]),([],[2]),([],[2]),([],[2])] Z)|exact oC.h .nil .nil (oP [([],[1]),([],[1]),([],[1]),([1],[]),([],[2]),([],[2]),([],[2]),([],[2])] Z)|exact oC.h .nil (iH 1 Z) (oP [([],[1]),([],[1]),([1],[]),([],[2]),([],[2]),([],[2]),([],[2])] Z))) λJ=>?_
      refine bS 22 Z Z<|bP 0 (vs:=[vI (wI .i64 ((1:Int)+v)),vI (f),vI (y)]) Z Z Z Z Z Z<|aO ?_;exact jV ((wI .i64 ((1:Int)+v)),y) (J) h SF Z
    intro d k h;refine aL<|fV (λn=>tP a u f d n=some r) (λn H=>[(1,D),(2,vP E),(5,g),(6,vI (a.2)),(8,vP k),(60,vB (n))]) (λn H=>[bG k [vI (d.1),vI (f),vI (d.2)] 28,q,C]) ?_ ?_
    .refine aP<|bZ Z<|dO 1 Z<|aA Z<|dQ h λs h=>aB (bX Z Z (n_ Z) Z Z s) Z<|aB (cB Z (n_ Z) Z Z s) Z<|aB (eW Z (zBk (n_ Z) s.1 s.2) Z) Z<|aB (zW Z Z) Z<|aA Z ?_;refine IX h Z (λ_ h=>?_) λ_ h=>?_
     .refine aW Z<|aW Z<|aW Z<|gT Z<|aO ?_;exact jV (true) () h SF Z
     refine bB Z (dN Z Z Z Z Z) Z<|bB Z (eI 0 Z Z Z Z Z) Z<|bB Z (WE Z Z) Z<|iV Z<|aO ?_;exact jV (decide (d.1=(1:Int))) () h SF Z
    intro n H h;refine Ag h Z (λ_ h=>?_) λ_ h=>?_
    .refine aP<|aA Z<|cL 0 Z<|aI (cC (e:=cI) ([((d.1,f,d.2))]) [(0,Value.agg #[vI (d.1),vI (f),vI (d.2)])] Z Z Z Z (Ju (vI (d.1)) (vI (f)) (vI (d.2))) Z Z Z) Z λaa=>dQ h λP h=>aI (gU 3 eC Z Z Z (bI (aH.res 0 Z) eC) Z Z Z Z P Z) Z λR=>aC Z<|fC<|mF ?_;exact cD (a.1++([(d.1,f,d.2)])) (R) h SF (aS.ix [2,3] Z Z) (aD.refl _ _)
    refine eK<|mF ?_;exact cD (a.1) (g) h SF (aS.ix [1,2] Z Z) (aD.refl _ _)
   intro j p h;unfold tO at h;refine aP<|aA Z<|cH Z<|aC Z<|aO ?_;exact Ci (j,(wI .i64 (a.2+(1:Int)))) (p) h SF Z
  refine fH ?_;exact cD (a.1) (g) h SF (aS.ix [1] Z Z) (aD.refl _ _)
 intro F I h;unfold Cp at h;refine aT<|aA Z<|aC Z<|aO<|aV ?_;cases h;exact fD (I) Z Z (RV.tmp Z) (aS.refl _) aD.nil
def xD (c:Kb) (b:LW->V1 pU) (a:Hh):V1 pU:=
 b ((wI .i64 (c.1+(1:Int))),a)
def xE (b:Kb) (a:LW->V1 pU) (c:Hh):V1 pU:=
 a ((wI .i64 (b.1+(1:Int))),c)
def sH (f g:Int) (e b:Kb) (c:LW->V1 pU) (a:Kb) (d:LW->V1 pU):V1 pU:=
 if a.1<g then(ck ((a.2.length:Int)+(List.length ([(f,e.1,b.1)]):Int)<=1099511627) (d ((wI .i64 (a.1+(1:Int))),(a.2++([(f,e.1,b.1)])))))else(xE b c (a.2))
def mA (e f:Int) (g:b_) (c:Kb) (d:LW->V1 pU) (a:Kb) (b:LW->V1 pU):V1 pU:=
 if a.1<((at' g.2 c.1).length:Int)then(bE (sH e f c a b) U ((0:Int),a.2))else(xD c d (a.2))
def jO (d e:Int) (c:b_) (a:Kb) (b:LW->V1 pU):V1 pU:=
 if a.1<(c.2.length:Int)then(ck (0<=a.1/\a.1<(c.2.length:Int)) (bE (mA U d e c a b) U ((0:Int),a.2)))else(some (a.2))
def jL (a b:Int) (c:b_) (d:nX):V1 pU:=
 bE (jO U a b c) U ((0:Int),d)
theorem Vl:aU prog 73:=call73
theorem Cu {g q:Int} {p:b_} {J:nX} (v:Nat) (A z:V0) (N:kI) (b:Nat) (L:V0) (r:Hh) (h:jL U g q p J=some r):
  Ch prog 73 #[vI (g),vI (q),vP v,vP b] [bG b [L] 57,Ar cI L J] [bG v [A,z] 31,Sl aK A p.1,S2 aR z N p.2] (λx:V0=>Value.tuple #[]) (λx l=>bG b [x] 57::Ar cI x r::l):=by
 let F:=(jO U g q p)
 let u:=S2 aR z N p.2;let t:=bG v [A,z] 31;let s:=vI (p.2.length:Int);refine Ch.of (vs:=[vI (g),vI (q),vP v,vP b]) func73 Z ntmps73 Z λc=>?_;unfold jL at h;refine aT<|bZ Z<|aB (dG Z (cP Z) Z Z Z) Z<|aB (fR Z (uI Z) Z) Z<|aA Z<|aO<|aQ<|qF (B:=V0) F (λd C=>[(0,vI (g)),(1,vI (q)),(3,vP b),(10,z),(11,s),(12,vI (d.1))]) (λd C=>[bG b [C] 57,Ar cI C d.2]) (λd C=>[t,Sl aK A p.1,u]) ((0:Int),J) (L) h SF (aS.refl _) (aD.refl _ _) ?_;intro M d C h;let E:=vI ((at' p.2 d.1).length:Int);let D:=(mA U g q p d (bE F M))
 refine aT<|cN Z<|aO<|aL<|gC h Z (λh=>?_) λh=>?_
 .refine cU<|aL<|lN (B:=V0) (λi=>xD d (bE F M) i=some r) (λi m=>[(0,vI (g)),(1,vI (q)),(3,vP b),(10,z),(11,s),(12,vI (d.1))]) (λi m=>[bG b [m] 57,Ar cI m i]) (λi m=>[t,Sl aK A p.1,u]) ?_ ?_
  .refine aQ<|Q6 Z<|dQ h λy h=>aB (bX Z Z (uI Z) Z Z y) Z<|aB (cB Z (uI Z) Z Z y) Z<|aC Z<|Q5 Z<|Q6 Z<|aB (eW Z (zBk (uI Z) y.1 y.2) Z) Z<|aA Z<|aO<|aQ<|qF (B:=V0) D (λa k=>[(0,vI (g)),(1,vI (q)),(3,vP b),(6,vI (d.1)),(10,z),(11,s),(12,vI (d.1)),(18,E),(19,vI (a.1))]) (λa k=>[bG b [k] 57,Ar cI k a.2]) (λa k=>[t,Sl aK A p.1,u]) ((0:Int),d.2) (C) h SF (aS.refl _) (aD.refl _ _) ?_;intro H a k h;refine aT<|cN Z<|aO<|aL<|gC h Z (λh=>?_) λh=>?_
   .refine cU<|aL<|lN (B:=V0) (λj=>xE a (bE D H) j=some r) (λj n=>[(0,vI (g)),(1,vI (q)),(3,vP b),(6,vI (d.1)),(10,z),(11,s),(12,vI (d.1)),(18,E),(19,vI (a.1))]) (λj n=>[bG b [n] 57,Ar cI n j]) (λj n=>[t,Sl aK A p.1,u]) ?_ ?_
    .refine aQ<|Q6 Z<|Q5 Z<|Q6 Z<|aA Z<|aO<|aQ<|qF (B:=V0) (sH g q d a (bE D H)) (λf o=>[(0,vI (g)),(1,vI (q)),(3,vP b),(6,vI (d.1)),(8,vI (a.1)),(10,z),(11,s),(12,vI (d.1)),(18,E),(19,vI (a.1)),(22,vI (q)),(23,vI (f.1))]) (λf o=>[bG b [o] 57,Ar cI o f.2]) (λf o=>[t,Sl aK A p.1,u]) ((0:Int),a.2) (k) h SF (aS.refl _) (aD.refl _ _) ?_;intro O f o h;refine aT<|cN Z<|aO<|aL<|gC h Z (λh=>?_) λh=>?_
     .refine cU<|aL<|aQ<|aP<|dO 0 Z<|aA Z<|aA Z<|aA Z<|aB (QK (r:=Value.agg #[vI (g),vI (d.1),vI (a.1)]) Z Z Z (by intro w;simp[Instr.build,Instr.fill,dU,c_,cO,dV,dW,dC,eV])) Z ?_;exact aI (cC (e:=cI) ([((g,d.1,a.1))]) [(0,Value.agg #[vI (g),vI (d.1),vI (a.1)])] Z Z Z Z (Ju (vI (g)) (vI (d.1)) (vI (a.1))) Z Z Z) Z λP=>dQ h λI h=>aI (gU 2 eC Z Z Z (bI (aH.res 0 Z) eC) Z Z Z Z I Z) Z λK=>bO (Know.one ((bI (aH.res 2 Z) eC))) λG=>iB 1 Z Z G Z Z Z<|fC<|mF<|aP<|cH Z<|aA Z<|aO<|gA ((wI .i64 (f.1+(1:Int))),(f.2++([(g,d.1,a.1)]))) (K) h SF (aS.ix [1,2] Z Z) (aD.refl _ _)
     exact sS<|fU<|fU<|Aj<|mF<|jV (f.2) (o) h SF Z
    intro j n h;unfold xE at h;exact aP<|cH Z<|aA Z<|aO<|Ci ((wI .i64 (a.1+(1:Int))),j) (n) h SF Z
   exact sS<|fU<|fU<|Aj<|mF<|jV (a.2) (k) h SF Z
  intro i m h;unfold xD at h;exact aP<|cH Z<|aA Z<|aO<|Ci ((wI .i64 (d.1+(1:Int))),i) (m) h SF Z
 refine sS<|fU<|fU<|Aj ?_;cases h;exact Ml (C) Z Z .normal (.inr Z) (aS.refl _) aD.nil
def AV (a:b_) (e:Int) (b:Hh):V1 pU:=
 Option.bind (jL U (2:Int) (1:Int) ((a.1,a.2)) b) λc=>(Option.bind (jL U (3:Int) e ((a.1,a.2)) c) λd=>(some (d)))
def v_ (c:b_) (d:Int) (a:Kb) (b:LW->V1 pU):V1 pU:=
 if a.1<(c.2.length:Int)then(ck ((a.2.length:Int)+(List.length ([((1:Int),a.1,(0:Int))]):Int)<=1099511627) (b ((wI .i64 (a.1+(1:Int))),(a.2++([((1:Int),a.1,(0:Int))])))))else(AV U c d (a.2))
def vZ (a:b_) (b:Int) (c:V4):V1 pU:=
 if c=true then(some ([]:nX))else(Option.bind (jL U (3:Int) b ((a.1,a.2)) ([]:nX)) λd=>(bE (v_ U a b) U ((0:Int),d)))
def yE (a:b_) (b:Int):V1 pU:=
 Option.bind (gO U ((a.1,a.2))) λc=>(if(!c)=true then(vZ U a b (true))else(if b<(1:Int)then(vZ U a b (true))else(vZ U a b (decide ((8:Int)<b)))))
theorem ahq:aU prog 31:=call31
theorem OW {p:b_} {k:Int} (n o:V0) (y:kI) (r:Hh) (h:yE U p k=some r):
  aZ prog 31 #[Value.agg #[n,o],vI (k)] [Sl aK n p.1,S2 aR o y p.2] (λx:V0=>x) (λx l=>Ar cI x r::l) (λ_ l=>l):=by
 refine aZ.of func31 Z ntmps31 Z λc=>aT<|aI (aN.box (cs:=[n,o]) Z Z) Z λm=>let g:=bG m [n,o] 31;Q5 Z<|aL<|aL<|fV (λs=>vZ U p k s=some r) (λs I=>[(1,vI (k)),(2,vP m),(18,vB (s))]) (λs I=>[g]) ?_ ?_
 .refine aP<|cL 0 Z<|fF h λC G h=>aI (zBj Nl (yK U n o y C G) Z (jJ [0,1] Z)) Z λN=>aB (nY Z) Z<|aA Z<|Ai (by exact rfl) (by exact rfl) (λj=>?_) (λj=>?_)
  .have h:=ME j h;exact aW Z<|aW Z<|gT Z<|aA Z<|aW Z<|aW Z<|gT Z<|aO<|jV (true) () h SF Z
  have h:=Jy j h;refine gW Z<|bB Z (Ew Z Z) Z<|iV Z<|aA Z<|IX h Z (λ_ h=>?_) λ_ h=>?_
  .exact aW Z<|aW Z<|gT Z<|aO<|jV (true) () h SF Z
  exact gW Z<|bB Z (zW Z Z) Z<|iV Z<|aO<|jV (decide ((8:Int)<k)) () h SF Z
 intro s I h;refine Ag h Z (λ_ h=>?_) λ_ h=>?_
 .refine Q4 Z<|aV<|aM<|cQ (iJ cI) ?_;cases h;exact fD (eB) Z Z (RV.tmp Z) (aS.ix [0] Z Z) aD.nil
 refine cU<|aT<|aI (aN.alloc (cs:=[eB]) Z Z) Z λd=>let u:=Value.func (.func 73) #[] #[vP m,vP d];aO<|aT<|aB (oM (cs:=[.tmp 2,.tmp 5]) (vs:=[vP m,vP d]) Z) Z<|Q5 Z<|Q6 Z<|aA Z<|cQ (iJ cI)<|fF h λJ M h=>aI (Gn (vs:=[vI (3:Int),vI (k)]) (cs:=[vP m,vP d]) (Min:=[bG d [eB] 57,Ar cI (eB) ([]:nX)]) (Mr:=[g]) Vl Z (Cu U m n o y d (eB) J M) Z (aS.ix [1,0,2] Z Z) (aD.cons (aH.res 0 Z) (jJ [0,1] Z)) (λ_ _=>rfl)) Z λO=>aO<|aL<|HU (B:=V0) (λf=>AV U p k f=some r) (λf b=>[(1,vI (k)),(5,vP d),(6,u)]) (λf b=>[bG d [b] 57,Ar cI b f,g]) ?_ ?_
 .refine aT<|bZ Z<|dO 2 Z<|aB (fR Z (n_ Z) Z) Z<|aA Z<|aO<|aQ<|fT (B:=V0) (v_ U p k) (λa i=>[(1,vI (k)),(5,vP d),(6,u),(25,vI (p.2.length:Int)),(26,vI (a.1))]) (λa i=>[bG d [i] 57,Ar cI i a.2,g]) ((0:Int),J) (O) h SF (aS.refl _) ?_;intro K a i h;refine aT<|cN Z<|aO<|aL<|gC h Z (λh=>?_) λh=>?_
  .refine cU<|aL<|aQ<|Q6 Z<|Q5 Z<|aP<|dO 0 Z<|aA Z<|aB (EZ (r:=Value.agg #[vI (1:Int),vI (a.1),vI (0:Int)]) Z Z (by intro w;simp[Instr.build,Instr.fill,dU,c_,cO,dV,dW,dC,eV])) Z ?_;exact aI (cC (e:=cI) ([(((1:Int),a.1,(0:Int)))]) [(0,Value.agg #[vI (1:Int),vI (a.1),vI (0:Int)])] Z Z Z Z (Ju (vI (1:Int)) (vI (a.1)) (vI (0:Int))) Z Z Z) Z λL=>dQ h λz h=>aI (gU 2 eC Z Z Z (bI (aH.res 0 Z) eC) Z Z Z Z z Z) Z λD=>bO (Know.one ((bI (aH.res 2 Z) eC))) λt=>iB 1 Z Z t Z Z Z<|fC<|mF<|aP<|cH Z<|aA Z<|aO<|gA ((wI .i64 (a.1+(1:Int))),(a.2++([((1:Int),a.1,(0:Int))]))) (D) h SF (aS.ix [1,2,3] Z Z) (aD.refl _ _)
  exact fH<|jV (a.2) (i) h SF Z
 intro f b h;refine Q6 Z<|fF h λv E h=>aI (Gn (vs:=[vI (2:Int),vI (1:Int)]) (cs:=[vP m,vP d]) (Min:=[bG d [b] 57,Ar cI b f]) (Mr:=[g]) Vl Z (Cu U m n o y d b v E) Z (aS.refl _) (aD.cons (aH.res 0 Z) (jJ [0,1] Z)) (λ_ _=>rfl)) Z λq=>aO<|Q6 Z<|aA Z<|fF h λA F h=>aI (Gn (vs:=[vI (3:Int),vI (k)]) (cs:=[vP m,vP d]) (Min:=[bG d [q] 57,Ar cI q v]) (Mr:=[g]) Vl Z (Cu U m n o y d q A F) Z (aS.refl _) (aD.cons (aH.res 0 Z) (jJ [0,1] Z)) (λ_ _=>rfl)) Z λH=>aO<|aT<|dO 0 Z<|Q5 Z<|aV ?_;cases h;exact fD (H) Z Z (RV.tmp Z) (aS.ix [1] Z Z) aD.nil
end Go.Proofs.YtflciafboapaaaaGreat
namespace Go.Proofs.YtflciafboapaaaaGreat
open Go Go.Sx
theorem adb {g:GR} {a:V6 Ah} {c:bJ} (h:FJ g c a) {v:Nat} (b:v<g.2.length):GM g a v (at' c (v:Int))=true:=Bc.2 ⟨h.row v b,λx d=>h.ok v b x d⟩
def ZH (g:GR) (a:V6 Ah):Prop:=∀b,OK (λc=>FJ g c a) (gK 1000 g a b)
theorem Un {g:GR} (u:VG g) {d:V6 Ah} (n:d.length<=20) (h:ZH g d) {v:Nat} (q:v<g.2.length) (l:aX) {a:Int} (C:0<=a) (D:a<=1000000):OK (λs=>GM g d v s=true) (qX 1000 g d (v:Int) l a):=by
 have j:=u.n24;have E:g.2.length*d.length<=24*20:=Nat.mul_le_mul j n;have A:wI .i64 ((g.2.length:Int)*(d.length:Int))=((g.2.length*d.length:Nat):Int):=by
  rw[<-Int.natCast_mul,Q9]
 have t:(v+1)*d.length<=g.2.length*d.length:=zAv _ q;rw[Nat.succ_mul]at t;have o:wI .i64 ((v:Int)*(d.length:Int))=((v*d.length:Nat):Int):=by
  rw[<-Int.natCast_mul,Q9]
 unfold qX;rw[A,Q7];have e:∀all:aX,OK (λs=>GM g d v s=true) (AA 1000 g d (v:Int) all):=λall=>by
  have⟨c,w,f⟩:=h all;have:=f.len;unfold AA;rw[bA (show gK 1000 (g.1,g.2) d all=some c from w),Q7];exact⟨_,rfl,adb f q⟩
 refine wP (Q:=λs=>GM g d v s=true) (λx=>∃k:Nat,x.1=(k:Int)/\k<=d.length/\x.2.length=g.2.length*d.length) (λx=>d.length - x.1.toNat) (λx B r m=>?_) 1000 _ ⟨0,rfl,V7,by rw[List.length_replicate,zAf]⟩ Q1;have⟨i,all⟩:=x;obtain⟨k,rfl,F,p⟩:=r;dsimp only at p;unfold AC AB;dsimp only;by_cases y:k<d.length
 .rw[Q3];by_cases z:0<l.length
  .have G:=Int.tmod_nonneg (a:=a+(k:Int)) (l.length:Int) V7;have H:=Int.tmod_lt_of_pos (a+(k:Int)) (b:=(l.length:Int)) V7;rw[if_pos (by rw[zA2];omega),Q7,o,Q9 (x:=a+_),Q7,Q9 (x:=((v*d.length:Nat):Int)+_),Q7,Q8];exact m _ ⟨k+1,rfl,V7,by simpa using p⟩ (by dsimp only;omega)
  .rw[if_neg (by rw[zA2];omega)];exact e all
 .rw[Q0,if_neg Q2];exact e all
def agi (g:GR) (a:V6 Ah) (b v j:Nat) (s:aX) (w:bJ):Prop:=GM g a (tE g v j) s=true/\w.length<=b/\∀x∈w,GM g a v x=true
theorem DV {g:GR} (D:VG g) {vars:V6 Ah} (L:vars.length<=20) (o:ZH g vars) (r:V6 Int×V6 Int×V6 Int×aX) {cap:Nat} (h8:cap<=8):OK (λy=>VY g vars cap y) (iM 1000 r g vars (cap:Int)):=by
 have ad:=D.n24;have⟨c,hc,I⟩:=o r.1;unfold iM;rw[bA (show gK 1000 (g.1,g.2) vars r.1=some c from hc)];refine wP (Q:=λy=>VY g vars cap y) (λx=>∃v:Nat,x.2.1=(v:Int)/\v<=g.2.length/\(0<=x.1/\x.1<=24*(v:Int))/\x.2.2.1.length=v/\x.2.2.2.length=v/\∀w,w<v->(at' x.2.2.1 (w:Int)).length=(row g w).length/\(at' x.2.2.2 (w:Int)).length=(row g w).length/\∀j:Nat,j<(row g w).length->agi g vars cap w j (nZ x.2.2.1 w j) (nZ x.2.2.2 w j))
  (λx=>g.2.length - x.2.1.toNat) (λx ag F R=>?_) 1000 _ ⟨0,rfl,V7,⟨Q2,Q2⟩,rfl,rfl,λw O=>absurd O (zB8 w)⟩ (by dsimp only;omega)
 have⟨k,vv,ca,wi⟩:=x;obtain⟨v,rfl,ah,⟨J,S⟩,p,t,d⟩:=F;dsimp only at J S p t d;unfold gH;dsimp only;by_cases h:v<g.2.length
 rotate_left
 .obtain rfl:v=g.2.length:=V7
  rw[Q0];exact⟨_,rfl,⟨I.len,⟨p,λv h=>(d v h).1⟩,⟨t,λv h=>(d v h).2.1⟩⟩,⟨λv h=>adb I h,λv i h B=>((d v h).2.2 i B).1,λv i h B=>((d v h).2.2 i B).2.2⟩,λv i h B=>((d v h).2.2 i B).2.1⟩
 have ab:=(D.node v h).deg;have K:at' g.2 (v:Int)=row g v:=rfl;rw[Q3];refine wP (Q:=λy=>VY g vars cap y) (λz=>∃i:Nat,z.2.2.2=(i:Int)/\i<=(row g v).length/\(0<=z.1/\z.1<=24*(v:Int)+(i:Int))/\z.2.1.length=i/\z.2.2.1.length=i/\∀j:Nat,j<i->agi g vars cap v j (at' z.2.1 (j:Int)) (at' z.2.2.1 (j:Int)))
  (λz=>(row g v).length - z.2.2.2.toNat) (λz P F G=>?_) 1000 _ ⟨0,rfl,V7,⟨J,by dsimp only;omega⟩,rfl,rfl,λw O=>absurd O (zB8 w)⟩ (by dsimp only;omega)
 have⟨l,kn,ws,ii⟩:=z;obtain⟨i,rfl,ae,⟨C,aa⟩,q,A,f⟩:=F;dsimp only at C aa q A f;unfold kK;dsimp only;rw[Q7,K];by_cases B:i<(row g v).length
 rotate_left
 .obtain rfl:i=(row g v).length:=V7
  rw[Q0];unfold u_ qI;dsimp only;rw[cR Q1,cR Q1,Q8];refine R _ ⟨v+1,rfl,V7,⟨C,by dsimp only;omega⟩,by simp[p],by simp[t],λw O=>?_⟩ (by dsimp only;omega);dsimp only[nZ];rw[DW ca kn V7,DW wi ws V7,p,t];by_cases e:w<v
  .rw[if_pos e,if_pos e];exact d w e
  .obtain rfl:w=v:=V7
   rw[if_neg e,if_neg e];exact⟨q,A,f⟩
 have V:=Dp D h B;have W:=(yH D h B).ul;have T:at' (row g v) (i:Int)=gR (row g v) i:=rfl;have⟨s,hs,U⟩:=Un D L o W r.2.1 (a:=3*l) V7 V7;rw[Q3,Q7,Q7,T,V,Q9 (x:=3*l),bA (show qX 1000 (g.1,g.2) vars _ _ _=some s from hs),cR Q1];have E:∀m:Nat,m<=cap->OK (λy=>VY g vars cap y) (kJ 1000 r g vars (k,(v:Int),ca,wi) (l,kn,ws,(i:Int)) P s (m:Int)):=λm hm=>by
  unfold kJ;refine wP (Q:=λy=>VY g vars cap y) (λu=>∃j:Nat,u.2=(j:Int)/\j<=m/\u.1.length=j/\∀x∈u.1,GM g vars v x=true) (λu=>m - u.2.toNat) (λu ac F H=>?_) 1000 _ ⟨0,rfl,V7,rfl,λx X=>absurd X zAz⟩ (by dsimp only;omega);have⟨w,jj⟩:=u;obtain⟨j,rfl,hj,M,n⟩:=F;dsimp only at M n;unfold vC;dsimp only;by_cases af:j<m
  .have⟨x,X,Y⟩:=Un D L o h r.2.2.1 (a:=5*l+2*(j:Int)) V7 V7;rw[Q3,Q9 (x:=5*l),Q9 (x:=2*(j:Int)),Q9 (x:=5*l+2*(j:Int)),bA (show qX 1000 (g.1,g.2) vars _ _ _=some x from X),cR Q1,Q8];refine H _ ⟨j+1,rfl,V7,by simp[M],λy N=>?_⟩ (by dsimp only;omega);rcases zB1.1 N with N|N
   .exact n y N
   .rw[List.mem_singleton.1 N];exact Y
  .rw[Q0];unfold vA;dsimp only;rw[cR Q1,Q9 (x:=l+1),Q8];refine G _ ⟨i+1,rfl,V7,⟨by dsimp only;omega,by dsimp only;omega⟩,by simp[q],by simp[A],λz hz=>?_⟩ (by dsimp only;omega);dsimp only;rw[DW kn s V7,DW ws w V7,q,A];by_cases e:z<i
   .rw[if_pos e,if_pos e];exact f z e
   .obtain rfl:z=i:=V7
    rw[if_neg e,if_neg e];exact⟨U,V7,n⟩
 by_cases hq:0<r.2.2.2.length
 .have t1:=Int.tmod_nonneg (a:=l) (r.2.2.2.length:Int) C;have t2:=Int.tmod_lt_of_pos l (b:=(r.2.2.2.length:Int)) V7;have r1:=zB9 (at' r.2.2.2 (Int.tmod l (r.2.2.2.length:Int))) (b:=(cap:Int)+1) V7;have r2:=zB0 (at' r.2.2.2 (Int.tmod l (r.2.2.2.length:Int))) (b:=(cap:Int)+1) V7;rw[Q3,Q7,Q7,Q9 (x:=(cap:Int)+1),bA (fZ _ _ V7 V7)];obtain⟨m,hm⟩:∃m:Nat,at' r.2.2.2 (Int.tmod l (r.2.2.2.length:Int))%((cap:Int)+1)=(m:Int):=⟨_,(Int.toNat_of_nonneg r1).symm⟩
  rw[hm]at r2 ⊢;exact E m V7
 .rw[Q0];exact E 0 V7
theorem adE (v:Int) {m:Int} (h:m<1):dH 1000 v m=some 0:=by
 unfold dH;rw[if_pos h]
theorem PD {g:GR} (m:VG g) (l:nX):OK (λo:nX=>o.length<=60/\∀e∈o,LC g e=true) (jF 1000 g l):=by
 have C:=m.n24;have I:=m.n1;unfold jF;refine wP (Q:=λo:nX=>o.length<=60/\∀e∈o,LC g e=true) (λx:V6 (Int×Int×Int)×Int=>∃k:Nat,x.2=(k:Int)/\k<=60/\x.1.length<=k/\∀e∈x.1,LC g e=true) (λx=>60 - x.2.toNat) (λx s D h=>?_) 1000 _ ⟨0,rfl,V7,V8,λe f=>absurd f zAz⟩ (by dsimp only;omega);have⟨o,i⟩:=x;obtain⟨k,rfl,J,H,a⟩:=D;dsimp only at H a;have d:OK (λo:nX=>o.length<=60/\∀e∈o,LC g e=true) (tM 1000 g l (o,(k:Int)) s false):=⟨o,rfl,V7,a⟩
 unfold nG;dsimp only;by_cases G:k<l.length
 rotate_left
 .rw[Q0];exact d
 rw[Q3];by_cases F:k<60
 rotate_left
 .rw[zA6 V7];exact d
 rw[zAe V7];unfold tM;dsimp only;have y:=zB9 (at' l (k:Int)).2.1 (b:=(g.2.length:Int)) V7;have z:=zB0 (at' l (k:Int)).2.1 (b:=(g.2.length:Int)) V7;have A:=zB9 (at' l (k:Int)).1 (b:=4) V7;have B:=zB0 (at' l (k:Int)).1 (b:=4) V7;rw[if_pos Z,Q7,bA (fZ _ _ V7 V7),Q7,Q7];generalize (at' l (k:Int)).2.1%(g.2.length:Int)=v at y z;rw[Q7,bA (fZ _ _ V7 V7)];generalize (at' l (k:Int)).1%4=q at A B;obtain⟨v,rfl⟩:∃w:Nat,v=(w:Int):=⟨v.toNat,V7⟩
 have u:=(m.node v V7).deg;have c:at' g.2 (v:Int)=row g v:=rfl;obtain⟨j,r,p⟩:∃j,dH 1000 (at' l (k:Int)).2.2 ((at' g.2 (v:Int)).length:Int)=some j/\((row g v).length≠0->0<=j/\j<((row g v).length:Int)):=by
  rw[c];by_cases n:(row g v).length=0
  .exact⟨0,adE _ V7,λe=>absurd n e⟩
  .exact⟨_,fZ _ _ V7 V7,λ_=>⟨zB9 _ V7,zB0 _ V7⟩⟩
 rw[bA r,Q9 (x:=1+q)];have t:∀b:V4,(b=true->1+q=1\/(row g v).length≠0)->OK (λo:nX=>o.length<=60/\∀e∈o,LC g e=true) (tP (o,(k:Int)) s (v:Int) (1+q,j) b):=λb E=>by
  unfold tP tO;dsimp only;cases b with
  | true =>
   rw[if_pos Z,cR Q1,Q8];refine h _ ⟨k+1,rfl,V7,Q1,λe f=>?_⟩ (by dsimp only;omega);rcases zB1.1 f with f|f
   .exact a e f
   .rw[List.mem_singleton.1 f];refine Nv V7 V7 ?_;rcases E rfl with e|e
    .exact .inl e
    .have:=p e;exact .inr (by rw[c];omega)
  |false=>
   rw[if_neg Q2,Q8];exact h _ ⟨k+1,rfl,V7,by dsimp only;omega,a⟩ (by dsimp only;omega)
 unfold Cq;rw[Q7,c];by_cases n:(row g v).length=0
 .rw[Q0];exact t _ λe=>.inl (zB7 e)
 .rw[Q3];exact t _ λ_=>.inr n
def evy (g:GR) (a:Int) (t:Nat):nX:=(List.range g.2.length).flatMap fun(v:Nat)=>(List.range (row g v).length).flatMap fun(i:Nat)=>(List.range t).flatMap λ_=>[(a,(v:Int),(i:Int))]
def acZ (g:GR):nX:=(List.range g.2.length).flatMap fun(v:Nat)=>[((1:Int),(v:Int),(0:Int))]
theorem Le (g:GR) (a:Nat):Dr g a=evy g 3 a++(acZ g++(evy g 2 1++evy g 3 a)):=by
 unfold Dr Ld BA WJ Hc evy acZ;simp only[List.map_append,List.map_flatMap,zBd,List.map_nil,List.range_one,List.flatMap_cons,List.flatMap_nil,List.append_nil];rfl
theorem BW {c:Type} {f:Nat->V6 c} {M:Nat}:∀{n:Nat},(∀k,k<n->(f k).length<=M)->((List.range n).flatMap f).length<=n*M
 |0,_=>by simp
 |n+1,h=>by
  have a:=BW (n:=n) (f:=f) (M:=M) λk d=>h k V7;have b:=h n V7;rw[List.range_succ,List.flatMap_append,List.flatMap_singleton,zA4,Nat.succ_mul];omega
theorem YT {a:Type} (f:Nat->V6 a) (n:Nat):(List.range (n+1)).flatMap f=(List.range n).flatMap f++f n:=by rw[List.range_succ,List.flatMap_append,List.flatMap_singleton]
theorem Hz {g B:Type} {f:Nat->V6 g} {n M:Nat} (c:V6 g) {step:Int×V6 g->(Int×V6 g->V1 B)->V1 B} {K:V6 g->V1 B} (l:∀k,k<n->(f k).length<=M) (p:∀(k:Nat) d e,k<n->d.length<=c.length+n*M->step ((k:Int),d) e=e (((k+1:Nat):Int),d++f k)) (m:∀d e,d.length<=c.length+n*M->step ((n:Int),d) e=K d) (o:n<1000):bE step 1000 ((0:Int),c)=K (c++(List.range n).flatMap f):=by
 have i:∀k,k<=n->(c++(List.range k).flatMap f).length<=c.length+n*M:=λk h=>by
  have a:=BW (n:=k) (f:=f) (M:=M) λj q=>l j V7;have b:=zAv M h;rw[zA4];omega
 have:=eJ (step:=step) (K:=K (c++(List.range n).flatMap f)) n (λk=>((k:Int),c++(List.range k).flatMap f)) (λk e h=>by rw[p k _ e h (i k V7),YT,zBb]) (λe=>m _ e (i n (zAg _))) 1000 o;simpa using this
theorem Zz {g:GR} (m:VG g) (c:Nat):∀e∈Dr g c,LC g e=true:=by
 have f:∀(b:Int) (t:Nat),1<=b->b<=4->∀e∈evy g b t,LC g e=true:=λb t j l e a=>by
  have⟨v,d,a⟩:=List.mem_flatMap.1 a;have⟨i,h,a⟩:=List.mem_flatMap.1 a;have⟨k,n,a⟩:=List.mem_flatMap.1 a;have d:=zAj.1 d;have h:(i:Nat)<(at' g.2 (v:Int)).length:=zAj.1 h;rw[List.mem_singleton.1 a];exact Nv ⟨j,l⟩ V7 (.inr V7)
 intro e a;rw[Le]at a;rcases zB1.1 a with a|a
 .exact f 3 c V7 V7 e a
 rcases zB1.1 a with a|a
 .have⟨v,d,a⟩:=List.mem_flatMap.1 a;have d:=zAj.1 d;rw[List.mem_singleton.1 a];exact Nv ⟨Q2,Q2⟩ V7 (.inl Z)
 rcases zB1.1 a with a|a
 .exact f 2 1 V7 V7 e a
 .exact f 3 c V7 V7 e a
section
variable {g:GR} {cap:Nat}
theorem QY (b:VG g) (a:Int) (t:Nat):(evy g a t).length<=g.2.length*((g.2.length - 1)*t):=by
 unfold evy;refine BW λv c=>?_;have d:=(b.node v c).deg;refine zB6 (BW (M:=t) λi e=>?_) (zAv _ V7);have:=BW (f:=λ_=>[(a,(v:Int),(i:Int))]) (n:=t) (M:=1) λk h=>zAg _;omega
theorem WH (g:GR):(acZ g).length<=g.2.length:=by
 have:=BW (f:=fun(v:Nat)=>[((1:Int),(v:Int),(0:Int))]) (n:=g.2.length) (M:=1) λk a=>zAg _;unfold acZ;omega
theorem Wh (d:VG g) (cap:Nat):(Dr g cap).length<=g.2.length*((g.2.length - 1)*(2*cap+1))+g.2.length:=by
 have a:=QY d 3 cap;have b:=QY d 2 1;have c:=WH g;rw[Le];simp only[zA4];have:g.2.length*((g.2.length - 1)*(2*cap+1))=2*(g.2.length*((g.2.length - 1)*cap))+g.2.length*((g.2.length - 1)*1):=by
  rw[Nat.mul_add,Nat.mul_add,Nat.mul_left_comm (g.2.length - 1) 2 cap,Nat.mul_left_comm g.2.length 2]
 omega
theorem Lc (p:VG g) (a:Int) {t:Nat} (D:t<=8) (d:V6 (Int×Int×Int)) (x:d.length<=100000):jL 1000 a (t:Int) g d=some (d++evy g a t):=by
 have z:=p.n24;have y:∀v i:Nat,((List.range t).flatMap λ_=>[(a,(v:Int),(i:Int))]).length<=8:=λv i=>by
  have:=BW (f:=λ_=>[(a,(v:Int),(i:Int))]) (n:=t) (M:=1) λk w=>zAg _;omega
 have B:∀v:Nat,v<g.2.length->((List.range (row g v).length).flatMap fun(i:Nat)=>(List.range t).flatMap λ_=>[(a,(v:Int),(i:Int))]).length<=192:=λv s=>by
  have A:=(p.node v s).deg;have:=BW (f:=fun(i:Nat)=>(List.range t).flatMap λ_=>[(a,(v:Int),((i:Nat):Int))]) (n:=(row g v).length) (M:=8) λk w=>y v k;omega
 unfold jL;refine Hz (M:=192) (step:=jO 1000 a (t:Int) g) (K:=λl=>some l) (f:=fun(v:Nat)=>(List.range (row g v).length).flatMap fun(i:Nat)=>(List.range t).flatMap λ_=>[(a,(v:Int),(i:Int))]) d B (λv c m s u=>?_) (λc m _=>?_) V7
 .have A:=(p.node v s).deg;have e:at' g.2 (v:Int)=row g v:=rfl;unfold jO;dsimp only;rw[Q3,Q7];refine Hz (M:=8) (step:=mA 1000 a (t:Int) g ((v:Int),c) m) (K:=λl=>m (((v+1:Nat):Int),l)) (f:=fun(i:Nat)=>(List.range t).flatMap λ_=>[(a,(v:Int),(i:Int))]) c (λi _=>y v i) (λi b h C q=>?_) (λb h _=>?_) V7
  .unfold mA;dsimp only;rw[e,Q3];refine Hz (M:=1) (step:=sH a (t:Int) ((v:Int),c) ((i:Int),b) h) (K:=λl=>h (((i+1:Nat):Int),l)) (f:=λ_=>[(a,(v:Int),(i:Int))]) b (λ_ _=>zAg _) (λk j o w r=>?_) (λj o _=>?_) V7
   .unfold sH;dsimp only;rw[Q3,cR Q1,Q8]
   .unfold sH xE;dsimp only;rw[Q0,Q8]
  .unfold mA xD;dsimp only;rw[e,Q0,Q8]
 .unfold jO;dsimp only;rw[Q0]
theorem PG (f:VG g) (c:Int) {t:Nat} (h:t<=8):(evy g c t).length<=4608:=by
 have e:=f.n24;have a:=QY f c t;have b:(g.2.length - 1)*t<=24*8:=Nat.mul_le_mul V7 h;have d:g.2.length*((g.2.length - 1)*t)<=24*(24*8):=Nat.mul_le_mul e b;omega
theorem ade (a:VG g) (o:1<=cap) (d:cap<=8):yE 1000 g (cap:Int)=some (Dr g cap):=by
 have j:=a.n24;have l:=PG a 3 d;have k:=PG a 2 (t:=1) V7;have m:=WH g;have h:gO 1000 (g.1,g.2)=some true:=(Lo g).1 a;unfold yE;rw[bA h,if_neg Q2,Q0,zA6 V7];unfold vZ;rw[if_neg Q2,bA (show jL 1000 3 (cap:Int) (g.1,g.2) []=_ from Lc a 3 d [] V8),List.nil_append,Le];refine(Hz (M:=1) (n:=g.2.length) (step:=v_ 1000 g (cap:Int)) (K:=AV 1000 g (cap:Int)) (f:=fun(v:Nat)=>[((1:Int),(v:Int),(0:Int))]) (evy g 3 cap) (λ_ _=>zAg _) (λv b i h e=>?_) (λb i _=>?_) V7).trans ?_
 .unfold v_;dsimp only;rw[Q3,cR Q1,Q8]
 .unfold v_;dsimp only;rw[Q0]
 .have c:((List.range g.2.length).flatMap fun(v:Nat)=>[((1:Int),(v:Int),(0:Int))])=acZ g:=rfl;rw[c];unfold AV;rw[bA (show jL 1000 2 1 (g.1,g.2) _=_ from Lc a 2 (t:=1) V7 _ Q1),bA (show jL 1000 3 (cap:Int) (g.1,g.2) _=_ from Lc a 3 d _ Q1)];simp only[zBb]
end
theorem NO {B:Type} {n:Nat} {P:Nat->Prop} [DecidablePred P] {step:Int->(Int->V1 B)->V1 B} {Kf:Int->V1 B} (c:∀(i:Nat) k,i<n->step (i:Int) k=if P i then Kf (i:Int)else k ((i+1:Nat):Int)) (g:∀k,step (n:Int) k=Kf (-1)) (b:Nat) (m:n<b):bE step b 0=Kf (iA ((List.range n).map λq=>yA (decide (P q)))):=by
 have o:∀(d a b:Nat),a+d=n->d<b->(∀j,j<a->¬P j)->bE step b (a:Int)=Kf (iA ((List.range n).map λq=>yA (decide (P q)))):=by
  intro d
  induction d with
  |zero=>
   intro a b r m l;obtain rfl:a=n:=V7
   obtain⟨f,rfl⟩:∃f,b=f+1:=⟨b - 1,V7⟩
   show step (a:Int) (bE step f)=_;rw[g,Nz l]
  | succ d ih =>
   intro a b r m l;obtain⟨f,rfl⟩:∃f,b=f+1:=⟨b - 1,V7⟩
   show step (a:Int) (bE step f)=_;rw[c a _ V7];by_cases h:P a
   .rw[if_pos h,Tp V7 h l]
   .rw[if_neg h];refine ih (a+1) f V7 V7 λj p=>?_;by_cases e:j=a
    .rw[e];exact h
    .exact l j V7
 exact o n 0 b V7 m λj p=>absurd p (zB8 j)
section
variable {g:GR} {F:Int->Int->Int} {L:Int}
theorem Rv {v:Nat} (a:v≠0):ZL g F v=iA ((List.range (row g v).length).map λi=>yA (decide (F (mI g F (gR (row g v) i).1.toNat) (gR (row g v) i).2=mI g F v))):=by
 unfold ZL;rw[if_neg a];unfold LL;rw[List.map_map];rfl
theorem Rx:ZL g F 0 = -1:=if_pos Z
theorem afF (a:nM g F L) (h:VG g) {v:Nat} (e:v<g.2.length):ZL g F v=iA ((List.range (row g v).length).map λi=>yA (decide (F (mI g F (gR (row g v) i).1.toNat) (gR (row g v) i).2=mI g F v))):=by
 by_cases f:v=0
 .subst f;rw[Rx];refine(Nz (P:=λi=>F (mI g F (gR (row g 0) i).1.toNat) (gR (row g 0) i).2=mI g F 0) λj k l=>?_).symm;have⟨u,w,c⟩:=h.lk e k;have⟨_,b,d⟩:=LJ h c [];rw[b,d,Dk a e]at l;have:=a.up _ _ _ _ _ e c (lZ a c.2.1);have:=lZ a c.2.1;have:=a.L1;omega
 .exact Rv f
end
def ptn (g:GR) (a:aX) (v:Nat):Int:=if 0<=at' a (v:Int)then(at' (at' g.2 (v:Int)) (at' a (v:Int))).1 else -1
def go (g:GR) (a:aX):Nat->Nat->Nat
 |0,v=>v
 |k+1,v=>go g a k (ptn g a v).toNat
section
variable {g:GR} {F:Int->Int->Int} {L N:Int} {r v j:Nat} {R:V6 Int}
structure LT (g:GR) (v j:Nat) (L:Int):Prop where
 nn:0<=L
 hi:L<=15
 seen:∀x i u w,(x<v\/x=v/\i<j)->x<g.2.length->Lk g x i u w->1<=L/\L<=w
theorem LT.start:LT g 0 0 0:=⟨Int.le_refl _,V7,λx i u w h=>V7⟩
theorem LT.link (f:VG g) (k:v<g.2.length) (h:LT g v j L) {u:Nat} {w:Int} (b:Lk g v j u w):LT g v (j+1) (if L=0\/w<L then w else L):=by
 have p:=uD f k b;have n:=h.nn;have d:=h.hi;refine⟨by split<;>omega,by split<;>omega,λx i m c o l a=>?_⟩
 by_cases e:x=v/\i=j
 .obtain⟨rfl,rfl⟩:=e;have:c=w:=by rw[<-b.2.2.2,a.2.2.2]
  split<;>omega
 .have:=h.seen x i m c V7 l a;split<;>omega
theorem LT.node (h:LT g v (row g v).length L):LT g (v+1) 0 L:=⟨h.nn,h.hi,λx i u w c b a=>by
 refine h.seen x i u w ?_ b a;by_cases e:x=v
 .subst e;exact .inr ⟨rfl,a.1⟩
 .exact .inl V7⟩
theorem LT.fin (h:LT g g.2.length 0 L):1<=max L 1/\max L 1<=15/\∀x i u w,x<g.2.length->Lk g x i u w->1<=w->max L 1<=w:=by
 have:=h.nn;have:=h.hi;refine⟨V7,V7,λx i u w a b c=>?_⟩
 have:=h.seen x i u w (.inl a) a b;omega
structure HP (g:GR) (F:Int->Int->Int) (N:Int) (r v j:Nat) (R:List Int):Prop where
 bf:BF g F r v j R
 hi:∀x:Nat,x<g.2.length->at' R (x:Int)<=N
theorem HP.lo (b:nM g F L) (h:HP g F N r v j R) {x:Nat} (a:x<g.2.length):0<=at' R (x:Int):=Int.le_trans (lZ b a) (h.bf.ge x a)
theorem HP.relax (c:nM g F L) (b:v<g.2.length) (h:HP g F N r v j R) {u:Nat} {w:Int} (d:Lk g v j u w):HP g F N r v (j+1) (R.set v (min (at' R (v:Int)) (F (at' R (u:Int)) w))):=by
 refine⟨h.bf.relax c b d,λx e=>?_⟩
 have a:=h.bf.len;rw[qT _ _ _ _ V7];have:=h.hi x e;have:=h.hi v b;split<;>omega
theorem HP.node (a:nM g F L) (b:v<g.2.length) (h:HP g F N r v (row g v).length R):HP g F N r (v+1) 0 R:=⟨h.bf.node a b,h.hi⟩
theorem HP.round (h:HP g F N r g.2.length 0 R):HP g F N (r+1) 0 0 R:=⟨h.bf.round,h.hi⟩
noncomputable def DF (g:GR) (F:Int->Int->Int):V6 Int:=(List.range g.2.length).map (mI g F)
theorem Kg:(DF g F).length=g.2.length:=by simp[DF]
theorem CS {v:Nat} (a:v<g.2.length):at' (DF g F) (v:Int)=mI g F v:=MG _ a
theorem HP.fin (h:HP g F N g.2.length 0 0 R):R=DF g F:=by
 have a:=h.bf.len;refine List.ext_getElem (by rw[a,Kg]) λi b c=>?_;rw[<-i_ b,<-i_ c,CS V7];exact h.bf.fin V7
theorem HP.start (c:nM g F L) (d:∀v,v<g.2.length->mI g F v<=N) (i:R.length=g.2.length) (b:0<g.2.length) (h:at' R 0=0) (f:∀x:Nat,x<g.2.length->x≠0->at' R (x:Int)=N):HP g F N 0 0 0 R:=by
 refine⟨BF.start c i b h λx a e=>by rw[f x a e];exact d x a,λx a=>?_⟩
 by_cases e:x=0
 .subst e;rw[show at' R ((0:Nat):Int)=0 from h];have:=d 0 b;rw[Dk c b]at this;exact this
 .rw[f x a e];exact Int.le_refl _
end
end Go.Proofs.YtflciafboapaaaaGreat
namespace Go.Proofs.YtflciafboapaaaaGreat
open Go.Sx
def qL (a:V4):V1 V4:=
 some (a)
def rJ (a:b_) (c:bJ):V1 V4:=
 Option.bind (EE U ((a.1,a.2))) λd=>(if d=true then(Option.bind (eS U ((a.1,a.2)) c ([(a.1.length:Int),(-1:Int)])) λb=>(qL (b)))else(qL (false)))
theorem aen:aU prog 134:=call134
theorem Ic {j:b_} {p:bJ} (g i:V0) (n:kI) (k:V0) (q:mC) (r:V4) (h:rJ U j p=some r):
  aZ prog 134 #[Value.agg #[g,i],k] [Sl aK g j.1,S2 aR i n j.2,S2 aK k q p] (λx:Unit=>vB (r)) (λx l=>l) (λ_ l=>l):=by
 let b:=(j.1.length:Int)
 refine aZ.of func134 Z ntmps134 Z λc=>aT<|aI (aN.box (cs:=[g,i]) Z Z) Z λw=>Q5 Z<|aL<|fV (λd=>qL d=some r) (λd o=>[(4,vB (d))]) (λd o=>[]) ?_ ?_
 .refine aP<|cL 0 Z<|fF h λs u h=>aI (zBj WR (Qa U g i n s u) Z (jJ [0,1] Z)) Z λy=>aA Z<|Ai (by exact rfl) (by exact rfl) (λa=>?_) (λa=>?_)
  .have h:=ME a h;exact bB Z (eH 0 Z Z Z Z) Z<|gW Z<|bB Z (dN Z Z Z Z Z) Z<|bB Z (eI 0 Z Z Z Z Z) Z<|bB Z (eW Z (cP Z) Z) Z<|yM Z (cC (e:=cY) ([b,(-1:Int)]) [(0,vI b),(1,vI (-1:Int))] Z Z Z Z (Jv (vI b) (vI (-1:Int)) Z Z) Z Z Z) Z λt=>fF h λf m h=>yM Z (zBj Mv (rM U g i n k q t f m) Z (aD.cons (cP Z) (aD.cons (n_ Z) (aD.cons (uI Z) (aD.cons (bI (aH.res 0 Z) eP) .nil))))) Z λv=>gT Z<|Q5 Z<|cD (f) () h SF .nil (aD.refl _ _)
  have h:=Jy a h;exact aW Z<|aW Z<|aW Z<|aW Z<|aW Z<|aW Z<|aW Z<|iV Z<|Q5 Z<|cD (false) () h SF .nil (aD.refl _ _)
 intro d o h;unfold qL at h;refine aV ?_;cases h;exact oA Z
def BJ (U:Nat) (b:e_) (a:aX) (c:Int):V1 V4:=
 ck (0<=b.1/\b.1<(a.length:Int)) (ck (0<=c/\c<(a.length:Int)) (some (decide ((at' a b.1)=(wI .i64 ((at' a c) - (1:Int)))))))
theorem aeB:aU prog 180:=call180
theorem OO (U:Nat) {d:e_} {g:aX} {i:Int} (a:Nat) (j:V0) (b:Nat) (r:Bool) (h:BJ U d g i=some r):
  aZ prog 180 #[Value.agg #[vI (d.1),vI (d.2)],vP a,vP b] [bG a [j] 22,Sl aK j g,bG b [vI (i)] 3] (λx:Unit=>vB (r)) (λx l=>l) (λ_ l=>l):=by
 refine aZ.of func180 Z ntmps180 Z λc=>?_;refine aT<|aI (aN.box (cs:=[vI (d.1),vI (d.2)]) Z Z) Z λk=>aC Z<|aO<|aL ?_;refine Bf [0,0,2,7,15,0,0,96,224,480,1023,2047] 10 mixedOrders ?_;refine aY Z .nil (iH 0 Z) (dG Z (cP Z) Z Z Z) aJ.z<|cT Z<|gN 0 Z<|dQ h λe h=>aY Z .nil (iH 1 Z) (bD Z Z (cP Z) Z Z e) aJ.z<|aY Z .nil (iH 1 Z) (bY Z (cP Z) Z Z Z dJ e) aJ.z<|aY Z .nil (iH 0 Z) (dG Z (cP Z) Z Z Z) aJ.z<|aY Z .nil (iH 2 Z) (dG Z (cP Z) Z Z Z) aJ.z<|dQ h λf h=>aY Z .nil (iH 1 Z) (bD Z Z (cP Z) Z Z f) aJ.z<|aY Z .nil (iH 1 Z) (bY Z (cP Z) Z Z Z dJ f) aJ.z<|jS Z (zM Z Z)<|bS 10 Z Z<|d_ Z<|aC Z<|aO<|aV ?_;cases h;exact uC Z
def An (a:Int) (c e:aX) (d:Int):V1 V4:=
 ck (0<=a/\a<(c.length:Int)) (Option.bind (jG U e ([(at' c a),d])) λb=>(some (b)))
def E_ (b:Int) (c d:aX) (a:Unit):V1 V4:=
 An U b c d (-1:Int)
def wJ (d:b_) (b:Int) (e g:aX) (a:Int) (c:(Int)->V1 V4):V1 V4:=
 if a<((at' d.2 b).length:Int)then(ck (0<=a/\a<((at' d.2 b).length:Int)) (Option.bind (BJ U ((((at' (at' d.2 b) a).1),((at' (at' d.2 b) a).2))) e b) λf=>(if f=true then(An U b e g (a))else(c (wI .i64 (a+(1:Int)))))))else(E_ U b e g (()))
def BZ (b:b_) (a:Int) (c d:aX):V1 V4:=
 ck (0<=a/\a<(b.2.length:Int)) (bE (wJ U b a c d) U (0:Int))
theorem aeo:aU prog 136:=call136
theorem Uq {f:b_} {b:Int} {j p:aX} (q s:V0) (G:kI) (m w:V0) (r:V4) (h:BZ U f b j p=some r):
  aZ prog 136 #[Value.agg #[q,s],vI (b),m,w] [Sl aK q f.1,S2 aR s G f.2,Sl aK m j,Sl aK w p] (λx:Unit=>vB (r)) (λx l=>l) (λ_ l=>l):=by
 refine aZ.of func136 Z ntmps136 Z λc=>aT<|aI (aN.box (cs:=[q,s]) Z Z) Z λO=>aI (aN.box (cs:=[vI (b)]) Z Z) Z λo=>let n:=bG o [vI (b)] 3;bO (Know.one ((uI Z))) λz=>?_
 refine aI (aN.box (cs:=[m]) Z (by rw[iK z])) Z λk=>?_;refine Q5 Z<|aT<|cL 2 Z<|dO 1 Z<|aB (oM (cs:=[.tmp 6,.tmp 5]) (vs:=[vP k,vP o]) Z) Z<|uS (A:=Int) (B:=Unit) (vs:=[Value.agg #[q,s],vI (b),Value.func (.func 180) #[] #[vP k,vP o]]) (λi=>An U b j p i=some r) (λi y=>vI (i)) (λi y=>[bG k [m] 22,n]) (λi y=>[Sl aK q f.1,S2 aR s G f.2,Sl aK m j,Sl aK w p]) (pT.fn (show aU prog 138 from call138) Z) func138 Z ntmps138 Z Z ?_ ?_
 .refine aT<|aI (aN.box (cs:=[q,s]) Z Z) Z λI=>Q5 Z<|aL<|fV (λg=>E_ U b j p g=some r) (λg t=>[]) (λg t=>[bG k [m] 22,n]) ?_ ?_
  .refine aT<|bZ Z<|dO 0 Z<|aA Z<|dQ h λd h=>aB (bX Z Z (n_ Z) Z Z d) Z<|aB (cB Z (n_ Z) Z Z d) Z<|aB (eW Z (zBk (n_ Z) d.1 d.2) Z) Z<|aA Z<|aO<|aQ<|fT (wJ U f b j p) (λa u=>[(2,Value.func (.func 180) #[] #[vP k,vP o]),(13,(at' G b).1),(14,vI ((at' f.2 b).length:Int)),(15,vI (a))]) (λa u=>[bG k [m] 22,n]) (0:Int) () h SF (aS.ix [1,2] Z Z) ?_;intro K a u h;refine aT<|cN Z<|aO<|aL<|gC h Z (λh=>?_) λh=>?_
   .refine cU<|aL<|aQ<|Q6 Z<|dQ h λv h=>aB (bD Z Z (zBk (n_ Z) d.1 d.2) Z Z v) Z<|aB (fG (cs:=[vI ((at' (at' f.2 b) a).1),vI ((at' (at' f.2 b) a).2)]) Z (zBk (n_ Z) d.1 d.2) cA Z Z Z Z v) Z<|aI (aN.alloc (cs:=MN) Z Z) Z λJ=>aC Z<|bP 0 (vs:=[vI ((at' (at' f.2 b) a).1),vI ((at' (at' f.2 b) a).2)]) Z Z Z Z Z Z<|aO<|Q6 Z<|cL 0 Z<|fF h λD F h=>aI (mJ (vs:=[Value.agg #[vI ((at' (at' f.2 b) a).1),vI ((at' (at' f.2 b) a).2)]]) (cs:=[vP k,vP o]) aeB Z (OO U k m o D F) Z (aD.cons (aH.res 1 Z) (aD.cons (uI Z) (aD.cons (aH.res 2 Z) .nil))) (λ_ _=>rfl)) Z λN=>aO<|Ag h Z (λ_ h=>?_) λ_ h=>?_
    .exact Q6 Z<|Q5 Z<|aV<|bU<|aM<|aM<|bU<|aM<|iX (a) () h (.inl Z) (DG.r1 Z (RV.tmp Z)) Z (aS.ix [1,2] Z Z) (aD.refl _ _)
    exact eK<|mF<|aP<|cH Z<|aA Z<|aO<|gA (wI .i64 (a+(1:Int))) () h SF (aS.ix [1,2] Z Z) (aD.refl _ _)
   exact fH<|jV () (()) h SF Z
  intro g t h;unfold E_ at h;exact Q4 Z<|aV<|iX (-1:Int) () h (.inl Z) (DG.r1 Z (RV.tmp Z)) Z (aS.refl _) (aD.refl _ _)
 intro i y h;refine Q5 Z<|Q6 Z<|dO 0 Z<|dO 1 Z<|dQ h λH h=>aB (bD Z Z (uI Z) Z Z H) Z<|aB (bY Z (uI Z) Z Z Z dJ H) Z<|aA Z<|aI (cC (e:=cY) ([(at' j b),i]) [(0,vI (at' j b)),(1,vI (i))] Z Z Z Z (Jv (vI (at' j b)) (vI (i)) Z Z) Z Z Z) Z λL=>fF h λC E h=>aI (zBj QQ (Bd U w L C E) Z (aD.cons (DJ Z) (aD.cons (bI (aH.res 0 Z) eP) .nil))) Z λM=>Q5 Z<|aV ?_;cases h;exact uC Z
def CG (a:Unit):V1 V4:=
 some (true)
def Am (e:b_) (c:bJ) (f:aX) (a:Int) (b:(Int)->V1 V4):V1 V4:=
 if a<(c.length:Int)then(ck (0<=a/\a<(c.length:Int)) (Option.bind (BZ U ((e.1,e.2)) a f (at' c a)) λd=>(if(!d)=true then(some (false))else(b (wI .i64 (a+(1:Int)))))))else(CG (()))
def BY (a:b_) (b:bJ):V1 V4:=
 Option.bind (rJ U ((a.1,a.2)) b) λc=>(if(!c)=true then(some (false))else(Option.bind (gJ U ((a.1,a.2)) (0:Int)) λd=>(bE (Am U a b d) U (0:Int))))
theorem ahH:aU prog 89:=call89
theorem Up {j:b_} {k:bJ} (d e:V0) (n:kI) (m:V0) (t:mC) (r:V4) (h:BY U j k=some r):
  aZ prog 89 #[Value.agg #[d,e],m] [Sl aK d j.1,S2 aR e n j.2,S2 aK m t k] (λx:Unit=>vB (r)) (λx l=>l) (λ_ l=>l):=by
 refine aZ.of func89 Z ntmps89 Z λc=>aT<|aI (aN.box (cs:=[d,e]) Z Z) Z λu=>Q5 Z<|aL<|aT<|cL 0 Z<|aA Z<|fF h λw y h=>aI (zBj aen (Ic U d e n m t w y) Z (jJ [0,1,2] Z)) Z λB=>aB (nY Z) Z<|aO<|Ag h Z (λ_ h=>?_) λ_ h=>?_
 .refine Q4 Z<|aV<|aM ?_;cases h;exact uC Z
 refine cU<|aT<|cL 0 Z<|fF h λp z h=>aI (zBj W_ (DY U d e n p z) Z (jJ [0,1] Z)) Z λs=>Q5 Z<|aL<|fV (λi=>CG i=some r) (λi f=>[]) (λi f=>[]) ?_ ?_
 .refine Q6 Z<|aB (fR Z (uI Z) Z) Z<|aA Z<|aO<|aQ<|fT (Am U j k p) (λa g=>[(2,vP u),(5,s),(14,m),(15,vI (k.length:Int)),(16,vI (a))]) (λa g=>[Ar cY s p,bG u [d,e] 31]) (0:Int) () h SF (aS.refl _) ?_;intro v a g h;refine aT<|cN Z<|aO<|aL<|gC h Z (λh=>?_) λh=>?_
  .refine cU<|aL<|aQ<|Q6 Z<|dQ h λb h=>aB (bX Z Z (uI Z) Z Z b) Z<|aB (cB Z (uI Z) Z Z b) Z<|aC Z<|Q5 Z<|aT<|cL 1 Z<|aA Z<|aA Z<|aA Z<|fF h λo q h=>aI (zBj aeo (Uq U d e n s ((at' t a).1) o q) Z (aD.cons (cP Z) (aD.cons (n_ Z) (aD.cons (bI (aH.res 0 Z) eP) (aD.cons (zBk (uI Z) b.1 b.2) .nil))))) Z λA=>aB (nY Z) Z<|aO<|Ag h Z (λ_ h=>?_) λ_ h=>?_
   .refine Q4 Z<|aV<|bU<|aM<|aM<|bU<|aM ?_;cases h;exact uC Z
   exact eK<|mF<|aP<|cH Z<|aA Z<|aO<|Ci (wI .i64 (a+(1:Int))) () h SF Z
  exact fH<|cD () (()) h SF .nil (aD.refl _ _)
 intro i f h;unfold CG at h;refine Q4 Z<|aV ?_;cases h;exact oA Z
end Go.Proofs.YtflciafboapaaaaGreat
namespace Go.Proofs.YtflciafboapaaaaGreat
open Go Go.Sx
theorem LY {k:Nat} (h:k<1000000):wI .i64 ((k:Int)+1)=((k+1:Nat):Int):=by rw[amF h];push_cast;rfl
def inB (g:GR) (b:aX) (v x:Nat) (a:Int):Prop:=if at' b (x:Int) = -1 then -1<=a/\a<=((row g v).length:Int) - 1 else 0<=a/\a<=at' b (x:Int)
def ajq (g:GR) (a:aX) (v:Nat) (l:aX):Prop:=l.length=a.length/\∀x,x<a.length->inB g a v x (at' l (x:Int))
def UP (g:GR) (a:aX) (c:bJ):Prop:=c.length=g.2.length/\∀v,v<g.2.length->ajq g a v (at' c (v:Int))
theorem Fa {g:GR} (m:VG g) {a:aX} (z:a.length<900) (c:bJ):(UP g a c->eS 1000 g c a=some true)/\(¬UP g a c->eS 1000 g c a=some false):=by
 have u:=m.n24;have s:=m.len;unfold eS;by_cases r:c.length=g.2.length
 .rw[Q0];have n:=Dh (step:=hZ 1000 g c a) (K:=some true) (bad:=some false) c.length (λv=>ajq g a v (at' c (v:Int))) (λk=>(k:Int)) (λk l w j=>?_) (λk l w j=>?_) (λl=>?_) 1000 V7
  .refine⟨λh=>n.1 λv y=>h.2 v V7,λh=>n.2 λt=>h ⟨r,λv y=>t v V7⟩⟩
  all_goals unfold hZ
  .have d:=Dh (step:=eG g c a (k:Int) l) (K:=l ((k+1:Nat):Int)) (bad:=some false) a.length (λx=>inB g a k x (at' (at' c (k:Int)) (x:Int))) (λx=>(x:Int)) ?_ ?_ ?_ 1000 V7
   .rw[Q3,Q7,if_neg (by have:=j.1;omega)];exact d.1 j.2
   .intro x f p b;unfold eG jA jB;have o:=j.1;have i:(at' g.2 (k:Int)).length<g.2.length:=(m.node k V7).deg;rw[Q3,Q7,Q7];unfold inB at b;by_cases e:at' a (x:Int) = -1
    .rw[if_pos e]at b;rw[if_pos e,Q7,Q9];dsimp only;rw[Q0,if_neg (by rw[zA2];show¬((row g k).length:Int) - 1<_;omega),LY V7]
    .rw[if_neg e]at b;rw[if_neg e];dsimp only;rw[Q0,if_neg (by rw[zA2];omega),LY V7]
   .intro x f p b;unfold eG jA jB;have o:=j.1;have i:(at' g.2 (k:Int)).length<g.2.length:=(m.node k V7).deg;rw[Q3,Q7,Q7];unfold inB at b;by_cases e:at' a (x:Int) = -1
    .rw[if_pos e]at b;rw[if_pos e,Q7,Q9];dsimp only;by_cases q:at' (at' c (k:Int)) (x:Int) < -1
     .rw[if_pos q,if_pos Z]
     .rw[if_neg q,if_pos (by rw[zA2];show((row g k).length:Int) - 1<_;omega)]
    .rw[if_neg e]at b;rw[if_neg e];dsimp only;by_cases q:at' (at' c (k:Int)) (x:Int)<0
     .rw[if_pos q,if_pos Z]
     .rw[if_neg q,if_pos (by rw[zA2];omega)]
   .intro f;unfold eG mR;have o:=j.1;rw[Q0,LY V7]
  .rw[Q3,Q7];by_cases o:(at' c (k:Int)).length=a.length
   .rw[Q0];have d:=Dh (step:=eG g c a (k:Int) l) (K:=l ((k+1:Nat):Int)) (bad:=some false) a.length (λx=>inB g a k x (at' (at' c (k:Int)) (x:Int))) (λx=>(x:Int)) ?_ ?_ ?_ 1000 V7
    .exact d.2 λh=>j ⟨o,h⟩
    .intro x f p b;unfold eG jA jB;have i:(at' g.2 (k:Int)).length<g.2.length:=(m.node k V7).deg;rw[Q3,Q7,Q7];unfold inB at b;by_cases e:at' a (x:Int) = -1
     .rw[if_pos e]at b;rw[if_pos e,Q7,Q9];dsimp only;rw[Q0,if_neg (by rw[zA2];show¬((row g k).length:Int) - 1<_;omega),LY V7]
     .rw[if_neg e]at b;rw[if_neg e];dsimp only;rw[Q0,if_neg (by rw[zA2];omega),LY V7]
    .intro x f p b;unfold eG jA jB;have i:(at' g.2 (k:Int)).length<g.2.length:=(m.node k V7).deg;rw[Q3,Q7,Q7];unfold inB at b;by_cases e:at' a (x:Int) = -1
     .rw[if_pos e]at b;rw[if_pos e,Q7,Q9];dsimp only;by_cases q:at' (at' c (k:Int)) (x:Int) < -1
      .rw[if_pos q,if_pos Z]
      .rw[if_neg q,if_pos (by rw[zA2];show((row g k).length:Int) - 1<_;omega)]
     .rw[if_neg e]at b;rw[if_neg e];dsimp only;by_cases q:at' (at' c (k:Int)) (x:Int)<0
      .rw[if_pos q,if_pos Z]
      .rw[if_neg q,if_pos (by rw[zA2];omega)]
    .intro f;unfold eG mR;rw[Q0,LY V7]
   .rw[Q3]
  .rw[Q0];rfl
 .rw[Q3];exact⟨λh=>absurd h.1 r,λ_=>rfl⟩
def IsF (q:Nat->Prop) (n:Nat) (p:Int):Prop:=(∃i:Nat,i<n/\p=i/\q i/\∀k,k<i->¬q k)\/(p = -1/\∀k,k<n->¬q k)
def Low (g:GR) (d:aX) (v i:Nat):Prop:=at' d (gR (row g v) i).1=D d v - 1
instance (g:GR) (d:aX) (v i:Nat):Decidable (Low g d v i):=inferInstanceAs (Decidable (_=_))
theorem acY (p q:aX) (h:q.length<900):jG 1000 p q=some (decide (p=q)):=by
 unfold jG;by_cases f:p.length=q.length
 .rw[Q0];have a:=Dh (step:=lL p q) (K:=some true) (bad:=some false) p.length (λk=>at' p (k:Int)=at' q (k:Int)) (λk=>(k:Int)) (λk c d b=>?_) (λk c d b=>?_) (λc=>?_) 1000 V7
  .by_cases e:p=q
   .rw[zAe e];exact a.1 λk d=>by rw[e]
   .rw[zA6 e];exact a.2 λg=>e (abS f λv i=>g v i)
  all_goals unfold lL
  .rw[Q3,Q7,Q7,if_neg (by simpa using b),LY V7]
  .rw[Q3,Q7,Q7,if_pos b]
  .rw[Q0];rfl
 .rw[Q3,zA6 λe=>f (by rw[e])]
section
variable {g:GR} (hV:VG g) {d:V6 Int} {s:Nat} (hD:BQ g s d)
 include hV hD
theorem akC {v i:Nat} (b:v<g.2.length) (a:i<(row g v).length):0<=(gR (row g v) i).1/\(gR (row g v) i).1<(d.length:Int):=by
 have⟨u,c,e⟩:=hV.to b a;have:=hD.len;omega
theorem aia {v:Nat} (a:v<g.2.length):wI .i64 (D d v - 1)=D d v - 1:=by
 have b:=hD.lo v a;have c:=hD.hi v a;have:=hV.n24;exact Q9
theorem aiN {v i:Nat} (a:v<g.2.length) (c:i<(row g v).length):BJ 1000 ((gR (row g v) i).1,(gR (row g v) i).2) d (v:Int)=some (decide (Low g d v i)):=by
 have b:=akC hV hD a c;have f:=hD.len;unfold BJ;rw[cR b,Q7];have e:wI .i64 (at' d (v:Int) - 1)=D d v - 1:=aia hV hD a;rw[e];rfl
theorem acL {v:Nat} (m:v<g.2.length) (c:V6 Int):∃p,IsF (Low g d v) (row g v).length p/\BZ 1000 g (v:Int) d c=some (decide (c=[D d v,p])):=by
 have o:=hV.n24;have l:=(hV.node v m).deg;have r:=hD.len;have n:∀a:Int,An 1000 (v:Int) d c a=some (decide (c=[D d v,a])):=λa=>by
  unfold An;rw[Q7,acY _ _ V8,bA Z]
 unfold BZ;rw[Q7];have i:∀b k,k<=(row g v).length->(∀j,j<k->¬Low g d v j)->(row g v).length - k<b->∃p,IsF (Low g d v) (row g v).length p/\bE (wJ 1000 g (v:Int) d c) b (k:Int)=some (decide (c=[D d v,p])):=by
  intro b
  induction b with
  |zero=>intro k _ _ h;omega
  | succ b ih =>
   intro k x f w;show∃p,_/\wJ 1000 g (v:Int) d c (k:Int) (bE (wJ 1000 g (v:Int) d c) b)=_;unfold wJ;by_cases e:k<(row g v).length
   .rw[if_pos (show(k:Int)<((row g v).length:Int) by omega),cR (show 0<=(k:Int)/\(k:Int)<((row g v).length:Int) by omega)];have u:=aiN hV hD m e;rw[show((at' (at' g.2 (v:Int)) (k:Int)).1,(at' (at' g.2 (v:Int)) (k:Int)).2)=((gR (row g v) k).1,(gR (row g v) k).2)from rfl,u,bA Z];by_cases q:Low g d v k
    .rw[zAe q,if_pos Z];exact⟨k,.inl ⟨k,e,rfl,q,f⟩,n _⟩
    .rw[zA6 q,if_neg V8,LY V7];exact ih (k+1) V7 (λj t=>by
      by_cases h:j=k
      .subst h;exact q
      .exact f j V7) V7
   .rw[if_neg (show¬(k:Int)<((row g v).length:Int) by omega)];exact⟨-1,.inr ⟨rfl,λj t=>f j V7⟩,n _⟩
 exact i 1000 0 V7 (λj h=>V7) V7
end
end Go.Proofs.YtflciafboapaaaaGreat
namespace Go.Proofs.YtflciafboapaaaaGreat
open Go.Sx
def B_ (a:b_):V1 V4:=
 Option.bind (cX U ((a.1,a.2))) λb=>(some (b))
theorem WU:aU prog 126:=call126
theorem LR {d:b_} (a b:V0) (e:kI) (r:V4) (h:B_ U d=some r):
  aZ prog 126 #[Value.agg #[a,b]] [Sl aK a d.1,S2 aR b e d.2] (λx:Unit=>vB (r)) (λx l=>l) (λ_ l=>l):=by
 refine aZ.of func126 Z ntmps126 Z λc=>aT<|aI (aN.box (cs:=[a,b]) Z Z) Z λi=>Q5 Z<|aT<|cL 0 Z<|fF h λf g h=>aI (zBj Jl (qR U a b e f g) Z (jJ [0,1] Z)) Z λj=>Q5 Z<|aV ?_;cases h;exact uC Z
def wV (a:aX):V1 aX:=
 some (a)
def wW (b:nD) (a:tV->V1 aX) (c:aX):V1 aX:=
 a ((wI .i64 (b.1+(1:Int))),c)
def wY (b:nD) (a:tV->V1 aX) (c:aX):V1 aX:=
 a ((wI .i64 (b.1+(1:Int))),c)
def oF (c:b_) (b:nD) (d:tV->V1 aX) (a:nD) (e:tV->V1 aX):V1 aX:=
 if a.1<((at' c.2 b.1).length:Int)then(ck (0<=a.1/\a.1<((at' c.2 b.1).length:Int)) (ck (0<=b.1/\b.1<(a.2.length:Int)) (ck (0<=((at' (at' c.2 b.1) a.1).1)/\((at' (at' c.2 b.1) a.1).1)<(a.2.length:Int)) (ck (0<=b.1/\b.1<(a.2.length:Int)) (e ((wI .i64 (a.1+(1:Int))),(List.set a.2 (Int.toNat b.1) (min (at' a.2 b.1) (wI .i64 ((at' a.2 ((at' (at' c.2 b.1) a.1).1))+((at' (at' c.2 b.1) a.1).2)))))))))))else(wY b d (a.2))
def kR (e:b_) (d:nD) (b:tV->V1 aX) (a:nD) (c:tV->V1 aX):V1 aX:=
 if a.1<(e.2.length:Int)then(ck (0<=a.1/\a.1<(e.2.length:Int)) (bE (oF e a c) U ((0:Int),a.2)))else(wW d b (a.2))
def wX (d:b_) (a:nD) (b:tV->V1 aX) (c:Unit):V1 aX:=
 bE (kR U d a b) U ((0:Int),a.2)
def gX (c:b_) (a:nD) (b:tV->V1 aX):V1 aX:=
 if a.1<(c.1.length:Int)then(wX U c a b (()))else(wV (a.2))
def wU (b:b_) (a:aX):V1 aX:=
 ck (0<=(0:Int)/\(0:Int)<(a.length:Int)) (bE (gX U b) U ((0:Int),(List.set a (Int.toNat (0:Int)) (0:Int))))
def sB (c:b_) (a:nD) (b:tV->V1 aX):V1 aX:=
 if a.1<((List.replicate (Int.toNat (List.length c.1:Int)) (0:Int)).length:Int)then(ck (0<=a.1/\a.1<(a.2.length:Int)) (b ((wI .i64 (a.1+(1:Int))),(List.set a.2 (Int.toNat a.1) (wI .i64 ((15:Int)*(c.1.length:Int)))))))else(wU U c (a.2))
def nJ (a:b_):V1 aX:=
 ck (0<=(a.1.length:Int)/\(a.1.length:Int)<=1099511627) (bE (sB U a) U ((0:Int),(List.replicate (Int.toNat (a.1.length:Int)) (0:Int))))
theorem WV:aU prog 129:=call129
theorem FS (U:Nat) {f:b_} (q w:V0) (z2:kI) (r:aX) (h:nJ U f=some r):
  aZ prog 129 #[Value.agg #[q,w]] [Sl aK q f.1,S2 aR w z2 f.2] (λx:V0=>x) (λx l=>Ar cY x r::l) (λ_ l=>l):=by
 let N:=vI (f.2.length:Int);let D:=S2 aR w z2 f.2;let G:=(f.1.length:Int)
 let ae:=(List.replicate (Int.toNat G) (0:Int))
 refine aZ.of func129 Z ntmps129 Z λc=>?_;refine cQ Na<|aT<|aI (aN.box (cs:=[q,w]) Z Z) Z λO=>let p:=bG O [q,w] 31;aC Z<|aO<|aT<|bZ Z<|dO 0 Z<|jH (cP Z) Z<|dQ h λj3 h=>aI (sV (e:=cY) (0:Int) Z Z Z Z j3 Z Z Z) Z λm=>aI (aN.alloc (cs:=[eB]) Z Z) Z λv=>bO (Know.one ((bI (aH.res 1 Z) eP))) λah=>iB 0 Z Z ah Z Z Z<|aO<|aL<|IC (A:=aX) (B:=Unit) (λK b9=>⟨53,Dn ([]:mX)⟩) (λK=>wU U f K=some r) (λK b9=>[(1,vP O),(2,eB),(3,vP v)]) (λK b9=>[bG v [m] 22,Ar cY m K,p,Gi ([]:mX)]) (λK b9=>[Sl aK q f.1,D]) ?_ ?_
 .refine aT<|dO 0 Z<|aB (eW Z (bI (aH.res 1 Z) eP) Z) Z<|aA Z<|aO<|aQ<|Mk (A:=nD) (B:=Unit) (λg H=>⟨53,Dn ([]:mX)⟩) (sB U f) (λg H=>[(1,vP O),(2,eB),(3,vP v),(12,vI (ae.length:Int)),(13,vI (g.1))]) (λg H=>[bG v [m] 22,Ar cY m g.2,p,Gi ([]:mX)]) (λg H=>[Sl aK q f.1,D]) ((0:Int),ae) () Z h SF (aS.refl _) (aD.refl _ _) ?_;intro am g H h;refine aT<|cN Z<|aO<|aL ?_;refine gC h Z (λh=>?_) λh=>?_
  .refine cU<|aL<|aQ<|aT<|aA Z<|aC Z<|aO<|aP<|dO 0 Z<|aA Z<|bZ Z<|dO 2 Z<|jH (cP Z) Z<|aB (uX Z Z) Z<|dQ h λab h=>aB (bD Z Z (bI (aH.res 1 Z) eP) Z Z ab) Z<|xX 1 (wI .i64 ((15:Int)*G)) ab Z Z Z Z Z Z Z<|fC<|mF<|aP<|cH Z<|aA Z<|aO ?_;exact I_ ((wI .i64 (g.1+(1:Int))),(List.set g.2 (Int.toNat g.1) (wI .i64 ((15:Int)*G)))) () Z h SF (aS.refl _) (aD.refl _ _)
  refine fH ?_;exact ES (g.2) () Z h SF (aS.refl _) (aD.refl _ _)
 intro K b9 h;refine aT<|dO 0 Z<|dQ h λV h=>aB (bD Z Z (bI (aH.res 1 Z) eP) Z Z V) Z<|xX 1 (0:Int) V Z Z Z Z Z Z Z<|aO<|aL<|IC (A:=aX) (B:=mX) (λs t=>⟨53,Dn t⟩) (λs=>wV s=some r) (λs t=>[(3,vP v)]) (λs t=>[bG v [m] 22,Ar cY m s,Gi t]) (λs t=>[Sl aK q f.1,D]) ?_ ?_
 .refine aT<|bZ Z<|dO 2 Z<|jH (cP Z) Z<|aA Z<|aO<|aQ<|Mk (A:=nD) (B:=mX) (λb j=>⟨53,Dn j⟩) (gX U f) (λb j=>[(1,vP O),(2,eB),(3,vP v),(28,vI G),(29,vI (b.1))]) (λb j=>[bG v [m] 22,Ar cY m b.2,p,Gi j]) (λb j=>[Sl aK q f.1,D]) ((0:Int),(List.set K (Int.toNat (0:Int)) (0:Int))) ([]:mX) Z h SF (aS.refl _) (aD.refl _ _) ?_;intro ai b j h;let L:=(bE (gX U f) ai)
  let F:=(kR U f b L)
  refine aT<|cN Z<|aO<|aL ?_;refine gC h Z (λh=>?_) λh=>?_
  .refine cU<|aL<|IC (A:=aX) (B:=mX) (λn u=>⟨53,Dn u⟩) (λn=>wW b L n=some r) (λn u=>[(1,vP O),(2,eB),(3,vP v),(28,vI G),(29,vI (b.1))]) (λn u=>[bG v [m] 22,Ar cY m n,p,Gi u]) (λn u=>[Sl aK q f.1,D]) ?_ ?_
   .refine aQ<|aT<|cL 2 Z<|uS (A:=Unit) (B:=Nat) (vs:=[Value.agg #[q,w]]) (λE=>wX U f b L E=some r) (λE k=>Value.func (.func 177) #[] #[vP k]) (λE k=>[bG k [q,w] 31,bG v [m] 22,Ar cY m b.2,p,Gi j]) (λE k=>[Sl aK q f.1,D]) (pT.fn (show aU prog 127 from call127) Z) func127 Z ntmps127 Z Z ?_ ?_
    .refine aT<|aI (aN.box (cs:=[q,w]) Z Z) Z λS=>aC Z<|aO<|aT<|aB (oM (cs:=[.tmp 1]) (vs:=[vP S]) Z) Z<|aC Z<|aO<|aV ?_;exact iX () (S) h (.inl Z) (DG.r1 Z (RV.tmp Z)) Z (aS.refl _) (aD.refl _ _)
    intro E k h;unfold wX at h;refine aO<|aQ<|EU (i:=4) (cs:=[vP k]) j Z (show aU prog 177 from call177) Z func177 Z ntmps177 Z λI af ag T=>let J:=(List.cons af j);let M:=Lp I ag LoopState.ready none;aT<|bZ Z<|dO 1 Z<|aB (fR Z (n_ Z) Z) Z<|aA Z<|aO<|aQ<|fT F (λa P=>[(0,rA I),(8,w),(9,N),(10,vI (a.1))]) (λa P=>[M,bG k [q,w] 31,bG v [m] 22,Ar cY m a.2,p,Gi J]) ((0:Int),b.2) () h SF (aS.refl _) ?_
    intro ac a P h;refine aT<|cN Z<|aO<|aL ?_;refine gC h Z (λh=>?_) λh=>?_
    .refine cU<|aL<|fV (λy=>wY a (bE F ac) y=some r) (λy Q=>[(0,rA I),(8,w),(9,N),(10,vI (a.1))]) (λy Q=>[M,bG k [q,w] 31,bG v [m] 22,Ar cY m y,p,Gi J]) ?_ ?_
     .refine aQ<|aT<|aA Z<|dQ h λo h=>aB (bX Z Z (n_ Z) Z Z o) Z<|aB (cB Z (n_ Z) Z Z o) Z<|aC Z<|aC Z<|aO<|aT<|aA Z<|aB (eW Z (zBk (n_ Z) o.1 o.2) Z) Z<|aA Z<|aO<|aQ<|fT (oF f a (bE F ac)) (λd R=>[(0,rA I),(3,vI (a.1)),(8,w),(9,N),(10,vI (a.1)),(15,(at' z2 a.1).1),(16,vI ((at' f.2 a.1).length:Int)),(17,vI (d.1))]) (λd R=>[M,bG k [q,w] 31,bG v [m] 22,Ar cY m d.2,p,Gi J]) ((0:Int),a.2) () h SF (aS.refl _) ?_;intro al d R h;let C:=(at' (at' f.2 a.1) d.1)
      let ad:=(min (at' d.2 a.1) (wI .i64 ((at' d.2 (C.1))+(C.2))))
      refine aT<|cN Z<|aO<|aL ?_;refine gC h Z (λh=>?_) λh=>?_
      .refine cU<|aL<|aQ<|aT<|dQ h λW h=>aB (bD Z Z (zBk (n_ Z) o.1 o.2) Z Z W) Z<|aB (fG (cs:=[vI (C.1),vI (C.2)]) Z (zBk (n_ Z) o.1 o.2) cA Z Z Z Z W) Z<|aI (aN.alloc (cs:=MN) Z Z) Z λaj=>bP 0 (vs:=[vI ((at' (at' f.2 a.1) d.1).1),vI ((at' (at' f.2 a.1) d.1).2)]) Z Z Z Z Z Z<|aO<|aT<|aA Z<|aA Z<|cL 0 Z<|MV (us:=[vI (a.1),Value.agg #[vI (C.1),vI (C.2)]]) (i:=1) T Z Z Z Z Z Z<|aT<|aC Z<|aO<|aP<|aI (aN.alloc (cs:=MN) Z Z) Z λak=>bP 0 (vs:=[vI ((at' (at' f.2 a.1) d.1).1),vI ((at' (at' f.2 a.1) d.1).2)]) Z Z Z Z Z Z<|aO<|Qy (i:=2) Z<|aQ ?_;refine Bf [0,0,0,0,12,28,0,0,128,448,960,0,2048,8128,16380,32767,65535] 15 mixedOrders ?_;refine gN 4 Z<|bM Z<|gN 4 Z<|bM Z<|dQ h λX h=>aY Z (aS.cons 5 Z .nil) .nil (bD Z Z (bI (aH.res 0 Z) eP) Z Z X) aJ.z<|aY Z (aS.cons 5 Z .nil) .nil (bY Z (bI (aH.res 0 Z) eP) Z Z Z dJ X) aJ.z<|gN 4 Z<|cT Z<|gN 0 Z<|dQ h λY h=>aY Z (aS.cons 5 Z .nil) .nil (bD Z Z (bI (aH.res 0 Z) eP) Z Z Y) aJ.z<|aY Z (aS.cons 5 Z .nil) .nil (bY Z (bI (aH.res 0 Z) eP) Z Z Z dJ Y) aJ.z<|cT Z<|gN 0 Z<|jS Z (Ak Z Z)<|jS Z (SS Z Z)<|bS 15 Z Z<|dQ h λaa h=>aB (bD Z Z (bI (aH.res 5 Z) eP) Z Z aa) Z<|xX 5 ad aa Z Z Z Z Z Z Z<|fC<|Pe<|Ja (i:=2) Z<|aB (nY Z) Z<|aO<|EQ Z<|eK<|mF<|aP<|cH Z<|aA Z<|aO ?_;exact gA ((wI .i64 (d.1+(1:Int))),(List.set d.2 (Int.toNat a.1) ad)) () h SF (aS.ix [2,3,4,5,6,7] Z Z) (aD.refl _ _)
      refine sS<|fU<|fU<|Aj<|mF ?_;exact jV (d.2) () h SF Z
     intro y Q h;unfold wY at h;refine aP<|cH Z<|aA Z<|aO ?_;exact Ci ((wI .i64 (a.1+(1:Int))),y) () h SF Z
    refine sS<|fU<|fU<|Aj<|UU (i:=0) (.inr Z) Z (DG.r0 Z)<|Pe<|mF ?_;exact ES (a.2) J Z h SF (aS.ix [2,3,4,5] Z Z) (aD.refl _ _)
   intro n u h;unfold wW at h;refine aP<|cH Z<|aA Z<|aO ?_;exact I_ ((wI .i64 (b.1+(1:Int))),n) (u) Z h SF (aS.refl _) (aD.refl _ _)
  refine fH ?_;exact ES (b.2) (j) Z h SF (aS.ix [0,1,3] Z Z) (aD.refl _ _)
 intro s t h;unfold wV at h;refine aT<|dO 0 Z<|aC Z<|aO<|aV<|BR (i:=2) (Ds:=(t)) (.inl Z) Z ?_;cases h;exact fD (m) Z Z (RV.tmp Z) (aS.ix [1] Z Z) aD.nil
def vW (d:b_) (a:Int):V1 Cd:=
 Option.bind (nJ U ((d.1,d.2))) λb=>(Option.bind (mG U b) λc=>(ck ((max a (1:Int))≠0) (some (((3:Int),false,true,(wI .i64 ((wI .i64 (Int.tdiv c (max a (1:Int))))+(1:Int))),(-1:Int))))))
def AL (b:e_) (a:iU->V1 Cd) (c:Int):V1 Cd:=
 a ((wI .i64 (b.1+(1:Int))),c)
def vX (b:e_) (a:iU->V1 Cd) (c:Int):V1 Cd:=
 a ((wI .i64 (b.1+(1:Int))),c)
def AM (e:b_) (c a:e_) (b:iU->V1 Cd) (d:V4):V1 Cd:=
 if d=true then(vX a b ((at' (at' e.2 c.1) a.1).2))else(vX a b (a.2))
def pA (e:b_) (b:e_) (d:iU->V1 Cd) (a:e_) (c:iU->V1 Cd):V1 Cd:=
 if a.1<((at' e.2 b.1).length:Int)then(ck (0<=a.1/\a.1<((at' e.2 b.1).length:Int)) (if a.2=(0:Int)then(AM e b a c (true))else(AM e b a c (decide (((at' (at' e.2 b.1) a.1).2)<a.2)))))else(AL b d (a.2))
def lC (c:b_) (a:e_) (b:iU->V1 Cd):V1 Cd:=
 if a.1<(c.2.length:Int)then(ck (0<=a.1/\a.1<(c.2.length:Int)) (bE (pA c a b) U ((0:Int),a.2)))else(vW U c (a.2))
def AK (b:b_) (a:Unit):V1 Cd:=
 bE (lC U b) U ((0:Int),(0:Int))
def uB (a:b_):V1 Cd:=
 Option.bind (B_ U ((a.1,a.2))) λb=>(if(!b)=true then(some (((0:Int),false,false,(0:Int),(0:Int))))else(AK U a (())))
theorem ahC:aU prog 84:=call84
theorem OU (U:Nat) {d:b_} (t j:V0) (I:kI) (r:(Int×Bool×Bool×Int×Int)) (h:uB U d=some r):
  aZ prog 84 #[Value.agg #[t,j]] [Sl aK t d.1,S2 aR j I d.2] (λx:Unit=>Value.agg #[vI (r.1),vB (r.2.1),vB (r.2.2.1),vI (r.2.2.2.1),vI (r.2.2.2.2)]) (λx l=>l) (λ_ l=>l):=by
 let F:=vI (d.2.length:Int);refine aZ.of func84 Z ntmps84 Z λc=>?_;refine cQ Na<|aT<|aI (aN.box (cs:=[t,j]) Z Z) Z λb2=>let n:=bG b2 [t,j] 31;aI (aN.alloc (cs:=Wr) Z Z) Z λC=>aO<|aL<|aT<|cL 1 Z<|fF h λr4 w5 h=>aI (zBj WU (LR U t j I r4 w5) Z (jJ [0,1] Z)) Z λx6=>aB (nY Z) Z<|aO ?_
 refine Ag h Z (λ_ h=>?_) λ_ h=>?_
 .refine aT ?_;refine aB (IE (r:=Value.agg #[vI (0:Int),vB (false),vB (false),vI (0:Int),vI (0:Int)]) (by intro w;simp[Instr.build,Instr.fill,dU,c_,cO,dV,dW,dC,eV])) Z ?_;refine bP 0 (vs:=Wr) Z Z Z Z Z Z<|aO<|aV<|aM<|BR (i:=2) (Ds:=([]:mX)) (.inl Z) Z ?_;cases h;exact fD () Z Z (RV.cell 0 Z Z Z Z) .nil aD.nil
 refine cU<|aT<|aI (aN.alloc (cs:=[vI (0:Int)]) Z Z) Z λD=>iB 0 Z Z Z Z Z Z<|aO<|aL<|IC (A:=Int) (B:=mX) (λe k=>⟨34,Dn k⟩) (λe=>vW U d e=some r) (λe k=>[(1,vP b2),(2,vP C),(3,vP D)]) (λe k=>[bG D [vI (e)] 3,bG C Wr 121,n,Gi k]) (λe k=>[Sl aK t d.1,S2 aR j I d.2]) ?_ ?_
 .refine aT<|cL 2 Z<|uS (A:=Unit) (B:=Nat) (vs:=[Value.agg #[t,j]]) (λu=>AK U d u=some r) (λu m=>Value.func (.func 177) #[] #[vP m]) (λu m=>[bG m [t,j] 31,bG D [vI (0:Int)] 3,bG C Wr 121,n,Gi ([]:mX)]) (λu m=>[Sl aK t d.1,S2 aR j I d.2]) (pT.fn (show aU prog 127 from call127) Z) func127 Z ntmps127 Z Z ?_ ?_
  .refine aT<|aI (aN.box (cs:=[t,j]) Z Z) Z λQ=>aC Z<|aO<|aT<|aB (oM (cs:=[.tmp 1]) (vs:=[vP Q]) Z) Z<|aC Z<|aO<|aV ?_;exact iX () (Q) h (.inl Z) (DG.r1 Z (RV.tmp Z)) Z (aS.refl _) (aD.refl _ _)
  intro u m h;let y:=bG m [t,j] 31;unfold AK at h;refine aO<|aQ<|EU (i:=4) (cs:=[vP m]) ([]:mX) Z (show aU prog 177 from call177) Z func177 Z ntmps177 Z λq Y J R=>let E:=Lp q J LoopState.ready none;let s:=(List.cons Y ([]:mX));aT<|bZ Z<|dO 1 Z<|aB (fR Z (n_ Z) Z) Z<|aA Z<|aO<|aQ<|fT (lC U d) (λa K=>[(0,rA q),(8,j),(9,F),(10,vI (a.1))]) (λa K=>[E,y,bG D [vI (a.2)] 3,bG C Wr 121,n,Gi s]) ((0:Int),(0:Int)) () h SF (aS.refl _) ?_
  intro T a K h;let W:=vI ((at' d.2 a.1).length:Int);let G:=(pA d a (bE (lC U d) T))
  refine aT<|cN Z<|aO<|aL ?_;refine gC h Z (λh=>?_) λh=>?_
  .refine cU<|aL<|fV (λo=>AL a (bE (lC U d) T) o=some r) (λo L=>[(0,rA q),(8,j),(9,F),(10,vI (a.1))]) (λo L=>[E,y,bG D [vI (o)] 3,bG C Wr 121,n,Gi s]) ?_ ?_
   .refine aQ<|aT<|aA Z<|dQ h λf h=>aB (bX Z Z (n_ Z) Z Z f) Z<|aB (cB Z (n_ Z) Z Z f) Z<|aC Z<|aC Z<|aO<|aT<|aA Z<|aB (eW Z (zBk (n_ Z) f.1 f.2) Z) Z<|aA Z<|aO<|aQ<|fT G (λb M=>[(0,rA q),(3,vI (a.1)),(8,j),(9,F),(10,vI (a.1)),(15,(at' I a.1).1),(16,W),(17,vI (b.1))]) (λb M=>[E,y,bG D [vI (b.2)] 3,bG C Wr 121,n,Gi s]) ((0:Int),a.2) () h SF (aS.refl _) ?_;intro V b M h;let g:=(at' (at' d.2 a.1) b.1)
    refine aT<|cN Z<|aO<|aL ?_;refine gC h Z (λh=>?_) λh=>?_
    .refine cU<|aL<|fV (λp=>vX b (bE G V) p=some r) (λp N=>[(0,rA q),(3,vI (a.1)),(8,j),(9,F),(10,vI (a.1)),(15,(at' I a.1).1),(16,W),(17,vI (b.1))]) (λp N=>[E,y,bG D [vI (p)] 3,bG C Wr 121,n,Gi s]) ?_ ?_
     .refine aQ<|aT<|dQ h λS h=>aB (bD Z Z (zBk (n_ Z) f.1 f.2) Z Z S) Z<|aB (fG (cs:=[vI (g.1),vI (g.2)]) Z (zBk (n_ Z) f.1 f.2) cA Z Z Z Z S) Z<|aI (aN.alloc (cs:=MN) Z Z) Z λaf=>bP 0 (vs:=[vI ((at' (at' d.2 a.1) b.1).1),vI ((at' (at' d.2 a.1) b.1).2)]) Z Z Z Z Z Z<|aO<|aT<|aA Z<|aA Z<|cL 0 Z<|MV (us:=[vI (a.1),Value.agg #[vI (g.1),vI (g.2)]]) (i:=1) R Z Z Z Z Z Z<|aP<|aI (aN.alloc (cs:=MN) Z Z) Z λO=>bP 0 (vs:=[vI ((at' (at' d.2 a.1) b.1).1),vI ((at' (at' d.2 a.1) b.1).2)]) Z Z Z Z Z Z<|aO<|Qy (i:=2) Z<|aQ<|aL<|fV (λv=>AM d a b (bE G V) v=some r) (λv P=>[(2,vP C),(3,vP D),(5,vP O),(22,vB (v))]) (λv P=>[bG O [vI (g.1),vI (g.2)] 80,Lp q J LoopState.busy none,y,bG D [vI (b.2)] 3,bG C Wr 121,n,Gi s]) ?_ ?_
      .refine aP<|dO 4 Z<|d_ Z<|aA Z ?_;refine IX h Z (λ_ h=>?_) λ_ h=>?_
       .refine aW Z<|aW Z<|aW Z<|aW Z<|gT Z<|aO ?_;exact cD (true) () h SF (aS.ix [0,2,3,4,5,6,7] Z Z) (aD.refl _ _)
       refine bB Z (dN Z Z Z Z Z) Z<|bB Z (eI 0 Z Z Z Z Z) Z<|bB Z (eI 4 Z Z Z Z Z) Z<|bB Z (Ew Z Z) Z<|iV Z<|aO ?_;exact cD (decide ((g.2)<b.2)) () h SF (aS.ix [0,2,3,4,5,6,7] Z Z) (aD.refl _ _)
      intro v P h;refine Ag h Z (λ_ h=>?_) λ_ h=>?_
      .refine aP<|bZ Z<|dO 0 Z<|iB 3 Z Z Z Z Z Z<|fC<|Pe<|Ja (i:=1) Z<|aB (nY Z) Z<|aO<|EQ Z<|eK<|mF ?_;exact cD (g.2) () h SF (aS.ix [1,2,3,4,5,6] Z Z) (aD.refl _ _)
      refine eK<|Pe<|Ja (i:=1) Z<|aB (nY Z) Z<|aO<|EQ Z<|eK<|mF ?_;exact cD (b.2) () h SF (aS.ix [1,2,3,4,5,6] Z Z) (aD.refl _ _)
     intro p N h;unfold vX at h;refine aP<|cH Z<|aA Z<|aO ?_;exact Ci ((wI .i64 (b.1+(1:Int))),p) () h SF Z
    refine sS<|fU<|fU<|Aj<|mF ?_;exact jV (b.2) () h SF Z
   intro o L h;unfold AL at h;refine aP<|cH Z<|aA Z<|aO ?_;exact Ci ((wI .i64 (a.1+(1:Int))),o) () h SF Z
  refine sS<|fU<|fU<|Aj<|UU (i:=0) (.inr Z) Z (DG.r0 Z)<|mF ?_;exact ES (a.2) s Z h SF (aS.ix [2,3,4,5] Z Z) (aD.refl _ _)
 intro e k h;refine aL ?_;refine Bf [0,1,3,0,8,31,63,127] 5 mixedOrders ?_;refine sP 2 Z<|fF h λab ac h=>zBl Z Z Z (zBj WV (FS U t j I ab ac) Z (jJ [0,1] Z)) Z (λX=>(oP [] Z)) λX=>fF h λH ad h=>zBl Z Z Z (zBj Mu (CR U X H ad) Z (aD.cons (bI (aH.res 0 Z) eP) .nil)) Z (λae=>(oP [] Z)) λae=>aY Z (aS.cons 1 Z .nil) .nil (eI 0 Z Z Z Z Z) (aJ.h (aS.ix [1] Z Z) .nil (aJ.h (aS.ix [0] Z Z) .nil aJ.z))<|jS Z (Lw Z Z)<|bS 5 Z Z<|dQ h λaa h=>aB (aan Z Z aa) Z<|cH Z<|aC Z<|aO<|aT<|aA Z ?_;refine aB (Kp (r:=Value.agg #[vI (3:Int),vB (false),vB (true),vI (wI .i64 ((wI .i64 (Int.tdiv H (max e (1:Int))))+(1:Int))),vI (-1:Int)]) Z Z Z Z (by intro w;simp[Instr.build,Instr.fill,dU,c_,cO,dV,dW,dC,eV])) Z ?_;refine bP 2 (vs:=[vI (3:Int),vB (false),vB (true),vI (wI .i64 ((wI .i64 (Int.tdiv H (max e (1:Int))))+(1:Int))),vI (-1:Int)]) Z Z Z Z Z Z<|aO<|aV<|BR (i:=4) (Ds:=(k)) (.inl Z) Z ?_;cases h;exact fD () Z Z (RV.cell 2 Z Z Z Z) .nil aD.nil
def nV (a:V4):V1 V4:=
 some (a)
def pR (a:b_) (c:bJ):V1 V4:=
 Option.bind (B_ U ((a.1,a.2))) λd=>(if d=true then(Option.bind (eS U ((a.1,a.2)) c ([(wI .i64 ((15:Int)*(a.1.length:Int))),(-1:Int)])) λb=>(nV (b)))else(nV (false)))
theorem aep:aU prog 137:=call137
theorem Gg {j:b_} {p:bJ} (g i:V0) (n:kI) (k:V0) (q:mC) (r:V4) (h:pR U j p=some r):
  aZ prog 137 #[Value.agg #[g,i],k] [Sl aK g j.1,S2 aR i n j.2,S2 aK k q p] (λx:Unit=>vB (r)) (λx l=>l) (λ_ l=>l):=by
 let b:=(wI .i64 ((15:Int)*(j.1.length:Int)))
 refine aZ.of func137 Z ntmps137 Z λc=>aT<|aI (aN.box (cs:=[g,i]) Z Z) Z λw=>Q5 Z<|aL<|fV (λd=>nV d=some r) (λd o=>[(4,vB (d))]) (λd o=>[]) ?_ ?_
 .refine aP<|cL 0 Z<|fF h λs u h=>aI (zBj WU (LR U g i n s u) Z (jJ [0,1] Z)) Z λy=>aA Z<|Ai (by exact rfl) (by exact rfl) (λa=>?_) (λa=>?_)
  .have h:=ME a h;exact bB Z (eH 0 Z Z Z Z) Z<|gW Z<|bB Z (dN Z Z Z Z Z) Z<|bB Z (eI 0 Z Z Z Z Z) Z<|bB Z (eW Z (cP Z) Z) Z<|bB Z (uX Z Z) Z<|yM Z (cC (e:=cY) ([b,(-1:Int)]) [(0,vI b),(1,vI (-1:Int))] Z Z Z Z (Jv (vI b) (vI (-1:Int)) Z Z) Z Z Z) Z λt=>fF h λf m h=>yM Z (zBj Mv (rM U g i n k q t f m) Z (aD.cons (cP Z) (aD.cons (n_ Z) (aD.cons (uI Z) (aD.cons (bI (aH.res 0 Z) eP) .nil))))) Z λv=>gT Z<|Q5 Z<|cD (f) () h SF .nil (aD.refl _ _)
  have h:=Jy a h;exact aW Z<|aW Z<|aW Z<|aW Z<|aW Z<|aW Z<|aW Z<|aW Z<|iV Z<|Q5 Z<|cD (false) () h SF .nil (aD.refl _ _)
 intro d o h;unfold nV at h;refine aV ?_;cases h;exact oA Z
def y_ (U:Nat) (a:e_) (b:aX) (c:Int):V1 V4:=
 ck (0<=a.1/\a.1<(b.length:Int)) (ck (0<=c/\c<(b.length:Int)) (some (decide ((wI .i64 ((at' b a.1)+a.2))=(at' b c)))))
theorem aeq:aU prog 139:=call139
theorem Mf (U:Nat) {d:e_} {g:aX} {i:Int} (a:Nat) (j:V0) (b:Nat) (r:Bool) (h:y_ U d g i=some r):
  aZ prog 139 #[Value.agg #[vI (d.1),vI (d.2)],vP a,vP b] [bG a [j] 22,Sl aK j g,bG b [vI (i)] 3] (λx:Unit=>vB (r)) (λx l=>l) (λ_ l=>l):=by
 refine aZ.of func139 Z ntmps139 Z λc=>?_;refine aT<|aI (aN.box (cs:=[vI (d.1),vI (d.2)]) Z Z) Z λk=>aC Z<|aO<|aL ?_;refine Bf [0,0,2,7,15,0,32,127,0,0,768,1792,4095,8191] 12 mixedOrders ?_;refine aY Z .nil (iH 0 Z) (dG Z (cP Z) Z Z Z) aJ.z<|cT Z<|gN 0 Z<|dQ h λe h=>aY Z .nil (iH 1 Z) (bD Z Z (cP Z) Z Z e) aJ.z<|aY Z .nil (iH 1 Z) (bY Z (cP Z) Z Z Z dJ e) aJ.z<|cT Z<|gN 0 Z<|jS Z (Ak Z Z)<|aY Z .nil (iH 0 Z) (dG Z (cP Z) Z Z Z) aJ.z<|aY Z .nil (iH 2 Z) (dG Z (cP Z) Z Z Z) aJ.z<|dQ h λf h=>aY Z .nil (iH 1 Z) (bD Z Z (cP Z) Z Z f) aJ.z<|aY Z .nil (iH 1 Z) (bY Z (cP Z) Z Z Z dJ f) aJ.z<|bS 12 Z Z<|d_ Z<|aC Z<|aO<|aV ?_;cases h;exact uC Z
end Go.Proofs.YtflciafboapaaaaGreat