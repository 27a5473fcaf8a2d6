/- Models and proofs. Conditions: none. -/
import Derived.Test.YtjkjpdonlpdcaaaGreatDoorZTLe4
import Derived.Lib.Bytealg
import Derived.Test.YtjkjpdonlpdcaaaGreatDoorZTLe2
set_option linter.unusedVariables false
set_option linter.unusedSimpArgs false
set_option maxHeartbeats 4000000
set_option maxRecDepth 20000
namespace Go.Gx
open Go Go.Sx
noncomputable section
def Pq (n c:Nat) (a:Nat):Nat->Option Nat:=Nat.rec (motive:=λ_=>Nat->Option Nat) (λ_=>none) (λ_ b i=>Bool.casesOn (motive:=λ_=>Option Nat) (Nat.beq (Nat.mod (Nat.shiftRight n (Nat.mul 8 i)) 256) c) (b (Nat.succ i)) (some i)) a
def agS (k:IntKind):Bool:=match k with
 | .u8=>true
 |_=>false
def U_ (b:Nat) (f:Nat) (d:List GV):Option GV:=bif Nat.beq f b then List.casesOn (motive:=λ_=>Option GV) d none (λa r=>List.casesOn (motive:=λ_=>Option GV) r none λc r=>List.casesOn (motive:=λ_=>Option GV) r (ob a.asStr λs=>ob c.asI λp=>ob (ZT p.2) λk=>
 bif agS p.1 then(bif Nat.blt k 256 then Option.casesOn (motive:=λ_=>Option GV) (Pq s.1 k s.2 0) (some (.int .i64 (.negSucc 0))) (λi=>some (.int .i64 (.ofNat i)))else none)else none) λ_ _=>none)else none
theorem QT (x:List UInt8) (c:Nat) (m:c<256):∀k i,i+k=x.length->(match Pq (lI x) c k i with|none=>(-1:Int)|some j=>(j:Int))=(if Lib.indexByte (x.drop i) c.toUInt8 = -1 then -1 else Lib.indexByte (x.drop i) c.toUInt8+i)
 |0,i,h=>by
  rw[List.drop_of_length_le (by omega)];simp[Pq,Lib.indexByte]
 | k + 1, i, h => by
  have o:=QT x c m k (i+1) (by omega);have g:i<x.length:=by omega
  have e:Pq (lI x) c (k+1) i=Bool.casesOn (motive:=λ_=>Option Nat) (Nat.beq (Nat.mod (Nat.shiftRight (lI x) (Nat.mul 8 i)) 256) c) (Pq (lI x) c k (i+1)) (some i):=rfl;rw[e,QL x i g,List.drop_eq_getElem_cons g];have a:(x[i]).toNat=c↔x[i]=c.toUInt8:=by
   rw[<-UInt8.toNat_inj];have:c.toUInt8.toNat=c:=by simp[Nat.toUInt8];omega
   rw[this]
  unfold Lib.indexByte;cases d:Nat.beq (x[i]).toNat c with
  |true=>
   have:=a.1 (Nat.eq_of_beq_eq_true d);simp[this]
  | false =>
   have f:¬x[i]=c.toUInt8:=λl=>by
    have:=a.2 l;rw[this]at d;simp at d
   have n:=Lib.indexByte_ge (x.drop (i+1)) c.toUInt8;simp only[beq_iff_eq,f,if_false];rw[o];by_cases b:Lib.indexByte (x.drop (i+1)) c.toUInt8 = -1
   ·simp[b]
   ·rw[if_neg b,if_neg b,if_neg (by omega)]
    push_cast;omega
section
variable {P:Program} {gs:zL} {w0:eN gs}
theorem Yn {u:Nat} {l:Func} (F:P.funcs[u]? = some l) (e:(l.name == "runtime.NumGoroutine")=false) (D:l.body.isNone=true) (I:Extern.findNext l=none) (E:Extern.find l=some Extern.BytealgIndexByte.indexByte)
  {f:Nat} {i:List GV} {g:GV} (h:U_ u f i=some g) (q:dX) (w:World) (o:List Value) (H:GH) (R:fP w0 q H w) (m:oQ q i o):kB P w0 q f o w g H:=by
 unfold U_ at h;replace h:=bQ.1 h;have C:=Nat.eq_of_beq_eq_true h.1;replace h:=h.2;subst C;cases i with
 |nil=>cases h
 |cons a i=>
 cases i with
 |nil=>cases h
 |cons c i=>
 cases i with
 |cons _ _=>cases h
 |nil=>
 obtain⟨s,L,h⟩:=aF.1 (show ob a.asStr _=some g from h);obtain⟨p,J,h⟩:=aF.1 h;obtain⟨k,G,h⟩:=aF.1 h;obtain⟨x,h⟩:=bQ.1 h;obtain⟨d,h⟩:=bQ.1 h;obtain⟨v,o,rfl,y,m⟩:=m.of_cons;obtain⟨N,o,rfl,b,m⟩:=m.of_cons;rw[m.of_nil];rw[pI L]at y;rw[nT J]at b;obtain⟨S,rfl,A,M⟩:=y.str_inv;have b:=b.int_inv;subst b;have t:p.1 = .u8:=by cases K:p.1<;>rw[K]at x<;>first|rfl|cases x
 have r:p.2=(k:Int):=Gs G;have d:k<256:=by simpa using d
 refine .inl ⟨.int .i64 (Lib.indexByte S.data.toList p.2.toNat.toUInt8),w,q,?_,dX.le_refl _,R,?_⟩
 ·rw[run_callFunc_extern F e D I E,t,Lib.run_indexByteString];rfl
 ·have n:=QT (bL S) k d s.2 0 (by omega);rw[A]at h;rw[List.drop_zero]at n;have B:Lib.indexByte S.data.toList p.2.toNat.toUInt8=(match Pq (lI (bL S)) k s.2 0 with|none=>(-1:Int)|some j=>(j:Int)):=by
   rw[n,r];have:bL S=S.data.toList:=rfl;rw[this];simp only[Int.toNat_natCast];split
   ·assumption
   ·omega
  rw[B];cases z:Pq (lI (bL S)) k s.2 0 with
  |none=>rw[z]at h;cases h;exact .int _ _
  |some j=>rw[z]at h;cases h;exact .int _ _
end
end
noncomputable section
def aau {a:Type} (c:Nat) (d:List GV->Option a) (n:Nat):List GV->Option (List a):=Nat.rec (motive:=λ_=>List GV->Option (List a)) (λ_=>some []) (λ_ e b=>ob (d (b.take c)) λy=>ob (e (b.drop c)) λf=>some (y::f)) n
def Np {b:Type} (H:GH) (a:Nat) (d:List GV->Option b) (v:GV):Option (List b):=ob (sX H a v) λp=>bif Nat.ble p.1 1099511627776 then aau a d p.1 p.2 else none
def dI (k:IntKind) (a:List GV):Option Int:=List.casesOn (motive:=λ_=>Option Int) a none λc r=>List.casesOn (motive:=λ_=>Option Int) r (ob c.asI λp=>bif decide (p.1=k)then some p.2 else none) λ_ _=>none
def dP {b c:Type} (n:Nat) (d:List GV->Option b) (e:List GV->Option c) (a:List GV):Option (b×c):=ob (d (a.take n)) λx=>ob (e (a.drop n)) λy=>some (x,y)
def dS {a:Type} (H:GH) (e:Nat) (d:List GV->Option a) (b:List GV):Option (List a):=List.casesOn (motive:=λ_=>Option (List a)) b none λc r=>List.casesOn (motive:=λ_=>Option (List a)) r (Np H e d c) λ_ _=>none
end
section
variable {P:Program} {gs:zL} {w0:eN gs} {w:World} {ρ:dX} {H:GH} {S:Nat->Prop}
def All (_:Nat):Prop:=True
def iC {b c:Type} (S:Nat->Prop) (ρ:dX) (w:World) (d:List GV->Option c) (r:fH b) (e:b->c):Prop:=∀gs a y,oQ ρ gs a->d gs=some y->gs.length=r.sz->∃z,e z=y∧r.R w S a z
theorem iC.int (k:IntKind):iC S ρ w (dI k) (fH.int k) id:=λgs f y b h _=>by
 cases gs with
 |nil=>cases h
 |cons c gs=>
 cases gs with
 |cons _ _=>cases h
 |nil=>
 obtain⟨p,e,h⟩:=aF.1 (show ob c.asI _=some y from h);obtain⟨a,h⟩:=bQ.1 h;cases h;obtain⟨v,f,rfl,d,b⟩:=b.of_cons;rw[b.of_nil];rw[nT e]at d;rw[d.int_inv];have a:=of_decide_eq_true a;exact⟨p.2,rfl,by rw[a];rfl⟩
theorem iC.pair {q t b c:Type} {d:List GV->Option b} {e:List GV->Option c} {r:fH q} {s:fH t} {m:q->b} {n:t->c} (u:iC S ρ w d r m) (A:iC S ρ w e s n):iC S ρ w (dP r.sz d e) (fH.pair r s) (λz=>(m z.1,n z.2)):=λgs l y f h p=>by
 obtain⟨x,B,h⟩:=aF.1 (show ob (d (gs.take r.sz)) _=some y from h);obtain⟨F,j,h⟩:=aF.1 h;cases h;have p:gs.length=r.sz+s.sz:=p;have E:=f.len;obtain⟨z,rfl,C⟩:=u _ (l.take r.sz) _ (by simpa using f.sub 0 r.sz) B (by simp;omega);obtain⟨D,rfl,k⟩:=A _ (l.drop r.sz) _ ⟨by simp;omega,λi g v o a=>by rw[List.getElem?_drop]at o a;exact f.at' _ _ _ o a⟩ j (by simp;omega);exact⟨(z,D),rfl,_,_,(List.take_append_drop r.sz l).symm,C,k⟩
theorem QJ {C D:Type} {d:List GV->Option D} {r:fH C} {E:C->D} (F:iC S ρ w d r E) (b:Nat):∀(n:Nat) (f:List GV) (m:List Value) (a:Nat) (l:List D),aau r.sz d n f=some l->oQ ρ f m->f.length=n*r.sz->(∀(j:Nat) x,m[j]? = some x->w.cell? ⟨b,a+j,none⟩=some x)->
  ∃p:List C,p.map E=l∧p.length=n∧∀(i:Nat) z,p[i]? = some z->∃q,(∀(j:Nat) e,q[j]? = some e->w.cell? ⟨b,a+(i*r.sz+j),none⟩=some e)∧r.R w S q z
 |0,f,m,a,l,h,hr,hl,hc=>by
  cases h;exact⟨[],rfl,rfl,λi z t=>by simp at t⟩
 | n + 1, f, m, a, l, h, hr, hl, hc => by
  obtain⟨y,M,h⟩:=aF.1 (show ob (d (f.take r.sz)) (λy=>ob (aau r.sz d n (f.drop r.sz)) λl=>some (y::l))=some l from h);obtain⟨B,s,h⟩:=aF.1 h;cases h;rw[Nat.succ_mul]at hl;have O:=hr.len;obtain⟨z,rfl,t⟩:=F _ (m.take r.sz) _ (by simpa using hr.sub 0 r.sz) M (by simp;omega);obtain⟨p,rfl,u,A⟩:=QJ F b n (f.drop r.sz) (m.drop r.sz) (a+r.sz) B s ⟨by simp;omega,λi g v G o=>by rw[List.getElem?_drop]at G o;exact hr.at' _ _ _ G o⟩ (by simp;omega) (λj x J=>by
   rw[List.getElem?_drop]at J;rw[Nat.add_assoc];exact hc _ _ J)
  refine⟨z::p,rfl,by simp[u],λi N c=> ?_⟩
  cases i with
  | zero =>
   simp at c;subst c;refine⟨_,λj e k=> ?_,t⟩
   rw[List.getElem?_take]at k;by_cases I:j<r.sz
   ·rw[if_pos I]at k;have:=hc j e k;simpa using this
   ·rw[if_neg I]at k;cases k
  |succ i=>
   simp at c;obtain⟨q,K,L⟩:=A i N c;refine⟨q,λj e k=> ?_,L⟩
   have:=K j e k;rw[Nat.succ_mul];rw[show a+(i*r.sz+r.sz+j)=a+r.sz+(i*r.sz+j) by omega];exact this
theorem Nm (R:fP w0 ρ H w) {v:GV} {V:Value} {B:Nat} {p:Nat×List GV} (t:Rl ρ v V) (h:sX H B v=some p):
  p.2.length=p.1*B∧∃a c,V = .slice a p.1 c∧p.1<=c∧(p.1=0∨∃b i o,a=some ⟨b,i,none⟩∧w0.mine b∧oQ ρ p.2 o∧∀(j:Nat) x,o[j]? = some x->w.cell? ⟨b,i+j,none⟩=some x):=by
 obtain⟨o,C⟩:=Cp R t h;refine⟨by rw[C.rel.len,C.len],?_⟩
 obtain⟨f,c,y,D,F⟩:=C.val;refine⟨f,c,y,D,?_⟩
 rcases F with⟨_,m,_⟩|⟨A,rfl,d⟩
 ·exact .inl m
 ·by_cases m:p.1=0
  ·exact .inl m
  ·refine .inr ?_;unfold sX at h;cases z:v.isSnil with
   |true=>rw[z]at h;cases h;exact absurd Z m
   | false =>
    rw[z]at h;obtain⟨s,I,h⟩:=aF.1 (show ob v.asS _=some p from h);rw[BA I,y]at t;obtain⟨l,u,K,G,e,E,n⟩:=t.sl_inv;injection e with k M N;injection k with k;rcases n with n|⟨n,_⟩
    ·omega
    ·rw[n]at k;subst k;have r:w0.mine l.b:=by
      obtain⟨_,h⟩:=bQ.1 h;obtain⟨L,q,_⟩:=aF.1 h;obtain⟨O,g,r,_⟩:=R.live _ _ (iB.1 q);rw[G]at g;cases g;exact r
     exact⟨l.b,l.off+s.2.1,o,rfl,r,C.rel,λj x J=>by have:=d j x J;rwa[eV]at this⟩
theorem DU {m n:Type} {d:List GV->Option n} {r:fH m} {o:m->n} (R:fP w0 ρ H w) (t:∀k,w0.mine k->S k) (u:iC S ρ w d r o) {v:GV} {V:Value} {j:List n} (B:Rl ρ v V) (h:Np H r.sz d v=some j):∃l:List m,l.map o=j∧Lj r w S V l:=by
 obtain⟨p,z,h⟩:=aF.1 (show ob (sX H r.sz v) _=some j from h);obtain⟨g,h⟩:=bQ.1 h;have g:p.1<=1099511627776:=by simpa using g
 obtain⟨i,a,f,rfl,E,x⟩:=Nm R B z;rcases x with q|⟨b,e,D,rfl,y,A,c⟩
 ·rw[q]at h;cases h;exact⟨[],rfl,a,f,by rw[q];rfl,by simp,.inl Z⟩
 ·obtain⟨l,rfl,s,C⟩:=QJ u b p.1 p.2 D e j h A i c;exact⟨l,rfl,some ⟨b,e,none⟩,f,by rw[s],by rw[s];omega,.inr ⟨b,e,rfl,t b y,C⟩⟩
theorem iC.sl {e f:Type} {d:List GV->Option f} {r:fH e} {b:e->f} (R:fP w0 ρ H w) (g:∀k,w0.mine k->S k) (i:iC S ρ w d r b):iC S ρ w (dS H r.sz d) (fH.sl r) (λz=>z.2.map b):=λgs vs y a h n=>by
 cases gs with
 |nil=>cases h
 |cons c gs=>
 cases gs with
 |cons _ _=>cases h
 |nil=>
 have h:Np H r.sz d c=some y:=h;obtain⟨v,vs,rfl,j,a⟩:=a.of_cons;rw[a.of_nil];obtain⟨m,rfl,l⟩:=DU R g i j h;exact⟨(v,m),rfl,rfl,l⟩
end
noncomputable section
def uV {c:Type} (e:Nat) (g:c->List GV) (a:List (List c)):GH->List GV×GH:=List.rec (motive:=λ_=>GH->List GV×GH) (λH=>([],H)) (λb _ d H=>let r:=d (H.new (.cells (b.flatMap g)));(.sl H.n 0 b.length e::r.1,r.2)) a
end
section
variable {P:Program} {gs:zL} {w0:eN gs} {w:World} {ρ:dX} {H:GH}
def Es (ρ:dX) (H:GH) (B:Nat->Prop):Prop:=∀h o l,H.get h=some o->ρ h=some l->¬B l.b
theorem Es.mono {B b:Nat->Prop} (h:Es ρ H B) (f:∀k,b k->B k):Es ρ H b:=λa o l c d e=>h a o l c d (f _ e)
theorem Es.start (R:fP w0 ρ H w):Es ρ H (λk=>w.heap.size<=k):=λh o l b c e=>by
 obtain⟨f,a,_,d⟩:=R.live h o b;rw[c]at a;cases a;have:=d.lt;omega
theorem GI {N:Type} {e:eK N} {d:List N} {cs:List GV} {v:Value} {B F:Nat->Prop} (R:fP w0 ρ H w) (A:Es ρ H B) (U:∀k,B k->w0.mine k) (s:∀k,F k->B k) (V:DL e w F v d) (E:d≠[]) (t:oQ ρ cs (cellsOf e d)):
  ∃f,ρ.le f∧fP w0 f (H.new (.cells cs)) w∧Rl f (.sl H.n 0 d.length e.sz) v∧Es f (H.new (.cells cs)) (λk=>B k∧¬F k):=by
 obtain⟨_,y,W⟩:=V;rcases W with⟨_,S⟩|⟨b,p,r,T,c,rfl,C,I,D,G,a⟩
 ·exact absurd S E
 have M:(cellsOf e d).length=d.length*e.sz:=by
  rw[<-a];simp;have:d.length*e.sz<=r*e.sz:=Nat.mul_le_mul_right _ D;omega
 have u:ρ.le (ρ.upd H.n ⟨b,p,c.size,.cells c T (0,0),.cells cs⟩):=yK (R.fresh _ (Nat.le_refl _));have J:d.length*e.sz<=r*e.sz:=Nat.mul_le_mul_right _ D;obtain⟨_,O⟩:=R.new (o:= .cells cs) (l:=⟨b,p,c.size,.cells c T (0,0),.cells cs⟩) R.ext (λh o' Y j m=>⟨rfl,λQ=>A h o' Y j m (by rw[Q];exact s _ C)⟩) (U _ (s _ C)) ⟨c,T,I,rfl,by
   show p+cs.length<=c.size;have:=t.len;omega,λi g j=>by
   obtain⟨x,q,X⟩:=t.get j;refine⟨x,?_,X.le u,List.all_eq_true.1 y x (List.mem_of_getElem? q)⟩
   rw[<-a,List.getElem?_take]at q;by_cases K:i<d.length*e.sz
   ·rw[if_pos K,List.getElem?_drop,Array.getElem?_toList]at q;exact q
   ·rw[if_neg K]at q;cases q⟩ I
 refine⟨_,u,O,.sl (by simp[dX.upd];rfl) D (.inr ⟨rfl,G⟩),λh o l j m L=> ?_⟩
 rw[p_]at j;by_cases z:h=H.n
 ·rw[z]at m;simp[dX.upd]at m;subst m;exact L.2 C
 ·rw[if_neg z]at j;simp only[dX.upd,if_neg z]at m;exact A h o l j m L.1
theorem LA {b:Type} {e:eK b} {g:b->List GV} (c:∀x,oQ ρ (g x) (e.enc x)):∀a:List b,oQ ρ (a.flatMap g) (cellsOf e a)
 | []=> .nil
 |x::a=>(c x).append (LA c a)
theorem Jf {o:Type} {e:eK o} {g:o->List GV} (r:∀ρ x,oQ ρ (g x) (e.enc x)):∀(a:List (List o)) (vs:List Value) (G:Nat->Nat->Prop) (B:Nat->Prop) (ρ:dX) (H:GH),fP w0 ρ H w->Es ρ H B->(∀k,B k->w0.mine k)->vs.length=a.length->
  (∀xs∈a,xs≠[])->(∀i v xs,vs[i]? = some v->a[i]? = some xs->DL e w (G i) v xs)->(∀i k,G i k->B k)->(∀i j k,G i k->G j k->i=j)->
  ∃c,ρ.le c∧fP w0 c (uV e.sz g a H).2 w∧oQ c (uV e.sz g a H).1 vs∧Es c (uV e.sz g a H).2 (λk=>B k∧∀i,¬G i k)
 | [],vs,G,B,ρ,H,R,A,hB,hl,_,h1,h2,h3=>by
  have:vs=[]:=List.eq_nil_of_length_eq_zero hl;subst this;exact⟨ρ,dX.le_refl _,R,.nil,A.mono λk b=>b.1⟩
 |xs::a,[],G,B,ρ,H,R,A,hB,hl,_,h1,h2,h3=>by simp at hl
 |xs::a,v::vs,G,B,ρ,H,R,A,hB,hl,hne,h1,h2,h3=>by
  obtain⟨p,f,u,F,s⟩:=GI R A hB (h2 0) (h1 0 v xs Z Z) (hne xs (by simp)) (LA (r ρ) xs);obtain⟨q,d,z,l,t⟩:=Jf r a vs (λi=>G (i+1)) _ p _ u s (λk b=>hB k b.1) (by simpa using hl) (λy I=>hne y (by simp[I])) (λi J n h m=>h1 (i+1) J n (by simpa using h) (by simpa using m)) (λi k b=>⟨h2 _ k b,λC=>by have:=h3 _ _ k b C;omega⟩) (λi j k D E=>by have:=h3 _ _ k D E;omega);refine⟨q,dX.le_trans f d,z,.cons (F.le d) l,t.mono λk b=>⟨⟨b.1,b.2 0⟩,λi=>b.2 (i+1)⟩⟩
theorem KH:∀vs:List Value,cellsOf eK.raw vs=vs
 | []=>rfl
 |v::vs=>by show v::cellsOf eK.raw vs=_;rw[KH vs]
end
section
variable {P:Program} {gs:zL} {w0:eN gs} {w:World} {ρ:dX} {H:GH}
theorem EZ {f:Nat} {a:List Value} {L:List bD} {V:Value} {g:GV} (c:aQ P f) (d:bA P f a.toArray L (λ_:Unit=>V) (λ_ l=>l) (λ_ l=>l)) (R:fP w0 ρ H w) (b:∀h∈L,h.p w All) (i:∀ρ,Rl ρ g V):kB P w0 ρ f a w g H:=by
 refine .inr ⟨c _ w,(d w All b).mono ?_⟩;rintro e j ⟨_,rfl,t⟩;exact⟨V,ρ,rfl,dX.le_refl _,R.ext' t.old.ext,i _⟩
theorem Pp {V W:Type} {e:eK V} {g:V->List GV} {q:eK W} {s:W->List GV} (hg:∀ρ x,oQ ρ (g x) (e.enc x)) (I:∀ρ x,oQ ρ (s x) (q.enc x)) {f:Nat} {S:List Value} {L:List bD} {r:List V×List (List W)} (C:r.1≠[]) (D:r.2≠[]) (h3:∀U∈r.2,U≠[]) (hb:aQ P f)
  (hm:bA P f S.toArray L (λx:Value×Value×List Value=>Value.agg #[x.1,x.2.1]) (λx l=>Ar e x.1 r.1::Ar eK.raw x.2.1 x.2.2::k_ q x.2.2 r.2::l) (λ_ l=>l)) (R:fP w0 ρ H w) (hL:∀h∈L,h.p w All):
  kB P w0 ρ f S w (.agg [.sl H.n 0 r.1.length e.sz,.sl (uV q.sz s r.2 (H.new (.cells (r.1.flatMap g)))).2.n 0 r.2.length 1]) ((uV q.sz s r.2 (H.new (.cells (r.1.flatMap g)))).2.new (.cells (uV q.sz s r.2 (H.new (.cells (r.1.flatMap g)))).1)):=by
 refine .inr ⟨hb _ w,(hm w All hL).mono ?_⟩;rintro en A ⟨x,rfl,t⟩;obtain⟨F,O,_⟩:=t.own;have q0:DL _ A (F 0) x.1 r.1:=O.res 0 _ Z;have q1:DL eK.raw A (F 1) x.2.1 x.2.2:=O.res 1 _ Z;obtain⟨z,G,q2,Q,q4⟩:(k_ q x.2.2 r.2).p A (F 2):=O.res 2 _ Z;have R':=R.ext' t.old.ext;have E:∀i k,F i k->w.heap.size<=k:=λi k c=>by
  rcases(O.rng i k c).1 with h|h
  ·exact h
  exact h.elim
 obtain⟨X,y,R1,K,A1⟩:=GI (B:=λk=>w.heap.size<=k) R' (λa o l C D=>Es.start R a o l C D) (λk c=> .inl (Nat.le_trans R.ext.size c)) (E 0) q0 C (LA (hg ρ) r.1);obtain⟨ad,j,R2,M,A2⟩:=Jf I r.2 x.2.2 G _ X _ R1 A1 (λk c=> .inl (Nat.le_trans R.ext.size c.1)) z h3 q2 (λi k c=>⟨E _ _ (Q i k c),λu=>by have:=O.dis _ _ k (Q i k c) u;omega⟩) q4;have J:x.2.2≠[]:=λu=>by rw[u]at z;exact D (List.eq_nil_of_length_eq_zero z.symm)
 obtain⟨Y,m,R3,N,_⟩:=GI (cs:=(uV q.sz s r.2 (H.new (.cells (r.1.flatMap g)))).1) (F:=F 1) R2 A2 (λk c=> .inl (Nat.le_trans R.ext.size c.1.1)) (λk c=>⟨⟨E _ _ c,λu=>by have:=O.dis _ _ k c u;omega⟩,λi hi=>by have:=O.dis _ _ k c (Q i k hi);omega⟩) q1 J (by rw[KH];exact M);refine⟨_,Y,rfl,dX.le_trans y (dX.le_trans j m),R3,?_⟩
 refine Fv (vs:=[x.1,x.2.1]) (.cons ((K.le j).le m) (.cons (by rw[<-z];exact N) .nil)) λv hv=>?_;have d:∀{γ:Type} {e:eK γ} {F:Nat->Prop} {v:Value} {U:List γ},DL e A F v U->one v=true:=λh=>by
  obtain⟨_,_,h⟩:=h;rcases h with⟨rfl,_⟩|⟨b,ac,aa,T,ab,rfl,_⟩<;>rfl
 simp at hv;rcases hv with rfl|rfl
 ·exact d q0
 exact d q1
end
noncomputable section
def Kq (H:GH) (v:GV):Option (List Int):=Np H 1 (dI .i64) v
def UG (H:GH) (v:GV):Option (List (List (Int×Int))):=Np H 1 (dS H 2 (dP 1 (dI .i64) (dI .i64))) v
def UF (H:GH) (v:GV):Option (List Int×List (List (Int×Int))):=ob v.asA λc=>List.casesOn (motive:=λ_=>Option (List Int×List (List (Int×Int)))) c none λa r=>List.casesOn (motive:=λ_=>Option (List Int×List (List (Int×Int)))) r none λb r=>List.casesOn (motive:=λ_=>Option (List Int×List (List (Int×Int)))) r (ob (Kq H a) λx=>ob (UG H b) λy=>some (x,y)) λ_ _=>none
end
section
variable {P:Program} {gs:zL} {w0:eN gs} {w:World} {ρ:dX} {H:GH}
theorem FE (R:fP w0 ρ H w) {v:GV} {V:Value} {a:List Int} (b:Rl ρ v V) (h:Kq H v=some a):(Sl (fH.int .i64) V a).p w All:=by
 obtain⟨d,rfl,c⟩:=DU R (λ_ _=>trivial) (iC.int .i64) b h;rw[List.map_id];exact c
theorem Sq (R:fP w0 ρ H w) {v:GV} {V:Value} {b:List (List (Int×Int))} (c:Rl ρ v V) (h:UG H v=some b):∃a,(S2 (fH.pair (fH.int .i64) (fH.int .i64)) V a b).p w All:=by
 obtain⟨a,rfl,d⟩:=DU R (λ_ _=>trivial) (iC.sl R (λ_ _=>trivial) (iC.pair (iC.int .i64) (iC.int .i64))) c h;exact⟨a,d,by simp⟩
theorem Sp (R:fP w0 ρ H w) {v:GV} {V:Value} {p:List Int×List (List (Int×Int))} (j:Rl ρ v V) (h:UF H v=some p):∃e f i,V = .agg #[e,f]∧(Sl (fH.int .i64) e p.1).p w All∧(S2 (fH.pair (fH.int .i64) (fH.int .i64)) f i p.2).p w All:=by
 obtain⟨c,g,h⟩:=aF.1 (show ob v.asA _=some p from h);rw[IF g]at j;obtain⟨k,rfl,d,_⟩:=j.agg_inv;cases c with
 |nil=>cases h
 |cons a c=>
 cases c with
 |nil=>cases h
 |cons b c=>
 cases c with
 |cons _ _=>cases h
 |nil=>
 obtain⟨x,n,h⟩:=aF.1 (show ob (Kq H a) _=some p from h);obtain⟨y,o,h⟩:=aF.1 h;cases h;obtain⟨e,k,rfl,l,d⟩:=d.of_cons;obtain⟨f,k,rfl,m,d⟩:=d.of_cons;rw[d.of_nil];obtain⟨i,q⟩:=Sq R m o;exact⟨e,f,i,rfl,FE R l n,q⟩
end
noncomputable section
section
variable {α R:Type}
def a0 (a:List α) (k:Option R):Option R:=List.casesOn (motive:=λ_=>Option R) a k (λ_ _=>none)
def a1 (b:List α) (k:α->Option R):Option R:=List.casesOn (motive:=λ_=>Option R) b none λa r=>a0 r (k a)
def a2 (b:List α) (k:α->α->Option R):Option R:=List.casesOn (motive:=λ_=>Option R) b none λa r=>a1 r (k a)
def a3 (b:List α) (k:α->α->α->Option R):Option R:=List.casesOn (motive:=λ_=>Option R) b none λa r=>a2 r (k a)
def a4 (b:List α) (k:α->α->α->α->Option R):Option R:=List.casesOn (motive:=λ_=>Option R) b none λa r=>a3 r (k a)
def a5 (us:List α) (k:α->α->α->α->α->Option R):Option R:=List.casesOn (motive:=λ_=>Option R) us none λa r=>a4 r (k a)
def a6 (b:List α) (k:α->α->α->α->α->α->Option R):Option R:=List.casesOn (motive:=λ_=>Option R) b none λa r=>a5 r (k a)
theorem Xa {a:List α} {k:Option R} {r:R} (h:a0 a k=some r):a=[]∧k=some r:=by
 cases a with
 |nil=>exact⟨rfl,h⟩
 |cons _ _=>cases h
theorem Qg {a:List α} {k:α->Option R} {r:R} (h:a1 a k=some r):∃x,a=[x]∧k x=some r:=by
 cases a with
 |nil=>cases h
 |cons x a=>obtain⟨rfl,h⟩:=Xa h;exact⟨x,rfl,h⟩
theorem Qh {a:List α} {k:α->α->Option R} {r:R} (h:a2 a k=some r):∃x y,a=[x,y]∧k x y=some r:=by
 cases a with
 |nil=>cases h
 |cons x a=>obtain⟨y,rfl,h⟩:=Qg h;exact⟨x,y,rfl,h⟩
theorem Xb {a:List α} {k:α->α->α->Option R} {r:R} (h:a3 a k=some r):∃x y z,a=[x,y,z]∧k x y z=some r:=by
 cases a with
 |nil=>cases h
 |cons x a=>obtain⟨y,z,rfl,h⟩:=Qh h;exact⟨x,y,z,rfl,h⟩
theorem Lk {a:List α} {k:α->α->α->α->Option R} {r:R} (h:a4 a k=some r):∃x y z u,a=[x,y,z,u]∧k x y z u=some r:=by
 cases a with
 |nil=>cases h
 |cons x a=>obtain⟨y,z,u,rfl,h⟩:=Xb h;exact⟨x,y,z,u,rfl,h⟩
theorem Xc {a:List α} {k:α->α->α->α->α->Option R} {r:R} (h:a5 a k=some r):∃x y z u v,a=[x,y,z,u,v]∧k x y z u v=some r:=by
 cases a with
 |nil=>cases h
 |cons x a=>obtain⟨y,z,u,v,rfl,h⟩:=Lk h;exact⟨x,y,z,u,v,rfl,h⟩
theorem Xd {a:List α} {k:α->α->α->α->α->α->Option R} {r:R} (h:a6 a k=some r):∃x y z u v w,a=[x,y,z,u,v,w]∧k x y z u v w=some r:=by
 cases a with
 |nil=>cases h
 |cons x a=>obtain⟨y,z,u,v,w,rfl,h⟩:=Xc h;exact⟨x,y,z,u,v,w,rfl,h⟩
end
def Yd (k:IntKind) (v:GV):Option Int:=ob v.asI λp=>bif eqK p.1 k then some p.2 else none
def UH (H:GH) (v:GV):Option (List Int):=Np H 1 (dI .u32) v
def ada (H:GH) (v:GV):Option (Int×List Int×List Int×List Int×Bool×Bool):=ob v.asA λg=>a6 g λa b c d e f=>ob (Yd .i64 a) λn=>ob (Kq H b) λx=>ob (Kq H c) λy=>ob (Kq H d) λz=>ob e.asB λp=>ob f.asB λq=>some (n,x,y,z,p,q)
def gI (n:Int):List GV:=[.int .i64 n]
def gP (p:Int×Int):List GV:=[.int .i64 p.1,.int .i64 p.2]
def fcI {R:Type} (l:List Int):(List Int->R)->R:=List.rec (motive:=λ_=>(List Int->R)->R) (λk=>k []) (λx _ a k=>fi x λx=>a λr=>k (x::r)) l
def fcP {R:Type} (l:List (Int×Int)):(List (Int×Int)->R)->R:=List.rec (motive:=λ_=>(List (Int×Int)->R)->R) (λk=>k []) (λx _ c k=>fi x.1 λa=>fi x.2 λb=>c λr=>k ((a,b)::r)) l
def fcR {R:Type} (l:List (List (Int×Int))):(List (List (Int×Int))->R)->R:=List.rec (motive:=λ_=>(List (List (Int×Int))->R)->R) (λk=>k []) (λx _ a k=>fcP x λx=>a λr=>k (x::r)) l
theorem US {R:Type}:∀(l:List Int) (k:List Int->R),fcI l k=k l
 | [],k=>rfl
 |x::l,k=>by
  show fi x (λx=>fcI l λr=>k (x::r))=_;rw[Kv,US l]
theorem UT {R:Type}:∀(l:List (Int×Int)) (k:List (Int×Int)->R),fcP l k=k l
 | [],k=>rfl
 |x::l,k=>by
  show fi x.1 (λa=>fi x.2 λb=>fcP l λr=>k ((a,b)::r))=_;rw[Kv,Kv,UT l]
theorem UU {R:Type}:∀(l:List (List (Int×Int))) (k:List (List (Int×Int))->R),fcR l k=k l
 | [],k=>rfl
 |x::l,k=>by
  show fcP x (λx=>fcR l λr=>k (x::r))=_;rw[UT,UU l]
def VO (b:Bool) (H:GH):OR:=Bool.casesOn (motive:=λ_=>OR) b (some (.bool false,H)) (some (.bool true,H))
def PE (r:List Int×List (List (Int×Int))) (H:GH):OR:=fcI r.1 λx=>fcR r.2 λy=>bif Nat.beq x.length 0 then none else bif Nat.beq y.length 0 then none else bif y.any λl=>Nat.beq l.length 0 then none else
 fc (x.flatMap gI) λl=>H.newK (.cells l) λh a=>fc (uV 2 gP y a).1 λd=>sn x.length λn=>sn y.length λm=>(uV 2 gP y a).2.newK (.cells d) λc b=>some (.agg [.sl h 0 n 1,.sl c 0 m 1],b)
end
section
variable {P:Program} {gs:zL} {w0:eN gs} {w:World} {ρ:dX} {H H':GH} {g:GV}
theorem oQ.one {x:GV} {vs:List Value} (h:oQ ρ [x] vs):∃V,vs=[V]∧Rl ρ x V:=by
 obtain⟨v,vs,rfl,a,b⟩:=h.of_cons;rw[b.of_nil];exact⟨v,rfl,a⟩
theorem Dk {k:IntKind} {v:GV} {V:Value} {n:Int} (a:Rl ρ v V) (h:Yd k v=some n):V = .int k n:=by
 obtain⟨p,c,h⟩:=aF.1 (show ob v.asI _=some n from h);obtain⟨b,h⟩:=bQ.1 h;cases h;rw[nT c]at a;rw[a.int_inv,GB b]
theorem Ui {v:GV} {V:Value} {b:Bool} (a:Rl ρ v V) (h:v.asB=some b):V = .bool b:=by
 rw[Bz h]at a;exact a.bool_inv
theorem No (R:fP w0 ρ H w) {v:GV} {V:Value} {a:List Int} (b:Rl ρ v V) (h:UH H v=some a):(Sl (fH.int .u32) V a).p w All:=by
 obtain⟨d,rfl,c⟩:=DU R (λ_ _=>trivial) (iC.int .u32) b h;rw[List.map_id];exact c
theorem Yc (R:fP w0 ρ H w) {v:GV} {V:Value} {p:Int×List Int×List Int×List Int×Bool×Bool} (l:Rl ρ v V) (h:ada H v=some p):
  ∃m o s,V = .agg #[.int .i64 p.1,m,o,s,.bool p.2.2.2.2.1,.bool p.2.2.2.2.2]∧(Sl (fH.int .i64) m p.2.1).p w All∧(Sl (fH.int .i64) o p.2.2.1).p w All∧(Sl (fH.int .i64) s p.2.2.2.1).p w All:=by
 obtain⟨T,k,h⟩:=aF.1 (show ob v.asA _=some p from h);obtain⟨a,b,c,d,e,f,rfl,h⟩:=Xd h;obtain⟨n,I,h⟩:=aF.1 h;obtain⟨x,L,h⟩:=aF.1 h;obtain⟨y,M,h⟩:=aF.1 h;obtain⟨z,N,h⟩:=aF.1 h;obtain⟨q,J,h⟩:=aF.1 h;obtain⟨r,K,h⟩:=aF.1 h;cases h;rw[IF k]at l;obtain⟨j,rfl,i,_⟩:=l.agg_inv;obtain⟨U,j,rfl,B,i⟩:=i.of_cons;obtain⟨O,j,rfl,C,i⟩:=i.of_cons;obtain⟨Q,j,rfl,D,i⟩:=i.of_cons;obtain⟨S,j,rfl,E,i⟩:=i.of_cons;obtain⟨W,j,rfl,F,i⟩:=i.of_cons;obtain⟨X,rfl,G⟩:=i.one;have t:=Dk B I;have u:=Ui F J;have A:=Ui G K;subst t u A;exact⟨O,Q,S,rfl,FE R C L,FE R D M,FE R E N⟩
theorem Jt {b:Bool} (h:VO b H=some (g,H')):g = .bool b∧H'=H:=by
 cases b<;>cases h<;>exact⟨rfl,rfl⟩
theorem NI {r:List Int×List (List (Int×Int))} (h:PE r H=some (g,H')):r.1≠[]∧r.2≠[]∧(∀a∈r.2,a≠[])∧
  g = .agg [.sl H.n 0 r.1.length 1,.sl (uV 2 gP r.2 (H.new (.cells (r.1.flatMap gI)))).2.n 0 r.2.length 1]∧H'=(uV 2 gP r.2 (H.new (.cells (r.1.flatMap gI)))).2.new (.cells (uV 2 gP r.2 (H.new (.cells (r.1.flatMap gI)))).1):=by
 unfold PE at h;rw[US,UU]at h;obtain⟨b,h⟩:=kN.1 h;obtain⟨c,h⟩:=kN.1 h;obtain⟨d,h⟩:=kN.1 h;rw[QN,iU,QN,wV,wV,iU]at h;cases h;refine⟨λe=>(by rw[e]at b;cases b),λe=>(by rw[e]at c;cases c),λa f e=>?_,rfl,rfl⟩
 have:=List.any_eq_false.1 d a f;rw[e]at this;exact this Z
theorem ade (ρ:dX) (x:Int):oQ ρ (gI x) [.int .i64 x]:= .cons (.int _ _) .nil
theorem adf (ρ:dX) (x:Int×Int):oQ ρ (gP x) [.int .i64 x.1,.int .i64 x.2]:= .cons (.int _ _) (.cons (.int _ _) .nil)
def glb (b:Nat) (a:List Value) (T:Nat):zL:=⟨[(b,.cells a.toArray T (0,0))],[]⟩
theorem Vb {b:Nat} {a:List Value} (w:World) (S:Nat->Prop) (h:∀h∈[Gb b a],h.p w S):∃T,Hg (glb b a T) w λ_=>False:=by
 obtain⟨_,T,c⟩:=h _ (List.mem_singleton.2 Z);exact⟨T,λp d=>by obtain rfl:=List.mem_singleton.1 d;exact⟨c,id⟩⟩
theorem fP.glb {b:Nat} {a:List Value} {T:Nat} {c:eN (glb b a T)} {w:World} {ρ:dX} {H:GH} (R:fP c ρ H w):(Gb b a).p w All:=⟨trivial,T,(R.glo _ (List.mem_singleton.2 Z)).1⟩
theorem LU {gs:Nat->zL} {f:Nat} {V:Value} {L:List bD} (q:∀w S,(∀h∈L,h.p w S)->∃T,Hg (gs T) w λ_=>False) (r:aQ P f) (y:∀ρ d,Rl ρ g d->d=V) (h:∀T (b:eN (gs T)),kB P b (λ_=>none) f [] b.w g H'):bA P f #[] L (λ_:Unit=>V) (λ_ l=>l) (λ_ l=>l):=by
 intro w0 o z;obtain⟨T,n⟩:=q w0 o z;rcases h T (.of w0 n)with⟨v,A,c,a,_⟩|⟨_,s⟩
 ·have x:=r #[] w0;rw[show([]:List Value).toArray = #[]from rfl]at a;rw[show(eN.of w0 n).w=w0 from rfl,x]at a;cases a
 refine s.mono ?_;rintro e A ⟨v,c,rfl,_,R,a⟩;exact⟨(),by rw[y _ _ a],R.ext,λ_ _=>False,⟨λi m u=>by simp at u,λi k h=>h.elim,λi j k h=>h.elim⟩,λf t=>by simp at t⟩
section
variable {tb:TB} {T:TypeId}
theorem Qj (h:BJ tb T=some [yD]) (H:GH):nM tb T H=some (.ptr H.n 0,H.new (.cells [yD])):=by
 unfold nM;rw[h];show H.newK (.cells [yD]) (λh H'=>some (GV.ptr h 0,H'))=_;rw[iU]
theorem Rv {t:Ty} (h:tb T=some t) (e:t.size=1) (H:GH) (k:Nat) (c:GV) (d:GH.cells H k=some [c]):jU tb T (.ptr k 0) yD H=some (.un,H.set k (.cells [yD])):=by
 show ob (H.cells k) (λb=>ob (tb T) λt=>bif Nat.beq 1 t.size then bif Nat.beq t.size 0 then none else ob (FI [yD] 0 b) λa=>H.setK k (.cells a) λH'=>some (GV.un,H')else none)=_;rw[d,h];show(bif Nat.beq 1 t.size then bif Nat.beq t.size 0 then none else ob (FI [yD] 0 [c]) λa=>H.setK k (.cells a) λH'=>some (GV.un,H')else none)=_;rw[e];show H.setK k (.cells [yD]) (λH'=>some (GV.un,H'))=_;rw[yI]
theorem Vw {t:Ty} (h:tb T=some t) (b:yN t.desc=false) (H:GH) (k:Nat) (c:GH.cells H k=some [yD]):pZ tb T (.ptr k 0) H=some yD:=by
 show ob (H.cells k) (λa=>ob (tb T) λt=>Bo t a 0)=_;rw[c,h];show Bo t [yD] 0=_;unfold Bo;rw[b];rfl
end
def Ls (a:Func):List Oper:=match a.body with
 |some (.seq (.region _ ops _) _)=>ops.toList
 |_=>[]
def Uw (a:Func):Code:=match a.body with
 |some (.seq _ c)=>c
 |_=> .skip
def Ya (a:Func):Nat:=match Ls a with
 |o::_=>o.dst.getD 0
 | []=>0
def okN (r:RS):Bool:=match r with
 |some o=>match o.e with
  | .normal=>true
  |_=>false
 |none=>false
theorem VP {r:RS} (h:okN r=true):∃a,r=some a∧a.e = .normal:=by
 unfold okN at h;cases r with
 |none=>cases h
 |some o=>
  refine⟨o,rfl,?_⟩
  cases b:o.e<;>simp only[b]at h<;>first|rfl|cases h
def okT (r:OR):Bool:=match r with
 |some (.bool true,_)=>true
 |_=>false
theorem VQ {r:OR} (h:okT r=true):∃H',r=some (.bool true,H'):=by
 unfold okT at h;split at h
 ·exact⟨_,rfl⟩
 ·cases h
end
end Go.Gx
namespace Go.Proofs.YtjkjpdonlpdcaaaGreatDoor
open Go.Sx
def nS  (a:Unit):Option (Bool):=
 some (true)
def iK (d:aT) (a:Int×List (Bool)) (c:(Int×List (Bool))->Option (Bool)) (b:Bool):Option (Bool):=
 if b=true then(some (false))else(ck ((0<=(at' d a.1)∧(at' d a.1)<((256:Nat):Int))∧List.length a.2=256) (c ((wI .i64 (a.1+(1:Int))),(List.set a.2 (Int.toNat (at' d a.1)) true))))
def gF (b:aT) (a:Int×List (Bool)) (c:(Int×List (Bool))->Option (Bool)):Option (Bool):=
 if a.1<(List.length b:Int)then(ck (0<=a.1∧a.1<(List.length b:Int)) (if(at' b a.1)<(0:Int)then(iK b a c (true))else(if(255:Int)<(at' b a.1)then(iK b a c (true))else(ck ((0<=(at' b a.1)∧(at' b a.1)<((256:Nat):Int))∧List.length a.2=256) (iK b a c ((at' a.2 (at' b a.1))))))))else(nS  (()))
def jH (U:Nat) (a:aT):Option (Bool):=
 bP (gF a) U ((0:Int),(List.replicate 256 false))
theorem Xs:aQ Tryz.prog 120:=Tryz.call120
theorem Dx (U:Nat) {d:aT} (n:Value) (r:Bool) (h:jH U d=some r):
  bA Tryz.prog 120 #[n] [Sl bN n d] (λx:Unit=>vB (r)) (λx l=>l) (λ_ l=>l):=by
 refine bA.of Tryz.func120 Z Tryz.ntmps120 Z λc=>?_;unfold jH at h;refine aS<|aC Z<|aK<|aS ?_;refine aG (aJ.alloc (cs:=cellsOf EBo (List.replicate 256 false)) Z (by kernel_rfl)) Z λm=>?_;refine aK<|aI<|d_ (λk=>nS  k=some r) (λk o=>[]) (λk o=>[]) ?_ ?_
 ·refine aS<|aA Z<|iH (aE.fact 0 Z) Z<|aA Z<|aK<|aU<|eH (gF d) (λa p=>[(3,vP m),(6,n),(7,vI (List.length d:Int)),(8,vI (a.1))]) (λa p=>[bH m (cellsOf EBo a.2) 200]) ((0:Int),(List.replicate 256 false)) () h SF (aY.refl _) ?_;intro q a p h;refine aS<|cP Z<|aK<|aI ?_;refine eZ h Z (λh=>?_) λh=>?_
  ·refine cE<|aI<|aU<|aS<|dK h λg h=>aB (aZ Z Z (aE.fact 0 Z) Z Z g) Z<|aB (bU Z (aE.fact 0 Z) Z Z Z cS g) Z<|aC Z<|aK<|aI<|aI<|d_ (λb=>iK d a (bP (gF d) q) b=some r) (λb f=>[(3,vP m),(5,vI (at' d a.1)),(6,n),(7,vI (List.length d:Int)),(8,vI (a.1)),(22,vB (b))]) (λb f=>[bH m (cellsOf EBo a.2) 200]) ?_ ?_
   ·refine aR<|aA Z<|cP Z<|aA Z ?_;refine Cd h Z (λ_ h=>?_) λ_ h=>?_
    ·refine aL Z<|aL Z<|dU Z<|aA Z<|aL Z<|aL Z<|aL Z<|dU Z<|aK ?_;exact iI (true) () h SF Z
    refine eS Z<|aV Z (Ah Z Z) Z<|e_ Z<|aA Z ?_;refine Cd h Z (λ_ h=>?_) λ_ h=>?_
    ·refine aL Z<|aL Z<|aL Z<|dU Z<|aK ?_;exact iI (true) () h SF Z
    refine eS Z<|dK h λj h=>aV Z (iV Z Z Z Z Z j.1) Z<|aV Z (R_ (e:=EBo) Z (aE.res 0 Z) Z Z Z Z j) Z<|e_ Z<|aK ?_;exact iI ((at' a.2 (at' d a.1))) () h SF Z
   intro b f h;refine yC h Z (λ_ h=>?_) λ_ h=>?_
   ·refine aS<|aC Z<|aK<|aP<|aH<|bO<|aH<|aH<|bO<|aH ?_;cases h;exact sV Z
   refine cE<|aR<|aA Z<|dK h λi h=>aB (iV Z Z Z Z Z i.1) Z<|Iv 0 (e:=EBo) true i Z Z Z Z Z Z Z<|fF<|mP<|aR<|cO Z<|aA Z<|aK ?_;exact Ai ((wI .i64 (a.1+(1:Int))),(List.set a.2 (Int.toNat (at' d a.1)) true)) () h SF Z
  refine fE ?_;exact bT () (()) h SF .nil (aD.refl _ _)
 intro k o h;unfold nS at h;refine aS<|aC Z<|aK<|aP ?_;cases h;exact kM Z
def vO (c:(List ((Int×Int)×Int))) (a:(Int×Int)×Int) (b:Option (Bool)):Option (Bool):=
 if(Option.getD (mF (a.1.2,a.1.1) c) (0:Int))≠a.2 then(some (false))else(b)
def iW  (a:(List ((Int×Int)×Int))):Option (Bool):=
 JW (vO a) (some (true)) a
def mO (b:Hz) (a:KP->Option (Bool)) (c:(List ((Int×Int)×Int))):Option (Bool):=
 a ((wI .i64 (b.1+(1:Int))),c)
def iX (e:gH) (b:Hz) (a:Hz) (c:KP->Option (Bool)) (d:Bool):Option (Bool):=
 if d=true then(some (false))else(if(Option.isSome (mF (b.1,((at' (at' e b.1) a.1).1)) a.2))=true then(some (false))else(c ((wI .i64 (a.1+(1:Int))),(CB (b.1,((at' (at' e b.1) a.1).1)) ((at' (at' e b.1) a.1).2) a.2))))
def gV (d:gH) (a:Hz) (b:Hz) (c:KP->Option (Bool)) (e:Bool):Option (Bool):=
 if e=true then(some (false))else(if((at' (at' d a.1) b.1).2)<(1:Int)then(iX d a b c (true))else(iX d a b c (decide ((15:Int)<((at' (at' d a.1) b.1).2)))))
def cF (d:gH) (a:Hz) (e:KP->Option (Bool)) (b:Hz) (c:KP->Option (Bool)):Option (Bool):=
 if b.1<(List.length (at' d a.1):Int)then(ck (0<=b.1∧b.1<(List.length (at' d a.1):Int)) (if((at' (at' d a.1) b.1).1)<(0:Int)then(gV d a b c (true))else(if(List.length d:Int)<=((at' (at' d a.1) b.1).1)then(gV d a b c (true))else(gV d a b c (decide (((at' (at' d a.1) b.1).1)=a.1))))))else(mO a e (b.2))
def dA (U:Nat) (c:gH) (a:Hz) (b:KP->Option (Bool)):Option (Bool):=
 if a.1<(List.length c:Int)then(ck (0<=a.1∧a.1<(List.length c:Int)) (bP (cF c a b) U ((0:Int),a.2)))else(iW  (a.2))
def gN (U:Nat) (a:gH):Option (Bool):=
 bP (dA U a) U ((0:Int),([]:List ((Int×Int)×Int)))
theorem Xt:aQ Tryz.prog 121:=Tryz.call121
theorem Gc (U:Nat) {f:gH} (n:Value)  (F:mH) (r:Bool) (h:gN U f=some r):
  bA Tryz.prog 121 #[n] [S2 aO n F f] (λx:Unit=>vB (r)) (λx l=>l) (λ_ l=>l):=by
 refine bA.of Tryz.func121 Z Tryz.ntmps121 Z λc=>?_;unfold gN at h;refine aS<|aC Z<|aK<|aS<|aG (aJ.makeMap nN Oj) Z λk=>aC Z<|aK<|aI<|d_ (λq=>iW  q=some r) (λq H=>[(3,Value.map (some k))]) (λq H=>[Mp nN Oj k q]) ?_ ?_
 ·refine aS<|aA Z<|aB (lY Z (aE.fact 0 Z) Z) Z<|aA Z<|aK<|aU<|eH (dA U f) (λd y=>[(0,n),(3,Value.map (some k)),(14,n),(15,vI (List.length f:Int)),(16,vI (d.1))]) (λd y=>[Mp nN Oj k d.2]) ((0:Int),([]:List ((Int×Int)×Int))) () h SF (aY.refl _) ?_;intro t d y h;refine aS<|cP Z<|aK<|aI ?_;refine eZ h Z (λh=>?_) λh=>?_
  ·refine cE<|aI<|d_ (λm=>mO d (bP (dA U f) t) m=some r) (λm z=>[(0,n),(3,Value.map (some k)),(14,n),(15,vI (List.length f:Int)),(16,vI (d.1))]) (λm z=>[Mp nN Oj k m]) ?_ ?_
   ·refine aU<|aS<|aA Z<|dK h λj h=>aB (cQ Z Z (aE.fact 0 Z) Z Z j) Z<|aB (cL Z (aE.fact 0 Z) Z Z j) Z<|aC Z<|aC Z<|aK<|aS<|aA Z<|aB (fG Z (aE.el (aE.fact 0 Z) j.1 j.2) Z) Z<|aA Z<|aK<|aU<|eH (cF f d (bP (dA U f) t)) (λe A=>[(0,n),(3,Value.map (some k)),(4,vI (d.1)),(14,n),(15,vI (List.length f:Int)),(16,vI (d.1)),(21,(at' F d.1).1),(22,vI (List.length (at' f d.1):Int)),(23,vI (e.1))]) (λe A=>[Mp nN Oj k e.2]) ((0:Int),d.2) () h SF (aY.refl _) ?_;intro E e A h;refine aS<|cP Z<|aK<|aI ?_;refine eZ h Z (λh=>?_) λh=>?_
    ·refine cE<|aI<|aU<|aS<|dK h λD h=>aB (aZ Z Z (aE.el (aE.fact 0 Z) j.1 j.2) Z Z D) Z<|aB (c_ (cs:=[vI ((at' (at' f d.1) e.1).1),vI ((at' (at' f d.1) e.1).2)]) Z (aE.el (aE.fact 0 Z) j.1 j.2) bB Z Z Z Z D) Z<|aG (aJ.alloc (cs:=Ms) Z Z) Z λs=>bR 0 (vs:=[vI ((at' (at' f d.1) e.1).1),vI ((at' (at' f d.1) e.1).2)]) Z Z Z Z Z Z<|aK<|aI<|aI<|d_ (λo=>gV f d e (bP (cF f d (bP (dA U f) t)) E) o=some r) (λo B=>[(0,n),(3,Value.map (some k)),(4,vI (d.1)),(7,vP s),(14,n),(15,vI (List.length f:Int)),(16,vI (d.1)),(21,(at' F d.1).1),(22,vI (List.length (at' f d.1):Int)),(23,vI (e.1)),(42,vB (o))]) (λo B=>[bH s [vI ((at' (at' f d.1) e.1).1),vI ((at' (at' f d.1) e.1).2)] 97,Mp nN Oj k e.2]) ?_ ?_
     ·refine aR<|bX Z<|cJ 0 Z<|cP Z<|aA Z ?_;refine Cd h Z (λ_ h=>?_) λ_ h=>?_
      ·refine aL Z<|aL Z<|aL Z<|aL Z<|aL Z<|dU Z<|aA Z<|aL Z<|aL Z<|aL Z<|aL Z<|dU Z<|aK ?_;exact iI (true) () h SF Z
      refine aV Z (dR Z Z Z Z Z) Z<|aV Z (cK 0 Z Z Z Z Z) Z<|eS Z<|aV Z (lY Z (aE.fact 0 Z) Z) Z<|aV Z (wP Z Z) Z<|e_ Z<|aA Z ?_;refine Cd h Z (λ_ h=>?_) λ_ h=>?_
      ·refine aL Z<|aL Z<|aL Z<|aL Z<|dU Z<|aK ?_;exact iI (true) () h SF Z
      refine aV Z (dR Z Z Z Z Z) Z<|aV Z (cK 0 Z Z Z Z Z) Z<|eS Z<|aV Z (De Z Z) Z<|e_ Z<|aK ?_;exact iI (decide (((at' (at' f d.1) e.1).1)=d.1)) () h SF Z
     intro o B h;refine yC h Z (λ_ h=>?_) λ_ h=>?_
     ·refine aS<|aC Z<|aK<|aP<|aH<|bO<|aH<|aH<|bO<|bO<|aH<|aH<|bO<|aH ?_;cases h;exact sV Z
     refine cE<|aI<|aI<|d_ (λp=>iX f d e (bP (cF f d (bP (dA U f) t)) E) p=some r) (λp C=>[(0,n),(3,Value.map (some k)),(4,vI (d.1)),(7,vP s),(14,n),(15,vI (List.length f:Int)),(16,vI (d.1)),(21,(at' F d.1).1),(22,vI (List.length (at' f d.1):Int)),(23,vI (e.1)),(50,vB (p))]) (λp C=>[bH s [vI ((at' (at' f d.1) e.1).1),vI ((at' (at' f d.1) e.1).2)] 97,Mp nN Oj k e.2]) ?_ ?_
     ·refine aR<|bX Z<|cJ 0 Z<|cP Z<|aA Z ?_;refine Cd h Z (λ_ h=>?_) λ_ h=>?_
      ·refine aL Z<|aL Z<|aL Z<|dU Z<|aK ?_;exact iI (true) () h SF Z
      refine aV Z (dR Z Z Z Z Z) Z<|aV Z (cK 0 Z Z Z Z Z) Z<|aV Z (Ah Z Z) Z<|e_ Z<|aK ?_;exact iI (decide ((15:Int)<((at' (at' f d.1) e.1).2))) () h SF Z
     intro p C h;refine yC h Z (λ_ h=>?_) λ_ h=>?_
     ·refine aS<|aC Z<|aK<|aP<|aH<|bO<|aH<|aH<|bO<|bO<|aH<|aH<|bO<|aH ?_;cases h;exact sV Z
     refine cE<|aS<|aA Z<|bX Z<|cJ 0 Z ?_;refine aB (Cm (r:=Value.agg #[vI (d.1),vI ((at' (at' f d.1) e.1).1)]) Z Z (by intro w;simp[Instr.build,Instr.fill,eP,dV,dH,eQ,eR,dW,fS])) Z ?_;refine aG (aJ.alloc (cs:=Ms) Z Z) Z λK=>bR 0 (vs:=[vI (d.1),vI ((at' (at' f d.1) e.1).1)]) Z Z Z Z Z Z<|aK<|aI<|aS<|aA Z<|dM 0 Z ?_;refine aB (Nb 2 ((d.1,((at' (at' f d.1) e.1).1))) (u:=vI (Option.getD (mF (d.1,((at' (at' f d.1) e.1).1)) e.2) (0:Int))) Pv Z Z Z Z Z (by cases mF ((d.1,((at' (at' f d.1) e.1).1))) e.2<;>rfl)) Z ?_;refine aA Z<|iG Z<|iG Z<|aC Z<|aC Z<|aK<|aS<|aA Z<|aK ?_;refine yC h Z (λ_ h=>?_) λ_ h=>?_
     ·refine aS<|aC Z<|aK<|aP<|aH<|bO<|aH<|aH<|bO<|bO<|aH<|aH<|bO<|aH ?_;cases h;exact sV Z
     refine cE<|aR<|aA Z<|dM 0 Z<|bX Z<|cJ 1 Z<|MA 2 ((d.1,((at' (at' f d.1) e.1).1))) ((at' (at' f d.1) e.1).2) Pv Z Z Z Z Z<|fF<|mP<|aR<|cO Z<|aA Z<|aK ?_;exact lT ((wI .i64 (e.1+(1:Int))),(CB (d.1,((at' (at' f d.1) e.1).1)) ((at' (at' f d.1) e.1).2) e.2)) () h SF (aY.ix [2] Z Z) (aD.refl _ _)
    refine yJ<|iQ<|iQ<|BK<|mP ?_;exact iI (e.2) () h SF Z
   intro m z h;unfold mO at h;refine aR<|cO Z<|aA Z<|aK ?_;exact Ai ((wI .i64 (d.1+(1:Int))),m) () h SF Z
  refine fE ?_;exact iI (d.2) () h SF Z
 intro q H h;unfold iW at h;refine aI<|aS<|aA Z<|aG (aJ.range 0 Z Z Z) Z λI=>aK<|aU<|WW [(3,Value.map (some k)),(69,vP I)] [It I k (List.length q) ([]),Mp nN Oj k q] [S2 aO n F f] SF (aY.refl _) (aD.refl _ _) ?_;refine RP (vO q) 1 0 (by intro a b x;unfold vO;repeat' split;all_goals first|rfl|contradiction|simp_all) h Z Z Z Z Z Z ?_ ?_
 ·skip
  intro g N G M v h;refine aU<|aS<|aG (aJ.entry 1 0 v Z Z Z) Z λL=>iG Z<|iG Z<|aG (aJ.alloc (cs:=Ms) Z Z) Z λJ=>bR 0 (vs:=[vI (g.1.1),vI (g.1.2)]) Z Z Z Z Z Z<|aC Z<|aK<|aS<|aA Z ?_;refine aB (iV (i:=1) Z Z Z Z Z (by decide)) Z ?_;refine cJ 0 Z ?_;refine aB (iV (i:=0) Z Z Z Z Z (by decide)) Z ?_;refine cJ 0 Z ?_;refine aB (Cm (r:=Value.agg #[vI (g.1.2),vI (g.1.1)]) Z Z (by intro w;simp[Instr.build,Instr.fill,eP,dV,dH,eQ,eR,dW,fS])) Z ?_;refine aB (Nb 2 ((g.1.2,g.1.1)) (u:=vI (Option.getD (mF (g.1.2,g.1.1) q) (0:Int))) Pv Z Z Z Z Z (by cases mF ((g.1.2,g.1.1)) q<;>rfl)) Z ?_;refine aA Z<|oT Z<|aK ?_;refine eZ h Z (λh=>?_) λh=>?_
  ·refine aS<|aC Z<|aK<|aP<|bO<|aH<|bO<|aH ?_;cases h;exact sV Z
  refine dJ<|mP ?_;exact OJ h SF (aY.ix [1,2] Z Z) (aD.refl _ _)
 intro G h;refine BK<|Bc<|aS<|aC Z<|aK<|aP ?_;cases h;exact sV Z
def pR  (a:Bool):Option (Bool):=
 some (a)
def pQ (U:Nat) (b:cB) (c:Bool):Option (Bool):=
 if c=true then(some (false))else(Option.bind (jH U b.1) λd=>(if d=true then(Option.bind (gN U b.2) λa=>(pR  (a)))else(pR  (false))))
def eM (U:Nat) (a:cB):Option (Bool):=
 if(List.length a.1:Int)<(1:Int)then(pQ U a (true))else(if(24:Int)<(List.length a.1:Int)then(pQ U a (true))else(pQ U a (decide ((List.length a.2:Int)≠(List.length a.1:Int)))))
theorem Gv:aQ Tryz.prog 50:=Tryz.call50
theorem rO (U:Nat) {p0:cB} (f:Value)  (g:Value)  (o:mH) (r:Bool) (h:eM U p0=some r):
  bA Tryz.prog 50 #[Value.agg #[f,g]] [Sl bN f p0.1,S2 aO g o p0.2] (λx:Unit=>vB (r)) (λx l=>l) (λ_ l=>l):=by
 refine bA.of Tryz.func50 Z Tryz.ntmps50 Z λc=>?_;refine aS<|aG (aJ.box (cs:=[f,g]) Z Z) Z λk=>aC Z<|aK<|aS<|bX Z<|cJ 0 Z<|iH (aE.fact 0 Z) Z<|aC Z<|aK<|aI<|aI<|d_ (λb=>pQ U p0 b=some r) (λb m=>[(1,vP k),(19,vB (b))]) (λb m=>[bH k [f,g] 27]) ?_ ?_
 ·refine aR<|aA Z<|cP Z<|aA Z ?_;refine Cd h Z (λ_ h=>?_) λ_ h=>?_
  ·refine aL Z<|aL Z<|dU Z<|aA Z<|aL Z<|aL Z<|aL Z<|aL Z<|aL Z<|dU Z<|aK ?_;exact iI (true) () h SF Z
  refine eS Z<|aV Z (Ah Z Z) Z<|e_ Z<|aA Z ?_;refine Cd h Z (λ_ h=>?_) λ_ h=>?_
  ·refine aL Z<|aL Z<|aL Z<|aL Z<|aL Z<|dU Z<|aK ?_;exact iI (true) () h SF Z
  refine aV Z (dR Z Z Z Z Z) Z<|aV Z (cK 0 Z Z Z Z Z) Z<|aV Z (lY Z (aE.fact 1 Z) Z) Z<|eS Z<|aV Z (Bh Z Z) Z<|e_ Z<|aK ?_;exact iI (decide ((List.length p0.2:Int)≠(List.length p0.1:Int))) () h SF Z
 intro b m h;refine yC h Z (λ_ h=>?_) λ_ h=>?_
 ·refine aS<|aC Z<|aK<|aP<|aH ?_;cases h;exact sV Z
 refine cE<|aI<|d_ (λd=>pR  d=some r) (λd n=>[(2,vB (d))]) (λd n=>[]) ?_ ?_
 ·refine aR<|bX Z<|cJ 0 Z<|eL h λp i h=>aG (aJ.callQ Xs (Dx U f p i) Z (lJ [0] Z)) Z λq=>aA Z ?_;refine Cf (by exact rfl) (by exact rfl) (λa=>?_) (λa=>?_)
  ·have h:=Ie a h;refine aV Z (dR Z Z Z Z Z) Z<|aV Z (cK 0 Z Z Z Z Z) Z<|eL h λe j h=>rQ Z (aJ.callQ Xt (Gc U g o e j) Z (lJ [1] Z)) Z λs=>dU Z<|aC Z<|aK ?_;exact bT (e) () h SF .nil (aD.refl _ _)
  have h:=Je a h;refine aL Z<|aL Z<|aL Z<|e_ Z<|aC Z<|aK ?_;exact bT (false) () h SF .nil (aD.refl _ _)
 intro d n h;unfold pR at h;refine aP ?_;cases h;exact kM Z
def rF  (a:Int):Option (Int):=
 some (a)
def fW (U:Nat) (b:Int) (a:Int):Option (Int):=
 if a<(1:Int)then(some (0:Int))else(ck (a≠0) (if(Int.tmod b a)<(0:Int)then(rF  (wI .i64 ((Int.tmod b a)+a)))else(rF  (Int.tmod b a))))
theorem Co:aQ Tryz.prog 15:=Tryz.call15
theorem jO (U:Nat) {d:Int} {b:Int} (r:Int) (h:fW U d b=some r):
  bA Tryz.prog 15 #[vI (d),vI (b)] [] (λx:Unit=>vI (r)) (λx l=>l) (λ_ l=>l):=by
 refine bA.of Tryz.func15 Z Tryz.ntmps15 Z λc=>?_;refine aS<|aC Z<|aK<|aI<|aS<|aA Z<|cP Z<|aK ?_;refine eZ h Z (λh=>?_) λh=>?_
 ·refine aS<|aC Z<|aK<|aP<|aH ?_;cases h;exact kM Z
 refine cE<|aS<|aA Z<|aA Z<|dK h λf h=>aB (Nf Z Z f) Z<|aC Z<|aK<|aI<|d_ (λa=>rF  a=some r) (λa e=>[(0,vI (a))]) (λa e=>[]) ?_ ?_
 ·refine aS<|aA Z<|cP Z<|aK ?_;refine eZ h Z (λh=>?_) λh=>?_
  ·refine aR<|aA Z<|aA Z<|cO Z<|aC Z<|aK ?_;exact iI (wI .i64 ((Int.tmod d b)+b)) () h SF Z
  refine cE ?_;exact iI (Int.tmod d b) () h SF Z
 intro a e h;unfold rF at h;refine aS<|aA Z<|aC Z<|aK<|aP ?_;cases h;exact kM Z
def sR (U:Nat) (b:aT) (a:Int):Option (Int):=
 if a<(List.length b:Int)then(ck (0<=a∧a<(List.length b:Int)) (some (at' b a)))else(some (0:Int))
theorem IJ:aQ Tryz.prog 32:=Tryz.call32
theorem AW (U:Nat) {b:aT} {d:Int} (e:Value) (r:Int) (h:sR U b d=some r):
  bA Tryz.prog 32 #[e,vI (d)] [Sl bN e b] (λx:Unit=>vI (r)) (λx l=>l) (λ_ l=>l):=by
 refine bA.of Tryz.func32 Z Tryz.ntmps32 Z λc=>?_;refine aS<|aC Z<|aK<|aI<|aS<|aA Z<|aA Z<|iH (aE.fact 0 Z) Z<|cP Z<|aK ?_;refine eZ h Z (λh=>?_) λh=>?_
 ·refine aS<|aA Z<|aA Z<|dK h λa h=>aB (aZ Z Z (aE.fact 0 Z) Z Z a) Z<|aB (bU Z (aE.fact 0 Z) Z Z Z cS a) Z<|aC Z<|aK<|aP<|aH ?_;cases h;exact kM Z
 refine cE<|aS<|aC Z<|aK<|aP ?_;cases h;exact kM Z
def oD (b:Int) (a:aT):Option tO:=
 some ((a,(List.replicate (Int.toNat (wI .i64 ((1:Int)+b))) ([]:b_))))
def sG (a:Bu) (c:(Int×aT)->Option tO) (b:Int):Option tO:=
 ck ((List.length a.2:Int)+(List.length ([b]):Int)<=1099511627) (c ((wI .i64 (a.1+(1:Int))),(a.2++[b])))
def lB (b:iO->Option tO) (a:eD):Option tO:=
 b (a.1,(wI .i64 (a.2+(1:Int))))
def lC (b:Bu) (d:(Int×aT)->Option tO) (a:eD) (c:iO->Option tO):Option tO:=
 if a.2<b.1 then(ck (0<=a.2∧a.2<(List.length b.2:Int)) (if(at' b.2 a.2)=a.1 then(ck ((256:Int)≠0) (lB c ((Int.tmod (wI .i64 (a.1+(1:Int))) (256:Int)),(-1:Int))))else(lB c (a.1,a.2))))else(sG b d (a.1))
def jB (U:Nat) (f:CZ) (e:Int) (a:Bu) (b:(Int×aT)->Option tO):Option tO:=
 if a.1<(wI .i64 ((1:Int)+e))then(Option.bind (sR U f.2.2.2.1 a.1) λc=>(Option.bind (fW U c (256:Int)) λd=>(bP (lC a b) U (d,(0:Int)))))else(oD e (a.2))
def pC (U:Nat) (b:CZ) (c:Int):Option tO:=
 Option.bind (fW U (wI .i64 (b.1 - (1:Int))) c) λa=>(ck (0<=(wI .i64 ((1:Int)+a))∧(wI .i64 ((1:Int)+a))<=1099511627) (bP (jB U b a) U ((0:Int),([]:aT))))
theorem aak:aQ Tryz.prog 55:=Tryz.call55
theorem Eo (U:Nat) {d:CZ} {S:Int} (y:Value)  (z:Value)  (u:Value) (r:Cb) (h:pC U d S=some r):
  bA Tryz.prog 55 #[Value.agg #[vI (d.1),y,z,u,vB (d.2.2.2.2.1),vB (d.2.2.2.2.2)],vI (S)] [Sl bN y d.2.1,Sl bN z d.2.2.1,Sl bN u d.2.2.2.1] (λx:Value×Value×List Value=>Value.agg #[x.1,x.2.1]) (λx l=>Ar cM x.1 r.1::Ar eK.raw x.2.1 x.2.2::k_ bS x.2.2 r.2::l) (λ_ l=>l):=by
 refine bA.of Tryz.func55 Z Tryz.ntmps55 Z λc=>?_;refine aS<|aG (aJ.box (cs:=[vI (d.1),y,z,u,vB (d.2.2.2.2.1),vB (d.2.2.2.2.2)]) Z Z) Z λt=>aG (aJ.alloc (cs:=[lS,lS]) Z Z) Z λq=>aK<|aS<|bX Z<|cJ 1 Z<|aB (mJ Z Z) Z<|aA Z<|eL h λb W h=>aG (aJ.callQ Co (jO U  b W) Z .nil) Z λx5=>cO Z<|aC Z<|aK<|aS<|aA Z<|dK h λT h=>jY (zM bS (Int.toNat (wI .i64 ((1:Int)+b))))<|aG (sD (e:=eK.raw) (lS) Z Z Z Z T Z Z Z) Z λn=>dB (Know.one (aE.sl (bJ (i:=0) (j:=1) Z Z bB))) λK=>?_;refine aB (TY (r:=Value.agg #[lS,n]) Z (by intro w;simp[Instr.build,Instr.fill,eP,dV,dH,eQ,eR,dW,fS,iL K])) Z ?_;refine aG (aJ.alloc (cs:=[lS,lS]) Z Z) Z λs=>dB (Know.one (aE.sl (bJ (i:=1) (j:=2) Z Z bB))) λE=>bR 0 (vs:=[lS,n]) Z Z (dQ Z (dQ E Z)) Z Z Z<|aK<|aI<|Cz (B:=Value) (λp=>oD b p=some r) (λp o=>[(4,vP q),(6,vP s)]) (λp o=>[bH s [o,n] 27,Ar eK.raw n (List.replicate (Int.toNat (wI .i64 ((1:Int)+b))) (lS)),k_ bS (List.replicate (Int.toNat (wI .i64 ((1:Int)+b))) (lS)) (List.replicate (Int.toNat (wI .i64 ((1:Int)+b))) ([]:b_)),bH q [lS,lS] 27,Ar cM o p]) ?_ ?_
 ·refine aS<|aC Z<|aK<|aU<|jY (f_ cM)<|eH (B:=Value) (jB U d b) (λa f=>[(2,vP t),(4,vP q),(5,vI (wI .i64 ((1:Int)+b))),(6,vP s),(7,vI (a.1))]) (λa f=>[bH s [f,n] 27,Ar eK.raw n (List.replicate (Int.toNat (wI .i64 ((1:Int)+b))) (lS)),k_ bS (List.replicate (Int.toNat (wI .i64 ((1:Int)+b))) (lS)) (List.replicate (Int.toNat (wI .i64 ((1:Int)+b))) ([]:b_)),bH q [lS,lS] 27,bH t [vI (d.1),y,z,u,vB (d.2.2.2.2.1),vB (d.2.2.2.2.2)] 24,Ar cM f a.2]) ((0:Int),([]:aT)) (lS) h SF (aY.ix [1,2,3,4,5,0] Z Z) ?_;intro v a f h;refine aI<|aS<|aA Z<|aA Z<|cP Z<|aK ?_;refine eZ h Z (λh=>?_) λh=>?_
  ·refine cE<|aI<|aU<|aS<|bX Z<|cJ 4 Z<|aA Z<|eL h λO Q h=>aG (aJ.callQ IJ (AW U u O Q) Z (lJ [2] Z)) Z λX=>eL h λJ R h=>aG (aJ.callQ Co (jO U  J R) Z .nil) Z λY=>aC Z<|aK<|aI<|d_ (λg=>sG a (bP (jB U d b) v) g=some r) (λg A=>[(2,vP t),(4,vP q),(5,vI (wI .i64 ((1:Int)+b))),(6,vP s),(7,vI (a.1)),(8,vI (g))]) (λg A=>[bH s [f,n] 27,Ar eK.raw n (List.replicate (Int.toNat (wI .i64 ((1:Int)+b))) (lS)),k_ bS (List.replicate (Int.toNat (wI .i64 ((1:Int)+b))) (lS)) (List.replicate (Int.toNat (wI .i64 ((1:Int)+b))) ([]:b_)),bH q [lS,lS] 27,bH t [vI (d.1),y,z,u,vB (d.2.2.2.2.1),vB (d.2.2.2.2.2)] 24,Ar cM f a.2]) ?_ ?_
   ·refine aS<|aC Z<|aK<|aU<|eH (lC a (bP (jB U d b) v)) (λk C=>[(2,vP t),(4,vP q),(5,vI (wI .i64 ((1:Int)+b))),(6,vP s),(7,vI (a.1)),(8,vI (k.1)),(9,vI (k.2))]) (λk C=>[bH s [f,n] 27,Ar eK.raw n (List.replicate (Int.toNat (wI .i64 ((1:Int)+b))) (lS)),k_ bS (List.replicate (Int.toNat (wI .i64 ((1:Int)+b))) (lS)) (List.replicate (Int.toNat (wI .i64 ((1:Int)+b))) ([]:b_)),bH q [lS,lS] 27,bH t [vI (d.1),y,z,u,vB (d.2.2.2.2.1),vB (d.2.2.2.2.2)] 24,Ar cM f a.2]) (J,(0:Int)) () h SF (aY.refl _) ?_;intro N k C h;refine aI<|aS<|aA Z<|aA Z<|cP Z<|aK ?_;refine eZ h Z (λh=>?_) λh=>?_
    ·refine cE<|aI<|d_ (λm=>lB (bP (lC a (bP (jB U d b) v)) N) m=some r) (λm D=>[(2,vP t),(4,vP q),(5,vI (wI .i64 ((1:Int)+b))),(6,vP s),(7,vI (a.1)),(8,vI (m.1)),(9,vI (m.2))]) (λm D=>[bH s [f,n] 27,Ar eK.raw n (List.replicate (Int.toNat (wI .i64 ((1:Int)+b))) (lS)),k_ bS (List.replicate (Int.toNat (wI .i64 ((1:Int)+b))) (lS)) (List.replicate (Int.toNat (wI .i64 ((1:Int)+b))) ([]:b_)),bH q [lS,lS] 27,bH t [vI (d.1),y,z,u,vB (d.2.2.2.2.1),vB (d.2.2.2.2.2)] 24,Ar cM f a.2]) ?_ ?_
     ·refine aU<|aS<|bX Z<|cJ 0 Z<|aA Z<|dK h λI h=>aB (aZ Z Z (aX (aE.res 5 Z) cU) Z Z I) Z<|aB (bU Z (aX (aE.res 5 Z) cU) Z Z Z cS I) Z<|aA Z<|cC Z<|aK ?_;refine eZ h Z (λh=>?_) λh=>?_
      ·refine aR<|aA Z<|cO Z<|dK h λM h=>aB (Nf Z Z M) Z<|aC Z<|aC Z<|fF<|mP ?_;exact iI ((Int.tmod (wI .i64 (k.1+(1:Int))) (256:Int)),(-1:Int)) () h SF Z
      refine dJ<|mP ?_;exact iI (k.1,k.2) () h SF Z
     intro m D h;unfold lB at h;refine aR<|aA Z<|cO Z<|aC Z<|aK ?_;exact Ai (m.1,(wI .i64 (m.2+(1:Int)))) () h SF Z
    refine fE ?_;exact iI (k.1) () h SF Z
   intro g A h;refine aR<|bX Z<|cJ 0 Z<|aA Z<|aG (cW (e:=cM) ([g]) [(0,vI (g))] Z Z Z Z (pP (vI (g)) Z) Z Z Z) Z λV=>dK h λL h=>aG (g_ 6 cU Z Z Z (aX (aE.res 0 Z) cU) Z Z Z Z L Z) Z λP=>bX Z<|dB (Know.one ((aX (aE.res 6 Z) cU))) λH=>gR 1 Z Z H Z Z Z<|fF<|mP<|aR<|aA Z<|cO Z<|aC Z<|aK ?_;exact lT ((wI .i64 (a.1+(1:Int))),(a.2++[g])) (P) h SF (aY.ix [1,2,3,4,5,6] Z Z) (aD.refl _ _)
  refine fE ?_;exact bT (a.2) (f) h SF (aY.ix [0,1,2,3,5] Z Z) (aD.refl _ _)
 intro p o h;unfold oD at h;refine aS<|dM 0 Z<|dB (Know.one ((aX (aE.res 4 Z) cU))) λF=>dB (Know.one (aE.sl (bJ (i:=1) (j:=2) Z Z bB))) λG=>bR 3 (vs:=[o,n]) Z Z (dQ F (dQ G Z)) Z Z Z<|aK<|aP ?_;cases h;exact kC (o,n,(List.replicate (Int.toNat (wI .i64 ((1:Int)+b))) (lS))) Z Z (RV.cell 3 Z Z Z Z) (aY.ix [4,1,2] Z Z) aD.nil
def vL  (a:Unit):Option (Bool):=
 some (false)
def Ag (c:cB) (a:Int) (e:Int) (b:Int) (d:(Int)->Option (Bool)):Option (Bool):=
 ck (0<=a∧a<(List.length c.2:Int)) (if b<(List.length (at' c.2 a):Int)then(ck (0<=a∧a<(List.length c.2:Int)) (ck (0<=b∧b<(List.length (at' c.2 a):Int)) (if((at' (at' c.2 a) b).1)=e then(some (true))else(d (wI .i64 (b+(1:Int)))))))else(vL  (())))
def nF (U:Nat) (a:cB) (b:Int) (c:Int):Option (Bool):=
 bP (Ag a b c) U (0:Int)
theorem Xy:aQ Tryz.prog 163:=Tryz.call163
theorem JJ (U:Nat) {g:cB} {i:Int} {j:Int} (k:Value)  (m:Value)  (q:mH) (r:Bool) (h:nF U g i j=some r):
  bA Tryz.prog 163 #[Value.agg #[k,m],vI (i),vI (j)] [Sl bN k g.1,S2 aO m q g.2] (λx:Unit=>vB (r)) (λx l=>l) (λ_ l=>l):=by
 refine bA.of Tryz.func163 Z Tryz.ntmps163 Z λc=>?_;unfold nF at h;refine aS<|aG (aJ.box (cs:=[k,m]) Z Z) Z λn=>aC Z<|aK<|aI<|d_ (λd=>vL  d=some r) (λd o=>[]) (λd o=>[]) ?_ ?_
 ·refine aS<|aC Z<|aK<|aU<|eH (Ag g i j) (λe p=>[(1,vI (i)),(2,vI (j)),(3,vP n),(7,vI (e))]) (λe p=>[bH n [k,m] 27]) (0:Int) () h SF (aY.refl _) ?_;intro s e p h;refine aI<|aS<|aA Z<|bX Z<|cJ 0 Z<|aA Z<|dK h λf h=>aB (cQ Z Z (aE.fact 1 Z) Z Z f) Z<|aB (cL Z (aE.fact 1 Z) Z Z f) Z<|aB (fG Z (aE.el (aE.fact 1 Z) f.1 f.2) Z) Z<|cP Z<|aK ?_;refine eZ h Z (λh=>?_) λh=>?_
  ·refine cE<|aI<|aU<|aS<|bX Z<|cJ 0 Z<|aA Z<|dK h λa h=>aB (cQ Z Z (aE.fact 1 Z) Z Z a) Z<|aB (cL Z (aE.fact 1 Z) Z Z a) Z<|aA Z<|dK h λb h=>aB (aZ Z Z (aE.el (aE.fact 1 Z) a.1 a.2) Z Z b) Z<|aB (mC Z Z Z Z Z) Z<|aB (jK Z (aE.el (aE.fact 1 Z) a.1 a.2) Z Z Z oM b) Z<|aA Z<|cC Z<|aK ?_;refine eZ h Z (λh=>?_) λh=>?_
   ·refine aS<|aC Z<|aK<|aP<|bO<|aH<|aH<|bO<|aH ?_;cases h;exact sV Z
   refine dJ<|mP<|aR<|aA Z<|cO Z<|aC Z<|aK ?_;exact Ai (wI .i64 (e+(1:Int))) () h SF Z
  refine fE ?_;exact bT () (()) h SF .nil (aD.refl _ _)
 intro d o h;unfold vL at h;refine aS<|aC Z<|aK<|aP ?_;cases h;exact kM Z
def oV (f:CZ) (c:cB) (a:Int) (b:Int) (d:Int) (e:Bool):Option (gH):=
 if e=true then(some (c.2))else(if f.2.2.2.2.2=true then(ck (0<=a∧a<(List.length c.2:Int)) (ck ((List.length ([(b,d)]):Int)+(List.length (at' c.2 a):Int)<=1099511627) (ck (0<=a∧a<(List.length c.2:Int)) (ck (0<=b∧b<(List.length (List.set c.2 (Int.toNat a) (([(b,d)])++(at' c.2 a))):Int)) (ck ((List.length ([(a,d)]):Int)+(List.length (at' (List.set c.2 (Int.toNat a) (([(b,d)])++(at' c.2 a))) b):Int)<=1099511627) (ck (0<=b∧b<(List.length (List.set c.2 (Int.toNat a) (([(b,d)])++(at' c.2 a))):Int)) (some (List.set (List.set c.2 (Int.toNat a) (([(b,d)])++(at' c.2 a))) (Int.toNat b) (([(a,d)])++(at' (List.set c.2 (Int.toNat a) (([(b,d)])++(at' c.2 a))) b))))))))))else(ck (0<=a∧a<(List.length c.2:Int)) (ck (0<=b∧b<(List.length c.2:Int)) (ck ((List.length (at' c.2 a):Int)+(List.length ([(b,d)]):Int)<=1099511627) (ck ((List.length (at' c.2 b):Int)+(List.length ([(a,d)]):Int)<=1099511627) (ck (Int.toNat a≠Int.toNat b) (ck (0<=a∧a<(List.length (List.set (List.set c.2 (Int.toNat a) ((at' c.2 a)++([(b,d)]))) (Int.toNat b) ((at' c.2 b)++([(a,d)]))):Int)) (ck (0<=b∧b<(List.length (List.set (List.set c.2 (Int.toNat a) ((at' c.2 a)++([(b,d)]))) (Int.toNat b) ((at' c.2 b)++([(a,d)]))):Int)) (some (List.set (List.set c.2 (Int.toNat a) ((at' c.2 a)++([(b,d)]))) (Int.toNat b) ((at' c.2 b)++([(a,d)]))))))))))))
def m_ (U:Nat) (e:CZ) (a:cB) (b:Int) (c:Int) (f:Int):Option (gH):=
 if b=c then(oV e a b c f (true))else(Option.bind (nF U ((a.1,a.2)) b c) λd=>(oV e a b c f (d)))
theorem Qm:aQ Tryz.prog 101:=Tryz.call101
theorem AR (U:Nat) {s:CZ} {G:cB} {f:Int} {g:Int} {d:Int} (J:Value)  (K:Value)  (L:Value)  (H:Value)  (C:Value)  (A:iP) (r:gH) (h:m_ U s G f g d=some r):
  EO Tryz.prog 101 #[Value.agg #[vI (s.1),J,K,L,vB (s.2.2.2.2.1),vB (s.2.2.2.2.2)],Value.agg #[H,C],vI (f),vI (g),vI (d)] [Ar eK.raw C A,k_ bS A G.2] [Sl bN J s.2.1,Sl bN K s.2.2.1,Sl bN L s.2.2.2.1,Sl bN H G.1] (λx:iP=>Value.tuple #[]) (λx l=>Ar eK.raw C x::k_ bS x r::l):=by
 refine EO.of (vs:=[Value.agg #[vI (s.1),J,K,L,vB (s.2.2.2.2.1),vB (s.2.2.2.2.2)],Value.agg #[H,C],vI (f),vI (g),vI (d)]) Tryz.func101 Z Tryz.ntmps101 Z λc=>?_;refine aS<|aG (aJ.box (cs:=[vI (s.1),J,K,L,vB (s.2.2.2.2.1),vB (s.2.2.2.2.2)]) Z Z) Z λb1=>aG (aJ.box (cs:=[H,C]) Z Z) Z λb2=>aK<|aI<|aI<|EM (B:=Unit) (λI=>oV s G f g d I=some r) (λI b5=>[(2,vI (f)),(3,vI (g)),(4,vI (d)),(5,vP b1),(6,vP b2),(20,vB (I))]) (λI b5=>[bH b2 [H,C] 27,bH b1 [vI (s.1),J,K,L,vB (s.2.2.2.2.1),vB (s.2.2.2.2.2)] 24,Ar eK.raw C A,k_ bS A G.2]) (λI b5=>[Sl bN J s.2.1,Sl bN K s.2.2.1,Sl bN L s.2.2.2.1,Sl bN H G.1]) ?_ ?_
 ·refine aR<|aA Z<|aA Z<|cC Z<|aA Z ?_;refine Cd h Z (λ_ h=>?_) λ_ h=>?_
  ·refine aL Z<|aL Z<|aL Z<|aL Z<|dU Z<|aK ?_;exact iI (true) () h SF Z
  refine aV Z (lO 0 Z Z Z Z) Z<|eS Z<|eS Z<|eL h λav au h=>rQ Z (aJ.callQ Xy (JJ U H C (List.zip A G.2) av au) Z (aD.cons (aE.fact 3 Z) (aD.cons (bJ (i:=2) (j:=3) Z Z bB) .nil))) Z λba=>e_ Z<|aK ?_;exact iI (av) () h SF Z
 intro I b5 h;refine yC h Z (λ_ h=>?_) λ_ h=>?_
 ·refine aP<|aH ?_;cases h;exact DN (A) Z Z .ret (.inl Z) (aY.ix [2,3] Z Z) aD.nil
 refine cE<|aS<|aA Z<|aA Z ?_;refine aB (Cm (r:=Value.agg #[vI (g),vI (d)]) Z Z (by intro w;simp[Instr.build,Instr.fill,eP,dV,dH,eQ,eR,dW,fS])) Z ?_;refine aA Z<|aA Z ?_;refine aB (Cm (r:=Value.agg #[vI (f),vI (d)]) Z Z (by intro w;simp[Instr.build,Instr.fill,eP,dV,dH,eQ,eR,dW,fS])) Z ?_;refine aG (aJ.alloc (cs:=Ms) Z Z) Z λb7=>aG (aJ.alloc (cs:=Ms) Z Z) Z λb8=>bR 1 (vs:=[vI (g),vI (d)]) Z Z Z Z Z Z<|bR 0 (vs:=[vI (f),vI (d)]) Z Z Z Z Z Z<|aK<|aI<|aS<|bX Z<|cJ 3 Z<|aK ?_;refine yC h Z (λ_ h=>?_) λ_ h=>?_
 ·refine aI ?_;refine JR.start [0,1,0,0,8,0,32,0,224,480,1016,2047,4095] 11 mixedOrders (by decide +kernel) ?_;refine JR.open (by exact rfl) ?_;refine cN Z<|dY 2 Z<|bE Z<|hZ 1 Z<|JR.loud Z Z Z (cW (e:=bS) ([((g,d))]) [(0,Value.agg #[vI (g),vI (d)])] Z Z Z Z (zP (vI (g)) (vI (d))) Z Z Z) Z (λaU=>(jV [([3],[])] Z)) λaU=>fY Z (dR Z Z Z Z Z)<|bI Z (aY.cons 3 Z .nil) .nil (cK 0 Z Z Z Z Z) (aN.h (aY.ix [2] Z Z) .nil aN.z)<|fY Z (fC Z)<|dK h λu h=>bY (cY 6 Z) λM=>?_;refine bI Z (aY.cons 5 Z .nil) .nil (iM 0 Z Z Z Z Z u.1 (by have m:=u.2;have n:=M;(try simp only[List.length_set]at m);(try simp only[List.length_set]at n);(try simp only[List.length_set]);omega)) (aN.h (aY.ix [4] Z Z) .nil aN.z) ?_;refine bY (cY 6 Z) λN=>bI Z (aY.cons 5 Z .nil) .nil (lK 0 Z Z N Z Z u) (aN.h (aY.ix [4] Z Z) .nil aN.z)<|dK h λaQ h=>JR.loud Z Z Z (g_ 0 bB Z Z Z (aE.row (j:=6) Z bB u.1 u.2) Z Z Z Z aQ Z) Z (λaw=>(jV [([3],[])] Z)) λaw=>bK 11 Z Z<|dK h λv h=>aB (cQ Z Z (bJ (i:=5) (j:=6) Z Z bB) Z Z v) Z<|dB (Know.one ((aX (aE.res 0 Z) bB))) λak=>jY (yL (k:=f) 6 0 Z Z Z v) ?_;refine qA 4 5 ⟨v.1,by first|exact v.2|simpa using v.2⟩ Z Z Z Z Z (by simp) ak Z ?_;refine aK<|aI ?_;refine JR.start [0,1,0,0,8,0,32,0,224,480,1016,2047,4095] 11 mixedOrders (by decide +kernel) ?_;refine JR.open (by exact rfl) ?_;refine cN Z<|dY 2 Z<|bE Z<|hZ 0 Z<|JR.loud Z Z Z (cW (e:=bS) ([((f,d))]) [(0,Value.agg #[vI (f),vI (d)])] Z Z Z Z (zP (vI (f)) (vI (d))) Z Z Z) Z (λaW=>(jV [([3],[])] Z)) λaW=>fY Z (dR Z Z Z Z Z)<|bI Z (aY.cons 3 Z .nil) .nil (cK 0 Z Z Z Z Z) (aN.h (aY.ix [2] Z Z) .nil aN.z)<|fY Z (fC Z)<|dK h λt h=>bY (cY 6 Z) λO=>?_;refine bI Z (aY.cons 5 Z .nil) .nil (iM 0 Z Z Z Z Z t.1 (by have m:=t.2;have n:=O;(try simp only[List.length_set]at m);(try simp only[List.length_set]at n);(try simp only[List.length_set]);omega)) (aN.h (aY.ix [4] Z Z) .nil aN.z) ?_;refine bY (cY 6 Z) λP=>bI Z (aY.cons 5 Z .nil) .nil (lK 0 Z Z P Z Z t) (aN.h (aY.ix [4] Z Z) .nil aN.z)<|dK h λaT h=>JR.loud Z Z Z (g_ 0 bB Z Z Z (aE.row (j:=6) Z bB t.1 (by first|exact t.2|simpa using t.2)) Z Z Z Z aT Z) Z (λax=>(jV [([3],[])] Z)) λax=>?_;refine bK 11 Z Z<|dK h λy h=>aB (cQ Z Z (bJ (i:=5) (j:=6) Z Z bB) Z Z y) Z<|dB (Know.one ((aX (aE.res 0 Z) bB))) λal=>jY (yL (k:=g) 6 0 Z Z Z y) ?_;refine qA 4 5 ⟨y.1,by first|exact y.2|simpa using y.2⟩ Z Z Z Z Z (by simp) al Z ?_;refine aK<|aP<|aH ?_;cases h;exact DN (List.set (List.set A (Int.toNat f) aw) (Int.toNat g) ax) Z Z .ret (.inl Z) (aY.ix [4,5] Z Z) aD.nil
 refine cE<|dK h λp h=>dK h λq h=>dK h λD h=>dK h λE h=>dK h λF h=>dK h λa h=>dK h λb h=>Gm [0,1,0,0,8,0,0,64,0,448,960,0,2048,8128,0,16384,0,114688,245760,0,524288,2097088,4194247,8388551,16777215,33554431] 24 [[0,1,2,3,4,5,6,7,8,9,10,11,14,15,16,17,18,19,12,13,20,21,22,23,24,25],[0,1,2,3,4,5,6,7,8,9,10,11,14,15,16,17,18,19,12,20,13,21,22,23,24,25],[0,1,2,3,4,5,6,7,8,9,10,11,14,15,16,17,18,19,20,12,13,21,22,23,24,25]] mixedOrders (by decide +kernel) (by decide +kernel) ?_;intro o ho;simp only[List.mem_cons,List.not_mem_nil,or_false]at ho;rcases ho with rfl|rfl|rfl
 ·refine cN Z<|dY 2 Z<|bE Z<|cN Z<|dY 2 Z<|bE Z<|cN Z<|dY 2 Z<|bE Z<|bY (cY 5 Z) λQ=>?_;refine bI Z (aY.cons 4 Z .nil) .nil (iM 0 Z Z Z Z Z p.1 (by have m:=p.2;have n:=Q;(try simp only[List.length_set]at m);(try simp only[List.length_set]at n);(try simp only[List.length_set]);omega)) aN.z ?_;refine bY (cY 5 Z) λR=>bI Z (aY.cons 4 Z .nil) .nil (lK 0 Z Z R Z Z p) aN.z<|hZ 1 Z<|cN Z<|dY 2 Z<|bE Z<|bY (cY 5 Z) λS=>?_;refine bI Z (aY.cons 4 Z .nil) .nil (iM 0 Z Z Z Z Z q.1 (by have m:=q.2;have n:=S;(try simp only[List.length_set]at m);(try simp only[List.length_set]at n);(try simp only[List.length_set]);omega)) aN.z ?_;refine bY (cY 5 Z) λT=>bI Z (aY.cons 4 Z .nil) .nil (lK 0 Z Z T Z Z q) aN.z<|hZ 0 Z<|JR.loud Z Z Z (cW (e:=bS) ([((g,d))]) [(0,Value.agg #[vI (g),vI (d)])] Z Z Z Z (zP (vI (g)) (vI (d))) Z Z Z) Z (λa0=>(jV [([1],[]),([5],[]),([5],[]),([3],[]),([5],[]),([5],[]),([3],[]),([3],[]),([3],[])] Z)) λa0=>JR.loud Z Z Z (qR 6 bB Z Z Z (aX (aE.res 0 Z) bB) Z Z Z Z p D Z) Z (λay=>(jV [([1],[]),([5],[]),([5],[]),([3],[]),([3],[]),([3],[])] Z)) λay=>JR.loud Z Z Z (cW (e:=bS) ([((f,d))]) [(0,Value.agg #[vI (f),vI (d)])] Z Z Z Z (zP (vI (f)) (vI (d))) Z Z Z) Z (λa1=>(jV [([6],[]),([6],[]),([4],[]),([3],[]),([6],[]),([6],[]),([4],[]),([4],[]),([4],[])] Z)) λa1=>JR.loud Z Z Z (zV (j:=f) 7 bB Z Z Z (aX (aE.res 0 Z) bB) Z Z Z Z q E Z F) Z (λaz=>(jV [([4],[]),([4],[])] Z)) λaz=>bY (cY 7 Z) λV=>?_;refine bI Z (aY.cons 6 Z .nil) .nil (iM 0 Z Z Z Z Z a.1 (by have m:=a.2;have n:=V;(try simp only[List.length_set]at m);(try simp only[List.length_set]at n);(try simp only[List.length_set]);omega)) (Bl Z) ?_;refine bY (Cg (k:=f) (j:=g) 7 Z (by omega) ⟨a.1,by first|exact a.2|simpa using a.2⟩) λam=>?_;refine oC Z Z Z (Bw 6 7 ⟨a.1,by first|exact a.2|simpa using a.2⟩ Z Z Z Z (by simp) am Z) (λa7=>(jV [([4],[])] Z)) λa7=>?_;refine bK 24 Z Z<|dB (cY 7 Z) λW=>?_;refine aB (iM 6 Z Z Z Z Z b.1 (by have m:=b.2;have n:=W;(try simp only[List.length_set]at m);(try simp only[List.length_set]at n);(try simp only[List.length_set]);omega)) Z ?_;refine dB (Bd 7 (k:=g) Z ⟨b.1,by first|exact b.2|simpa using b.2⟩) λan=>?_;refine qA 6 7 ⟨b.1,by first|exact b.2|simpa using b.2⟩ Z Z Z Z Z (by simp) an Z ?_;refine fF ?_;cases h;exact DN (List.set (List.set A (Int.toNat f) ay) (Int.toNat g) az) Z Z .normal (.inr Z) (aY.ix [6,7] Z Z) aD.nil
 ·refine cN Z<|dY 2 Z<|bE Z<|cN Z<|dY 2 Z<|bE Z<|cN Z<|dY 2 Z<|bE Z<|bY (cY 5 Z) λX=>?_;refine bI Z (aY.cons 4 Z .nil) .nil (iM 0 Z Z Z Z Z p.1 (by have m:=p.2;have n:=X;(try simp only[List.length_set]at m);(try simp only[List.length_set]at n);(try simp only[List.length_set]);omega)) aN.z ?_;refine bY (cY 5 Z) λY=>bI Z (aY.cons 4 Z .nil) .nil (lK 0 Z Z Y Z Z p) aN.z<|hZ 1 Z<|cN Z<|dY 2 Z<|bE Z<|bY (cY 5 Z) λaa=>?_;refine bI Z (aY.cons 4 Z .nil) .nil (iM 0 Z Z Z Z Z q.1 (by have m:=q.2;have n:=aa;(try simp only[List.length_set]at m);(try simp only[List.length_set]at n);(try simp only[List.length_set]);omega)) aN.z ?_;refine bY (cY 5 Z) λab=>bI Z (aY.cons 4 Z .nil) .nil (lK 0 Z Z ab Z Z q) aN.z<|hZ 0 Z<|JR.loud Z Z Z (cW (e:=bS) ([((g,d))]) [(0,Value.agg #[vI (g),vI (d)])] Z Z Z Z (zP (vI (g)) (vI (d))) Z Z Z) Z (λa2=>(jV [([1],[]),([5],[]),([5],[]),([3],[]),([5],[]),([5],[]),([3],[]),([3],[]),([3],[])] Z)) λa2=>JR.loud Z Z Z (cW (e:=bS) ([((f,d))]) [(0,Value.agg #[vI (f),vI (d)])] Z Z Z Z (zP (vI (f)) (vI (d))) Z Z Z) Z (λa3=>(jV [([6],[]),([6],[]),([4],[]),([3],[]),([6],[]),([6],[]),([4],[]),([4],[]),([4],[])] Z)) λa3=>JR.loud Z Z Z (qR 7 bB Z Z Z (aX (aE.res 1 Z) bB) Z Z Z Z p D Z) Z (λaC=>(jV [([2],[]),([6],[]),([6],[]),([4],[]),([4],[]),([4],[])] Z)) λaC=>JR.loud Z Z Z (zV (j:=f) 7 bB Z Z Z (aX (aE.res 0 Z) bB) Z Z Z Z q E Z F) Z (λaF=>(jV [([4],[]),([4],[])] Z)) λaF=>bY (cY 7 Z) λac=>?_;refine bI Z (aY.cons 6 Z .nil) .nil (iM 0 Z Z Z Z Z a.1 (by have m:=a.2;have n:=ac;(try simp only[List.length_set]at m);(try simp only[List.length_set]at n);(try simp only[List.length_set]);omega)) (Bl Z) ?_;refine bY (Cg (k:=f) (j:=g) 7 Z (by omega) ⟨a.1,by first|exact a.2|simpa using a.2⟩) λao=>?_;refine oC Z Z Z (Bw 6 7 ⟨a.1,by first|exact a.2|simpa using a.2⟩ Z Z Z Z (by simp) ao Z) (λa8=>(jV [([4],[])] Z)) λa8=>?_;refine bK 24 Z Z<|dB (cY 7 Z) λad=>?_;refine aB (iM 6 Z Z Z Z Z b.1 (by have m:=b.2;have n:=ad;(try simp only[List.length_set]at m);(try simp only[List.length_set]at n);(try simp only[List.length_set]);omega)) Z ?_;refine dB (Bd 7 (k:=g) Z ⟨b.1,by first|exact b.2|simpa using b.2⟩) λap=>?_;refine qA 6 7 ⟨b.1,by first|exact b.2|simpa using b.2⟩ Z Z Z Z Z (by simp) ap Z ?_;refine fF ?_;cases h;exact DN (List.set (List.set A (Int.toNat f) aC) (Int.toNat g) aF) Z Z .normal (.inr Z) (aY.ix [6,7] Z Z) aD.nil
 refine cN Z<|dY 2 Z<|bE Z<|cN Z<|dY 2 Z<|bE Z<|cN Z<|dY 2 Z<|bE Z<|bY (cY 5 Z) λae=>?_;refine bI Z (aY.cons 4 Z .nil) .nil (iM 0 Z Z Z Z Z p.1 (by have m:=p.2;have n:=ae;(try simp only[List.length_set]at m);(try simp only[List.length_set]at n);(try simp only[List.length_set]);omega)) aN.z ?_;refine bY (cY 5 Z) λaf=>bI Z (aY.cons 4 Z .nil) .nil (lK 0 Z Z af Z Z p) aN.z<|hZ 1 Z<|cN Z<|dY 2 Z<|bE Z<|bY (cY 5 Z) λag=>?_;refine bI Z (aY.cons 4 Z .nil) .nil (iM 0 Z Z Z Z Z q.1 (by have m:=q.2;have n:=ag;(try simp only[List.length_set]at m);(try simp only[List.length_set]at n);(try simp only[List.length_set]);omega)) aN.z ?_;refine bY (cY 5 Z) λah=>bI Z (aY.cons 4 Z .nil) .nil (lK 0 Z Z ah Z Z q) aN.z<|hZ 0 Z<|JR.loud Z Z Z (cW (e:=bS) ([((f,d))]) [(0,Value.agg #[vI (f),vI (d)])] Z Z Z Z (zP (vI (f)) (vI (d))) Z Z Z) Z (λa5=>(jV [([5],[]),([5],[]),([3],[]),([2],[]),([5],[]),([5],[]),([3],[]),([3],[]),([3],[])] Z)) λa5=>JR.loud Z Z Z (cW (e:=bS) ([((g,d))]) [(0,Value.agg #[vI (g),vI (d)])] Z Z Z Z (zP (vI (g)) (vI (d))) Z Z Z) Z (λa6=>(jV [([2],[]),([6],[]),([6],[]),([4],[]),([6],[]),([6],[]),([4],[]),([4],[]),([4],[])] Z)) λa6=>JR.loud Z Z Z (qR 7 bB Z Z Z (aX (aE.res 0 Z) bB) Z Z Z Z p D Z) Z (λaM=>(jV [([2],[]),([6],[]),([6],[]),([4],[]),([4],[]),([4],[])] Z)) λaM=>JR.loud Z Z Z (zV (j:=f) 7 bB Z Z Z (aX (aE.res 1 Z) bB) Z Z Z Z q E Z F) Z (λaO=>(jV [([4],[]),([4],[])] Z)) λaO=>bY (cY 7 Z) λai=>?_;refine bI Z (aY.cons 6 Z .nil) .nil (iM 0 Z Z Z Z Z a.1 (by have m:=a.2;have n:=ai;(try simp only[List.length_set]at m);(try simp only[List.length_set]at n);(try simp only[List.length_set]);omega)) (Bl Z) ?_;refine bY (Cg (k:=f) (j:=g) 7 Z (by omega) ⟨a.1,by first|exact a.2|simpa using a.2⟩) λaq=>?_;refine oC Z Z Z (Bw 6 7 ⟨a.1,by first|exact a.2|simpa using a.2⟩ Z Z Z Z (by simp) aq Z) (λa9=>(jV [([4],[])] Z)) λa9=>?_;refine bK 24 Z Z<|dB (cY 7 Z) λaj=>?_;refine aB (iM 6 Z Z Z Z Z b.1 (by have m:=b.2;have n:=aj;(try simp only[List.length_set]at m);(try simp only[List.length_set]at n);(try simp only[List.length_set]);omega)) Z ?_;refine dB (Bd 7 (k:=g) Z ⟨b.1,by first|exact b.2|simpa using b.2⟩) λar=>?_;refine qA 6 7 ⟨b.1,by first|exact b.2|simpa using b.2⟩ Z Z Z Z Z (by simp) ar Z ?_;refine fF ?_;cases h;exact DN (List.set (List.set A (Int.toNat f) aM) (Int.toNat g) aO) Z Z .normal (.inr Z) (aY.ix [6,7] Z Z) aD.nil
def oU (b:Cb) (a:gH):Option tO:=
 some ((b.1,a))
def tR (U:Nat) (b:CZ) (i:Cb) (a:Int×gH) (c:(Int×gH)->Option tO):Option tO:=
 if a.1<(List.length a.2:Int)then(Option.bind (sR U b.2.1 (wI .i64 (a.1 - (1:Int)))) λd=>(Option.bind (fW U d a.1) λe=>(Option.bind (sR U b.2.2.1 (wI .i64 (a.1 - (1:Int)))) λf=>(Option.bind (fW U f (15:Int)) λg=>(Option.bind (m_ U ((b.1,b.2.1,b.2.2.1,b.2.2.2.1,b.2.2.2.2.1,b.2.2.2.2.2)) ((i.1,a.2)) e a.1 (wI .i64 ((1:Int)+g))) λh=>(c ((wI .i64 (a.1+(1:Int))),h)))))))else(oU i (a.2))
def mZ (U:Nat) (a:CZ) (c:Int):Option tO:=
 Option.bind (pC U ((a.1,a.2.1,a.2.2.1,a.2.2.2.1,a.2.2.2.2.1,a.2.2.2.2.2)) c) λb=>(bP (tR U a b) U ((1:Int),b.2))
theorem Un:aQ Tryz.prog 26:=Tryz.call26
theorem AQ (U:Nat) {p0:CZ} {p1:Int} (g:Value)  (k:Value)  (n:Value) (r:Cb) (h:mZ U p0 p1=some r):
  bA Tryz.prog 26 #[Value.agg #[vI (p0.1),g,k,n,vB (p0.2.2.2.2.1),vB (p0.2.2.2.2.2)],vI (p1)] [Sl bN g p0.2.1,Sl bN k p0.2.2.1,Sl bN n p0.2.2.2.1] (λx:Value×Value×List Value=>Value.agg #[x.1,x.2.1]) (λx l=>Ar cM x.1 r.1::Ar eK.raw x.2.1 x.2.2::k_ bS x.2.2 r.2::l) (λ_ l=>l):=by
 refine bA.of Tryz.func26 Z Tryz.ntmps26 Z λc=>?_;refine aS<|aG (aJ.box (cs:=[vI (p0.1),g,k,n,vB (p0.2.2.2.2.1),vB (p0.2.2.2.2.2)]) Z Z) Z λu=>aG (aJ.alloc (cs:=[lS,lS]) Z Z) Z λo=>aK<|aS<|dM 1 Z<|aA Z<|eL h λm P h=>aG (aJ.callQ aak (Eo U g k n m P) Z (lJ [0,1,2] Z)) Z λa=>aG (aJ.alloc (cs:=[lS,lS]) Z Z) Z λp=>dB (Know.one ((aX (aE.res 1 Z) cU))) λv=>dB (Know.one (aE.sl (bJ (i:=2) (j:=3) Z Z bB))) λw=>bR 0 (vs:=[a.1,a.2.1]) Z Z (dQ v (dQ w Z)) Z Z Z<|aK<|aI<|Cz (B:=iP) (λe=>oU m e=some r) (λe f=>[(4,vP o),(5,vP p)]) (λe f=>[bH p [a.1,a.2.1] 27,Ar cM a.1 m.1,Ar eK.raw a.2.1 f,k_ bS f e,bH o [lS,lS] 27]) ?_ ?_
 ·refine aS<|aC Z<|aK<|aU<|eH (B:=iP) (tR U p0 m) (λd b=>[(2,vP u),(4,vP o),(5,vP p),(6,vI (d.1))]) (λd b=>[bH p [a.1,a.2.1] 27,Ar cM a.1 m.1,Ar eK.raw a.2.1 b,k_ bS b d.2,bH o [lS,lS] 27,bH u [vI (p0.1),g,k,n,vB (p0.2.2.2.2.1),vB (p0.2.2.2.2.2)] 24]) ((1:Int),m.2) (a.2.2) h SF (aY.refl _) ?_;intro O d b h;refine aI<|aS<|aA Z<|bX Z<|cJ 0 Z<|aB (lY Z (bJ (i:=2) (j:=3) Z Z bB) Z) Z<|cP Z<|aK ?_;refine eZ h Z (λh=>?_) λh=>?_
  ·refine cE<|aI<|aU ?_;refine JR.start [0,0,0,4,0,16,60,0,252,0,0,1024,0,4096,15868,32252,65020,131071] 17 mixedOrders (by decide +kernel) ?_;refine JR.open (by exact rfl) ?_;refine hZ 5 Z<|hZ 0 Z<|cN Z<|dY 5 Z<|bE Z<|fY Z (mJ Z Z)<|eL h λy E h=>JR.loud Z Z Z (aJ.callQ IJ (AW U g y E) Z (lJ [0] Z)) Z (λJ=>(jV [([0],[]),([5],[])] Z)) λJ=>fY Z (fC Z)<|eL h λA F h=>JR.loud Z Z Z (aJ.callQ Co (jO U  A F) Z .nil) Z (λK=>(jV [([0],[]),([5],[])] Z)) λK=>fY Z (fC Z)<|fY Z (dR Z Z Z Z Z)<|bI Z (aY.cons 5 Z .nil) .nil (cK 0 Z Z Z Z Z) (aN.h (aY.ix [5] Z Z) .nil (aN.h (aY.ix [5] Z Z) .nil aN.z))<|fY Z (fC Z)<|fY Z (mJ Z Z)<|eL h λC G h=>JR.loud Z Z Z (aJ.callQ IJ (AW U k C G) Z (lJ [1] Z)) Z (λL=>(jV [([0],[]),([5],[])] Z)) λL=>eL h λD H h=>JR.loud Z Z Z (aJ.callQ Co (jO U  D H) Z .nil) Z (λM=>(jV [([0],[]),([5],[])] Z)) λM=>fY Z (zX Z Z)<|bK 17 Z Z<|eL h λt I h=>aG (EN (Min:=[Ar eK.raw a.2.1 b,k_ bS b d.2]) (Mr:=[bH p [a.1,a.2.1] 27,Ar cM a.1 m.1,bH o [lS,lS] 27,bH u [vI (p0.1),g,k,n,vB (p0.2.2.2.2.1),vB (p0.2.2.2.2.2)] 24]) Qm (AR U g k n a.1 a.2.1 b t I) Z (aY.ix [2,3,0,1,4,5] Z Z) (aD.cons (aE.fact 0 Z) (aD.cons (aE.fact 1 Z) (aD.cons (aE.fact 2 Z) (aD.cons (aX (aE.res 1 Z) cU) .nil)))) (λ_ _=>rfl)) Z λN=>fF<|mP<|aR<|aA Z<|cO Z<|aC Z<|aK ?_;exact lT ((wI .i64 (d.1+(1:Int))),t) (N) h SF (aY.ix [2,3,0,1,4,5] Z Z) (aD.refl _ _)
  refine fE ?_;exact bT (d.2) (b) h SF (aY.ix [0,1,2,3,4] Z Z) (aD.refl _ _)
 intro e f h;unfold oU at h;refine aS<|dM 0 Z<|dB (Know.one ((aX (aE.res 1 Z) cU))) λq=>dB (Know.one (aE.sl (bJ (i:=2) (j:=3) Z Z bB))) λs=>bR 4 (vs:=[a.1,a.2.1]) Z Z (dQ q (dQ s Z)) Z Z Z<|aK<|aP ?_;cases h;exact kC (a.1,a.2.1,f) Z Z (RV.cell 4 Z Z Z Z) (aY.ix [1,2,3] Z Z) aD.nil
def jM (U:Nat) (a:Int):Option (Int):=
 if a=(0:Int)then(some (32:Int))else(ck (0<=(27:Int)) (ck ((0<=(vN .u32 (wI .u32 ((eO .u32 a (wI .u32 (0 - a)))*(125613361:Int))) (27:Int))∧(vN .u32 (wI .u32 ((eO .u32 a (wI .u32 (0 - a)))*(125613361:Int))) (27:Int))<((32:Nat):Int))∧List.length Ae=32) (some (wI .i64 (at' Ae (vN .u32 (wI .u32 ((eO .u32 a (wI .u32 (0 - a)))*(125613361:Int))) (27:Int)))))))
theorem QA:aQ Tryz.prog 228:=Tryz.call228
theorem yA (U:Nat) {b:Int} (r:Int) (h:jM U b=some r):
  bA Tryz.prog 228 #[vU (b)] [Gb 0 (cellsOf JO Ae)] (λx:Unit=>vI (r)) (λx l=>l) (λ_ l=>l):=by
 refine bA.of Tryz.func228 Z Tryz.ntmps228 Z λc=>?_;refine aS<|aC Z<|aK<|aI<|aS<|aA Z<|cC Z<|aK ?_;refine eZ h Z (λh=>?_) λh=>?_
 ·refine aS<|aC Z<|aK<|aP<|aH ?_;cases h;exact kM Z
 refine cE<|aS<|aA Z<|aA Z<|aB (Qf Z) Z<|Ak Z<|aB (tQ Z Z) Z<|dK h λd h=>aB (Km Z Z d) Z<|dK h λa h=>aB (Na Z Z Z Z Z a.1) Z<|aB (Sa (e:=JO) Z (aE.fact 0 Z) Z Z Z Z a) Z<|aB (OV Z Z Z) Z<|aC Z<|aK<|aP ?_;cases h;exact kM Z
def jI  (a:Unit):Option (Bool):=
 some (true)
def gK (U:Nat) (d:aT) (e:Int) (a:Int) (c:(Int)->Option (Bool)):Option (Bool):=
 if a≠(0:Int)then(Option.bind (jM U a) λb=>(ck (0<=b∧b<(List.length d:Int)) (if(eO .u32 (at' d b) e)≠(0:Int)then(some (false))else(c (eO .u32 a (wI .u32 (a - (1:Int))))))))else(jI  (()))
def lZ (U:Nat) (c:aT) (a:Int) (b:Unit):Option (Bool):=
 bP (gK U c a) U (a)
def gW (U:Nat) (a:aT) (b:Int):Option (Bool):=
 lZ U a b (())
theorem XL:aQ Tryz.prog 223:=Tryz.call223
theorem AP (U:Nat) {m:aT} {e:Int} (j:Value) (r:Bool) (h:gW U m e=some r):
  bA Tryz.prog 223 #[j,vU (e)] [Sl Ci j m,Gb 0 (cellsOf JO Ae)] (λx:Unit=>vB (r)) (λx l=>l) (λ_ l=>l):=by
 refine bA.of Tryz.func223 Z Tryz.ntmps223 Z λc=>?_;unfold gW at h;refine jY MW<|aS<|dB (Know.one ((aE.fact 0 Z))) λw=>?_;refine aG (aJ.box (cs:=[j]) Z (by rw[iL w])) Z λC=>?_;refine aG (aJ.box (cs:=[vU (e)]) Z Z) Z λD=>aG (aJ.alloc (cs:=[vB (false)]) Z Z) Z λu=>aK<|aI<|OM (A:=Unit) (B:=pY) (λk g=>⟨16,Jm g⟩) (λk=>jI  k=some r) (λk g=>[(4,vP u)]) (λk g=>[bH u [vB (false)] 4,K_ g]) (λk g=>[Sl Ci j m,Gb 0 (cellsOf JO Ae)]) ?_ ?_
 ·refine aS<|cJ 1 Z<|gE (A:=Unit) (B:=Nat) (vs:=[vU (e)]) (λb=>lZ U m e b=some r) (λb a=>Value.func (.func 227) #[] #[vP a]) (λb a=>[bH a [vU (e)] 31,bH u [vB (false)] 4,bH D [vU (e)] 31,bH C [j] 76,K_ ([]:pY)]) (λb a=>[Sl Ci j m,Gb 0 (cellsOf JO Ae)]) (fU.fn (show aQ Tryz.prog 170 from Tryz.call170) Z) Tryz.func170 Z Tryz.ntmps170 Z Z ?_ ?_
  ·refine aS<|aG (aJ.box (cs:=[vU (e)]) Z Z) Z λo=>aC Z<|aK<|aS<|aB (dZ (cs:=[.tmp 1]) (vs:=[vP o]) Z) Z<|aC Z<|aK<|aP ?_;exact dO () (o) h (.inl Z) (uO.r1 Z (RV.tmp Z)) Z (aY.refl _) (aD.refl _ _)
  intro b a h;unfold lZ at h;refine aK<|aU<|Fp (i:=4) (cs:=[vP a]) ([]:pY) Z (show aQ Tryz.prog 227 from Tryz.call227) Z Tryz.func227 Z Tryz.ntmps227 Z λs f v p=>aU<|eH (gK U m e) (λd n=>[(0,yB s),(1,vP a)]) (λd n=>[Lp s v LoopState.ready none,bH a [vU (d)] 31,bH u [vB (false)] 4,bH D [vU (e)] 31,bH C [j] 76,K_ (List.cons f ([]:pY))]) (e) () h SF (aY.refl _) ?_;intro E d n h;refine aI<|aS<|cJ 1 Z<|oT Z<|aK ?_;refine eZ h Z (λh=>?_) λh=>?_
  ·refine cE<|aI<|aU<|aS<|aA Z<|cJ 1 Z<|eL h λt y h=>aG (aJ.callQ QA (yA U  t y) Z (lJ [1] Z)) Z λF=>MD (us:=[vI (t)]) (i:=0) p Z Z Z Z Z Z<|aR<|aC Z<|aK<|Qc (i:=0) Z<|aU<|aI ?_;refine JR.start [0,0,3,7,0,31,63] 5 mixedOrders (by decide +kernel) ?_;refine JR.open (by exact rfl) ?_;refine dY 4 Z<|bE Z<|dK h λq h=>bI Z .nil (h_ 0 Z) (aZ Z Z (aE.fact 0 Z) Z Z q) aN.z<|bI Z .nil (h_ 0 Z) (bU Z (aE.fact 0 Z) Z Z Z Gr q) aN.z<|dY 3 Z<|bK 5 Z Z<|Ak Z<|oT Z<|aK ?_;refine eZ h Z (λh=>?_) λh=>?_
   ·refine aS<|gR 2 Z Z Z Z Z Z<|aK<|aP<|bO<|TI (i:=0) Z<|aB (iZ Z) Z<|aK<|Qd Z<|aP<|bO<|aH<|aH<|bO<|WV (i:=0) (.inl Z) Z (uO.r0 Z)<|bO<|aH<|sC (i:=5) (Ds:=(List.cons f ([]:pY))) (.inl Z) Z ?_;cases h;exact kC () Z Z (MP 2 Z Z Z Z) .nil aD.nil
   refine dJ<|TD<|Iu (i:=0) Z<|aB (iZ Z) Z<|aK<|HP Z<|dJ<|mP<|aR<|cJ 1 Z<|cJ 1 Z<|aB (mJ Z Z) Z<|Ak Z<|gR 1 Z Z Z Z Z Z<|aK ?_;exact Ai (eO .u32 d (wI .u32 (d - (1:Int)))) () h SF Z
  refine yJ<|iQ<|iQ<|BK<|TH (i:=0) (.inr Z) Z (uO.r0 Z)<|mP ?_;exact HR () (List.cons f ([]:pY)) Z h SF (aY.ix [2,5] Z Z) (aD.refl _ _)
 intro k g h;unfold jI at h;refine aS<|gR 0 Z Z Z Z Z Z<|aK<|aP<|sC (i:=1) (Ds:=(g)) (.inl Z) Z ?_;cases h;exact kC () Z Z (MP 0 Z Z Z Z) .nil aD.nil
def lL (U:Nat) (d:aT) (b:Int) (e:Int) (a:Int) (c:Bool):Option (Bool):=
 if c=true then(some (false))else(if b=(1:Int)then(some (decide ((eO .u32 a (wI .u32 (a - (1:Int))))=(0:Int))))else(if b=(2:Int)then(Option.bind (gW U d a) λf=>(some (f)))else(if b=(4:Int)then(some (decide (a=e)))else(some (true)))))
def fT (U:Nat) (c:aT) (d:Int) (b:Int) (a:Int):Option (Bool):=
 if a=(0:Int)then(lL U c d b a (true))else(lL U c d b a (decide ((Aq .u32 a b)≠(0:Int))))
theorem Qt:aQ Tryz.prog 167:=Tryz.call167
theorem xZ (U:Nat) {p0:aT} {p1:Int} {p2:Int} {p3:Int} (b:Value) (r:Bool) (h:fT U p0 p1 p2 p3=some r):
  bA Tryz.prog 167 #[b,vI (p1),vU (p2),vU (p3)] [Sl Ci b p0,Gb 0 (cellsOf JO Ae)] (λx:Unit=>vB (r)) (λx l=>l) (λ_ l=>l):=by
 refine bA.of Tryz.func167 Z Tryz.ntmps167 Z λc=>?_;refine aS<|aC Z<|aK<|aI<|aI<|d_ (λa=>lL U p0 p1 p2 p3 a=some r) (λa d=>[(0,b),(1,vI (p1)),(2,vU (p2)),(3,vU (p3)),(16,vB (a))]) (λa d=>[]) ?_ ?_
 ·refine aR<|aA Z<|cC Z<|aA Z ?_;refine Cd h Z (λ_ h=>?_) λ_ h=>?_
  ·refine aL Z<|aL Z<|aL Z<|aL Z<|dU Z<|aK ?_;exact iI (true) () h SF Z
  refine eS Z<|eS Z<|aV Z (IC Z Z) Z<|aV Z (Bh Z Z) Z<|e_ Z<|aK ?_;exact iI (decide ((Aq .u32 p3 p2)≠(0:Int))) () h SF Z
 intro a d h;refine yC h Z (λ_ h=>?_) λ_ h=>?_
 ·refine aS<|aC Z<|aK<|aP<|aH ?_;cases h;exact kM Z
 refine cE<|aI<|aS<|aA Z<|aK<|aU<|aS<|cC Z<|aC Z<|aK ?_;refine eZ h Z (λh=>?_) λh=>?_
 ·refine aS<|aA Z<|aA Z<|aB (mJ Z Z) Z<|Ak Z<|cC Z<|aC Z<|aK<|aP<|bO<|aH ?_;cases h;exact kM Z
 refine aS<|cC Z<|aC Z<|aK ?_;refine eZ h Z (λh=>?_) λh=>?_
 ·refine aS<|aA Z<|aA Z<|eL h λe f h=>aG (aJ.callQ XL (AP U b e f) Z (lJ [0,1] Z)) Z λg=>aC Z<|aK<|aP<|bO<|aH ?_;cases h;exact kM Z
 refine aS<|cC Z<|aC Z<|aK ?_;refine eZ h Z (λh=>?_) λh=>?_
 ·refine aS<|aA Z<|aA Z<|cC Z<|aC Z<|aK<|aP<|bO<|aH ?_;cases h;exact kM Z
 refine dJ<|mP<|aS<|aC Z<|aK<|aP ?_;cases h;exact kM Z
def lM  (a:Int):Option (Int):=
 some (a)
def jA (a:eD) (b:iO->Option (Int)) (c:Int):Option (Int):=
 b ((eO .u32 a.1 (wI .u32 (a.1 - (1:Int)))),c)
def eG (U:Nat) (d:aT) (a:eD) (c:iO->Option (Int)):Option (Int):=
 if a.1≠(0:Int)then(Option.bind (jM U a.1) λb=>(ck (0<=b∧b<(List.length d:Int)) (if(eO .u32 (at' d b) a.2)=(0:Int)then(ck (0<=b) (jA a c (JS .u32 a.2 (BB .u32 (1:Int) b))))else(jA a c (a.2)))))else(lM  (a.2))
def pH (U:Nat) (c:aT) (b:Int) (a:Unit):Option (Int):=
 bP (eG U c) U (b,(0:Int))
def i_ (U:Nat) (c:aT) (b:Int) (d:Int) (a:Int):Option (Int):=
 if b=(1:Int)then(some (eO .u32 a (wI .u32 (0 - a))))else(if b=(2:Int)then(pH U c a (()))else(if b=(4:Int)then(some (d))else(some (a))))
def eX (U:Nat) (b:aT) (c:Int) (a:Int) (d:Int):Option (Int):=
 if(eO .u32 d a)=(0:Int)then(i_ U b c a (eO .u32 a (wI .u32 (0 - a))))else(i_ U b c a (eO .u32 d a))
theorem Qn:aQ Tryz.prog 108:=Tryz.call108
theorem x_ (U:Nat) {p0:aT} {p1:Int} {p2:Int} {p3:Int} (k:Value) (r:Int) (h:eX U p0 p1 p2 p3=some r):
  bA Tryz.prog 108 #[k,vI (p1),vU (p2),vU (p3)] [Sl Ci k p0,Gb 0 (cellsOf JO Ae)] (λx:Unit=>vU (r)) (λx l=>l) (λ_ l=>l):=by
 refine bA.of Tryz.func108 Z Tryz.ntmps108 Z λc=>?_;refine jY MW<|aS<|dB (Know.one ((aE.fact 0 Z))) λD=>?_;refine aG (aJ.box (cs:=[k]) Z (by rw[iL D])) Z λq=>?_;refine aC Z<|aK<|aS<|aA Z<|aA Z<|Ak Z<|aC Z<|aK<|aI<|OM (A:=Int) (B:=Unit) (λg C=>⟨48,Jm ([]:pY)⟩) (λg=>i_ U p0 p1 p2 g=some r) (λg C=>[(1,vI (p1)),(2,vU (p2)),(3,vU (g)),(4,vP q),(8,vU (0:Int))]) (λg C=>[bH q [k] 76,K_ ([]:pY)]) (λg C=>[Sl Ci k p0,Gb 0 (cellsOf JO Ae)]) ?_ ?_
 ·refine aS<|aA Z<|cC Z<|aK ?_;refine eZ h Z (λh=>?_) λh=>?_
  ·refine aR<|aA Z<|aA Z<|aB (Qf Z) Z<|Ak Z<|aC Z<|aK ?_;exact HR (eO .u32 p2 (wI .u32 (0 - p2))) () Z h SF (aY.refl _) (aD.refl _ _)
  refine cE ?_;exact HR (eO .u32 p3 p2) () Z h SF (aY.refl _) (aD.refl _ _)
 intro g C h;refine aI<|aS<|aA Z<|aK<|aU<|aS<|cC Z<|aC Z<|aK ?_;refine eZ h Z (λh=>?_) λh=>?_
 ·refine aS<|aA Z<|aA Z<|aB (Qf Z) Z<|Ak Z<|aC Z<|aK<|aP<|bO<|aH<|sC (i:=1) (Ds:=([]:pY)) (.inl Z) Z ?_;cases h;exact sV Z
 refine aS<|cC Z<|aC Z<|aK ?_;refine eZ h Z (λh=>?_) λh=>?_
 ·refine aS<|aG (aJ.alloc (cs:=[vU (0:Int)]) Z Z) Z λv=>gR 0 Z Z Z Z Z Z<|aK<|aI<|OM (A:=Int) (B:=pY) (λd e=>⟨48,Jm e⟩) (λd=>lM  d=some r) (λd e=>[(9,vP v)]) (λd e=>[bH v [vU (d)] 31,K_ e]) (λd e=>[Sl Ci k p0,Gb 0 (cellsOf JO Ae)]) ?_ ?_
  ·refine aS<|aA Z<|gE (A:=Unit) (B:=Nat) (vs:=[vU (g)]) (λj=>pH U p0 g j=some r) (λj b=>Value.func (.func 227) #[] #[vP b]) (λj b=>[bH b [vU (g)] 31,bH v [vU (0:Int)] 31,bH q [k] 76,K_ ([]:pY)]) (λj b=>[Sl Ci k p0,Gb 0 (cellsOf JO Ae)]) (fU.fn (show aQ Tryz.prog 170 from Tryz.call170) Z) Tryz.func170 Z Tryz.ntmps170 Z Z ?_ ?_
   ·refine aS<|aG (aJ.box (cs:=[vU (g)]) Z Z) Z λu=>aC Z<|aK<|aS<|aB (dZ (cs:=[.tmp 1]) (vs:=[vP u]) Z) Z<|aC Z<|aK<|aP ?_;exact dO () (u) h (.inl Z) (uO.r1 Z (RV.tmp Z)) Z (aY.refl _) (aD.refl _ _)
   intro j b h;unfold pH at h;refine aK<|aU<|Fp (i:=3) (cs:=[vP b]) ([]:pY) Z (show aQ Tryz.prog 227 from Tryz.call227) Z Tryz.func227 Z Tryz.ntmps227 Z λm n p w=>aU<|eH (eG U p0) (λa s=>[(0,yB m),(1,vP b)]) (λa s=>[Lp m p LoopState.ready none,bH b [vU (a.1)] 31,bH v [vU (a.2)] 31,bH q [k] 76,K_ (List.cons n ([]:pY))]) (g,(0:Int)) () h SF (aY.refl _) ?_;intro F a s h;refine aI<|aS<|cJ 1 Z<|oT Z<|aK ?_;refine eZ h Z (λh=>?_) λh=>?_
   ·refine cE<|aI<|d_ (λf=>jA a (bP (eG U p0) F) f=some r) (λf t=>[(0,yB m),(1,vP b)]) (λf t=>[Lp m p LoopState.ready none,bH b [vU (a.1)] 31,bH v [vU (f)] 31,bH q [k] 76,K_ (List.cons n ([]:pY))]) ?_ ?_
    ·refine aU<|aS<|aA Z<|cJ 1 Z<|eL h λo G h=>aG (aJ.callQ QA (yA U  o G) Z (lJ [1] Z)) Z λH=>MD (us:=[vI (o)]) (i:=0) w Z Z Z Z Z Z<|aR<|aC Z<|aK<|Qc (i:=0) Z<|aU<|aI ?_;refine JR.start [0,0,3,7,0,31,63] 5 mixedOrders (by decide +kernel) ?_;refine JR.open (by exact rfl) ?_;refine dY 3 Z<|bE Z<|dK h λy h=>bI Z .nil (h_ 0 Z) (aZ Z Z (aE.fact 0 Z) Z Z y) aN.z<|bI Z .nil (h_ 0 Z) (bU Z (aE.fact 0 Z) Z Z Z Gr y) aN.z<|dY 2 Z<|bK 5 Z Z<|Ak Z<|cC Z<|aK ?_;refine eZ h Z (λh=>?_) λh=>?_
     ·refine JR.start [0,0,2,7,15] 3 mixedOrders (by decide +kernel) ?_;refine JR.open (by exact rfl) ?_;refine dY 2 Z<|bE Z<|dK h λE h=>fY Z (Kl Z Z E)<|bK 3 Z Z<|aB (Uc Z Z) Z<|gR 2 Z Z Z Z Z Z<|fF<|TD<|Iu (i:=0) Z<|aB (iZ Z) Z<|aK<|HP Z<|dJ<|mP ?_;exact iI (JS .u32 a.2 (BB .u32 (1:Int) o)) () h SF Z
     refine dJ<|TD<|Iu (i:=0) Z<|aB (iZ Z) Z<|aK<|HP Z<|dJ<|mP ?_;exact iI (a.2) () h SF Z
    intro f t h;unfold jA at h;refine aR<|cJ 1 Z<|cJ 1 Z<|aB (mJ Z Z) Z<|Ak Z<|gR 1 Z Z Z Z Z Z<|aK ?_;exact Ai ((eO .u32 a.1 (wI .u32 (a.1 - (1:Int)))),f) () h SF Z
   refine yJ<|iQ<|iQ<|BK<|TH (i:=0) (.inr Z) Z (uO.r0 Z)<|mP ?_;exact HR (a.2) (List.cons n ([]:pY)) Z h SF (aY.ix [2,4] Z Z) (aD.refl _ _)
  intro d e h;unfold lM at h;refine aS<|cJ 0 Z<|aC Z<|aK<|aP<|bO<|aH<|sC (i:=1) (Ds:=(e)) (.inl Z) Z ?_;cases h;exact sV Z
 refine aS<|cC Z<|aC Z<|aK ?_;refine eZ h Z (λh=>?_) λh=>?_
 ·refine aS<|aA Z<|aC Z<|aK<|aP<|bO<|aH<|sC (i:=1) (Ds:=([]:pY)) (.inl Z) Z ?_;cases h;exact sV Z
 refine dJ<|mP<|aS<|aA Z<|aC Z<|aK<|aP<|sC (i:=1) (Ds:=([]:pY)) (.inl Z) Z ?_;cases h;exact sV Z
end Go.Proofs.YtjkjpdonlpdcaaaGreatDoor
section
set_option maxRecDepth 100000
namespace Go.Gx
open Go Go.Sx Go.Proofs Go.Proofs.YtjkjpdonlpdcaaaGreatDoor
noncomputable section
def adn (a:List GV) (H:GH):OR:=a1 a λb=>ob (UF H b) λp0=>ob (eM 1000 p0) λr=>VO r H
def adm (a:List GV) (H:GH):OR:=a2 a λb c=>ob (ada H b) λp0=>ob (Yd .i64 c) λp1=>ob (mZ 1000 p0 p1) λr=>PE r H
def Zs (a:List GV) (H:GH):OR:=a4 a λb c d e=>ob (UH H b) λp0=>ob (Yd .i64 c) λp1=>ob (Yd .u32 d) λp2=>ob (Yd .u32 e) λp3=>ob (fT 1000 p0 p1 p2 p3) λr=>VO r H
def Zr (a:List GV) (H:GH):OR:=a4 a λb c d e=>ob (UH H b) λp0=>ob (Yd .i64 c) λp1=>ob (Yd .u32 d) λp2=>ob (Yd .u32 e) λp3=>ob (eX 1000 p0 p1 p2 p3) λr=>some (.int .u32 r,H)
def Va (f:Nat) (a:List GV) (H:GH):Option (GV×GH):=bif Nat.beq f 50 then adn a H else bif Nat.beq f 26 then adm a H else bif Nat.beq f 167 then Zs a H else bif Nat.beq f 108 then Zr a H else none
abbrev gl:Nat->zL:=glb 0 (cellsOf JO Ae)
def gp:GP:=⟨uM,110,Va,U_ 284⟩
section
variable {T:Nat} {w0:eN (gl T)} {w:World} {ρ:dX} {H H':GH} {g:GV} {us:List GV} {vs:List Value}
theorem Yt (h:adn us H=some (g,H')) (R:fP w0 ρ H w) (m:oQ ρ us vs):kB Tryz.prog w0 ρ 50 vs w g H':=by
 obtain⟨p,rfl,h⟩:=Qg h;obtain⟨j,c,h⟩:=aF.1 h;obtain⟨r,l,h⟩:=aF.1 h;obtain⟨o,rfl,d⟩:=m.one;obtain⟨e,i,n,rfl,a,b⟩:=Sp R d c;obtain⟨rfl,rfl⟩:=Jt h;exact EZ Gv (rO 1000 (p0:=j) e i n r l) R (List.forall_mem_cons.2 ⟨a,List.forall_mem_cons.2 ⟨b,λf k=>absurd k List.not_mem_nil⟩⟩) λρ=> .bool _
theorem Ys (h:adm us H=some (g,H')) (R:fP w0 ρ H w) (i:oQ ρ us vs):kB Tryz.prog w0 ρ 26 vs w g H':=by
 obtain⟨z,A,rfl,h⟩:=Qh h;obtain⟨o,d,h⟩:=aF.1 h;obtain⟨p,e,h⟩:=aF.1 h;obtain⟨r,v,h⟩:=aF.1 h;obtain⟨x,vs,rfl,j,i⟩:=i.of_cons;obtain⟨y,rfl,k⟩:=i.one;obtain⟨l,m,n,rfl,a,b,c⟩:=Yc R j d;obtain rfl:=Dk k e;obtain⟨q,s,t,rfl,rfl⟩:=NI h;exact Pp ade adf q s t Un (AQ 1000 (p0:=o) (p1:=p) l m n r v) R (List.forall_mem_cons.2 ⟨a,List.forall_mem_cons.2 ⟨b,List.forall_mem_cons.2 ⟨c,λf u=>absurd u List.not_mem_nil⟩⟩⟩)
theorem Vh (h:Zs us H=some (g,H')) (R:fP w0 ρ H w) (a:oQ ρ us vs):kB Tryz.prog w0 ρ 167 vs w g H':=by
 obtain⟨z,A,B,C,rfl,h⟩:=Lk h;obtain⟨m,b,h⟩:=aF.1 h;obtain⟨n,c,h⟩:=aF.1 h;obtain⟨o,d,h⟩:=aF.1 h;obtain⟨p,e,h⟩:=aF.1 h;obtain⟨r,u,h⟩:=aF.1 h;obtain⟨q,vs,rfl,i,a⟩:=a.of_cons;obtain⟨v,vs,rfl,j,a⟩:=a.of_cons;obtain⟨x,vs,rfl,k,a⟩:=a.of_cons;obtain⟨y,rfl,l⟩:=a.one;have s:=No R i b;obtain rfl:=Dk j c;obtain rfl:=Dk k d;obtain rfl:=Dk l e;obtain⟨rfl,rfl⟩:=Jt h;exact EZ Qt (xZ 1000 (p0:=m) (p1:=n) (p2:=o) (p3:=p) q r u) R (List.forall_mem_cons.2 ⟨s,List.forall_mem_cons.2 ⟨R.glb,λf t=>absurd t List.not_mem_nil⟩⟩) λρ=> .bool _
theorem Vg (h:Zr us H=some (g,H')) (R:fP w0 ρ H w) (a:oQ ρ us vs):kB Tryz.prog w0 ρ 108 vs w g H':=by
 obtain⟨z,A,B,C,rfl,h⟩:=Lk h;obtain⟨m,b,h⟩:=aF.1 h;obtain⟨n,c,h⟩:=aF.1 h;obtain⟨o,d,h⟩:=aF.1 h;obtain⟨p,e,h⟩:=aF.1 h;obtain⟨r,u,h⟩:=aF.1 h;obtain⟨q,vs,rfl,i,a⟩:=a.of_cons;obtain⟨v,vs,rfl,j,a⟩:=a.of_cons;obtain⟨x,vs,rfl,k,a⟩:=a.of_cons;obtain⟨y,rfl,l⟩:=a.one;have s:=No R i b;obtain rfl:=Dk j c;obtain rfl:=Dk k d;obtain rfl:=Dk l e;cases h;exact EZ Qn (x_ 1000 (p0:=m) (p1:=n) (p2:=o) (p3:=p) q r u) R (List.forall_mem_cons.2 ⟨s,List.forall_mem_cons.2 ⟨R.glb,λf t=>absurd t List.not_mem_nil⟩⟩) λρ=> .int _ _
theorem LF {f:Nat} (h:Va f us H=some (g,H')) (R:fP w0 ρ H w) (a:oQ ρ us vs):kB Tryz.prog w0 ρ f vs w g H':=by
 unfold Va at h;cases b:Nat.beq f 50 with
 |true=>rw[b]at h;rw[Nat.eq_of_beq_eq_true b];exact Yt h R a
 |false=>
 rw[b]at h;cases c:Nat.beq f 26 with
 |true=>rw[c]at h;rw[Nat.eq_of_beq_eq_true c];exact Ys h R a
 |false=>
 rw[c]at h;cases d:Nat.beq f 167 with
 |true=>rw[d]at h;rw[Nat.eq_of_beq_eq_true d];exact Vh h R a
 |false=>
 rw[d]at h;cases e:Nat.beq f 108 with
 |true=>rw[e]at h;rw[Nat.eq_of_beq_eq_true e];exact Vg h R a
 |false=>
 rw[e]at h;cases h
end
theorem aaD:adc Tryz.prog uM=true:=by kernel_rfl
theorem Im:fI Tryz.prog uM:=⟨Og,aaC aaD⟩
theorem abc {a:zL} (b:eN a):r_ Tryz.prog b (Kp uM 174 Tryz.f174):=Uy Im mixedOrders Tryz.func174 Tryz.call174 (by kernel_rfl)
theorem aav (a:Array Value) (w:World) (c:a.size=2):CallsDIn (FR none) 0 Tryz.prog 173 a .returning w λe f g=>∃v,e = .returned v∧f = .returning∧Lb w g:=by
 obtain⟨d,h,b⟩:=VP (r:=Ew uM (Kp uM 174 Tryz.f174) (Ls Tryz.f173) (Yh uM (Kp uM 174 Tryz.f174) (λ_ _ _ _=>none) (Uw Tryz.f173) 0 ⟨[],0,[]⟩ (FS [])) (Ls Tryz.f173).tail ⟨[(Ya Tryz.f173,.inil)],H0⟩) (by kernel_rfl);exact Si (ch:=Kp uM 174 Tryz.f174) (lp:=λ_ _ _ _=>none) Im mixedOrders abc Hs Tryz.func173 Z Z Z (by decide +kernel) (λi w=>by simp[execOp,resolve,invoke,builtin]) (by kernel_rfl) (by kernel_rfl) Z (by rw[c];decide +kernel) h b
theorem adg {i:zL} {a:FuncId->List GV->GH->Option (GV×GH)} (o:∀(b:eN i) {f us H g H'},a f us H=some (g,H')->∀c w d,fP b c H w->oQ c us d->kB Tryz.prog b c f d w g H') (b:eN i):Qb Tryz.prog ⟨uM,110,a,U_ 284⟩ Fb.fns b:=by
 refine⟨Im,mixedOrders,λh=> ?_,o b,λh c w d H R n=>Yn Tryz.func284 Z Z Z Z h c w d H R n,λR l j k=> ?_⟩
 ·obtain⟨e,m,h⟩:=aF.1 (show ob (Rp _) _=some _ from h);cases h;obtain⟨p,q,r⟩:=Wa m;exact⟨p,q,NJ r⟩
 ·exact aap (tb:=uM) (T1:=3) (T2:=36) (cc:=173) Im Tryz.func110 Tryz.call110 Tryz.call173 Z Z Z (Qj (by kernel_rfl)) (Qj (by kernel_rfl)) (Rv Z Z) (Rv Z Z) (Vw Z Z) (Vw Z Z) aav R l j k
theorem OA {T:Nat} (a:eN (gl T)):Qb Tryz.prog gp Fb.fns a:=adg (λa f d H g c h i w e R b=>LF h R b) a
def gp0:GP:=⟨uM,110,λ_ _ _=>none,U_ 284⟩
theorem agI (a:eN noG):Qb Tryz.prog gp0 Fb.fns a:=adg (λa f c H g b h=>by cases h) a
end
end Go.Gx
end
namespace Go.Gx
open Go Go.Sx Go.RowKit
mutual
def FW (k:Nat):GV->GV
 | .ptr h o=> .ptr (k+h) o
 | .sl h o l s=> .sl (k+h) o l s
 | .map h=> .map (k+h)
 | .fn f a b=> .fn f (Tp k a) (Tp k b)
 | .agg cs=> .agg (Tp k cs)
 | .tup vs=> .tup (Tp k vs)
 | .int a b=> .int a b
 | .bool b=> .bool b
 | .str a b=> .str a b
 | .pnil=> .pnil
 | .snil=> .snil
 | .fnil=> .fnil
 | .inil=> .inil
 | .un=> .un
 | .bad=> .bad
 | .opn h=> .opn (k+h)
def Tp (k:Nat):List GV->List GV
 | []=>[]
 |v::r=>FW k v::Tp k r
end
theorem Mf (k:Nat):∀(l:List GV) (i:Nat),(Tp k l)[i]? = (l[i]?).map (FW k)
 | [],i=>rfl
 |v::r,0=>rfl
 |v::r,i+1=>by simpa [Tp]using Mf k r i
theorem Eg (k:Nat):∀(l:List GV),(Tp k l).length=l.length
 | []=>rfl
 |v::r=>by simp[Tp,Eg k r]
def WK (k:Nat):GO->GO
 | .cells cs=> .cells (Tp k cs)
 | .mp es=> .mp (es.map λe=>(FW k e.1,FW k e.2))
def AO (k:Nat) (l:Ki):Ki:={l with o:=WK k l.o}
theorem Rl.shift {y e:dX} {k:Nat} (c:∀h l,y h=some l->e (k+h)=some (AO k l)) {g:GV} {v:Value} (h:Rl y g v):Rl e (FW k g) v:=by
 have d:∀{u:List GV} {j:iP},(∀(i:Nat) g v,u[i]? = some g->j[i]? = some v->Rl e (FW k g) v)->∀(i:Nat) g v,(Tp k u)[i]? = some g->j[i]? = some v->Rl e g v:=by
  intro u j D i g v x E;rw[Mf]at x;obtain⟨z,A,rfl⟩:=Option.map_eq_some_iff.1 x;exact D i z v A E
 induction h with
 |int a n=>simp only[FW];exact .int a n
 |bool b=>simp only[FW];exact .bool b
 |str s=>simp only[FW];exact .str s
 |ptr t h=>simp only[FW];exact .ptr (l:=AO k _) t (c _ _ h)
 |pnil=>simp only[FW];exact .pnil
 |sl h C B=>simp only[FW];exact .sl (l:=AO k _) (c _ _ h) C B
 |snil=>simp only[FW];exact .snil
 |map h=>simp only[FW];exact .map (l:=AO k _) (c _ _ h)
 |fn f m w o G q r=>simp only[FW];exact .fn f (by rw[Eg];exact m) (d q) (by rw[Eg];exact o) (d r)
 |fnil=>simp only[FW];exact .fnil
 |inil=>simp only[FW];exact .inil
 |agg m w o p=>simp only[FW];exact .agg (by rw[Eg];exact m) (d p) o
 |tup m w p=>simp only[FW];exact .tup (by rw[Eg];exact m) (d p)
 |un=>simp only[FW];exact .un
 |bad v=>simp only[FW];exact .bad v
 |opn v h F=>simp only[FW];exact .opn (l:=AO k _) v (c _ _ h) F
abbrev OL:=List (Nat×Nat×GO)
def Tn:OL->Nat->Option (Nat×GO)
 | [],_=>none
 |x::r,h=>if h=x.1 then some x.2 else Tn r h
theorem LQ {b:OL} {h:Nat} {p:Nat×GO} (a:Tn b h=some p):(h,p)∈b:=by
 induction b with
 |nil=>cases a
 |cons x r c=>
  simp only[Tn]at a;split at a
  ·rename_i e;cases a;subst e;exact List.mem_cons_self
  ·exact List.mem_cons_of_mem _ (c a)
noncomputable def NP (k:Nat) (t:Tr (Nat×GO)):OL->Tr (Nat×GO)
 | []=>t
 |x::r=>(NP k t r).set (some (k+x.2.1,WK k x.2.2)) (k+x.1)
noncomputable def YR:OL->Tr (Nat×GO)
 | []=> .lf
 |x::r=>(YR r).set (some x.2) x.1
theorem Dp:∀(a:OL) (h:Nat),(YR a).get h=Tn a h
 | [],h=>rfl
 |x::r,h=>by
  show((YR r).set (some x.2) x.1).get h=_;rw[sE];simp only[Tn];split
  ·rfl
  ·exact Dp r h
theorem Jw (k:Nat) (t:Tr (Nat×GO)):∀(b:OL) (h:Nat),(NP k t b).get h=if k<=h then(match Tn b (h - k)with|some p=>some (k+p.1,WK k p.2)|none=>t.get h)else t.get h
 | [],h=>by simp[NP,Tn]
 | x :: r, h => by
  show((NP k t r).set (some (k+x.2.1,WK k x.2.2)) (k+x.1)).get h=_;rw[sE,Jw k t r h];by_cases e:h=k+x.1
  ·subst e;rw[if_pos Z,if_pos (by omega)];simp[Tn]
  ·rw[if_neg e];by_cases a:k<=h
   ·rw[if_pos a,if_pos a];simp only[Tn];rw[if_neg (show¬h - k=x.1 by omega)]
   ·rw[if_neg a,if_neg a]
noncomputable def Ih (n:Nat) (a:OL):GH:=⟨n,YR a⟩
noncomputable def GH.load (H:GH) (n:Nat) (a:OL):GH:=⟨H.n+n,NP H.n H.t a⟩
section
variable {gs:zL} {w0:eN gs} {w w':World} {ρ ρ2:dX} {H:GH} {n:Nat} {os:OL}
theorem gQ {H:GH} {h:Nat} {o:GO}:H.get h=some o↔∃v,H.t.get h=some (v,o):=by
 unfold GH.get;cases c:H.t.get h with
 |none=>simp[ob]
 |some p=>obtain⟨a,b⟩:=p;simp[ob]
theorem sB {H:GH} {h v:Nat}:H.ver h=some v↔∃o,H.t.get h=some (v,o):=by
 unfold GH.ver;cases c:H.t.get h with
 |none=>simp[ob]
 |some p=>obtain⟨a,b⟩:=p;simp[ob]
theorem fP.sub {d:GH} (R:fP w0 ρ H w) (z:d.n=H.n) (m:∀h p,d.t.get h=some p->H.t.get h=some p):fP w0 ρ d w:=by
 have g:∀h o,d.get h=some o->H.get h=some o:=λh o i=>by
  obtain⟨v,j⟩:=gQ.1 i;exact gQ.2 ⟨v,m _ _ j⟩
 refine⟨R.ext,λh o i=>R.live h o (g h o i),λh q o y l u e f=>R.inj h q o y l u (g _ _ e) (g _ _ f),λh r=>R.fresh h (by omega),λh r=>R.dense h (by omega),λh v l j s=> ?_,R.env⟩
 obtain⟨o,k⟩:=sB.1 j;obtain⟨x,a,b,c⟩:=R.vers h v l (sB.2 ⟨o,m _ _ k⟩) s;refine⟨x,a,b,?_⟩
 have e:=gQ.2 ⟨v,k⟩;have f:=g _ _ e;rw[c]at f;cases f;exact e
theorem yE.shift {l:Ki} {o:GO} {f:dX} {k:Nat} (d:∀h l,ρ2 h=some l->f (k+h)=some (AO k l)) (h:yE ρ2 w l o):yE f w (AO k l) (WK k o):=by
 cases o with
 |cells z=>
  obtain⟨j,T,r,s,t,y⟩:=h;refine⟨j,T,r,s,by rw[Eg];exact t,λi g e=> ?_⟩
  rw[Mf]at e;obtain⟨p,q,rfl⟩:=Option.map_eq_some_iff.1 e;obtain⟨v,a,b,c⟩:=y i p q;exact⟨v,a,b.shift d,c⟩
 |mp A=>
  obtain⟨x,u,r,s,t⟩:=h;refine⟨x,u,r,by simpa [WK]using s,λi g e=> ?_⟩
  rw[List.getElem?_map]at e;obtain⟨p,q,rfl⟩:=Option.map_eq_some_iff.1 e;obtain⟨m,a,b,c⟩:=t i p q;exact⟨m,a,b.shift d,c.shift d⟩
theorem fP.join {Y:zL} {hb:Hg Y w λ_=>False} (R:fP w0 ρ H w) (M:fP (eN.of w hb) ρ2 (Ih n os) w'):
  ∃s:dX,ρ.le s∧fP w0 s (H.load n os) w'∧∀g v,Rl ρ2 g v->Rl s (FW H.n g) v:=by
 let s:dX:=λh=>if h<H.n then ρ h else(ρ2 (h - H.n)).map (AO H.n);have G:ρ.le s:=λh l f=>by
  have ac:h<H.n:=by
   rcases Nat.lt_or_ge h H.n with q|q
   ·exact q
   ·rw[R.fresh h q]at f;cases f
  show(if h<H.n then ρ h else _)=_;rw[if_pos ac];exact f
 have K:∀h l,ρ2 h=some l->s (H.n+h)=some (AO H.n l):=λh l f=>by
  show(if H.n+h<H.n then _ else _)=_;rw[if_neg (by omega),show H.n+h - H.n=h by omega,f];rfl
 have k:∀h,h<H.n->s h=ρ h:=λh u=>by show(if h<H.n then ρ h else _)=_;rw[if_pos u]
 have d:∀h,H.n<=h->s h=(ρ2 (h - H.n)).map (AO H.n):=λh u=>by show(if h<H.n then ρ h else _)=_;rw[if_neg (by omega)]
 have J:∀h,H.n<=h->H.t.get h=none:=λh u=>by
  cases y:H.t.get h with
  |none=>rfl
  |some p=>exact absurd (R.lt (gQ.2 ⟨p.1,y⟩)) (by omega)
 have X:∀h,h<H.n->(H.load n os).t.get h=H.t.get h:=λh u=>by
  show(NP H.n H.t os).get h=_;rw[Jw,if_neg (by omega)]
 have gh:∀h p,H.n<=h->(H.load n os).t.get h=some p->∃x,(Ih n os).t.get (h - H.n)=some x∧p=(H.n+x.1,WK H.n x.2):=λh p u hp=>by
  have A:(NP H.n H.t os).get h=some p:=hp;rw[Jw,if_pos u,J h u]at A;cases hk:Tn os (h - H.n)with
  |none=>rw[hk]at A;cases A
  |some x=>rw[hk]at A;cases A;exact⟨x,(Dp os _).trans hk,rfl⟩
 have W:Lb w w':=M.ext.ext;have L:∀l:Ki,(eN.of w hb).mine l.b->w.heap.size<=l.b:=λl h=>by
  rcases h with h|h
  ·exact h
  ·exact h.elim
 have r:∀h o,h<H.n->(H.load n os).get h=some o->∃l,ρ h=some l∧w0.mine l.b∧yE ρ w l o∧H.get h=some o:=λh o u y=>by
  obtain⟨v,N⟩:=gQ.1 y;rw[X h u]at N;have z:=gQ.2 ⟨v,N⟩;obtain⟨l,a,b,c⟩:=R.live h o z;exact⟨l,a,b,c,z⟩
 have m:∀h o,H.n<=h->(H.load n os).get h=some o->∃l O,ρ2 (h - H.n)=some l∧w.heap.size<=l.b∧yE ρ2 w' l O∧o=WK H.n O∧(Ih n os).get (h - H.n)=some O:=λh o u y=>by
  obtain⟨v,N⟩:=gQ.1 y;obtain⟨x,E,e⟩:=gh h _ u N;cases e;have z:(Ih n os).get (h - H.n)=some x.2:=gQ.2 ⟨x.1,E⟩;obtain⟨l,a,b,c⟩:=M.live _ _ z;exact⟨l,x.2,a,L l b,c,rfl,z⟩
 refine⟨s,G,⟨R.ext.trans W,λh o y=> ?_,λh B o U l l' V E f j F=> ?_,λh u=> ?_,λh u=> ?_,λh v l N f=> ?_,λi v e=>let ⟨l,a,b⟩:=R.env i v e;⟨l,G _ _ a,b⟩⟩,λg v y=>y.shift K⟩
 ·rcases Nat.lt_or_ge h H.n with q|q
  ·obtain⟨l,a,b,c,_⟩:=r h o q y;exact⟨l,by rw[k h q];exact a,b,c.move G (W.block _ c.lt)⟩
  ·obtain⟨l,O,a,b,c,rfl,_⟩:=m h o q y;exact⟨AO H.n l,by rw[d h q,a];rfl,.inl (Nat.le_trans R.ext.size b),c.shift K⟩
 ·rcases Nat.lt_or_ge h H.n with q|q<;>rcases Nat.lt_or_ge B H.n with I|I
  ·obtain⟨l1,C,_,_,P⟩:=r h o q V;obtain⟨T,D,_,_,Q⟩:=r B U I E;rw[k h q,C]at f;rw[k B I,D]at j;cases f;cases j;exact R.inj h B o U _ _ P Q C D F
  ·obtain⟨l1,C,_,c1,P⟩:=r h o q V;obtain⟨T,O,D,b2,_,rfl,Q⟩:=m B U I E;rw[k h q,C]at f;rw[d B I,D]at j;cases f;cases j;have:=c1.lt;simp only[AO]at F;omega
  ·obtain⟨l1,o1,C,b1,_,rfl,P⟩:=m h o q V;obtain⟨T,D,_,c2,Q⟩:=r B U I E;rw[d h q,C]at f;rw[k B I,D]at j;cases f;cases j;have:=c2.lt;simp only[AO]at F;omega
  ·obtain⟨l1,o1,C,b1,_,rfl,P⟩:=m h o q V;obtain⟨T,O,D,b2,_,rfl,Q⟩:=m B U I E;rw[d h q,C]at f;rw[d B I,D]at j;cases f;cases j;have:=M.inj _ _ _ _ _ _ P Q C D F;omega
 ·have aa:H.n+n<=h:=u;rw[d h (by omega),M.fresh (h - H.n) (by show n<=_;omega)];rfl
 ·have aa:h<H.n+n:=u;rcases Nat.lt_or_ge h H.n with q|q
  ·obtain⟨l,f⟩:=R.dense h q;exact⟨l,by rw[k h q];exact f⟩
  ·obtain⟨l,f⟩:=M.dense (h - H.n) (by show _<n;omega);exact⟨AO H.n l,by rw[d h q,f];rfl⟩
 ·obtain⟨o,S⟩:=sB.1 N;rcases Nat.lt_or_ge h H.n with q|q
  ·rw[X h q]at S;rw[k h q]at f;obtain⟨lv,a,b,c⟩:=R.vers h v l (sB.2 ⟨o,S⟩) f;have y:=gQ.2 ⟨v,S⟩;obtain⟨l',j,_,ck⟩:=R.live h o y;rw[f]at j;cases j;refine⟨lv,G _ _ a,by rw[W.block _ ck.lt];exact b,?_⟩
   obtain⟨v2,ad⟩:=gQ.1 c;exact gQ.2 ⟨v2,by rw[X h q];exact ad⟩
  ·obtain⟨x,E,e⟩:=gh h _ q S;cases e;rw[d h q]at f;obtain⟨T,ab,rfl⟩:=Option.map_eq_some_iff.1 f;obtain⟨lv,a,b,c⟩:=M.vers (h - H.n) x.1 T (sB.2 ⟨x.2,E⟩) ab;refine⟨AO H.n lv,K _ _ a,b,?_⟩
   have h3:(Ih n os).get (h - H.n)=some x.2:=gQ.2 ⟨x.1,E⟩;rw[c]at h3;have h4:=Option.some.inj h3;exact gQ.2 ⟨_,by rw[S,<-h4];rfl⟩
end
theorem UO {a b:Nat×Nat} (h:Oz a b=true):a=b:=by
 obtain⟨f,d⟩:=a;obtain⟨g,e⟩:=b;unfold Oz at h;cases c:Nat.beq d e with
 |false=>simp[c]at h
 |true=>
  simp only[c,cond_true]at h;rw[Nat.eq_of_beq_eq_true h,Nat.eq_of_beq_eq_true c]
theorem Mc {c:dX} {n l:Nat} {x:ByteArray} (a:n=lI (bL x)) (b:l=(bL x).length):Rl c (.str n l) (.string x):=by
 rw[a,b];exact .str x
def Yw (a:List GV) (p:Nat×Nat):Bool:=List.casesOn (motive:=λ_=>Bool) a false λu r=>List.casesOn (motive:=λ_=>Bool) r (Option.casesOn (motive:=λ_=>Bool) (GV.asStr u) false λs=>Oz s p) λ_ _=>false
theorem Ps {b:List GV} {p:Nat×Nat} (h:Yw b p=true):b=[.str p.1 p.2]:=by
 cases b with
 |nil=>cases h
 | cons u r =>
  cases r with
  |cons _ _=>cases h
  | nil =>
   cases a:GV.asStr u with
   |none=>simp[Yw,a]at h
   |some s=>
    have:Oz s p=true:=by simpa [Yw,a]using h
    rw[pI a,UO this]
noncomputable section
def VU (H:GH) (a:List Nat):Option OL:=List.rec (motive:=λ_=>Option OL) (some []) (λh _ b=>ob (H.t.get h) λp=>ob b λr=>some ((h,p.1,p.2)::r)) a
theorem GQ {H:GH}:∀{c:List Nat} {b:OL},VU H c=some b->∀x∈b,H.t.get x.1=some x.2
 | [],b,h,x,a=>by cases h;cases a
 |h0::c,b,h,x,a=>by
  obtain⟨p,d,h⟩:=aF.1 (show ob (H.t.get h0) (λp=>ob (VU H c) λr=>some ((h0,p.1,p.2)::r))=some b from h);obtain⟨r,e,h⟩:=aF.1 h;cases h;rcases List.mem_cons.1 a with rfl|a
  ·exact d
  ·exact GQ e x a
def NB (T:Fw) (G:GP) (a f:Nat) (d:List GV) (b:List Nat):Option (GV×Nat×OL):=ob (IQ T G a f d H0) λr=>ob (VU r.2 b) λc=>some (r.1,r.2.n,c)
def shK {R:Type} (k:Nat) (v:GV) (f:GV->R):R:=GV.casesOn (motive_1:=λ_=>R) v (λa b=>f (.int a b)) (λb=>f (.bool b)) (λa b=>f (.str a b)) (λh o=>sn (Nat.add k h) λh=>f (.ptr h o)) (f .pnil) (λh o l s=>sn (Nat.add k h) λh=>f (.sl h o l s)) (f .snil) (λh=>sn (Nat.add k h) λh=>f (.map h)) (λa b c=>f (FW k (.fn a b c))) (f .fnil) (f .inil) (λd=>f (FW k (.agg d))) (λe=>f (FW k (.tup e))) (f .un) (f .bad) (λh=>sn (Nat.add k h) λh=>f (.opn h))
theorem Wh {R:Type} (k:Nat) (v:GV) (f:GV->R):shK k v f=f (FW k v):=by
 cases v<;>simp[shK,wV,FW]
def abh {R:Type} (k:Nat) (l:List GV):(List GV->R)->R:=List.rec (motive:=λ_=>(List GV->R)->R) (λf=>f []) (λx _ a f=>shK k x λy=>a λr=>f (y::r)) l
theorem Ru {R:Type} (k:Nat):∀(l:List GV) (f:List GV->R),abh k l f=f (Tp k l)
 | [],f=>rfl
 |x::l,f=>by
  show shK k x (λy=>abh k l λr=>f (y::r))=_;rw[Wh,Ru k l];rfl
def abi {R:Type} (k:Nat) (o:GO) (f:GO->R):R:=GO.casesOn (motive:=λ_=>R) o (λa=>abh k a λa=>f (.cells a)) (λb=>f (WK k (.mp b)))
theorem YY {R:Type} (k:Nat) (o:GO) (f:GO->R):abi k o f=f (WK k o):=by
 cases o with
 |cells a=>exact Ru k a _
 |mp b=>rfl
def abb {R:Type} (k:Nat) (t:Tr (Nat×GO)) (b:OL):(Tr (Nat×GO)->R)->R:=List.rec (motive:=λ_=>(Tr (Nat×GO)->R)->R) (λf=>f t) (λx _ a f=>a λt=>sn (Nat.add k x.2.1) λv=>sn (Nat.add k x.1) λh=>abi k x.2.2 λo=>t.setK (some (v,o)) h f) b
theorem Rj {R:Type} (k:Nat) (t:Tr (Nat×GO)):∀(a:OL) (f:Tr (Nat×GO)->R),abb k t a f=f (NP k t a)
 | [],f=>rfl
 |x::a,f=>by
  show abb k t a (λt=>sn (Nat.add k x.2.1) λv=>sn (Nat.add k x.1) λh=>abi k x.2.2 λo=>t.setK (some (v,o)) h f)=_;rw[Rj k t a];simp only[wV,YY,Cj];rfl
def KD (g:GV) (n:Nat) (a:OL) (H:GH):Option (GV×GH):=sn H.n λk=>shK k g λg=>abb k H.t a λt=>sn (Nat.add k n) λm=>some (g,⟨m,t⟩)
theorem VB (g:GV) (n:Nat) (a:OL) (H:GH):KD g n a H=some (FW H.n g,H.load n a):=by
 unfold KD;simp only[wV,Wh,Rj];rfl
theorem LW {P:Program} {T:Fw} {G:GP} {gs gs2:zL} (j:gs2.obs=gs.obs) (d:gs2.env=[]) (M:IB T G.tab) (L:∀m:eN gs2,Qb P G T.fns m) {a f n:Nat} {y:List GV} {z:List Value} {O:List Nat} {g:GV} {c:OL} (i:NB T G a f y O=some (g,n,c)) (C:aQ P f)
  {m:eN gs} {w:World} {F:dX} {H o:GH} {B:GV} (Q:oQ (λ_=>none) y z) (h:KD g n c H=some (B,o)) (R:fP m F H w):kB P m F f z w B o:=by
 rw[VB]at h;cases h;obtain⟨r,D,i⟩:=aF.1 (show ob (IQ T G a f y H0) _=some (g,n,c)from i);obtain⟨S,s,i⟩:=aF.1 i;cases i;rw[FB M]at D;have b:Hg gs2 w λ_=>False:=λp t=>⟨(R.glo p (j▸t)).1,id⟩
 rcases FA L (H':=r.2) (g:=r.1) D (fP.start (eN.of w b) d) Q with⟨v,E,l,k,_⟩|⟨_,N⟩
 ·have:=C z.toArray w;rw[show(eN.of w b).w=w from rfl,this]at k;cases k
 ·refine .inr ⟨C _ w,N.mono ?_⟩;rintro e E ⟨v,A,rfl,_,I,u⟩;have J:fP (eN.of w b) A (Ih r.2.n c) E:=I.sub Z λh p t=>by
   have:Tn c h=some p:=(Dp c h).symm.trans t;exact GQ s _ (LQ this)
  obtain⟨l,q,K,x⟩:=R.join J;exact⟨v,l,rfl,q,K,x _ _ u⟩
theorem SP {P:Program} {T:Fw} {G:GP} {gs:zL} (y:IB T G.tab) (x:∀H:eN gs,Qb P G T.fns H) {a f n:Nat} {m:List GV} {o:List Value} {D:List Nat} {g:GV} {j:OL} (d:NB T G a f m D=some (g,n,j)) (z:aQ P f)
  (E:oQ (λ_=>none) m o) (B:gs.env=[]) (b:eN gs):Calls P f o.toArray b.w λe q=>∃v c,e = .returned v∧fP b c (Ih n j) q∧Rl c g v:=by
 obtain⟨r,t,d⟩:=aF.1 (show ob (IQ T G a f m H0) _=some (g,n,j)from d);obtain⟨F,k,d⟩:=aF.1 d;cases d;rw[FB y]at t;rcases FA x (H':=r.2) (g:=r.1) t (fP.start b B) E with⟨v,q,c,i,_⟩|⟨_,A⟩
 ·have:=z o.toArray b.w;rw[this]at i;cases i
 ·refine A.mono ?_;rintro e q ⟨v,s,rfl,_,u,l⟩;exact⟨v,s,rfl,u.sub Z λh p C=>by
   have:Tn j h=some p:=(Dp j h).symm.trans C;exact GQ k _ (LQ this),l⟩
end
theorem Py {P:Program} {gs:Nat->zL} {L:List bD} (D:∀w S,(∀h∈L,h.p w S)->∃T,Hg (gs T) w λ_=>False) {f n:Nat} {z:List Value} {g:GV} {y:OL}
  (h:∀T (b:eN (gs T)),Calls P f z.toArray b.w λe s=>∃v c,e = .returned v∧fP b c (Ih n y) s∧Rl c g v) {A:Type} {o:A->Value} {LO:A->List bD}
  (d:∀T (b:eN (gs T)) (B:dX) (w:World) (V:Value),(∀k,b.mine k->b.w.heap.size<=k)->fP b B (Ih n y) w->Rl B g V->∃x:A,V=o x∧∀q∈LO x,q.p w (λk=>b.w.heap.size<=k)):
  bA P f z.toArray L o (λ_ l=>l) (λx l=>LO x++l):=by
 intro t C H;obtain⟨T,u⟩:=D t C H;refine(h T (.of t u)).mono ?_;rintro e s ⟨v,c,rfl,R,G⟩;obtain⟨x,rfl,F⟩:=d T (.of t u) c s v (λk r=>r.elim id False.elim) R G;refine⟨x,rfl,R.ext,λ_ _=>False,⟨λi m E=>by simp at E,λi k h=>h.elim,λi j k h=>h.elim⟩,λq a=> ?_⟩
 have a:q∈LO x++[]:=a;rw[List.append_nil]at a;exact bD.wide (F q a) (λk r=>⟨.inr (.inl r),λi h=>h.elim⟩)
noncomputable def HB (s:ByteArray):Nat×Nat:=(lI (bL s),(bL s).length)
theorem Nr {a b:ByteArray} (h:HB a=HB b):a=b:=by
 have c:=UN a b;unfold HB at h;rw[h]at c;have e:Oz (lI (bL b),(bL b).length) (lI (bL b),(bL b).length)=true:=by simp[Oz]
 rw[e]at c;have d:a.toList=b.toList:=eq_of_beq c.symm;rw[Lib.toList_data,Lib.toList_data]at d;obtain⟨⟨x⟩⟩:=a;obtain⟨⟨y⟩⟩:=b;simp only at d;rw[d]
noncomputable def aat (a:List GV):Option (Nat×Nat):=List.casesOn (motive:=λ_=>Option (Nat×Nat)) a none λc r=>List.casesOn (motive:=λ_=>Option (Nat×Nat)) r c.asStr λ_ _=>none
abbrev abd:fH ByteArray:=⟨1,Nat.one_pos,λ_ _ a x=>a=[.string x],λh=>by simp[h],λh _=>h⟩
theorem iC.str {S:Nat->Prop} {g:dX} {w:World}:iC S g w aat abd HB:=λgs f y a h _=>by
 cases gs with
 |nil=>cases h
 |cons c gs=>
 cases gs with
 |cons _ _=>cases h
 |nil=>
 have h:c.asStr=some y:=h;obtain⟨v,f,rfl,b,a⟩:=a.of_cons;rw[a.of_nil];rw[pI h]at b;obtain⟨x,rfl,d,e⟩:=b.str_inv;exact⟨x,by unfold HB;rw[<-d,<-e],rfl⟩
theorem Y_ {c:dX} {V:Value} {n l:Nat} {s:ByteArray} (h:Rl c (.str n l) V) (e:HB s=(n,l)):V = .string s:=by
 obtain⟨x,rfl,a,b⟩:=h.str_inv;have:HB x=HB s:=by rw[e];unfold HB;rw[<-a,<-b]
 rw[Nr this]
theorem Jg {c:Type}:∀a b:c,id a=id b->a=b:=λ_ _ h=>h
theorem Dm {c d e i:Type} {f:c->e} {g:d->i} (j:∀a b,f a=f b->a=b) (k:∀a b,g a=g b->a=b):∀a b:c×d,(λz:c×d=>(f z.1,g z.2)) a=(λz:c×d=>(f z.1,g z.2)) b->a=b:=λa b h=>by
 obtain⟨l,m⟩:=a;obtain⟨n,o⟩:=b;simp only[Prod.mk.injEq]at h;rw[j _ _ h.1,k _ _ h.2]
theorem Jl {g i:Type} {f:g->i} (e:∀a b,f a=f b->a=b):∀{c d:List g},c.map f=d.map f->c=d
 | [],[],_=>rfl
 | [],_::_,h=>by simp at h
 |_::_,[],h=>by simp at h
 |a::c,b::d,h=>by
  simp only[List.map_cons,List.cons.injEq]at h;rw[e _ _ h.1,Jl e h.2]
end Go.Gx
section
set_option maxRecDepth 100000
namespace Go.Gx
open Go Go.Sx Go.Proofs Go.Proofs.YtjkjpdonlpdcaaaGreatDoor
def BD (l:pY):List GV:=l.map λn=> .int .i64 (.ofNat n)
abbrev aaH:Nat:=6706143830449764899556809608818904919804074884937111603718476495539622089622860971527792587791047894922729163212717263328395231852300855536488424978955807703755604513825873373095632290149847090083112304426652546340939400726262280257803792487332445892473582856512649637013408585975292850644760247287299230258062944610265801223788397479914840704983105145953743025358843726328641031619437354017789814719882883570583131354112070717477863523377784965938515931160728579383844655360852857429048595849656685311997067516701048769715945338084683118784715135226216982869351630641616464718832441949492048937096570154901286325463543707328254906190863546417377904
def mu0:List GV:=[.str aaH 270]
def mg0:GV:=(.agg [(.str 7562850 3),(.sl 1176 0 2 6),(.sl 2078 0 2 3)])
def mo0:OL:=[(1176,1176,.cells [(.str 100 1),(.int .i64 (.ofNat 1)),(.int .i64 (.ofNat 0)),(.int .i64 (.ofNat 0)),(.int .i64 (.ofNat 1)),(.int .i64 (.ofNat 0)),(.str 112 1),(.int .i64 (.ofNat 3)),(.int .i64 (.ofNat 0)),(.int .i64 (.ofNat 0)),(.int .i64 (.ofNat 0)),(.int .i64 (.ofNat 0))]),
 (1300,1300,.cells (BD [41,0,10,0,42,0,36,0,5,0,1,0,36,0,5,1,4,0])),
 (1326,1326,.cells [(.int .i64 (.ofNat 1)),(.int .i64 (.ofNat 0))]),
 (1359,1359,.cells [(.int .i64 (.ofNat 4)),(.int .i64 (.ofNat 0))]),
 (1367,1367,.cells [(.int .i64 (.ofNat 0)),(.sl 1326 0 1 2),(.int .i64 (.ofNat 1)),(.sl 1359 0 1 2)]),
 (1755,1755,.cells (BD [41,0,19,0,10,0,42,0,36,0,5,0,43,0,37,0,24,0,12,0,6,0,33,0,24,0,12,0,1,1,6,0,36,0,5,1,23,0,35,0,12,0,24,0,12,0])),
 (1936,1936,.cells (BD [43,0,37,0,24,0,12,0,6,0,33,0,24,0,12,0,1,1,6,0])),
 (2062,2062,.cells (BD [23,0,35,0,12,0,24,0,12,0])),
 (2070,2070,.cells [(.int .i64 (.ofNat 0)),(.sl 1936 0 10 2),(.int .i64 (.ofNat 1)),(.sl 2062 0 5 2)]),
 (2078,2078,.cells [(.str 7368564 3),(.sl 1300 0 9 2),(.sl 1367 0 2 2),(.str 7827308 3),(.sl 1755 0 23 2),(.sl 2070 0 2 2)])]
set_option maxHeartbeats 4000000 in
theorem me0:NB Fb gp 4000 7 mu0 [1176,1300,1326,1359,1367,1755,1936,2062,2070,2078]=some (mg0,3136,mo0):=by kernel_rfl
noncomputable def Jb (f:Nat) (a:List GV) (H:GH):Option (GV×GH):=bif Nat.beq f 7 then(bif Yw a (aaH,270)then KD mg0 3136 mo0 H else Va f a H)else Va f a H
noncomputable def adj:GP:=⟨uM,gp.cat,Jb,gp.exn⟩
theorem GD {T:Nat} {k:eN (gl T)} {w:World} {e:dX} {H i:GH} {g:GV} {d:List GV} {j:iP} {f:Nat} (h:Jb f d H=some (g,i)) (R:fP k e H w) (a:oQ e d j):kB Tryz.prog k e f j w g i:=by
 unfold Jb at h;cases b:Nat.beq f 7 with
 |false=>rw[b]at h;exact LF h R a
 | true =>
  rw[b]at h;cases c:Yw d (aaH,270)with
  |false=>rw[c]at h;exact LF h R a
  |true=>
   rw[c]at h;rw[Nat.eq_of_beq_eq_true b];rw[Ps c]at a;obtain⟨V,rfl,n⟩:=a.one;obtain⟨x,rfl,l,m⟩:=n.str_inv;exact LW (gs:=gl T) (gs2:=gl T) Z Z Ef OA me0 Tryz.call7 (oQ.cons (Mc l m) .nil) h R
theorem adh {T:Nat} (a:eN (gl T)):Qb Tryz.prog adj Fb.fns a:=⟨(OA a).tab,(OA a).mixed,(OA a).fns,λh d w c R b=>GD h R b,(OA a).exn,(OA a).cat⟩
abbrev SD:Nat:=694347383405035167176194822044002167647348297245143836294131327360569184365737968126329793190405493482344988959786894529281874176313558490826984968606246471080877494789011164177302286245049115990372077200403708013402509049695102382306818228322771982393217707961675795842989522967358188456979690970385641764651692123905212872060252986787261095913761171524319417829960073087282171735954781095584211454070868651197802307499032207784732548677135855370816834395925866565744265665207222116462978656831551281803369594549094313899917189094449793580303100413293807281703359455343358032385010591122950381170540903283024219015264429781225548838463523961460985867279886747768292538941600374435537547606801203451863138856874214221985847324684911821162203478916645432183221957952246405198551766390813582263330814856421060931063538327705289539381453604124378675808245139143432472308435888706790881913041858159371579898941504693382735800866132567585648297324557324259377338335589867496172224785527092219321786217240867672863735135282467984287700917091573592223335919998225525998760454851250566578735079287735788708791643295000326126232361921241672605532036970180138036720200852591755851876944948989006655553778101348782543140787492202909107220094451130950110838909564269255896107391729847775988160006180135088428875437003457029393388116238549331043434132085245837242978425384584307620834728433727603286891896652071775522271400294050822192304926936532738004063480601437530384204200137077770219811423516471932909178094747412144444130601465298819927667613537532820414148444100189654789199224116680942469602618485657465279305789375435049996248655599547014628641465268294388905743491636110899724336907966066866112157649229705572388001827019957074910716085437328022127866406657227453040
def mu1:List GV:=[.str SD 733]
def mg1:GV:=(.tup [(.sl 2969 0 348 4),(.int .i64 (.ofNat 0)),(.int .i64 (.ofNat 0))])
def mo1:OL:=[(2969,2969,.cells (BD [1,0,7,0,1,8,14,0,3,14,15,0,1,16,19,0,1,20,24,0,3,25,26,0,2,27,28,0,3,29,31,0,1,32,35,0,3,35,36,0,1,37,40,0,1,41,42,0,3,43,44,0,2,45,46,0,3,47,49,0,1,50,51,0,3,52,53,0,2,54,55,1,3,55,56,0,1,57,60,0,1,61,62,0,3,63,64,0,1,65,69,0,3,69,70,0,1,71,75,0,1,76,79,0,3,79,80,0,1,81,83,0,3,84,85,0,1,86,87,0,3,88,90,0,1,91,94,0,3,94,95,0,1,95,96,0,3,96,97,0,1,97,98,0,3,99,100,0,2,101,102,1,3,103,104,0,1,105,106,0,3,107,108,0,1,109,110,0,3,110,111,0,1,111,115,0,3,116,117,0,1,118,119,0,3,120,121,0,1,122,123,0,3,123,124,0,1,124,125,0,3,126,127,0,3,128,129,0,1,129,132,0,3,133,134,0,2,135,136,1,3,136,137,0,3,138,139,0,1,140,141,0,3,141,142,0,3,143,145,0,3,146,147,0,1,147,151,0,3,152,154,0,1,155,157,0,3,158,160,0,1,161,162,0,3,163,165,0,2,166,167,0,3,168,170,0,1,171,172,0,3,173,175,0,1,176,180,0,3,180,181,0,3,182,184,0,1,185,189,0,3,190,192,0,1,193,195,0,3,195,196,0,1,197,198,0,3,199,201,0,2,202,203,0,3,203,204,0,1,205,206,0,3,207,209,0,1,210,214,0,3,214,215,0,1,216,220,0,1,221,225,0,3,225,226,0,1,227,229,0,3,230,231,0,1,232,233,0,3,234,235,0,1,236,239,0,3,239,240,0,1,240,241,0,3,241,242,0,1,242,243,0,3,244,245,0,2,246,247,1,3,248,249,0,1,250,251,0,3,252,253,0,1,254,255,0,3,255,256,0,1,256,260,0,3,261,262,0,1,263,264,0,3,265,266,0,1,267,268,0,3,268,269,0,1,269,270,0,3,271,272,0,3,273,274,0,1,274,277,0,3,278,279,0,2,280,281,1,3,281,282,0,3,283,284,0,1,285,286,0,3,286,287,0,3,288,290,0,3,291,292,0,1,292,296,0,3,297,299,0,1,300,303,0,3,303,304,0,1,304,305,0,3,305,306,0,1,306,307,0,3,308,309,0,2,310,311,1,3,312,313,0,1,314,315,0,3,316,317,0,1,318,319,0,3,319,320,0,1,320,324,0,3,325,326,0,1,327,328,0,3,329,330,0,1,331,332,0,3,332,333,0,1,333,334,0,3,335,336,0,3,337,338,0,1,338,341,0,3,342,343,0,2,344,345,1,3,345,346,0,3,347,348,0,1,349,350,0,3,350,351,0,3,352,353,0,1,354,355,0,3,356,358,0,1,359,360,0,3,361,363,0,1,364,367,0,3,367,368,0,1,368,369,0,3,369,370,0,1,370,371,0,3,372,373,0,2,374,375,1,3,376,377,0,1,378,379,0,3,380,381,0,1,382,383,0,3,383,384,0,1,384,388,0,3,389,390,0,1,391,392,0,3,393,394,0,1,395,396,0,3,396,397,0,1,397,398,0,3,399,400,0,3,401,402,0,1,402,405,0,3,406,407,0,2,408,409,1,3,409,410,0,3,411,412,0,1,413,414,0,3,414,415,0,3,416,417,0,1,418,419,0,3,420,421,0,2,422,423,1,3,424,426,0,1,427,428,0,3,429,431,0,1,432,437,0,3,437,438,0,1,438,439,0,3,439,440,0,1,440,444,0,3,445,446,0,1,447,448,0,3,449,450,0,1,451,452,0,3,452,453,0,1,453,454,0,3,455,457,0,1,458,461,0,3,461,462,0,1,462,463,0,3,463,464,0,1,464,465,0,3,466,467,0,2,468,469,1,3,470,471,0,1,472,473,0,3,474,475,0,1,476,477,0,3,477,478,0,1,478,482,0,3,483,484,0,1,485,486,0,3,487,488,0,1,489,490,0,3,490,491,0,1,491,492,0,3,493,494,0,3,495,496,0,1,496,499,0,3,500,501,0,2,502,503,1,3,503,504,0,3,505,506,0,1,507,508,0,3,508,509,0,3,509,510,0,3,510,511,0,3,514,516,0,1,517,521,0,3,522,524,0,1,525,528,0,3,528,529,0,1,529,530,0,3,530,531,0,1,531,532,0,3,533,534,0,2,535,536,1,3,537,538,0,1,539,540,0,3,541,542,0,1,543,544,0,3,544,545,0,1,545,549,0,3,550,551,0,1,552,553,0,3,554,555,0,1,556,557,0,3,557,558,0,1,558,559,0,3,560,561,0,3,562,563,0,1,563,566,0,3,567,568,0,2,569,570,1,3,570,571,0,3,572,573,0,1,574,575,0,3,575,576,0,3,577,578,0,1,579,580,0,3,580,581,0,1,582,583,0,3,584,586,0,1,587,590,0,3,590,591,0,1,591,592,0,3,592,593,0,1,593,594,0,3,595,596,0,2,597,598,1,3,599,600,0,1,601,602,0,3,603,604,0,1,605,606,0,3,606,607,0,1,607,611,0,3,612,613,0,1,614,615,0,3,616,617,0,1,618,619,0,3,619,620,0,1,620,621,0,3,622,623,0,3,624,625,0,1,625,628,0,3,629,630,0,2,631,632,1,3,632,633,0,3,634,635,0,1,636,637,0,3,637,638,0,3,639,640,0,1,641,642,0,3,643,644,0,2,645,646,1,3,646,647,0,1,648,649,0,3,650,652,0,1,653,658,0,3,658,659,0,1,659,660,0,3,660,661,0,1,661,665,0,3,666,667,0,1,668,669,0,3,670,671,0,1,672,673,0,3,673,674,0,1,674,675,0,3,676,678,0,1,679,682,0,3,682,683,0,1,683,684,0,3,684,685,0,1,685,686,0,3,687,688,0,2,689,690,1,3,691,692,0,1,693,694,0,3,695,696,0,1,697,698,0,3,698,699,0,1,699,703,0,3,704,705,0,1,706,707,0,3,708,709,0,1,710,711,0,3,711,712,0,1,712,713,0,3,714,715,0,3,716,717,0,1,717,720,0,3,721,722,0,2,723,724,1,3,724,725,0,3,726,727,0,1,728,729,0,3,729,730,0,3,730,731,0,3,731,732,0]))]
set_option maxHeartbeats 4000000 in
theorem me1:NB Fb adj 4000 109 mu1 [2969]=some (mg1,2970,mo1):=by kernel_rfl
noncomputable def Jc (f:Nat) (a:List GV) (H:GH):Option (GV×GH):=bif Nat.beq f 109 then(bif Yw a (SD,733)then KD mg1 2970 mo1 H else Jb f a H)else Jb f a H
noncomputable def adk:GP:=⟨uM,gp.cat,Jc,gp.exn⟩
theorem GE {T:Nat} {k:eN (gl T)} {w:World} {e:dX} {H i:GH} {g:GV} {d:List GV} {j:iP} {f:Nat} (h:Jc f d H=some (g,i)) (R:fP k e H w) (a:oQ e d j):kB Tryz.prog k e f j w g i:=by
 unfold Jc at h;cases b:Nat.beq f 109 with
 |false=>rw[b]at h;exact GD h R a
 | true =>
  rw[b]at h;cases c:Yw d (SD,733)with
  |false=>rw[c]at h;exact GD h R a
  |true=>
   rw[c]at h;rw[Nat.eq_of_beq_eq_true b];rw[Ps c]at a;obtain⟨V,rfl,n⟩:=a.one;obtain⟨x,rfl,l,m⟩:=n.str_inv;exact LW (gs:=gl T) (gs2:=gl T) Z Z Ef adh me1 Tryz.call109 (oQ.cons (Mc l m) .nil) h R
theorem Zq {T:Nat} (a:eN (gl T)):Qb Tryz.prog adk Fb.fns a:=⟨(OA a).tab,(OA a).mixed,(OA a).fns,λh d w c R b=>GE h R b,(OA a).exn,(OA a).cat⟩
end Go.Gx
end
section
set_option maxRecDepth 100000
namespace Go.Gx
open Go Go.Sx Go.Proofs Go.Proofs.YtjkjpdonlpdcaaaGreatDoor
def mu2:List GV:=[.str SD 733]
def mg2:GV:=(.agg [(.str 125779801367916 6),(.sl 3126 0 3 6),(.sl 5744 0 2 3)])
def VE:OL:=[(3126,3126,.cells [(.str 1684104556 4),(.int .i64 (.ofNat 1)),(.int .i64 (.ofNat 0)),(.int .i64 (.ofNat 0)),(.int .i64 (.ofNat 0)),(.int .i64 (.ofNat 1)),(.str 100 1),(.int .i64 (.ofNat 1)),(.int .i64 (.ofNat 0)),(.int .i64 (.negSucc 0)),(.int .i64 (.ofNat 1)),(.int .i64 (.ofNat 0)),(.str 112 1),(.int .i64 (.ofNat 3)),(.int .i64 (.ofNat 0)),(.int .i64 (.ofNat 0)),(.int .i64 (.ofNat 0)),(.int .i64 (.ofNat 0))]),
 (3538,3538,.cells (BD [41,0,38,0,30,0,8,0,6,0,24,0,43,0,37,0,33,0,12,1,1,1,6,0,33,0,30,0,12,0,6,0,12,1,30,0,33,0,7,0,1,1,6,0,42,0,42,0,36,0,5,0,8,0,36,0,5,1,1,0,36,0,5,2,4,0])),
 (3565,3565,.cells [(.int .i64 (.ofNat 8)),(.int .i64 (.ofNat 0))]),
 (3597,3597,.cells [(.int .i64 (.ofNat 1)),(.int .i64 (.ofNat 0))]),
 (3630,3630,.cells [(.int .i64 (.ofNat 4)),(.int .i64 (.ofNat 0))]),
 (3638,3638,.cells [(.int .i64 (.ofNat 0)),(.sl 3565 0 1 2),(.int .i64 (.ofNat 1)),(.sl 3597 0 1 2),(.int .i64 (.ofNat 2)),(.sl 3630 0 1 2)]),
 (4847,4847,.cells (BD [41,0,39,0,30,0,8,0,6,0,24,0,43,0,37,0,33,0,12,1,1,1,6,0,33,0,30,0,12,0,6,0,12,1,30,0,33,0,7,0,1,1,6,0,42,0,42,0,36,0,5,0,31,0,24,0,43,0,37,0,33,0,12,1,1,1,6,0,33,0,30,0,12,0,6,0,12,1,30,0,33,0,7,0,1,1,6,0,6,0,36,0,5,1,33,0,32,0,24,0,43,0,37,0,33,0,12,1,1,1,6,0,33,0,30,0,12,0,6,0,12,1,30,0,33,0,7,0,1,1,6,0,6,0,1,1,36,0,5,2,23,0,35,0,33,0,30,0,12,0,6,0,12,1,24,0,43,0,37,0,33,0,12,1,1,1,6,0,33,0,30,0,12,0,6,0,12,1,30,0,33,0,7,0,1,1,6,0])),
 (5104,5104,.cells (BD [31,0,24,0,43,0,37,0,33,0,12,1,1,1,6,0,33,0,30,0,12,0,6,0,12,1,30,0,33,0,7,0,1,1,6,0,6,0])),
 (5385,5385,.cells (BD [33,0,32,0,24,0,43,0,37,0,33,0,12,1,1,1,6,0,33,0,30,0,12,0,6,0,12,1,30,0,33,0,7,0,1,1,6,0,6,0,1,1])),
 (5728,5728,.cells (BD [23,0,35,0,33,0,30,0,12,0,6,0,12,1,24,0,43,0,37,0,33,0,12,1,1,1,6,0,33,0,30,0,12,0,6,0,12,1,30,0,33,0,7,0,1,1,6,0])),
 (5736,5736,.cells [(.int .i64 (.ofNat 0)),(.sl 5104 0 19 2),(.int .i64 (.ofNat 1)),(.sl 5385 0 21 2),(.int .i64 (.ofNat 2)),(.sl 5728 0 24 2)]),
 (5744,5744,.cells [(.str 7239535 3),(.sl 3538 0 33 2),(.sl 3638 0 3 2),(.str 1852403562 4),(.sl 4847 0 94 2),(.sl 5736 0 3 2)])]
set_option maxHeartbeats 4000000 in
theorem me2:NB Fb adk 4000 7 mu2 [3126,3538,3565,3597,3630,3638,4847,5104,5385,5728,5736,5744]=some (mg2,9723,VE):=by kernel_rfl
noncomputable def Pm (f:Nat) (a:List GV) (H:GH):Option (GV×GH):=bif Nat.beq f 7 then(bif Yw a (SD,733)then KD mg2 9723 VE H else Jc f a H)else Jc f a H
noncomputable def adl:GP:=⟨uM,gp.cat,Pm,gp.exn⟩
theorem SB {T:Nat} {k:eN (gl T)} {w:World} {e:dX} {H i:GH} {g:GV} {d:List GV} {j:iP} {f:Nat} (h:Pm f d H=some (g,i)) (R:fP k e H w) (a:oQ e d j):kB Tryz.prog k e f j w g i:=by
 unfold Pm at h;cases b:Nat.beq f 7 with
 |false=>rw[b]at h;exact GE h R a
 | true =>
  rw[b]at h;cases c:Yw d (SD,733)with
  |false=>rw[c]at h;exact GE h R a
  |true=>
   rw[c]at h;rw[Nat.eq_of_beq_eq_true b];rw[Ps c]at a;obtain⟨V,rfl,n⟩:=a.one;obtain⟨x,rfl,l,m⟩:=n.str_inv;exact LW (gs:=gl T) (gs2:=gl T) Z Z Ef Zq me2 Tryz.call7 (oQ.cons (Mc l m) .nil) h R
theorem adi {T:Nat} (a:eN (gl T)):Qb Tryz.prog adl Fb.fns a:=⟨(OA a).tab,(OA a).mixed,(OA a).fns,λh d w c R b=>SB h R b,(OA a).exn,(OA a).cat⟩
noncomputable abbrev gp2:GP:=adl
theorem agJ {T:Nat} (a:eN (gl T)):Qb Tryz.prog gp2 Fb.fns a:=adi a
end Go.Gx
end
namespace Go.Gx
open Go Go.Sx Go.RowKit
structure Hd (n:Nat) (os:OL) (ρ:dX) (w:World) (S:Nat->Prop):Prop where
 live:∀h o,(Ih n os).get h=some o->∃l,ρ h=some l∧S l.b∧yE ρ w l o
 inj:∀h h' o o' l l',(Ih n os).get h=some o->(Ih n os).get h'=some o'->ρ h=some l->ρ h'=some l'->l.b=l'.b->h=h'
 fresh:∀h,n<=h->ρ h=none
 dense:∀h,h<n->∃l,ρ h=some l
 vers:∀h v l,(Ih n os).ver h=some v->ρ h=some l->∃lv,ρ v=some lv∧w.heap[l.b]? = some lv.x∧(Ih n os).get h=some lv.o
theorem Hd.mono {n:Nat} {p:OL} {f:dX} {w w':World} {S g:Nat->Prop} (H:Hd n p f w S) (h:∀k,S k->k<w.heap.size->g k∧w'.heap[k]? = w.heap[k]?):Hd n p f w' g:=by
 refine⟨λk o s=> ?_,H.inj,H.fresh,H.dense,λk v l m j=> ?_⟩
 ·obtain⟨l,a,b,c⟩:=H.live k o s;obtain⟨d,e⟩:=h _ b c.lt;exact⟨l,a,d,c.move (dX.le_refl f) e⟩
 ·obtain⟨u,a,b,c⟩:=H.vers k v l m j;obtain⟨o,t⟩:=sB.1 m;obtain⟨x,i,q,r⟩:=H.live k o (gQ.2 ⟨v,t⟩);rw[j]at i;cases i;exact⟨u,a,by rw[(h _ q r.lt).2];exact b,c⟩
theorem fP.hd {gs:zL} {b:eN gs} {n:Nat} {d:OL} {ρ:dX} {w:World} {S:Nat->Prop} (R:fP b ρ (Ih n d) w) (e:∀k,b.mine k->S k):Hd n d ρ w S:=
 ⟨λh o f=>let ⟨l,a,b,c⟩:=R.live h o f;⟨l,a,e _ b,c⟩,R.inj,R.fresh,R.dense,R.vers⟩
def Tx (n:Nat) (b:OL) (g:GV) (V:Value):bD where
 p w S:=∃a,Hd n b a w S∧Rl a g V
 mono:=fun⟨a,h,r⟩ k=>⟨a,h.mono k,r⟩
def Hd.O (n:Nat) (a:OL) (c:dX) (k:Nat):Prop:=∃h o l,(Ih n a).get h=some o∧c h=some l∧l.b=k
def Hd.base (n:Nat) (os:OL) (ρ:dX) (w:World):eN noG:=⟨w,Hd.O n os ρ,λ_ h=>absurd h List.not_mem_nil⟩
theorem Hd.rel {n:Nat} {b:OL} {ρ:dX} {w:World} {S:Nat->Prop} (H:Hd n b ρ w S):fP (Hd.base n b ρ w) ρ (Ih n b) w:=
 ⟨BM.refl w,λh o d=>let ⟨l,a,_,c⟩:=H.live h o d;⟨l,a,.inr ⟨h,o,l,d,a,rfl⟩,c⟩,H.inj,H.fresh,H.dense,H.vers,λi v e=>by simp[Hd.base,noG]at e⟩
noncomputable def ED (H:GH) (b:OL):Bool:=List.rec (motive:=λ_=>Bool) true (λx _ a=>Option.casesOn (motive:=λ_=>Bool) (H.ver x.1) false λv=>bif Nat.beq v x.2.1 then a else false) b
theorem NX {H:GH}:∀{a:OL},ED H a=true->∀x∈a,H.ver x.1=some x.2.1
 | [],_,x,b=>by cases b
 | y :: a, h, x, b => by
  have h:Option.casesOn (motive:=λ_=>Bool) (H.ver y.1) false (λv=>bif Nat.beq v y.2.1 then ED H a else false)=true:=h;cases c:H.ver y.1 with
  |none=>rw[c]at h;cases h
  | some v =>
   rw[c]at h;obtain⟨d,f⟩:=bQ.1 (show(bif Nat.beq v y.2.1 then(some (ED H a))else none)=some true by
    have h:(bif Nat.beq v y.2.1 then ED H a else false)=true:=h;cases e:Nat.beq v y.2.1<;>rw[e]at h<;>first|cases h|(show some (ED H a)=some true;rw[show ED H a=true from h]))
   rcases List.mem_cons.1 b with rfl|b
   ·rw[c,Nat.eq_of_beq_eq_true d]
   ·exact NX (Option.some.inj f) x b
noncomputable def okV (a:OL) (r:OR):Bool:=Option.casesOn (motive:=λ_=>Bool) r false λr=>Option.casesOn (motive:=λ_=>Bool) r.1.asB false λb=>bif b then ED r.2 a else false
theorem VR {d:OL} {r:OR} (h:okV d r=true):∃a,r=some (.bool true,a)∧ED a d=true:=by
 cases r with
 |none=>cases h
 | some r =>
  obtain⟨g,a⟩:=r;have h:Option.casesOn (motive:=λ_=>Bool) g.asB false (λb=>bif b then ED a d else false)=true:=h;cases c:g.asB with
  |none=>rw[c]at h;cases h
  |some b=>
   rw[c]at h;cases b with
   |false=>cases h
   |true=>exact⟨a,by rw[Bz c],h⟩
theorem SG {P:Program} {G:GP} {x:FT} (F:∀T:eN noG,Qb P G x T) {fuel f n:Nat} {d:OL} {g:GV} {V:Value} (H:aQ P f) (h:∃r,QE G x fuel f [g] (Ih n d)=some (.bool true,r)∧ED r d=true) {w:World} {S:Nat->Prop} (Q:(Tx n d g V).p w S):
  Calls P f #[V] w λe u=>e = .returned (.bool true)∧Lb w u:=by
 obtain⟨U,y,M⟩:=Q;obtain⟨r,D,E⟩:=h;rcases FA F D y.rel (.cons M .nil)with⟨v,u,W,m,_⟩|⟨_,I⟩
 ·have:=H #[V] w;rw[this]at m;cases m
 ·refine I.mono ?_;rintro e u ⟨v,X,rfl,j,c,N⟩;refine⟨by rw[N.bool_inv],c.ext.os,c.ext.tape,c.ext.output,c.ext.size,λk K=> ?_⟩
  by_cases A:Hd.O n d U k
  ·obtain⟨i,o,l,J,z,rfl⟩:=A;obtain⟨t,q⟩:=gQ.1 J;have L:(i,t,o)∈d:=LQ ((Dp d i).symm.trans q);obtain⟨R,a,b,_⟩:=y.vers i t l (sB.2 ⟨o,q⟩) z;obtain⟨s,B,C,_⟩:=c.vers i t l (NX E _ L) (j _ _ z);have:R=s:=by have:=j _ _ a;rw[B]at this;exact(Option.some.inj this).symm
   subst this;exact C.trans b.symm
  ·exact c.ext.block k K A
end Go.Gx
namespace Go.Proofs.YtjkjpdonlpdcaaaGreatDoor
open Go Go.Sx Go.Gx
set_option maxRecDepth 100000
abbrev yF:=ByteArray×(Value×b_)×(Value×List (Int×(Value×b_)))
def AB (z:yF):b_×List (Int×b_):=(z.2.1.2,z.2.2.2.map λs=>(s.1,s.2.2))
def E_:ByteArray:=(ByteArray.mk #[112,114,111,103,114,97,109,32,108,101,97,100,101,114,59,10,118,97,114,32,108,101,97,100,32,58,32,48,32,46,46,32,105,100,115,59,10,118,97,114,32,100,32,58,32,48,32,46,46,32,110,32,45,32,49,59,10,118,97,114,32,112,32,58,32,112,111,114,116,59,10,114,117,108,101,32,111,119,110,58,32,105,100,32,42,32,110,32,60,61,32,109,105,110,40,113,46,100,32,43,32,49,32,60,32,110,32,63,32,113,46,108,101,97,100,32,42,32,110,32,43,32,113,46,100,32,58,32,40,105,100,115,32,43,32,49,41,32,42,32,110,41,32,38,38,32,40,108,101,97,100,32,33,61,32,105,100,32,124,124,32,100,32,33,61,32,48,32,124,124,32,112,32,33,61,32,110,111,110,101,41,32,45,62,32,108,101,97,100,32,58,61,32,105,100,44,32,100,32,58,61,32,48,44,32,112,32,58,61,32,110,111,110,101,59,10,114,117,108,101,32,106,111,105,110,58,32,105,100,32,42,32,110,32,62,32,109,105,110,40,113,46,100,32,43,32,49,32,60,32,110,32,63,32,113,46,108,101,97,100,32,42,32,110,32,43,32,113,46,100,32,58,32,40,105,100,115,32,43,32,49,41,32,42,32,110,41,32,38,38,32,40,108,101,97,100,32,33,61,32,109,105,110,40,113,46,100,32,43,32,49,32,60,32,110,32,63,32,113,46,108,101,97,100,32,42,32,110,32,43,32,113,46,100,32,58,32,40,105,100,115,32,43,32,49,41,32,42,32,110,41,32,47,32,110,32,124,124,32,100,32,33,61,32,109,105,110,40,113,46,100,32,43,32,49,32,60,32,110,32,63,32,113,46,108,101,97,100,32,42,32,110,32,43,32,113,46,100,32,58,32,40,105,100,115,32,43,32,49,41,32,42,32,110,41,32,37,32,110,32,43,32,49,32,124,124,32,112,32,33,61,32,102,105,114,115,116,40,113,46,108,101,97,100,32,42,32,110,32,43,32,113,46,100,32,61,61,32,109,105,110,40,113,46,100,32,43,32,49,32,60,32,110,32,63,32,113,46,108,101,97,100,32,42,32,110,32,43,32,113,46,100,32,58,32,40,105,100,115,32,43,32,49,41,32,42,32,110,41,41,41,10,32,32,45,62,32,108,101,97,100,32,58,61,32,109,105,110,40,113,46,100,32,43,32,49,32,60,32,110,32,63,32,113,46,108,101,97,100,32,42,32,110,32,43,32,113,46,100,32,58,32,40,105,100,115,32,43,32,49,41,32,42,32,110,41,32,47,32,110,44,32,100,32,58,61,32,109,105,110,40,113,46,100,32,43,32,49,32,60,32,110,32,63,32,113,46,108,101,97,100,32,42,32,110,32,43,32,113,46,100,32,58,32,40,105,100,115,32,43,32,49,41,32,42,32,110,41,32,37,32,110,32,43,32,49,44,32,112,32,58,61,32,102,105,114,115,116,40,113,46,108,101,97,100,32,42,32,110,32,43,32,113,46,100,32,61,61,32,109,105,110,40,113,46,100,32,43,32,49,32,60,32,110,32,63,32,113,46,108,101,97,100,32,42,32,110,32,43,32,113,46,100,32,58,32,40,105,100,115,32,43,32,49,41,32,42,32,110,41,41,59,10])
def GT:Hy:=[((ByteArray.mk #[108,101,97,100]),(1:Int),(0:Int),(0:Int),(0:Int),(1:Int)),((ByteArray.mk #[100]),(1:Int),(0:Int),(-1:Int),(1:Int),(0:Int)),((ByteArray.mk #[112]),(3:Int),(0:Int),(0:Int),(0:Int),(0:Int))]
def Ec:Of:=[([(41,0),(38,0),(30,0),(8,0),(6,0),(24,0),(43,0),(37,0),(33,0),(12,1),(1,1),(6,0),(33,0),(30,0),(12,0),(6,0),(12,1),(30,0),(33,0),(7,0),(1,1),(6,0),(42,0),(42,0),(36,0),(5,0),(8,0),(36,0),(5,1),(1,0),(36,0),(5,2),(4,0)],[(0,[(8,0)]),(1,[(1,0)]),(2,[(4,0)])]),([(41,0),(39,0),(30,0),(8,0),(6,0),(24,0),(43,0),(37,0),(33,0),(12,1),(1,1),(6,0),(33,0),(30,0),(12,0),(6,0),(12,1),(30,0),(33,0),(7,0),(1,1),(6,0),(42,0),(42,0),(36,0),(5,0),(31,0),(24,0),(43,0),(37,0),(33,0),(12,1),(1,1),(6,0),(33,0),(30,0),(12,0),(6,0),(12,1),(30,0),(33,0),(7,0),(1,1),(6,0),(6,0),(36,0),(5,1),(33,0),(32,0),(24,0),(43,0),(37,0),(33,0),(12,1),(1,1),(6,0),(33,0),(30,0),(12,0),(6,0),(12,1),(30,0),(33,0),(7,0),(1,1),(6,0),(6,0),(1,1),(36,0),(5,2),(23,0),(35,0),(33,0),(30,0),(12,0),(6,0),(12,1),(24,0),(43,0),(37,0),(33,0),(12,1),(1,1),(6,0),(33,0),(30,0),(12,0),(6,0),(12,1),(30,0),(33,0),(7,0),(1,1),(6,0)],[(0,[(31,0),(24,0),(43,0),(37,0),(33,0),(12,1),(1,1),(6,0),(33,0),(30,0),(12,0),(6,0),(12,1),(30,0),(33,0),(7,0),(1,1),(6,0),(6,0)]),(1,[(33,0),(32,0),(24,0),(43,0),(37,0),(33,0),(12,1),(1,1),(6,0),(33,0),(30,0),(12,0),(6,0),(12,1),(30,0),(33,0),(7,0),(1,1),(6,0),(6,0),(1,1)]),(2,[(23,0),(35,0),(33,0),(30,0),(12,0),(6,0),(12,1),(24,0),(43,0),(37,0),(33,0),(12,1),(1,1),(6,0),(33,0),(30,0),(12,0),(6,0),(12,1),(30,0),(33,0),(7,0),(1,1),(6,0)])])]
def Zx:List ((Nat×Nat)×b_×List (Int×b_)):=[((7239535,3),[(41,0),(38,0),(30,0),(8,0),(6,0),(24,0),(43,0),(37,0),(33,0),(12,1),(1,1),(6,0),(33,0),(30,0),(12,0),(6,0),(12,1),(30,0),(33,0),(7,0),(1,1),(6,0),(42,0),(42,0),(36,0),(5,0),(8,0),(36,0),(5,1),(1,0),(36,0),(5,2),(4,0)],[(0,[(8,0)]),(1,[(1,0)]),(2,[(4,0)])]),((1852403562,4),[(41,0),(39,0),(30,0),(8,0),(6,0),(24,0),(43,0),(37,0),(33,0),(12,1),(1,1),(6,0),(33,0),(30,0),(12,0),(6,0),(12,1),(30,0),(33,0),(7,0),(1,1),(6,0),(42,0),(42,0),(36,0),(5,0),(31,0),(24,0),(43,0),(37,0),(33,0),(12,1),(1,1),(6,0),(33,0),(30,0),(12,0),(6,0),(12,1),(30,0),(33,0),(7,0),(1,1),(6,0),(6,0),(36,0),(5,1),(33,0),(32,0),(24,0),(43,0),(37,0),(33,0),(12,1),(1,1),(6,0),(33,0),(30,0),(12,0),(6,0),(12,1),(30,0),(33,0),(7,0),(1,1),(6,0),(6,0),(1,1),(36,0),(5,2),(23,0),(35,0),(33,0),(30,0),(12,0),(6,0),(12,1),(24,0),(43,0),(37,0),(33,0),(12,1),(1,1),(6,0),(33,0),(30,0),(12,0),(6,0),(12,1),(30,0),(33,0),(7,0),(1,1),(6,0)],[(0,[(31,0),(24,0),(43,0),(37,0),(33,0),(12,1),(1,1),(6,0),(33,0),(30,0),(12,0),(6,0),(12,1),(30,0),(33,0),(7,0),(1,1),(6,0),(6,0)]),(1,[(33,0),(32,0),(24,0),(43,0),(37,0),(33,0),(12,1),(1,1),(6,0),(33,0),(30,0),(12,0),(6,0),(12,1),(30,0),(33,0),(7,0),(1,1),(6,0),(6,0),(1,1)]),(2,[(23,0),(35,0),(33,0),(30,0),(12,0),(6,0),(12,1),(24,0),(43,0),(37,0),(33,0),(12,1),(1,1),(6,0),(33,0),(30,0),(12,0),(6,0),(12,1),(30,0),(33,0),(7,0),(1,1),(6,0)])])]
def PF (V:Value):bD:=⟨λw S=>(Tx 9723 VE mg2 V).p w S,λ{w w' S S'} h k=>by
 rcases h with h
 ·exact((Tx 9723 VE mg2 V).mono h k)⟩
noncomputable def Uf {R:Type} (D:Of) (k:List yF->Option R):Option R:=open Classical in if h:∃r,∀z:List yF,z.map AB=D->k z=some r then some (Classical.choose h)else none
theorem yO {R:Type} {D:Of} {k:List yF->Option R} {r:R} (h:Uf D k=some r) (z:List yF) (a:z.map AB=D):k z=some r:=by
 unfold Uf at h;split at h
 ·rename_i e;rw[<-Option.some.inj h];exact Classical.choose_spec e z a
 cases h
theorem Xh {R:Type} {D:Of} {k:List yF->Option R} {r:R} (h:∀z:List yF,z.map AB=D->k z=some r):Uf D k=some r:=by
 have e:∃r,∀z:List yF,z.map AB=D->k z=some r:=⟨r,h⟩
 unfold Uf;rw[dif_pos e];let z:List yF:=D.map λx=>(ByteArray.empty,(undef,x.1),(undef,x.2.map λs=>(s.1,(undef,s.2))))
 have c:z.map AB=D:=by
  show(D.map _).map AB=D;rw[List.map_map]
  conv=>rhs;rw[<-List.map_id D]
  refine List.map_congr_left λx _=>?_;obtain⟨a,b⟩:=x;simp[AB,Function.comp_def]
 rw[<-Classical.choose_spec e z c,h z c]
def rA (a:Nat) (b:ByteArray):Option Wm:=if b=E_ then some ((ByteArray.mk #[108,101,97,100,101,114]),GT,Ec)else none
theorem Hk:aQ Tryz.prog 7:=Tryz.call7
theorem Qx:aQ Tryz.prog 215:=Tryz.call215
theorem NO:HB E_=(694347383405035167176194822044002167647348297245143836294131327360569184365737968126329793190405493482344988959786894529281874176313558490826984968606246471080877494789011164177302286245049115990372077200403708013402509049695102382306818228322771982393217707961675795842989522967358188456979690970385641764651692123905212872060252986787261095913761171524319417829960073087282171735954781095584211454070868651197802307499032207784732548677135855370816834395925866565744265665207222116462978656831551281803369594549094313899917189094449793580303100413293807281703359455343358032385010591122950381170540903283024219015264429781225548838463523961460985867279886747768292538941600374435537547606801203451863138856874214221985847324684911821162203478916645432183221957952246405198551766390813582263330814856421060931063538327705289539381453604124378675808245139143432472308435888706790881913041858159371579898941504693382735800866132567585648297324557324259377338335589867496172224785527092219321786217240867672863735135282467984287700917091573592223335919998225525998760454851250566578735079287735788708791643295000326126232361921241672605532036970180138036720200852591755851876944948989006655553778101348782543140787492202909107220094451130950110838909564269255896107391729847775988160006180135088428875437003457029393388116238549331043434132085245837242978425384584307620834728433727603286891896652071775522271400294050822192304926936532738004063480601437530384204200137077770219811423516471932909178094747412144444130601465298819927667613537532820414148444100189654789199224116680942469602618485657465279305789375435049996248655599547014628641465268294388905743491636110899724336907966066866112157649229705572388001827019957074910716085437328022127866406657227453040,733):=by kernel_rfl
theorem VV:HB (ByteArray.mk #[108,101,97,100,101,114])=(125779801367916,6):=by kernel_rfl
theorem VY:Np (Ih 9723 VE) 6 (dP 1 aat (dP 1 (dI .i64) (dP 1 (dI .i64) (dP 1 (dI .i64) (dP 1 (dI .i64) (dI .i64)))))) (.sl 3126 0 3 6)=some (GT.map λz=>(HB z.1,z.2.1,z.2.2.1,z.2.2.2.1,z.2.2.2.2.1,z.2.2.2.2.2)):=by kernel_rfl
theorem S_:Np (Ih 9723 VE) 3 (dP 1 aat (dP 1 (dS (Ih 9723 VE) 2 (dP 1 (dI .i64) (dI .i64))) (dS (Ih 9723 VE) 2 (dP 1 (dI .i64) (dS (Ih 9723 VE) 2 (dP 1 (dI .i64) (dI .i64))))))) (.sl 5744 0 2 3)=some Zx:=by kernel_rfl
theorem YP:Zx.map (λy=>(y.2.1,y.2.2))=Ec:=by kernel_rfl
theorem VW (r:Wm) (h:some ((ByteArray.mk #[108,101,97,100,101,114]),GT,Ec)=some r):bA Tryz.prog 7 #[vS E_] [Gb 0 (cellsOf JO Ae)] (λx:Value×Value×{z:List yF // z.map AB=r.2.2}=>Value.agg #[vS r.1,x.1,x.2.1]) (λx l=>l) (λx l=>Sl aW x.1 r.2.1::Sl aM x.2.1 x.2.2.1::PF (Value.agg #[vS r.1,x.1,x.2.1])::l):=by
 cases h;refine Py (gs:=gl) (LO:=λx:Value×Value×{z:List yF // z.map AB=Ec}=>[Sl aW x.1 GT,Sl aM x.2.1 x.2.2.1,PF (Value.agg #[vS (ByteArray.mk #[108,101,97,100,101,114]),x.1,x.2.1])]) Vb (λT b=>SP Ef Zq me2 Hk (.cons (Mc (x:=E_) (congrArg Prod.fst NO).symm (congrArg Prod.snd NO).symm) .nil) Z b) ?_;intro T b B w V a R g;have y:=g;obtain⟨f,rfl,c,_⟩:=g.agg_inv;obtain⟨C,f,rfl,m,c⟩:=c.of_cons;obtain⟨j,f,rfl,n,c⟩:=c.of_cons;obtain⟨k,rfl,o⟩:=c.one;obtain rfl:=Y_ m VV;obtain⟨A,v,s⟩:=DU R a (iC.pair iC.str (iC.pair (iC.int .i64) (iC.pair (iC.int .i64) (iC.pair (iC.int .i64) (iC.pair (iC.int .i64) (iC.int .i64)))))) n VY;have e:A=GT:=Jl (Dm (λ_ _=>Nr) (Dm Jg (Dm Jg (Dm Jg (Dm Jg Jg))))) v;subst e;obtain⟨i,u,t⟩:=DU (r:=aM) R a (iC.pair iC.str (iC.pair (iC.sl R a (iC.pair (iC.int .i64) (iC.int .i64))) (iC.sl R a (iC.pair (iC.int .i64) (iC.sl R a (iC.pair (iC.int .i64) (iC.int .i64))))))) o S_;have d:i.map AB=Ec:=by
  rw[<-YP,<-u,List.map_map];refine List.map_congr_left λx _=>?_;simp[AB,Function.comp_def]
 exact⟨(j,k,⟨i,d⟩),rfl,List.forall_mem_cons.2 ⟨s,List.forall_mem_cons.2 ⟨t,List.forall_mem_cons.2 ⟨(⟨B,fP.hd R a,y⟩),λq p=>absurd p List.not_mem_nil⟩⟩⟩⟩
theorem WE:okV VE (IQ Fb gp0 4000 215 [mg2] (Ih 9723 VE))=true:=by kernel_rfl
theorem lR (a:Nat) {b:ByteArray} (r:Wm) (h:rA a b=some r):bA Tryz.prog 7 #[vS b] [Gb 0 (cellsOf JO Ae)] (λx:Value×Value×{z:List yF // z.map AB=r.2.2}=>Value.agg #[vS r.1,x.1,x.2.1]) (λx l=>l) (λx l=>Sl aW x.1 r.2.1::Sl aM x.2.1 x.2.2.1::PF (Value.agg #[vS r.1,x.1,x.2.1])::l):=by
 unfold rA at h;by_cases c:b=E_
 ·subst c;exact VW r ((if_pos Z).symm.trans h)
 rw[if_neg c]at h;cases h
theorem VX (f:Nat):rA f E_=some ((ByteArray.mk #[108,101,97,100,101,114]),GT,Ec):=by
 unfold rA;exact if_pos Z
def BE (fuel:Nat) (a:ByteArray×List (ByteArray×Int×Int×Int×Int×Int)×List (yF)):Option Bool:=some true
theorem Kc (a:Nat) {b:ByteArray×List (ByteArray×Int×Int×Int×Int×Int)×List (yF)} (d f:Value) (r:Bool) (h:BE a b=some r):
  bA Tryz.prog 215 #[Value.agg #[vS b.1,d,f]] [Sl aW d b.2.1,Sl aM f b.2.2,PF (Value.agg #[vS b.1,d,f])] (λx:Unit=>vB (r)) (λx l=>l) (λ_ l=>l):=by
 cases h;intro w S z;have g:Calls Tryz.prog 215 #[Value.agg #[vS b.1,d,f]] w λe o=>e = .returned (.bool true)∧Lb w o:=by
  rcases z _ (List.mem_of_getElem? (i:=2) rfl)with v
  ·refine SG (fuel:=4000) agI Qx ?_ v;obtain⟨p,n,s⟩:=VR WE;rw[FB (G:=gp0) Ef]at n;exact⟨p,n,s⟩
 refine g.mono ?_;rintro e o ⟨rfl,c⟩;exact⟨(),rfl,⟨c.os,c.tape,c.output,c.size,λk t _=>c.block k t⟩,λ_ _=>False,⟨λi m u=>by simp at u,λi k h=>h.elim,λi j k h=>h.elim⟩,λq y=>by simp at y⟩
end Go.Proofs.YtjkjpdonlpdcaaaGreatDoor
namespace Go.Proofs.YtjkjpdonlpdcaaaGreatDoor
open Go Go.Sx
abbrev aec:=DI
abbrev PRG:=ByteArray×(List aec)×(List yF)
abbrev GRF:=List Int×gH
abbrev SCN:=PRG×GRF×Int×bW
abbrev WLK:=SCN×bW×Int×b_
inductive E where
 |lf (o a:Int)
 |un (o:Int) (x:E)
 |ag (o:Int) (x:E)
 |bi (o:Int) (x y:E)
 |ite (x y z:E)
def E.ts:E->b_
 |lf o a=>[(o,a)]
 |un o x=>(o,0)::x.ts
 |ag o x=>(o,0)::x.ts
 |bi o x y=>(o,0)::(x.ts++y.ts)
 |ite x y z=>(43,0)::(x.ts++(y.ts++z.ts))
def E.depth:E->Nat
 |lf _ _=>1
 |un _ x=>x.depth+1
 |ag _ x=>x.depth+1
 |bi _ x y=>max x.depth y.depth+1
 |ite x y z=>max x.depth (max y.depth z.depth)+1
def E.arOk:E->Bool
 |lf o _=>decide (1<=o)&&decide (o<=17)
 |un o x=>decide (18<=o)&&decide (o<=19)&&x.arOk
 |ag o x=>decide (20<=o)&&decide (o<=29)&&x.arOk
 |bi o x y=>decide (30<=o)&&decide (o<=42)&&x.arOk&&y.arOk
 |ite x y z=>x.arOk&&y.arOk&&z.arOk
theorem Ln {a:Type} [Inhabited a] {T pre rest:List a} {x:a} {k:Nat} (b:T=pre++x::rest) (c:pre.length=k):at' T (k:Int)=x:=by
 subst b;exact Sc pre rest x k c
theorem eY {k:Nat} (h:k<1000000):wI .i64 ((k:Int)+1)=((k+1:Nat):Int):=by rw[wr (by omega) (by omega)];rfl
theorem Uh (f:Nat) {o:Int} (a:1<=o) (b:o<=43):xW f o=some (if o<=17 then 0 else if o<=29 then 1 else if o<=42 then 2 else 3):=by
 unfold xW zK;rw[if_neg (by omega)];simp only[decide_eq_true_eq];rw[if_neg (by omega)];split
 ·rfl
 ·split
  ·rfl
  ·split<;>rfl
theorem UM {F:Nat} {T c rest:b_} {t:eD} {k m a:Nat} {b:Nat} (d:T=c++t::rest) (g:c.length=k) (i:k<1000) (n:m<3000) (e:xW F t.1=some ((a:Nat):Int)) (f:a<=3) (j:m+a≠0):
  bP (lH F T) (b+1) ((k:Int),(m:Int))=if m+a=1 then some (((k+1:Nat):Int))else bP (lH F T) b (((k+1:Nat):Int),((m+a - 1:Nat):Int)):=by
 have l:k<T.length:=by rw[d];simp;omega
 show lH F T ((k:Int),(m:Int)) (bP (lH F T) b)=_;unfold lH;dsimp only;rw[if_pos (by omega),cV (by omega),Ln d g,bM e,if_neg (by omega),wr (x:=((a:Nat):Int) - 1) (by omega) (by omega),wr (by omega) (by omega),eY (by omega)];by_cases h:m+a=1
 ·rw[if_pos h,if_pos (by omega)]
 ·rw[if_neg h,if_neg (by omega)];have:(m:Int)+((a:Int) - 1)=((m+a - 1:Nat):Int):=by omega
  rw[this]
theorem Yf (F:Nat) (T:b_) (H:T.length<=900):∀(e:E),e.arOk=true->∀(c k m:Nat) (d b:b_),T=d++(e.ts++b)->d.length=k->1<=m->m+2*(e.ts++b).length<=1900->e.ts.length<=c->
  bP (lH F T) c ((k:Int),(m:Int))=if m=1 then some (((k+e.ts.length:Nat):Int))else bP (lH F T) (c - e.ts.length) (((k+e.ts.length:Nat):Int),((m - 1:Nat):Int)):=by
 have r:∀{t:eD} {l b d:b_} {c k m:Nat},T=d++((t::l)++b)->d.length=k->(t::l).length<=c->1<=t.1->t.1<=43->1<=m->m+2*((t::l)++b).length<=1900->∀a:Nat,(if t.1<=17 then 0 else if t.1<=29 then 1 else if t.1<=42 then 2 else 3:Int)=a->a<=3->∃f,c=f+1∧
   bP (lH F T) c ((k:Int),(m:Int))=if m+a=1 then some (((k+1:Nat):Int))else bP (lH F T) f (((k+1:Nat):Int),((m+a - 1:Nat):Int)):=by
  intro t l b d c k m n p q v w i j a I B;have A:=congrArg List.length n;simp only[List.length_append,List.length_cons]at A j q;obtain⟨f,rfl⟩:∃f,c=f+1:=⟨c - 1,by omega⟩
  exact⟨f,rfl,UM (rest:=l++b) (by simpa using n) p (by omega) (by omega) (by rw[Uh F v w,I]) B (by omega)⟩
 intro e
 induction e with
 |lf o a=>
  intro g c k m d b n p i j q;simp only[E.arOk,Bool.and_eq_true,decide_eq_true_eq]at g;obtain⟨f,rfl,h⟩:=r (t:=(o,a)) (l:=[]) n p q (by dsimp only;omega) (by dsimp only;omega) i j 0 (by rw[if_pos (by dsimp only;omega)];rfl) (by omega);rw[h];rfl
 |un o x C=>
  intro g c k m d b n p i j q;simp only[E.arOk,Bool.and_eq_true,decide_eq_true_eq]at g;obtain⟨f,rfl,h⟩:=r (t:=(o,0)) (l:=x.ts) n p q (by dsimp only;omega) (by dsimp only;omega) i j 1 (by rw[if_neg (by dsimp only;omega),if_pos (by dsimp only;omega)];rfl) (by omega);simp only[E.ts,List.length_cons]at q j ⊢;rw[h,if_neg (by omega)];have:=C g.2 f (k+1) m (d++[(o,0)]) b (by rw[n];simp[E.ts]) (by simp[p]) i (by simp at j ⊢;omega) (by omega);rw[show m+1 - 1=m by omega,this,show k+1+x.ts.length=k+(x.ts.length+1) by omega,show f+1 - (x.ts.length+1)=f - x.ts.length by omega]
 |ag o x C=>
  intro g c k m d b n p i j q;simp only[E.arOk,Bool.and_eq_true,decide_eq_true_eq]at g;obtain⟨f,rfl,h⟩:=r (t:=(o,0)) (l:=x.ts) n p q (by dsimp only;omega) (by dsimp only;omega) i j 1 (by rw[if_neg (by dsimp only;omega),if_pos (by dsimp only;omega)];rfl) (by omega);simp only[E.ts,List.length_cons]at q j ⊢;rw[h,if_neg (by omega)];have:=C g.2 f (k+1) m (d++[(o,0)]) b (by rw[n];simp[E.ts]) (by simp[p]) i (by simp at j ⊢;omega) (by omega);rw[show m+1 - 1=m by omega,this,show k+1+x.ts.length=k+(x.ts.length+1) by omega,show f+1 - (x.ts.length+1)=f - x.ts.length by omega]
 |bi o x y s u=>
  intro g c k m d b n p i j q;simp only[E.arOk,Bool.and_eq_true,decide_eq_true_eq]at g;obtain⟨f,rfl,h⟩:=r (t:=(o,0)) (l:=x.ts++y.ts) n p q (by dsimp only;omega) (by dsimp only;omega) i j 2 (by rw[if_neg (by dsimp only;omega),if_neg (by dsimp only;omega),if_pos (by dsimp only;omega)];rfl) (by omega);simp only[E.ts,List.length_cons,List.length_append]at q j ⊢;rw[h,if_neg (by omega)];have v:=s g.1.2 f (k+1) (m+1) (d++[(o,0)]) (y.ts++b) (by rw[n];simp[E.ts]) (by simp[p]) (by omega) (by simp at j ⊢;omega) (by omega);have w:=u g.2 (f - x.ts.length) (k+1+x.ts.length) m (d++((o,0)::x.ts)) b (by rw[n];simp[E.ts]) (by simp[p];omega) (by omega) (by simp at j ⊢;omega) (by omega);rw[show m+2 - 1=m+1 by omega,v,if_neg (by omega),show m+1 - 1=m by omega,w,show k+1+x.ts.length+y.ts.length=k+(x.ts.length+y.ts.length+1) by omega,show f+1 - (x.ts.length+y.ts.length+1)=f - x.ts.length - y.ts.length by omega]
 |ite x y z s u D=>
  intro g c k m d b n p i j q;simp only[E.arOk,Bool.and_eq_true,decide_eq_true_eq]at g;obtain⟨f,rfl,h⟩:=r (t:=(43,0)) (l:=x.ts++(y.ts++z.ts)) n p q (by decide) (by decide) i j 3 Z (by omega);simp only[E.ts,List.length_cons,List.length_append]at q j ⊢;rw[h,if_neg (by omega)];have v:=s g.1.1 f (k+1) (m+2) (d++[(43,0)]) (y.ts++z.ts++b) (by rw[n];simp[E.ts]) (by simp[p]) (by omega) (by simp at j ⊢;omega) (by omega);have w:=u g.1.2 (f - x.ts.length) (k+1+x.ts.length) (m+1) (d++((43,0)::x.ts)) (z.ts++b) (by rw[n];simp[E.ts]) (by simp[p];omega) (by omega) (by simp at j ⊢;omega) (by omega);have G:=D g.2 (f - x.ts.length - y.ts.length) (k+1+x.ts.length+y.ts.length) m (d++((43,0)::(x.ts++y.ts))) b (by rw[n];simp[E.ts]) (by simp[p];omega) (by omega) (by simp at j ⊢;omega) (by omega);rw[show m+3 - 1=m+2 by omega,v,if_neg (by omega),show m+2 - 1=m+1 by omega,w,if_neg (by omega),show m+1 - 1=m by omega,G,show k+1+x.ts.length+y.ts.length+z.ts.length=k+(x.ts.length+(y.ts.length+z.ts.length)+1) by omega,show f+1 - (x.ts.length+(y.ts.length+z.ts.length)+1)=f - x.ts.length - y.ts.length - z.ts.length by omega]
theorem aaz (F:Nat) (e:E) (d:e.arOk=true) {T b a:b_} {k:Nat} (f:T=b++(e.ts++a)) (i:b.length=k) (j:T.length<=800) (h:e.ts.length<=F):Cy F T (k:Int)=some (((k+e.ts.length:Nat):Int)):=by
 have g:1<=e.ts.length:=by cases e<;>simp[E.ts]
 have c:=congrArg List.length f;simp only[List.length_append]at c;unfold Cy Bt;rw[if_neg (by omega)];simp only[decide_eq_true_eq];rw[if_neg (by omega)];have:=Yf F T (by omega) e d F k 1 b a f i (by omega) (by simp;omega) h;rw[if_pos Z]at this;exact this
def Gt (b:Bool):Int:=if b then 1 else 0
theorem uL (f:Nat) (b:Bool):iS f b=some (Gt b):=by cases b<;>rfl
theorem Eh {a:Type} [Inhabited a] {l:List a} {k:Nat} (h:k<l.length):l.take (k+1)=l.take k++[at' l (k:Int)]:=by
 rw[List.take_add_one,List.getElem?_eq_getElem h,jL,List.getD_eq_getElem?_getD,List.getElem?_eq_getElem h];rfl
theorem nU {a:Type} [Inhabited a] {l:List a} {k:Nat} (h:k<l.length):at' l (k:Int)=l[k]:=by
 rw[jL,List.getD_eq_getElem?_getD,List.getElem?_eq_getElem h];rfl
theorem least {p:Nat->Prop}:∀(n:Nat),p n->∃m,m<=n∧p m∧∀j,j<m->¬p j:=by
 intro n
 induction n using Nat.strongRecOn with
 | _ n ih =>
  intro h;by_cases d:∃m,m<n∧p m
  ·obtain⟨m,e,f⟩:=d;obtain⟨k,a,b,c⟩:=ih m e f;exact⟨k,by omega,b,c⟩
  ·exact⟨n,Nat.le_refl n,h,λj g i=>d ⟨j,g,i⟩⟩
theorem Rc {g:Type} [DecidableEq g]:∀(c b:List g),c.Nodup->(∀x∈c,x∈b)->c.length<=b.length
 | [],b,_,_=>Nat.zero_le _
 |a::c,b,h,hs=>by
  have d:=hs a List.mem_cons_self;have h:=List.nodup_cons.1 h;have:=Rc c (b.erase a) h.2 (λx f=>(List.mem_erase_of_ne (fun(e:x=a)=>h.1 (by rw[<-e];exact f))).2 (hs x (List.mem_cons_of_mem _ f)));rw[List.length_erase_of_mem d]at this;have i:0<b.length:=List.length_pos_of_mem d;simp only[List.length_cons];omega
def nz (x:Int):Bool:=decide (x≠0)
theorem UD (f:Nat) (l:aT) (h:l.length<f) (e:l.length<=1000):qK f l=some ((l.countP nz:Nat):Int):=by
 unfold qK;have:=eB (step:=rI l) (K:=some ((l.countP nz:Nat):Int)) l.length (λk=>(((l.take k).countP nz:Nat),(k:Int))) (λk b c=>by
  have d:(l.take k).countP nz<=k:=Nat.le_trans List.countP_le_length (by simp;omega);unfold rI tZ;dsimp only;rw[if_pos (by omega),cV (by omega),Eh c,List.countP_append,eY (by omega),eY (by omega)];by_cases a:at' l (k:Int)=0
  ·rw[if_neg (by simpa using a)];simp[nz,a]
  ·rw[if_pos a];simp[nz,a]) (λb=>by
  unfold rI yZ;dsimp only;rw[if_neg (by omega),List.take_length]) f h
 exact this
theorem Hm (f:Nat) (l:aT) (x:Int) (h:l.length<f) (t:l.length<=1000):rY f l x=some (decide (x∈l)):=by
 have q:∃i:Int,jN f l x=some i∧(0<=i↔x∈l):=by
  by_cases b:x∈l
  ·obtain⟨i,r,o⟩:=List.mem_iff_getElem.1 b;have a:∃i,i<l.length∧at' l (i:Int)=x∧∀j,j<i->at' l (j:Int)≠x:=by
    obtain⟨m,d,c,s⟩:=least (p:=λi=>at' l (i:Int)=x) i (by rw[nU r,o]);exact⟨m,by omega,c,s⟩
   obtain⟨i,r,d,c⟩:=a;refine⟨i,?_,iff_of_true (by omega) b⟩
   unfold jN;exact eB (step:=fX l x) (K:=some (i:Int)) i (λk=>(k:Int)) (λk n g=>by
    unfold fX;rw[if_pos (by omega),cV (by omega),if_neg (λe=>c k g e.symm),eY (by omega)]) (λn=>by
    unfold fX;rw[if_pos (by omega),cV (by omega),if_pos d.symm]) f (by omega)
  ·refine⟨-1,?_,iff_of_false (by omega) b⟩
   unfold jN;exact eB (step:=fX l x) (K:=some (-1)) l.length (λk=>(k:Int)) (λk n g=>by
    unfold fX;rw[if_pos (by omega),cV (by omega),if_neg (λe=>b (by rw[e,nU g];exact List.getElem_mem g)),eY (by omega)]) (λn=>by
    unfold fX vG;rw[if_neg (by omega)]) f h
 obtain⟨i,d,c⟩:=q;unfold rY;rw[bM d];by_cases b:x∈l
 ·rw[decide_eq_true b,decide_eq_true (c.2 b)]
 ·rw[decide_eq_false b,decide_eq_false (λe=>b (c.1 e))]
def qB (l:aT):Int:=match l.findIdx? nz with
 |some i=>(i:Int)
 |none=> -1
theorem zQ {l:aT} {i:Nat} (a:i<l.length) (b:at' l (i:Int)≠0) (c:∀j,j<i->at' l (j:Int)=0):qB l=i:=by
 have:l.findIdx? nz=some i:=by
  rw[List.findIdx?_eq_some_iff_getElem];refine⟨a,by rw[<-nU a];simpa [nz]using b,λj d=> ?_⟩
  have:=c j d;rw[nU (by omega)]at this;simp[nz,this]
 unfold qB;rw[this]
theorem wS {l:aT} (h:∀j,j<l.length->at' l (j:Int)=0):qB l = -1:=by
 have:l.findIdx? nz=none:=by
  rw[List.findIdx?_eq_none_iff];intro x b;obtain⟨i,a,rfl⟩:=List.mem_iff_getElem.1 b;have:=h i a;rw[nU a]at this;simp[nz,this]
 unfold qB;rw[this]
theorem UY (f:Nat) (l:aT) (h:l.length<f) (t:l.length<=1000):nD f l (λq=>oO f q)=some (qB l):=by
 unfold nD;by_cases a:∃i,i<l.length∧at' l (i:Int)≠0
 ·obtain⟨i,s,o⟩:=a;obtain⟨m,r,n,b⟩:=least (p:=λi=>at' l (i:Int)≠0) i o;have b:∀j,j<m->at' l (j:Int)=0:=λj d=>Decidable.not_not.1 (b j d);rw[zQ (by omega) n b];exact eB (step:=gC l _) (K:=some (m:Int)) m (λk=>(k:Int)) (λk c g=>by
   unfold gC oO;rw[if_pos (by omega),cV (by omega),bM Z,if_neg (by simp[b k g]),eY (by omega)]) (λc=>by
   unfold gC oO;rw[if_pos (by omega),cV (by omega),bM Z,if_pos (by simpa using n)]) f (by omega)
 ·have a:∀j,j<l.length->at' l (j:Int)=0:=λj d=>Decidable.not_not.1 λe=>a ⟨j,d,e⟩;rw[wS a];exact eB (step:=gC l _) (K:=some (-1)) l.length (λk=>(k:Int)) (λk c g=>by
   unfold gC oO;rw[if_pos (by omega),cV (by omega),bM Z,if_neg (by simp[a k g]),eY (by omega)]) (λc=>by
   unfold gC pD;rw[if_neg (by omega)]) f h
def Jp (l:aT):Int:=l.foldl min 1073741824
theorem aaW (f:Nat) (l:aT) (h:l.length<f) (c:l.length<=1000):bP (s_ l) f ((1073741824:Int),(0:Int))=some (Jp l):=by
 exact eB (step:=s_ l) (K:=some (Jp l)) l.length (λk=>((l.take k).foldl min 1073741824,(k:Int))) (λk a b=>by
  unfold s_;dsimp only;rw[if_pos (by omega),cV (by omega),Eh b,List.foldl_append,eY (by omega)];rfl) (λa=>by
  unfold s_ As;dsimp only;rw[if_neg (by omega),List.take_length];rfl) f h
theorem YJ {l:aT} {x:Int} (h:x∈l):Jp l<=x:=by
 have c:∀(l:aT) (a:Int),l.foldl min a<=a∧∀x∈l,l.foldl min a<=x:=by
  intro l
  induction l with
  |nil=>intro a;exact⟨Int.le_refl a,λx b=>by cases b⟩
  |cons y l e=>
   intro a;obtain⟨f,d⟩:=e (min a y);refine⟨by simp only[List.foldl_cons];omega,λx b=> ?_⟩
   rcases List.mem_cons.1 b with rfl|b
   ·simp only[List.foldl_cons];omega
   ·exact d x b
 exact(c l _).2 x h
theorem VD (l:aT):Jp l=1073741824∨Jp l∈l:=by
 have b:∀(l:aT) (a:Int),l.foldl min a=a∨l.foldl min a∈l:=by
  intro l
  induction l with
  |nil=>intro a;exact .inl Z
  | cons y l ih =>
   intro a;rcases ih (min a y)with h|h
   ·simp only[List.foldl_cons,h];rcases Int.le_total a y with q|q
    ·left;omega
    ·right;rw[show min a y=y by omega];exact List.mem_cons_self
   ·right;exact List.mem_cons_of_mem _ h
 exact b l _
def NC (l:aT):Nat->Nat->Nat
 |0,k=>k
 |f+1,k=>if((k:Nat):Int)∈l then NC l f (k+1)else k
def Pz (l:aT):Nat:=NC l (l.length+1) 0
theorem VC (l:aT):((Pz l:Nat):Int)∉l∧(∀j,j<Pz l->((j:Nat):Int)∈l)∧Pz l<=l.length:=by
 have key:∀(f k:Nat),(∀j,j<k->((j:Nat):Int)∈l)->(∀j,j<NC l f k->((j:Nat):Int)∈l)∧(NC l f k=k+f∨((NC l f k:Nat):Int)∉l):=by
  intro f
  induction f with
  |zero=>intro k h;exact⟨h,.inl Z⟩
  | succ f ih =>
   intro k h;by_cases hk:((k:Nat):Int)∈l
   ·have:=ih (k+1) (λj hj=>by
     rcases Nat.lt_or_ge j k with q|q
     ·exact h j q
     ·rw[show j=k by omega];exact hk)
    simp only[NC,if_pos hk];exact⟨this.1,this.2.imp (λe=>by omega) id⟩
   ·simp only[NC,if_neg hk];exact⟨h,.inr hk⟩
 have hle:∀m,(∀j,j<m->((j:Nat):Int)∈l)->m<=l.length:=λm h=>by
  have:=Rc ((List.range m).map λj=>((j:Nat):Int)) l (by
   rw[List.nodup_iff_pairwise_ne,List.pairwise_map];exact(List.nodup_iff_pairwise_ne.1 List.nodup_range).imp (λh e=>h (by omega))) (λx hx=>by
   obtain⟨j,hj,rfl⟩:=List.mem_map.1 hx;exact h j (List.mem_range.1 hj))
  simpa using this
 obtain⟨h1,h2⟩:=key (l.length+1) 0 (λj hj=>by omega);have h3:=hle _ h1;refine⟨?_,h1,h3⟩
 rcases h2 with h2|h2
 ·have:NC l (l.length+1) 0<=l.length:=h3;omega
 ·exact h2
theorem aaV (f:Nat) (l:aT) (h:l.length+2<f) (hl:l.length<=900):AK f l=some ((Pz l:Nat):Int):=by
 obtain⟨h1,h2,h3⟩:=VC l;unfold AK;exact eB (step:=zO f l) (K:=some ((Pz l:Nat):Int)) (Pz l) (λk=>(k:Int)) (λk ag hk=>by
  unfold zO;rw[bM (Hm f l (k:Int) (by omega) (by omega)),if_pos (by simpa using h2 k hk),eY (by omega)]) (λag=>by
  unfold zO Bj;rw[bM (Hm f l _ (by omega) (by omega)),if_neg (by simpa using h1)]) f (by omega)
def Za (l:aT):Int:=l.foldl (λa x=>wI .i64 (a+x)) 0
theorem abj (f:Nat) (l:aT) (h:l.length<f) (c:l.length<=1000):bP (tA f l) f ((0:Int),(0:Int))=Cr f (Za l):=by
 refine(eB (step:=tA f l) l.length (λk=>(Za (l.take k),(k:Int))) (λk a b=> ?_) (λa=> ?_) f h).trans Z
 ·unfold tA;dsimp only;rw[if_pos (by omega),cV (by omega),eY (by omega),Eh b];unfold Za;rw[List.foldl_append];rfl
 ·unfold tA;dsimp only;rw[if_neg (by omega),List.take_length]
def QP (o:Int) (l:aT):Int:=
 if o=20 then Gt (l.all nz)else if o=21 then Gt (l.any nz)else if o=22 then((l.countP nz:Nat):Int)else if o=23 then qB l else if o=24 then Jp l else if o=26 then max (-1073741824) (min (Za l) 1073741824)else((Pz l:Nat):Int)
theorem Ym (f:Nat) (o:Int) (l:aT) (hf:40<=f) (hl:l.length<=24) (ho:o=20∨o=21∨o=22∨o=23∨o=24∨o=26∨o=27):Bn f o l=some (QP o l):=by
 have hc:=UD f l (by omega) (by omega);unfold Bn;rcases ho with rfl|rfl|rfl|rfl|rfl|rfl|rfl
 ·rw[if_pos Z,bM hc,bM (uL f _),QP,if_pos Z];have:(decide (((l.countP nz:Nat):Int)=(l.length:Int)))=l.all nz:=by
   rw[Bool.eq_iff_iff];simp[List.countP_eq_length,Int.ofNat_inj]
  rw[this]
 ·rw[if_neg (by decide),if_pos Z,bM hc,bM (uL f _),QP,if_neg (by decide),if_pos Z];have:(decide ((0:Int)<((l.countP nz:Nat):Int)))=l.any nz:=by
   rw[Bool.eq_iff_iff,decide_eq_true_eq,List.any_eq_true,show((0:Int)<((l.countP nz:Nat):Int))↔0<l.countP nz by omega,List.countP_pos_iff]
  rw[this]
 ·rw[if_neg (by decide),if_neg (by decide),if_pos Z,bM hc];rfl
 ·rw[if_neg (by decide),if_neg (by decide),if_neg (by decide),if_pos Z,bM (UY f l (by omega) (by omega))];rfl
 ·rw[if_neg (by decide),if_neg (by decide),if_neg (by decide),if_neg (by decide),if_pos Z,aaW f l (by omega) (by omega)];rfl
 ·rw[if_neg (by decide),if_neg (by decide),if_neg (by decide),if_neg (by decide),if_neg (by decide),if_neg (by decide),if_pos Z,abj f l (by omega) (by omega)];rfl
 ·rw[if_neg (by decide),if_neg (by decide),if_neg (by decide),if_neg (by decide),if_neg (by decide),if_neg (by decide),if_neg (by decide),if_pos Z,bM (aaV f l (by omega) (by omega))];rfl
end Go.Proofs.YtjkjpdonlpdcaaaGreatDoor
namespace Go.Proofs.YtjkjpdonlpdcaaaGreatDoor
open Go.Sx
def zR (U:Nat) (a:cB):Option (Int):=
 ck (0<=(List.length a.1:Int)) (some (wI .u32 ((BB .u32 (1:Int) (List.length a.1:Int)) - (1:Int))))
theorem Xp:aQ Tryz.prog 105:=Tryz.call105
theorem Ob (U:Nat) {a:cB} (b:Value)  (d:Value)  (f:mH) (r:Int) (h:zR U a=some r):
  bA Tryz.prog 105 #[Value.agg #[b,d]] [Sl bN b a.1,S2 aO d f a.2] (λx:Unit=>vU (r)) (λx l=>l) (λ_ l=>l):=by
 refine bA.of Tryz.func105 Z Tryz.ntmps105 Z λc=>?_;refine aS<|aG (aJ.box (cs:=[b,d]) Z Z) Z λg=>aC Z<|aK<|aS<|bX Z<|cJ 0 Z<|iH (aE.fact 0 Z) Z<|dK h λe h=>aB (Kl Z Z e) Z<|aB (mJ Z Z) Z<|aC Z<|aK<|aP ?_;cases h;exact sV Z
end Go.Proofs.YtjkjpdonlpdcaaaGreatDoor