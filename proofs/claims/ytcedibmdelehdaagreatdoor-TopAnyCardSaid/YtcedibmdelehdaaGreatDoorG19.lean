/- Lemmas. -/
import Derived.Test.YtcedibmdelehdaaGreatDoorG03
import Derived.Maps.OwnSet
import Derived.Maps.RangeWalk
import Derived.RangeFuncNested
namespace Go.Proofs.YtcedibmdelehdaaGreatDoor
set_option maxRecDepth 100000
set_option maxHeartbeats 32000000
open Go renaming World->V,Value->Z,TypeId->A4,Program->A7
open Option renaming some->AA,none->A3
open Go.World renaming putObj_heap_other->A2,putObj_heap_same->Bk,alloc_heap_new->Bs,grownBy_alloc->BA
open Go.Obj renaming deferred->A5,loop->Bx
open Go.Value renaming ownBlock->A6
open Go.LoopState renaming ready->Bd,done->BD
open Or renaming inl->Bn,inr->BC
open Go.Lit renaming int->BB
variable{f c p:V}{h Y i n o:Nat}{E:Int->Option Z}{J l:A4}{O:A7}{a:List Z}{b k m:List Nat}{d r:Z}{e q:Nat->Prop}{g:Option Nat}{j:Int}
section
open Go Go.RowKit Go.Maps
def Ls(v:Z):Option (DataW Z×List MemPlace):=AA (.held v,[])
theorem Ol{y:DataW Z×List MemPlace}(h:Ls d=AA y):y=(.held d,[]):=by
 unfold Ls at h;simpa using h.symm
def UO(D:DataW Z)(f:Int->Option Z):Prop:=
 ∀i:Int,Maps.has D (BB .i64 i)=(f i).isSome/\∀z,D.atKey (BB .i64 i) (.held z)=.held ((f i).getD z)
def MF(w:V)(P:A7)(k:A4)(b q:Nat)(f:Int->Option Z):Prop:=
 ∃n D,n<=q/\w.ownsMap P k Ls b n D/\UO D f
def Fq(f:Int->Option Z)(i:Int)(v:Z)(j:Int):Option Z:=if j=i then AA v else f j
def If(f:Int->Option Z)(i:Int)(j:Int):Option Z:=if j=i then A3 else f j
theorem Mu(f:Int->Option Z)(i:Int)(v:Z):Fq f i v i=AA v:=jP rfl
theorem Ld(f:Int->Option Z){i:Int}(v:Z)(h:j≠i):Fq f i v j=f j:=jN h
theorem am(f:Int->Option Z)(i:Int):If f i i=A3:=jP rfl
theorem fI(f:Int->Option Z){i:Int}(h:j≠i):If f i j=f j:=jN h
theorem Nf{i:Int}(h:j≠i):(BB .i64 j)≠BB .i64 i:=λe=>h (by injection e)
theorem UK(i:Int)(_:(BB .i64 i).wf=true):WideAt.IsKeyLit (BB .i64 i):=by
 first
  |exact a
  |simp[WideAt.IsKeyLit]
  |trivial
theorem MF.lt(a:MF f O J h Y E):h<f.heap.size:=let⟨_,_,_,b,_⟩:=a;b.lt
theorem MF.mono(a:MF f O J h Y E)(b:Y<=i):MF f O J h i E:=let⟨n,D,c,d,e⟩:=a;⟨n,D,jM c b,d,e⟩
theorem MF.au{S:Nat->Prop}(b:MF f O J h Y E)(d:Ac S f c)(e:¬S h):MF c O J h Y E:=by
 obtain⟨n,D,g,a,i⟩:=b;refine⟨n,D,g,?_,i⟩;have j:=a.lt;obtain⟨k,l,m,r⟩:=a;exact⟨k,l,(d.bV h j e).trans m,r⟩
theorem MF.u(a:MF f O J h Y E)(b:f.grownBy c g)(d:AA h≠g):MF c O J h Y E:=by
 obtain⟨n,D,e,i,j⟩:=a;exact⟨n,D,e,i.kept b d,j⟩
theorem MF.cB(w:V)(P:A7)(k:A4):MF (w.alloc (.map #[] 0)) P k w.heap.size 0 (λ_=>A3):=
 ⟨0,.map [],jF _,World.ownsMap_made w P k Ls,λi=>⟨rfl,λz=>by simp[DataW.atKey]⟩⟩
theorem MF.cg(d:MF f O l h i E)(b:Aa f Y J a):h≠Y:=by
 intro J;subst J;obtain⟨n,D,_,⟨e,g,c,_⟩,_⟩:=d;unfold Aa at b;rw[b]at c
 cases c
theorem MF.dO(c:MF f O l h Y E)(e:f.ownsRow i J n d o a):d.ownBlock≠AA h:=by
 intro J;obtain⟨m,D,_,⟨k,p,b,_⟩,_⟩:=c
 rcases e.2 with⟨rfl,_⟩|⟨g,q,r,rfl,_,j,_⟩
 ·simp[A6]at J
 ·simp[A6]at J;subst J;rw[j]at b
  cases b
theorem MF.gT{w:V}{e t:A4}(d:MF w O J h Y E)(b:O.underlying J=AA (.int .i64))(f:O.underlying t=AA (.map J e)){z:Z}(g:(zeroValue e).run O w=.ok z w)(i:Int)(j:(BB .i64 i).wf=true):
  (Instr.lookup t (.map (AA h)) (.int .i64 i) true).run O w=.ok (.tuple #[(E i).getD z,.bool (E i).isSome]) w:=by
 obtain⟨n,D,o,k,c⟩:=d;obtain⟨v,p,l,m⟩:=k.look_ok (int_keyed b) f g (zd:=.held z) (zp:=[]) rfl (keyOf_int_mk b j);have a:=Ol m;rw[(c i).2 z]at a;simp only[pX,DataW.held.injEq]at a;rw[l,(c i).1, <-a.1]
theorem MF.fT{w:V}{e t:A4}(c:MF w O J h Y E)(b:O.underlying J=AA (.int .i64))(d:O.underlying t=AA (.map J e)){z:Z}(f:(zeroValue e).run O w=.ok z w)(i:Int)(g:(BB .i64 i).wf=true):
  (Instr.lookup t (.map (AA h)) (.int .i64 i) false).run O w=.ok ((E i).getD z) w:=by
 obtain⟨n,D,o,j,k⟩:=c;obtain⟨v,p,l,m⟩:=j.lookup (int_keyed b) d f (zd:=.held z) (zp:=[]) rfl (keyOf_int_mk b g);have a:=Ol m;rw[(k i).2 z]at a;simp only[pX,DataW.held.injEq]at a;rw[l, <-a.1]
theorem MF.ff{e:A4}(p:MF f O J h Y E)(k:O.underlying J=AA (.int .i64))(q:O.underlying l=AA (.map J e))(r:Y<maxLen)(i:Int)(c:(BB .i64 i).wf=true)(v:Z):
  ∃a,(Instr.mapUpdate l (.map (AA h)) (.int .i64 i) v).run O f=.ok () a/\MF a O J h (Y+1) (Fq E i v)/\f.grownBy a (AA h):=by
 obtain⟨n,D,m,g,o⟩:=p;obtain⟨a,s,t,u⟩:=g.update (int_keyed k) q (lM m r) (keyOf_int_mk k c) (val:=v) (d:=.held v) (ps:=[]) rfl;refine⟨a,s,⟨n+1,_,mG m,t,λj=>?_⟩,u⟩
 by_cases b:j=i
 ·subst b;rw[Mu,has_put_same g.isMap (UK j c)];exact⟨rfl,λz=>atKey_put_same g.isMap (UK j c) _ _⟩
 ·rw[Ld E v b,has_put_other (Nf b)];exact⟨(o j).1,λz=>by rw[atKey_put_other (Nf b)];exact(o j).2 z⟩
section
variable {P:Program} (w:World) {ops:Array Oper} {rest:List Oper} {o:Oper} {a:Act} {Q:Exit->Act->World->Prop}
end
end
section
open Go Go.RowKit
abbrev Ae:=Nat->Nat
def AD(w:V)(a:Ae):Prop:=∀k,w.heap.size<=k->a k=0
structure Ad(C:Nat->Prop)(w:V)(b:Ae)(c:V)(a:Ae):Prop where
 au:Ac (λk=>C (b k)) w c
 ak:∀k,k<w.heap.size->a k=b k
 dQ:∀k,w.heap.size<=k->a k=0\/C (a k)
 new:AD c a
theorem Ad.refl{C:Nat->Prop}{a:Ae}(h:AD f a):Ad C f a f a:=⟨Ac.refl _ _,λ_ _=>rfl,λk b=>Bn (h k b),h⟩
theorem Ad.u{C:Nat->Prop}{col:Ae}(h:AD f col)(b:f.grownBy c A3):Ad C f col c col:=
 ⟨Ac.az b,λ_ _=>rfl,λk a=>Bn (h k a),λk a=>h k (jM b.size a)⟩
theorem Ad.mono{C C':Nat->Prop}{a b:Ae}(h:Ad C f a c b)(d:∀i,C i->C' i):Ad C' f a c b:=
 ⟨h.au.mono (λ_ e=>d _ e),h.ak,λk g=>(h.dQ k g).imp id (d _),h.new⟩
theorem Ad.trans{C:Nat->Prop}{d e g:Ae}(h:Ad C f d c e)(k:Ad C c e p g):Ad C f d p g:=by
 have i:=h.au.aQ;refine⟨h.au.ag k.au (λj a=>?_),λj a=>(k.ak j (jJ a i)).trans (h.ak j a),λj a=>?_,k.new⟩
 ·by_cases b:j<f.heap.size
  ·exact Bn (by rw[h.ak j b]at a;exact a)
  ·exact BC Ω
 ·by_cases b:j<c.heap.size
  ·rw[k.ak j b];exact h.dQ j a
  ·exact k.dQ j Ω
theorem Ad.andThen{C:Nat->Prop}{a b d:Ae}(h:Ad e f a c b)(k:Ad q c b p d)(g:∀i,e i->C i)(j:∀i,q i->C i):Ad C f a p d:=(h.mono g).trans (k.mono j)
theorem Ad.aQ{C:Nat->Prop}{a b:Ae}(h:Ad C f a c b):f.heap.size<=c.heap.size:=h.au.aQ
theorem Ad.of{C:Nat->Prop}{a:Ae}(h:AD f a)(d:f.grownBy c g)(e:∀k,g=AA k->C (a k)):Ad C f a c a:=
 ⟨Ac.of d e,λ_ _=>rfl,λk b=>Bn (h k b),λk b=>h k (jM d.size b)⟩
theorem Ad.y{C:Nat->Prop}{b d:Ae}(e:Ad C f b c d)(g:Aa f h J a)(i:¬C (b h)):Aa c h J a:=e.au.y g i
theorem Ad.aN{C:Nat->Prop}{e g:Ae}(i:Ad C f e c g)(j:Ag f h d Y a)(k:∀b,d.ownBlock=AA b->¬C (e b)):Ag c h d Y a:=i.au.aN j k
theorem Ad.ap{C:Nat->Prop}{a b:Ae}(h:Ad C f a c b){p:Addr}(e:f.cell? p=AA d)(g:¬C (a p.block)):c.cell? p=AA d:=h.au.ap e g
def AN(a:Ae)(B i:Nat):Ae:=λk=>if k=B then i else a k
theorem A0(a:Ae)(B i:Nat):AN a B i B=i:=jP rfl
theorem Bz(a:Ae)(i:Nat)(b:h≠Y):AN a Y i h=a h:=jN b
theorem Ad.bQ{C:Nat->Prop}{b d:Ae}(h:Ad C f b c d){B i:Nat}(j:f.heap.size<=B)(l:B<c.heap.size)(g:C i):Ad C f b c (AN d B i):=by
 refine⟨h.au,λk a=>?_,λk a=>?_,λk a=>?_⟩
 ·rw[Bz _ _ Ω];exact h.ak k a
 ·by_cases e:k=B
  ·subst e;rw[A0];exact BC g
  ·rw[Bz _ _ e];exact h.dQ k a
 ·rw[Bz _ _ Ω];exact h.new k a
def GX(c:Ae)(a b i:Nat):Ae:=λk=>if a<=k/\k<b then i else c k
theorem JN(a:Ae){b i:Nat}(c:h<Y):GX a Y b i h=a h:=jN Ω
theorem I4(a:Ae){b i:Nat}(c:Y<=h)(d:h<b):GX a Y b i h=i:=jP ⟨c,d⟩
theorem Ad.fg{C:Nat->Prop}{a:Ae}{i:Nat}(d:AD f a)(e:Ac (λk=>C (a k)) f c)(g:C i):Ad C f a c (GX a f.heap.size c.heap.size i):=by
 refine⟨e,λk b=>JN a b,λk b=>?_,λk b=>?_⟩
 ·unfold Proofs.YtcedibmdelehdaaGreatDoor.GX
  split
  ·exact BC g
  ·exact Bn (d k b)
 ·unfold Proofs.YtcedibmdelehdaaGreatDoor.GX;rw[jN Ω];exact d k (jM e.aQ b)
theorem IW{g m:Nat}{j:List Z}(p:f.ownsRow Y J n d g a)(k:f.ownsRow i l o r m j)(q:J≠l)(b:d.ownBlock=AA h):r.ownBlock≠AA h:=by
 intro c
 rcases p.2 with⟨rfl,_⟩|⟨t,u,v,rfl,_,s,_⟩
 ·simp[A6]at b
 ·rcases k.2 with⟨rfl,_⟩|⟨w,x,y,rfl,_,e,_⟩
  ·simp[A6]at c
  ·simp[A6]at b c;subst b;subst c;rw[s]at e;simp at e;exact q e.2
end
section
abbrev As:=Nat->Option (Nat×List Nat)
def Ex(a:As)(n:Nat)(x:Nat×List Nat):As:=λk=>if k=n then AA x else a k
def Ia(a:As)(n:Nat):As:=λk=>if k=n then A3 else a k
theorem EV(a:As)(n:Nat)(x:Nat×List Nat):Ex a n x n=AA x:=jP rfl
theorem Et(a:As)(x:Nat×List Nat)(b:h≠Y):Ex a Y x h=a h:=jN b
theorem Im(a:As)(n:Nat):Ia a n n=A3:=jP rfl
theorem Fi(a:As)(b:h≠Y):Ia a Y h=a h:=jN b
structure Fr(D a:List Nat)(b c:As):Prop where
 cs:∀n,n∉D->n∉a->c n=b n
 eX:∀n,n∈a->n∉D->b n=A3
 d2:∀n,n∈D->n∉a->c n=A3
theorem Fr.refl(D:List Nat)(a:As):Fr D D a a:=⟨λ_ _ _=>rfl,λ_ h k=>absurd h k,λ_ h k=>absurd h k⟩
theorem Fr.trans{f g i:As}(h:Fr k b f g)(e:Fr b m g i):Fr k m f i:=by
 refine⟨λn d c=>?_,λn d c=>?_,λn d c=>?_⟩<;>by_cases a:n∈b
 ·rw[h.eX n a d,e.d2 n a c]
 ·rw[e.cs n a c,h.cs n d a]
 ·exact h.eX n a c
 ·rw[<-h.cs n c a];exact e.eX n d a
 ·exact e.d2 n a c
 ·rw[e.cs n a c];exact h.d2 n d a
theorem Fr.dD{D:List Nat}{i j:As}(h:Fr D k i j)(g:∀n,n∈b↔n∈D\/(n∈b/\n∉D))(f:∀n,n∈m↔n∈k\/(n∈b/\n∉D)):Fr b m i j:=by
 refine⟨λn a e=>h.cs n (λc=>a ((g n).2 (Bn c))) (λc=>e ((f n).2 (Bn c))),λn a e=>?_,λn a e=>?_⟩
 ·rcases(f n).1 a with c|⟨c,_⟩
  ·exact h.eX n c (λd=>e ((g n).2 (Bn d)))
  ·exact absurd c e
 ·rcases(g n).1 a with c|c
  ·exact h.d2 n c (λd=>e ((f n).2 (Bn d)))
  ·exact absurd ((f n).2 (BC c)) e
theorem Fr.ho{f g:As}(h:Fr b k f g)(E:List Nat):Fr (b++E) (k++E) f g:=by
 refine⟨λn a e=>h.cs n (λc=>a (lK _ c)) (λc=>e (lK _ c)),λn a e=>?_,λn a e=>?_⟩
 ·rcases kI.1 a with c|c
  ·exact h.eX n c (λd=>e (lK _ d))
  ·exact absurd (lG _ c) e
 ·rcases kI.1 a with c|c
  ·exact h.d2 n c (λd=>e (lK _ d))
  ·exact absurd (lG _ c) e
theorem Fr.iE{g:List Nat}{i j:As}(h:Fr b k i j)(e:∀n,n∈b↔n∈m)(f:∀n,n∈k↔n∈g):Fr m g i j:=
 ⟨λn a d=>h.cs n (λc=>a ((e n).1 c)) (λc=>d ((f n).1 c)),λn a d=>h.eX n ((f n).2 a) (λc=>d ((e n).1 c)),λn a d=>h.d2 n ((e n).2 a) (λc=>d ((f n).1 c))⟩
theorem Fr.cA{d e:As}(h:Fr k b d e){n:Nat}{x:Nat×List Nat}(a:d n=AA x)(f:n∉k):e n=AA x/\n∉b:=by
 have:n∉b:=λc=>by rw[h.eX n c f]at a;cases a
 exact⟨(h.cs n f this).trans a,this⟩
theorem Fr.aV{b:As}(x:Nat×List Nat):Fr [h] [h] b (Ex b h x):=⟨λk a _=>Et b x (by simpa using a),λk a c=>absurd a c,λk a c=>absurd a c⟩
theorem Fr.new{pg:As}{n:Nat}(x:Nat×List Nat)(h:pg n=A3):Fr [] [n] pg (Ex pg n x):=⟨λk _ h=>Et pg x (by simpa using h),λk a _=>by simp at a;subst a;exact h,λk a _=>by simp at a⟩
def Cq(a:As)(k:Nat):Prop:=∃l:List Nat,l.length<=k/\∀n,a n≠A3->n∈l
theorem Cq.mono{a:As}(b:Cq a h)(c:h<=Y):Cq a Y:=let⟨l,d,e⟩:=b;⟨l,jM d c,e⟩
theorem Cq.fk{a f:As}(k:Cq a i)(g:a h≠A3)(j:Fr [h] [Y] a f):Cq f i:=by
 obtain⟨l,m,b⟩:=k;refine⟨Y::l.erase h,?_,λn c=>?_⟩
 ·have o:=List.length_erase_of_mem (b h g);have p:0<l.length:=List.length_pos_of_mem (b h g);simp only[jT];omega
 ·by_cases e:n=Y
  ·exact e▸mh
  ·by_cases d:n=h
   ·exact absurd (j.d2 n (by simp[d]) (by simp[e])) c
   ·rw[j.cs n (by simp[d]) (by simp[e])]at c;exact kT _ ((List.mem_erase_of_ne d).2 (b n c))
theorem Cq.new{a b:As}{k:Nat}(d:Cq a k)(f:Fr [] [h] a b):Cq b (k+1):=by
 obtain⟨l,g,i⟩:=d;refine⟨h::l,by simpa using g,λn c=>?_⟩
 by_cases e:n=h
 ·exact e▸mh
 ·rw[f.cs n Δ (by simp[e])]at c;exact kT _ (i n c)
theorem ZZ{t:Nat->Bool}{l:List Nat}(b:∀j,j<h->t j=true->j∈l)(f:l.length<h):∃j,j<h/\t j=false:=by
 refine lH (λc=>?_)
 have d:∀j,j∈List.range h->j∈l:=λj a=>b j (lm.1 a) (by
  cases e:t j with
  |true=>rfl
  |false=>exact absurd ⟨j,lm.1 a,e⟩ c)
 have:=(nw (n:=h)).length_le_of_subset d;simp at this;omega
end
section
open Go Go.RowKit
def Sc(O:Nat->Prop)(n:Nat):Nat->Prop:=λj=>O j\/(100<=j/\j<n)
theorem Sc.hz(a:100<=h)(b:h<Y):Sc e Y h:=BC ⟨a,b⟩
theorem Sc.mono(b:∀j,e j->q j)(c:h<=Y):∀j,Sc e h j->Sc q Y j:=λj a=>a.elim (λa=>Bn (b j a)) (λa=>BC ⟨a.1,jJ a.2 c⟩)
theorem Sc.aG(a:¬e h)(b:h<100\/Y<=h):¬Sc e Y h:=λk=>k.elim a (λk=>Ω)
theorem AD.u{a:Ae}(h:AD f a)(b:f.grownBy c g):AD c a:=λk d=>h k (jM b.size d)
theorem AD.au{S:Nat->Prop}{a:Ae}(h:AD f a)(g:Ac S f c):AD c a:=λk b=>h k (jM g.aQ b)
theorem Cl{C:Nat->Prop}{a:Ae}(b:AD f a)(g:f.grownBy c A3){i:Nat}(d:f.heap.size<=h)(e:h<c.heap.size)(j:C i):Ad C f a c (AN a h i):=(Ad.u b g).bQ d e j
theorem AL{C S:Nat->Prop}{a:Ae}(h:AD f a)(b:Ac S f c)(d:∀k,S k->C (a k)):Ad C f a c a:=
 ⟨b.mono d,λ_ _=>rfl,λk e=>Bn (h k e),h.au b⟩
theorem Bq{i:Z}(j:Aa f h J [d,r,i])(b c g:Z):∃a,(((f.setCell ⟨h,0,A3⟩ b).setCell ⟨h,1,A3⟩ c).setCell ⟨h,2,A3⟩ g)=a/\Aa a h J [b,c,g]/\Ac (λk=>k=h) f a:=
 ⟨_,rfl,((j.setCell 0 _).setCell 1 _).setCell 2 _,((Ac.of (Ao _ _ _) (λk e=>by cases e;rfl)).trans (Ac.of (Ao _ _ _) (λk e=>by cases e;rfl))).trans (Ac.of (Ao _ _ _) (λk e=>by cases e;rfl))⟩
end
section
open Go Go.RowKit
section
variable {F:Fence} {n:Nat} {P:Program}
abbrev BK:Nat->Prop:=λj=>j=199\/j=197
abbrev Ny:Nat->Prop:=λj=>j=197
def Kf{α M:Type}(F:Fence)(n:Nat)(P:A7)(g:Nat)(k:Array Z)(encs:α->Array Z)(C:Nat->Prop)(A:M->Ae->V->Prop)(R:List α->α->V->M->Ae->Prop)(S:List α->Prop)(N:Nat)(o:Ae->V->Prop:=λ_ _=>True):Prop:=
 ∀(l:Nat) (J:M->Ae->List α->V->Prop) (d:Ae->V->Prop) (W:V) (p:M) (h:Ae),
  (∀m c a X Y,J m c a X->X.grownBy Y A3->J m c a Y)->(∀m c b a X Y,J m c a X->Ad Ny X c Y b->J m b a Y)->(∀c X Y,d c X->X.grownBy Y A3->d c Y)->(∀m c a X,J m c a X->A m c X/\AD X c)->
  (∀m c a x X,J m c a X->a.length<N->R a x X m c->YieldAt F (n - 1) P l (encs x) X λe f=>∃b,Ad C X c f b/\((e=.returned (.bool true)/\∃q,J q b (a++[x]) f)\/(e=.returned (.bool false)/\d b f)))->
  J p h [] W->o h W->
  CallsIn F n P g (#[.func (.yield l) #[] #[]]++k) W λe i=>(∃v,e=.returned v)/\∃b,((∃m j,S j/\J m b j i)\/d b i)
def iQ{α M:Type}(C:Nat->Prop)(I:M->Ae->List α->V->Prop)(d:Code->Ae->V->Prop)(e:List α)(W:V)(c:Ae):Exit->Act->V->Prop
 | .normal,_,a=>∃b f,Ad C W c a b/\I f b e a
 | .ret,_,a=>∃b,Ad C W c a b/\d .ret b a
 | .exit g,_,a=>∃b,Ad C W c a b/\d (.exit g) b a
 | .goto t,_,a=>∃b,Ad C W c a b/\d (.goto t) b a
 | .panic _,_,_=>False
 | .outgrown,_,_=>False
theorem Hg(W:V)(l:Nat)(o:Obj):Ac (λk=>k=l) W (W.putObj l o):=Ac.of (grownBy_putObj' W l o) (λk e=>by cases e;rfl)
theorem Kz{α M:Type}{g:Operand}{ps:Array Tmp}{assign body:Code}{Q:Exit->Act->V->Prop}{a:Act}{an:Ae}(a7:AD f an)
  (a8:F.round=A3)(h1:1<=n){gf:Nat}{lb:Array Z}(hg:a.eval g=.func (.func gf) #[] lb)(bb:F.fn gf)(eg:∀args f,(callFunc gf args).run P f=.ok (.enter gf args) f)
  {encs:α->Array Z}{C:Nat->Prop}{A:M->Ae->V->Prop}{R:List α->α->V->M->Ae->Prop}{S:List α->Prop}{B0:Ae->V->Prop}(hC:C 199){N:Nat}(bd:Kf F (n - 1) P gf lb encs C A R S N B0)(be:∀o J,f.grownBy o A3->(∀k,k<f.heap.size->J k=an k)->B0 J o)(bf:∀x,(encs x).size=ps.size)
  (I:M->Ae->List α->V->Prop)(Ix:Code->Ae->V->Prop)(Ax:Act->α->Act->V->Ae->Prop)(m0:M)
  (hI:∀m c i b X Y,I m c b X->Ad BK X c Y i->I m i b Y)(ap:∀k c i X Y,Ix k c X->Ad BK X c Y i->Ix k i Y)(hA:∀m c b X,I m c b X->A m c X/\AD X c)
  (hR:∀m c i b x X Y,R b x X m c->Ad BK X c Y i->R b x Y m i)(bh:∀c i x E X Y,Ax a x E X c->Ad BK X c Y i->Ax a x E Y i)
  (h0:I m0 an [] f)
  (C0:Nat->Prop)(aN:∀j,C0 j->C j)(_:¬C0 0)(ax:¬C0 199)
  (bj:∀(l:Nat) (m:M) (c:Ae) (b:List α) (x:α) (W:V) (K:Act->V->Prop),I m c b W->b.length<N->R b x W m c->(∀E W' i,Ad C0 W c W' i->I m i b W'->R b x W' m i->Ax a x E W' i->K E W')->
   assign.wpIn (F.inRound l) (n - 1 - 1) P (Exit.then K (λ_ _ _=>False)) {tmps:=(ps.zip (encs x)).foldl (λt (p,v)=>t.setIfInBounds p v) a.tmps,defers:=[]} W)
  (bk:∀(l:Nat) (m:M) (c:Ae) (b:List α) (x:α) (E:Act) (W:V),I m c b W->b.length<N->R b x W m c->Ax a x E W c->body.wpIn (F.inRound l) (n - 1 - 1) P (iQ C0 I Ix (b++[x]) W c) E W)
  (bl:∀(D:Nat) (m:M) (c:Ae) (xs:List α) (W:V),S xs->I m c xs W->W.heap[D]?=AA (A5 (AA []))->c D=199->Q .normal {a with defers:={target:=.collected D,args:=#[]}::a.defers} W)
  (bm:∀(D:Nat) (k:Code) (c:Ae) (W:V),Ix k c W->W.heap[D]?=AA (A5 (AA []))->c D=199->k.wpIn F n P Q {a with defers:={target:=.collected D,args:=#[]}::a.defers} W):
  (Code.rangeFunc g ps assign body).wpIn F n P Q a f:=by
 refine wpIn_rangeFunc ?_;intro fn bn;rw[a8]
 obtain⟨q,O⟩:∃q:LoopState->Option Code->Loop,q=λst pe=>{state:=st,pending:=pe,fn,tmps:=a.tmps,params:=ps,assign,body,defers:=f.heap.size}:=⟨_,rfl⟩
 obtain⟨o,ar⟩:=Af ((f.alloc (A5 (AA []))).alloc (Bx (q Bd A3)))
 have bq:o.heap[f.heap.size+1]?=AA (Bx (q Bd A3)):=by
  rw[<-ar];have:=Bs (f.alloc (A5 (AA []))) (Bx (q Bd A3));rwa[World.size_alloc]at this
 have br:o.heap[f.heap.size]?=AA (A5 (AA [])):=by
  rw[<-ar];exact(Below.heap_alloc _ _ _ Δ).trans (Bs f _)
 have bL:o.heap.size=f.heap.size+2:=by rw[<-ar];simp
 have aO:f.grownBy o A3:=by rw[<-ar];exact Ab (BA _ _ A3) (BA _ _ A3)
 obtain⟨J,aF⟩:=Af (AN (AN an f.heap.size 199) (f.heap.size+1) 199)
 have aP:Ad BK f an o J:=by
  rw[<-aF];exact((Ad.u (C:=BK) a7 aO).bQ (jF f.heap.size) (show f.heap.size<o.heap.size by omega) (show BK 199 from Bn rfl)).bQ (show f.heap.size<=f.heap.size+1 by omega) (show f.heap.size+1<o.heap.size by omega) (show BK 199 from Bn rfl)
 have bs:J f.heap.size=199:=by rw[<-aF];unfold AN;rw[jN Ω,jP rfl]
 have bt:J (f.heap.size+1)=199:=by rw[<-aF];exact A0 _ _ _
 have bu:I m0 J [] o:=hI _ _ _ _ _ _ h0 aP;generalize hD:f.heap.size=D at*;generalize hL:D+1=L at*;have az:D≠L:=Ω
 refine⟨L,[{target:=.collected D,args:=#[]}],o,{target:=.fn (.func gf) lb,args:=#[.func (.yield L) #[] #[]]},o,gf,
  #[.func (.yield L) #[] #[]]++lb,o,?_,?_,?_,?_,λ_=>h1,?_⟩
 ·rw[<-ar,O, <-hL, <-hD];exact run_enterLoop_outer _ _ _ _ _
 ·simp only[resolve,hg];simp[go_sem]
 ·intro f' aQ;simp[Target.leads]at aQ;subst aQ;exact bb
 ·simp[invoke,go_sem,eg]
 ·refine(bd L
   (λm c b W=>I m c b W/\(c L=199/\c D=199)/\W.heap[L]?=AA (Bx (q Bd A3))/\W.heap[D]?=AA (A5 (AA [])))
   (λc W=>∃k,Ix k c W/\AD W c/\c L=199/\c D=199/\W.heap[L]?=AA (Bx (q BD (AA k)))/\W.heap[D]?=AA (A5 (AA [])))
   o m0 J
   (λm c b X Y d aa=>⟨hI _ _ _ _ _ _ d.1 (Ad.u (hA _ _ _ _ d.1).2 aa),d.2.1,(aa.block L (jR.1 d.2.2.1).1 Δ).trans d.2.2.1,(aa.block D (jR.1 d.2.2.2).1 Δ).trans d.2.2.2⟩)
   (λm c i b X Y d T=>⟨hI _ _ _ _ _ _ d.1 (T.mono (λj e=>BC e)),⟨by rw[T.ak _ (jR.1 d.2.2.1).1];exact d.2.1.1,by rw[T.ak _ (jR.1 d.2.2.2).1];exact d.2.1.2⟩,(T.au.bV L (jR.1 d.2.2.1).1 (by rw[d.2.1.1];simp[Ny])).trans d.2.2.1,(T.au.bV D (jR.1 d.2.2.2).1 (by rw[d.2.1.2];simp[Ny])).trans d.2.2.2⟩)
   (λc X Y d aa=>by
    obtain⟨k,B,aA,s,u,y,hd⟩:=d
    exact⟨k,ap _ _ _ _ _ B (Ad.u aA aa),aA.u aa,s,u,(aa.block L (jR.1 y).1 Δ).trans y,(aa.block D (jR.1 hd).1 Δ).trans hd⟩)
   (λm c b X d=>hA _ _ _ _ d.1) ?_ ⟨bu,⟨bt,bs⟩,bq,br⟩ (be o J aO (λk B=>aP.ak k Ω))).mono ?_
  ·rintro m c b x X ⟨hi,⟨aS,aT⟩,y,B⟩ aU hr;have hy:=run_yield (P:=P) (args:=encs x) y (by rw[O];exact bf x);rw[O]at hy;refine⟨fn,_,assign,body,hy,roundIn_of_wpIn bn (bj _ m c b x X _ hi aU hr ?_)⟩;clear hy;intro E Wa ca ac bz bA bB;have au:L<X.heap.size:=(jR.1 y).1;have aB:D<X.heap.size:=(jR.1 B).1
   replace y:=(ac.au.bV L au (by rw[aS];exact ax)).trans y
   replace B:=(ac.au.bV D aB (by rw[aT];exact ax)).trans B
   have aH:ca L=199:=(ac.ak L au).trans aS;have aV:ca D=199:=(ac.ak D aB).trans aT
   replace au:L<Wa.heap.size:=jJ au ac.aQ
   replace aB:D<Wa.heap.size:=jJ aB ac.aQ
   refine⟨_,run_beginRound y (by rw[O]),?_⟩;generalize aI:Wa.putObj L (Bx {q Bd A3 with state:=.busy})=U
   have tb:Ac (λk=>k=L) Wa U:=by rw[<-aI];exact Hg _ _ _
   have aW:Ad (λj=>j=199) Wa ca U ca:=AL ac.new tb (λk e=>by rw[e];exact aH);have aJ:Ad BK Wa ca U ca:=aW.mono (λ_ e=>Bn e)
   have aX:U.heap[L]?=AA (Bx {q Bd A3 with state:=.busy}):=by rw[<-aI];exact Bk au
   have aY:U.heap[D]?=AA (A5 (AA [])):=by rw[<-aI];exact(A2 az).trans B
   refine wpIn_mono (bk _ m ca b x E U (hI _ _ _ _ _ _ bz aJ) aU (hR _ _ _ _ _ _ _ bA aJ) (bh _ _ _ _ _ _ bB aJ)) ?_;have aZ:L<U.heap.size:=(jR.1 aX).1;have a0:D<U.heap.size:=(jR.1 aY).1
   have aC:∀(G:Option Code) (z:V) (h:Ae),Ad C0 U ca z h->∃w,(Instr.endRound L G).run P z=.ok (.bool G.isNone) w/\Ad C X c w h/\Ad BK z h w h/\h L=199/\h D=199/\
     w.heap[L]?=AA (Bx (q (if G.isNone then Bd else BD) G))/\w.heap[D]?=AA (A5 (AA [])):=λG z h r=>by
    have a1:=(r.au.bV L aZ (by rw[aH];exact ax)).trans aX;have bD:=(r.au.bV D a0 (by rw[aV];exact ax)).trans aY;have a2:h L=199:=(r.ak L aZ).trans aH;have bE:h D=199:=(r.ak D a0).trans aV;have bF:=run_endRound (P:=P) G a1;have bG:=Hg z L (Bx {({q Bd A3 with state:=.busy}:Loop)with state:=if G.isNone then Bd else BD,pending:=G});have a3:Ad (λj=>j=199) z h (z.putObj L (Bx {({q Bd A3 with state:=.busy}:Loop)with state:=if G.isNone then Bd else BD,pending:=G})) h:=AL r.new bG (λk e=>by rw[e];exact a2);refine⟨_,bF,?_,a3.mono (λ_ e=>Bn e),a2,bE,?_,(A2 az).trans bD⟩
    ·exact(((ac.mono aN).trans (aW.mono (λj e=>by rw[e];exact hC))).trans (r.mono aN)).trans (a3.mono (λj e=>by rw[e];exact hC))
    ·rw[Bk (jR.1 a1).1,O]
   rintro e bN z hp
   cases e with
   |normal=>
    obtain⟨h,m3,r,ad⟩:=hp;obtain⟨w,ae,af,H,s,u,e3,e4⟩:=aC A3 z h r;exact⟨_,w,ae,h,af,Bn ⟨rfl,m3,hI _ _ _ _ _ _ ad H,⟨s,u⟩,e3,e4⟩⟩
   |ret=>
    obtain⟨h,r,ad⟩:=hp;obtain⟨w,ae,af,H,s,u,e3,e4⟩:=aC (AA .ret) z h r;exact⟨_,w,ae,h,af,BC ⟨rfl,.ret,ap _ _ _ _ _ ad H,H.new,s,u,e3,e4⟩⟩
   |exit id=>
    obtain⟨h,r,ad⟩:=hp;obtain⟨w,ae,af,H,s,u,e3,e4⟩:=aC (AA (.exit id)) z h r;exact⟨_,w,ae,h,af,BC ⟨rfl,.exit id,ap _ _ _ _ _ ad H,H.new,s,u,e3,e4⟩⟩
   |goto t=>
    obtain⟨h,r,ad⟩:=hp;obtain⟨w,ae,af,H,s,u,e3,e4⟩:=aC (AA (.goto t)) z h r;exact⟨_,w,ae,h,af,BC ⟨rfl,.goto t,ap _ _ _ _ _ ad H,H.new,s,u,e3,e4⟩⟩
   |panic ch=>exact hp.elim
   |outgrown=>exact hp.elim
  ·rintro e W2 ⟨⟨v,rfl⟩,c2,(⟨m2,xs,hS,hi,⟨s,u⟩,y,B⟩|⟨k,hi,aA,s,u,y,B⟩)⟩
   ·have ht:=Hg W2 L (Bx {q Bd A3 with state:=.exhausted});have T:=AL (C:=BK) (hA _ _ _ _ hi).2 ht (λk e=>Bn (by rw[e];exact s));exact⟨A3,_,by have:=run_endLoop (P:=P) y (by rw[O];simp);rw[O]at this⊢;exact this,bl D m2 c2 xs _ hS (hI _ _ _ _ _ _ hi T) ((A2 az).trans B) u⟩
   ·have ht:=Hg W2 L (Bx {q BD (AA k)with state:=.exhausted});have T:=AL (C:=BK) aA ht (λk e=>Bn (by rw[e];exact s));exact⟨AA k,_,by have:=run_endLoop (P:=P) y (by rw[O];simp);rw[O]at this⊢;exact this,bm D k c2 _ (ap _ _ _ _ _ hi T) ((A2 az).trans B) u⟩
end
end
