/- Lemmas. -/
import Derived.Test.YtcedibmdelehdaaGreatDoorH05
import Derived.Maps.OwnSet
import Derived.Maps.RangeWalk
import Derived.RangeFuncNested
namespace Go.Proofs.YtcedibmdelehdaaGreatDoor
set_option maxRecDepth 100000
set_option maxHeartbeats 32000000
open Go renaming World->V,Value->Z,TypeId->A4,Program->Bn
open Option renaming some->AA,none->A3
open Go.World renaming putObj_heap_other->A2,putObj_heap_same->Bx,alloc_heap_new->BB,grownBy_alloc->BD
open Go.Obj renaming deferred->Bd,loop->BC
open Go.Value renaming ownBlock->Bk
open Go.LoopState renaming ready->Bs,done->BR
open Or renaming inl->BA,inr->BL
open Go.Lit renaming int->BE
variable{h d p:V}{E a i n o:Nat}{J:Int->Option Z}{O l:A4}{Y:Bn}{b:List Z}{c k m:List Nat}{e r:Z}{f q:Nat->Prop}{g:Option Nat}{j:Int}
section
open Go Go.RowKit Go.Maps
def Gh(v:Z):Option (DataW Z×List MemPlace):=AA (.held v,[])
theorem Oa{y:DataW Z×List MemPlace}(h:Gh e=AA y):y=(.held e,[]):=by
 unfold Gh at h;simpa using h.symm
def UA(D:DataW Z)(f:Int->Option Z):Prop:=
 ∀i:Int,Maps.has D (BE .i64 i)=(f i).isSome/\∀z,D.atKey (BE .i64 i) (.held z)=.held ((f i).getD z)
def MF(w:V)(P:Bn)(k:A4)(b q:Nat)(f:Int->Option Z):Prop:=
 ∃n D,n<=q/\w.ownsMap P k Gh b n D/\UA D f
def Ec(f:Int->Option Z)(i:Int)(v:Z)(j:Int):Option Z:=if j=i then AA v else f j
def FN(f:Int->Option Z)(i:Int)(j:Int):Option Z:=if j=i then A3 else f j
theorem Mh(f:Int->Option Z)(i:Int)(v:Z):Ec f i v i=AA v:=ke rfl
theorem KH(f:Int->Option Z){i:Int}(v:Z)(h:j≠i):Ec f i v j=f j:=j7 h
theorem Z2(f:Int->Option Z)(i:Int):FN f i i=A3:=ke rfl
theorem fH(f:Int->Option Z){i:Int}(h:j≠i):FN f i j=f j:=j7 h
theorem MQ{i:Int}(h:j≠i):(BE .i64 j)≠BE .i64 i:=λe=>h (by injection e)
theorem Uw(i:Int)(_a:(BE .i64 i).wf=true):WideAt.IsKeyLit (BE .i64 i):=by
 first
  |exact _a
  |simp[WideAt.IsKeyLit]
  |trivial
theorem MF.lt(b:MF h Y O E a J):E<h.heap.size:=let⟨_,_,_,c,_⟩:=b;c.lt
theorem MF.mono(b:MF h Y O E a J)(c:a<=i):MF h Y O E i J:=let⟨n,D,d,e,f⟩:=b;⟨n,D,j8 d c,e,f⟩
theorem MF.ak{S:Nat->Prop}(c:MF h Y O E a J)(e:Ac S h d)(f:¬S E):MF d Y O E a J:=by
 obtain⟨n,D,g,b,i⟩:=c;refine⟨n,D,g,?_,i⟩;have j:=b.lt;obtain⟨k,l,m,r⟩:=b;exact⟨k,l,(e.bK E j f).trans m,r⟩
theorem MF.grown(b:MF h Y O E a J)(c:h.grownBy d g)(e:AA E≠g):MF d Y O E a J:=by
 obtain⟨n,D,f,i,j⟩:=b;exact⟨n,D,f,i.kept c e,j⟩
theorem MF.bR(w:V)(P:Bn)(k:A4):MF (w.alloc (.map #[] 0)) P k w.heap.size 0 (λ_=>A3):=
 ⟨0,.map [],jS _,World.ownsMap_made w P k Gh,λi=>⟨rfl,λz=>by simp[DataW.atKey]⟩⟩
theorem MF.b6(e:MF h Y l E i J)(c:Aa h a O b):E≠a:=by
 intro O;subst O;obtain⟨n,D,_,⟨f,g,d,_⟩,_⟩:=e;unfold Aa at c;rw[c]at d
 cases d
theorem MF.cP(d:MF h Y l E a J)(f:h.ownsRow i O n e o b):e.ownBlock≠AA E:=by
 intro O;obtain⟨m,D,_,⟨k,p,c,_⟩,_⟩:=d
 rcases f.2 with⟨rfl,_⟩|⟨g,q,r,rfl,_,j,_⟩
 ·simp[Bk]at O
 ·simp[Bk]at O;subst O;rw[j]at c
  cases c
theorem MF.gv{w:V}{e t:A4}(h:MF w Y O E a J)(c:Y.underlying O=AA (.int .i64))(f:Y.underlying t=AA (.map O e)){z:Z}(g:(zeroValue e).run Y w=.ok z w)(i:Int)(j:(BE .i64 i).wf=true):
  (Instr.lookup t (.map (AA E)) (.int .i64 i) true).run Y w=.ok (.tuple #[(J i).getD z,.bool (J i).isSome]) w:=by
 obtain⟨n,D,o,k,d⟩:=h;obtain⟨v,p,l,m⟩:=k.look_ok (int_keyed c) f g (zd:=.held z) (zp:=[]) rfl (keyOf_int_mk c j);have b:=Oa m;rw[(d i).2 z]at b;simp only[qz,DataW.held.injEq]at b;rw[l,(d i).1, <-b.1]
theorem MF.fi{w:V}{e t:A4}(h:MF w Y O E a J)(c:Y.underlying O=AA (.int .i64))(d:Y.underlying t=AA (.map O e)){z:Z}(f:(zeroValue e).run Y w=.ok z w)(i:Int)(g:(BE .i64 i).wf=true):
  (Instr.lookup t (.map (AA E)) (.int .i64 i) false).run Y w=.ok ((J i).getD z) w:=by
 obtain⟨n,D,o,j,k⟩:=h;obtain⟨v,p,l,m⟩:=j.lookup (int_keyed c) d f (zd:=.held z) (zp:=[]) rfl (keyOf_int_mk c g);have b:=Oa m;rw[(k i).2 z]at b;simp only[qz,DataW.held.injEq]at b;rw[l, <-b.1]
theorem MF.eu{e t:A4}(o:MF h Y O E a J)(k:Y.underlying O=AA (.int .i64))(p:Y.underlying t=AA (.map O e))(q:a<maxLen)(i:Int)(f:(BE .i64 i).wf=true)(v:Z):
  ∃b,(Instr.mapUpdate t (.map (AA E)) (.int .i64 i) v).run Y h=.ok () b/\MF b Y O E (a+1) (Ec J i v)/\h.grownBy b (AA E):=by
 obtain⟨n,D,l,g,m⟩:=o;obtain⟨b,r,s,u⟩:=g.update (int_keyed k) p (mm l q) (keyOf_int_mk k f) (val:=v) (d:=.held v) (ps:=[]) rfl;refine⟨b,r,⟨n+1,_,mJ l,s,λj=>?_⟩,u⟩
 by_cases c:j=i
 ·subst c;rw[Mh,has_put_same g.isMap (Uw j f)];exact⟨rfl,λz=>atKey_put_same g.isMap (Uw j f) _ _⟩
 ·rw[KH J v c,has_put_other (MQ c)];exact⟨(m j).1,λz=>by rw[atKey_put_other (MQ c)];exact(m j).2 z⟩
section
variable {P:Program} (w:World) {ops:Array Oper} {rest:List Oper} {o:Oper} {a:Act} {Q:Exit->Act->World->Prop}
end
end
section
open Go Go.RowKit
abbrev Ad:=Nat->Nat
def Aw(w:V)(a:Ad):Prop:=∀k,w.heap.size<=k->a k=0
structure Ab(C:Nat->Prop)(w:V)(b:Ad)(c:V)(a:Ad):Prop where
 ak:Ac (λk=>C (b k)) w c
 ah:∀k,k<w.heap.size->a k=b k
 dx:∀k,w.heap.size<=k->a k=0\/C (a k)
 new:Aw c a
theorem Ab.refl{C:Nat->Prop}{a:Ad}(b:Aw h a):Ab C h a h a:=⟨Ac.refl _ _,λ_ _=>rfl,λk c=>BA (b k c),b⟩
theorem Ab.grown{C:Nat->Prop}{a:Ad}(c:Aw h a)(e:h.grownBy d A3):Ab C h a d a:=
 ⟨Ac.au e,λ_ _=>rfl,λk b=>BA (c k b),λk b=>c k (j8 e.size b)⟩
theorem Ab.mono{C C':Nat->Prop}{b c:Ad}(a:Ab C h b d c)(e:∀i,C i->C' i):Ab C' h b d c:=
 ⟨a.ak.mono (λ_ f=>e _ f),a.ah,λk g=>(a.dx k g).imp id (e _),a.new⟩
theorem Ab.trans{C:Nat->Prop}{e f g:Ad}(b:Ab C h e d f)(k:Ab C d f p g):Ab C h e p g:=by
 have i:=b.ak.size;refine⟨b.ak.ae k.ak (λj a=>?_),λj a=>(k.ah j (jY a i)).trans (b.ah j a),λj a=>?_,k.new⟩
 ·by_cases c:j<h.heap.size
  ·exact BA (by rw[b.ah j c]at a;exact a)
  ·exact BL Ω
 ·by_cases c:j<d.heap.size
  ·rw[k.ah j c];exact b.dx j a
  ·exact k.dx j Ω
theorem Ab.andThen{C:Nat->Prop}{a b c:Ad}(e:Ab f h a d b)(k:Ab q d b p c)(g:∀i,f i->C i)(j:∀i,q i->C i):Ab C h a p c:=(e.mono g).trans (k.mono j)
theorem Ab.size{C:Nat->Prop}{a b:Ad}(c:Ab C h a d b):h.heap.size<=d.heap.size:=c.ak.size
theorem Ab.of{C:Nat->Prop}{a:Ad}(c:Aw h a)(e:h.grownBy d g)(f:∀k,g=AA k->C (a k)):Ab C h a d a:=
 ⟨Ac.of e f,λ_ _=>rfl,λk b=>BA (c k b),λk b=>c k (j8 e.size b)⟩
theorem Ab.u{C:Nat->Prop}{a c:Ad}(e:Ab C h a d c)(f:Aa h E O b)(g:¬C (a E)):Aa d E O b:=e.ak.u f g
theorem Ab.aP{C:Nat->Prop}{c g:Ad}(i:Ab C h c d g)(j:Ai h E e a b)(k:∀f,e.ownBlock=AA f->¬C (c f)):Ai d E e a b:=i.ak.aP j k
theorem Ab.aq{C:Nat->Prop}{a b:Ad}(c:Ab C h a d b){p:Addr}(f:h.cell? p=AA e)(g:¬C (a p.block)):d.cell? p=AA e:=c.ak.aq f g
def AL(a:Ad)(B i:Nat):Ad:=λk=>if k=B then i else a k
theorem AY(a:Ad)(B i:Nat):AL a B i B=i:=ke rfl
theorem Bg(b:Ad)(i:Nat)(h:E≠a):AL b a i E=b E:=j7 h
theorem Ab.bC{C:Nat->Prop}{c f:Ad}(b:Ab C h c d f){B i:Nat}(j:h.heap.size<=B)(l:B<d.heap.size)(g:C i):Ab C h c d (AL f B i):=by
 refine⟨b.ak,λk a=>?_,λk a=>?_,λk a=>?_⟩
 ·rw[Bg _ _ Ω];exact b.ah k a
 ·by_cases e:k=B
  ·subst e;rw[AY];exact BL g
  ·rw[Bg _ _ e];exact b.dx k a
 ·rw[Bg _ _ Ω];exact b.new k a
def GM(c:Ad)(a b i:Nat):Ad:=λk=>if a<=k/\k<b then i else c k
theorem Jw(c:Ad){b i:Nat}(h:E<a):GM c a b i E=c E:=j7 Ω
theorem IN(c:Ad){b i:Nat}(h:a<=E)(d:E<b):GM c a b i E=i:=ke ⟨h,d⟩
theorem Ab.fj{C:Nat->Prop}{a:Ad}{i:Nat}(c:Aw h a)(e:Ac (λk=>C (a k)) h d)(f:C i):Ab C h a d (GM a h.heap.size d.heap.size i):=by
 refine⟨e,λk b=>Jw a b,λk b=>?_,λk b=>?_⟩
 ·unfold Proofs.YtcedibmdelehdaaGreatDoor.GM
  split
  ·exact BL f
  ·exact BA (c k b)
 ·unfold Proofs.YtcedibmdelehdaaGreatDoor.GM;rw[j7 Ω];exact c k (j8 e.size b)
theorem IK{g m:Nat}{j:List Z}(p:h.ownsRow a O n e g b)(k:h.ownsRow i l o r m j)(q:O≠l)(c:e.ownBlock=AA E):r.ownBlock≠AA E:=by
 intro d
 rcases p.2 with⟨rfl,_⟩|⟨t,u,v,rfl,_,s,_⟩
 ·simp[Bk]at c
 ·rcases k.2 with⟨rfl,_⟩|⟨w,x,y,rfl,_,f,_⟩
  ·simp[Bk]at d
  ·simp[Bk]at c d;subst c;subst d;rw[s]at f;simp at f;exact q f.2
end
section
abbrev Ap:=Nat->Option (Nat×List Nat)
def Eo(a:Ap)(n:Nat)(x:Nat×List Nat):Ap:=λk=>if k=n then AA x else a k
def Hl(a:Ap)(n:Nat):Ap:=λk=>if k=n then A3 else a k
theorem EP(a:Ap)(n:Nat)(x:Nat×List Nat):Eo a n x n=AA x:=ke rfl
theorem El(b:Ap)(x:Nat×List Nat)(h:E≠a):Eo b a x E=b E:=j7 h
theorem Hw(a:Ap)(n:Nat):Hl a n n=A3:=ke rfl
theorem Fh(b:Ap)(h:E≠a):Hl b a E=b E:=j7 h
structure Fr(D a:List Nat)(b c:Ap):Prop where
 cq:∀n,n∉D->n∉a->c n=b n
 e2:∀n,n∈a->n∉D->b n=A3
 dZ:∀n,n∈D->n∉a->c n=A3
theorem Fr.refl(D:List Nat)(a:Ap):Fr D D a a:=⟨λ_ _ _=>rfl,λ_ h k=>absurd h k,λ_ h k=>absurd h k⟩
theorem Fr.trans{f g i:Ap}(h:Fr k c f g)(e:Fr c m g i):Fr k m f i:=by
 refine⟨λn d b=>?_,λn d b=>?_,λn d b=>?_⟩<;>by_cases a:n∈c
 ·rw[h.e2 n a d,e.dZ n a b]
 ·rw[e.cq n a b,h.cq n d a]
 ·exact h.e2 n a b
 ·rw[<-h.cq n b a];exact e.e2 n d a
 ·exact e.dZ n a b
 ·rw[e.cq n a b];exact h.dZ n d a
theorem Fr.dz{D:List Nat}{i j:Ap}(h:Fr D k i j)(g:∀n,n∈c↔n∈D\/(n∈c/\n∉D))(f:∀n,n∈m↔n∈k\/(n∈c/\n∉D)):Fr c m i j:=by
 refine⟨λn a b=>h.cq n (λe=>a ((g n).2 (BA e))) (λe=>b ((f n).2 (BA e))),λn a b=>?_,λn a b=>?_⟩
 ·rcases(f n).1 a with e|⟨e,_⟩
  ·exact h.e2 n e (λd=>b ((g n).2 (BA d)))
  ·exact absurd e b
 ·rcases(g n).1 a with e|e
  ·exact h.dZ n e (λd=>b ((f n).2 (BA d)))
  ·exact absurd ((f n).2 (BL e)) b
theorem Fr.cons{f g:Ap}(h:Fr c k f g)(E:List Nat):Fr (c++E) (k++E) f g:=by
 refine⟨λn a b=>h.cq n (λe=>a (me _ e)) (λe=>b (me _ e)),λn a b=>?_,λn a b=>?_⟩
 ·rcases kY.1 a with e|e
  ·exact h.e2 n e (λd=>b (me _ d))
  ·exact absurd (lY _ e) b
 ·rcases kY.1 a with e|e
  ·exact h.dZ n e (λd=>b (me _ d))
  ·exact absurd (lY _ e) b
theorem Fr.iU{g:List Nat}{i j:Ap}(h:Fr c k i j)(e:∀n,n∈c↔n∈m)(f:∀n,n∈k↔n∈g):Fr m g i j:=
 ⟨λn a b=>h.cq n (λd=>a ((e n).1 d)) (λd=>b ((f n).1 d)),λn a b=>h.e2 n ((f n).2 a) (λd=>b ((e n).1 d)),λn a b=>h.dZ n ((e n).2 a) (λd=>b ((f n).1 d))⟩
theorem Fr.cA{b d:Ap}(h:Fr k c b d){n:Nat}{x:Nat×List Nat}(a:b n=AA x)(e:n∉k):d n=AA x/\n∉c:=by
 have:n∉c:=λf=>by rw[h.e2 n f e]at a;cases a
 exact⟨(h.cq n e this).trans a,this⟩
theorem Fr.aR{a:Ap}(x:Nat×List Nat):Fr [E] [E] a (Eo a E x):=⟨λk h _=>El a x (by simpa using h),λk h b=>absurd h b,λk h b=>absurd h b⟩
theorem Fr.new{pg:Ap}{n:Nat}(x:Nat×List Nat)(h:pg n=A3):Fr [] [n] pg (Eo pg n x):=⟨λk _ h=>El pg x (by simpa using h),λk a _=>by simp at a;subst a;exact h,λk a _=>by simp at a⟩
def Ce(a:Ap)(k:Nat):Prop:=∃l:List Nat,l.length<=k/\∀n,a n≠A3->n∈l
theorem Ce.mono{b:Ap}(h:Ce b E)(c:E<=a):Ce b a:=let⟨l,d,e⟩:=h;⟨l,j8 d c,e⟩
theorem Ce.ee{b g:Ap}(h:Ce b i)(j:b E≠A3)(k:Fr [E] [a] b g):Ce g i:=by
 obtain⟨l,m,c⟩:=h;refine⟨a::l.erase E,?_,λn d=>?_⟩
 ·have o:=qA (c E j);have p:0<l.length:=qM (c E j);simp only[kj];omega
 ·by_cases e:n=a
  ·exact e▸mi
  ·by_cases f:n=E
   ·exact absurd (k.dZ n (by simp[f]) (by simp[e])) d
   ·rw[k.cq n (by simp[f]) (by simp[e])]at d;exact lA _ ((List.mem_erase_of_ne f).2 (c n d))
theorem Ce.new{a b:Ap}{k:Nat}(h:Ce a k)(d:Fr [] [E] a b):Ce b (k+1):=by
 obtain⟨l,f,g⟩:=h;refine⟨E::l,by simpa using f,λn c=>?_⟩
 by_cases e:n=E
 ·exact e▸mi
 ·rw[d.cq n Δ (by simp[e])]at c;exact lA _ (g n c)
theorem ZO{t:Nat->Bool}{l:List Nat}(h:∀j,j<E->t j=true->j∈l)(e:l.length<E):∃j,j<E/\t j=false:=by
 refine lJ (λb=>?_)
 have c:∀j,j∈List.range E->j∈l:=λj a=>h j (lE.1 a) (by
  cases d:t j with
  |true=>rfl
  |false=>exact absurd ⟨j,lE.1 a,d⟩ b)
 have:=(nu (n:=E)).length_le_of_subset c;simp at this;omega
end
section
open Go Go.RowKit
def Sc(O:Nat->Prop)(n:Nat):Nat->Prop:=λj=>O j\/(100<=j/\j<n)
theorem Sc.hN(h:100<=E)(b:E<a):Sc f a E:=BL ⟨h,b⟩
theorem Sc.mono(b:∀j,f j->q j)(c:E<=a):∀j,Sc f E j->Sc q a j:=λj h=>h.elim (λh=>BA (b j h)) (λh=>BL ⟨h.1,jY h.2 c⟩)
theorem Sc.az(h:¬f E)(b:E<100\/a<=E):¬Sc f a E:=λk=>k.elim h (λk=>Ω)
theorem Aw.grown{a:Ad}(b:Aw h a)(c:h.grownBy d g):Aw d a:=λk e=>b k (j8 c.size e)
theorem Aw.ak{S:Nat->Prop}{a:Ad}(b:Aw h a)(g:Ac S h d):Aw d a:=λk c=>b k (j8 g.size c)
theorem Cc{C:Nat->Prop}{a:Ad}(b:Aw h a)(g:h.grownBy d A3){i:Nat}(c:h.heap.size<=E)(e:E<d.heap.size)(f:C i):Ab C h a d (AL a E i):=(Ab.grown b g).bC c e f
theorem AG{C S:Nat->Prop}{a:Ad}(b:Aw h a)(c:Ac S h d)(e:∀k,S k->C (a k)):Ab C h a d a:=
 ⟨c.mono e,λ_ _=>rfl,λk f=>BA (b k f),b.ak c⟩
theorem Br{g:Z}(i:Aa h E O [e,r,g])(c d f:Z):∃b,(((h.setCell ⟨E,0,A3⟩ c).setCell ⟨E,1,A3⟩ d).setCell ⟨E,2,A3⟩ f)=b/\Aa b E O [c,d,f]/\Ac (λk=>k=E) h b:=
 ⟨_,rfl,((i.setCell 0 _).setCell 1 _).setCell 2 _,((Ac.of (An _ _ _) (λk a=>by cases a;rfl)).trans (Ac.of (An _ _ _) (λk a=>by cases a;rfl))).trans (Ac.of (An _ _ _) (λk a=>by cases a;rfl))⟩
end
section
open Go Go.RowKit
section
variable {F:Fence} {n:Nat} {P:Program}
abbrev BK:Nat->Prop:=λj=>j=199\/j=197
abbrev J3:Nat->Prop:=λj=>j=197
def Iu{α M:Type}(F:Fence)(n:Nat)(P:Bn)(g:Nat)(k:Array Z)(encs:α->Array Z)(C:Nat->Prop)(A:M->Ad->V->Prop)(R:List α->α->V->M->Ad->Prop)(S:List α->Prop)(N:Nat)(o:Ad->V->Prop:=λ_ _=>True):Prop:=
 ∀(l:Nat) (J:M->Ad->List α->V->Prop) (d:Ad->V->Prop) (W:V) (p:M) (h:Ad),
  (∀m c a X Y,J m c a X->X.grownBy Y A3->J m c a Y)->(∀m c b a X Y,J m c a X->Ab J3 X c Y b->J m b a Y)->(∀c X Y,d c X->X.grownBy Y A3->d c Y)->(∀m c a X,J m c a X->A m c X/\Aw X c)->
  (∀m c a x X,J m c a X->a.length<N->R a x X m c->YieldAt F (n - 1) P l (encs x) X λe f=>∃b,Ab C X c f b/\((e=.returned (.bool true)/\∃q,J q b (a++[x]) f)\/(e=.returned (.bool false)/\d b f)))->
  J p h [] W->o h W->
  CallsIn F n P g (#[.func (.yield l) #[] #[]]++k) W λe i=>(∃v,e=.returned v)/\∃b,((∃m j,S j/\J m b j i)\/d b i)
def iS{α M:Type}(C:Nat->Prop)(I:M->Ad->List α->V->Prop)(d:Code->Ad->V->Prop)(e:List α)(W:V)(c:Ad):Exit->Act->V->Prop
 | .normal,_,a=>∃b f,Ab C W c a b/\I f b e a
 | .ret,_,a=>∃b,Ab C W c a b/\d .ret b a
 | .exit g,_,a=>∃b,Ab C W c a b/\d (.exit g) b a
 | .goto t,_,a=>∃b,Ab C W c a b/\d (.goto t) b a
 | .panic _,_,_=>False
 | .outgrown,_,_=>False
theorem F5(W:V)(l:Nat)(o:Obj):Ac (λk=>k=l) W (W.putObj l o):=Ac.of (grownBy_putObj' W l o) (λk e=>by cases e;rfl)
theorem IJ{α M:Type}{g:Operand}{ps:Array Tmp}{assign body:Code}{Q:Exit->Act->V->Prop}{a:Act}{an:Ad}(a7:Aw h an)
  (a8:F.round=A3)(h1:1<=n){gf:Nat}{lb:Array Z}(hg:a.eval g=.func (.func gf) #[] lb)(bb:F.fn gf)(eg:∀args h,(callFunc gf args).run P h=.ok (.enter gf args) h)
  {encs:α->Array Z}{C:Nat->Prop}{A:M->Ad->V->Prop}{R:List α->α->V->M->Ad->Prop}{S:List α->Prop}{B0:Ad->V->Prop}(hC:C 199){N:Nat}(bd:Iu F (n - 1) P gf lb encs C A R S N B0)(be:∀o J,h.grownBy o A3->(∀k,k<h.heap.size->J k=an k)->B0 J o)(bf:∀x,(encs x).size=ps.size)
  (I:M->Ad->List α->V->Prop)(Ix:Code->Ad->V->Prop)(Ax:Act->α->Act->V->Ad->Prop)(m0:M)
  (hI:∀m c i b X Y,I m c b X->Ab BK X c Y i->I m i b Y)(ap:∀k c i X Y,Ix k c X->Ab BK X c Y i->Ix k i Y)(hA:∀m c b X,I m c b X->A m c X/\Aw X c)
  (hR:∀m c i b x X Y,R b x X m c->Ab BK X c Y i->R b x Y m i)(bh:∀c i x E X Y,Ax a x E X c->Ab BK X c Y i->Ax a x E Y i)
  (h0:I m0 an [] h)
  (C0:Nat->Prop)(aN:∀j,C0 j->C j)(_:¬C0 0)(ax:¬C0 199)
  (bj:∀(l:Nat) (m:M) (c:Ad) (b:List α) (x:α) (W:V) (K:Act->V->Prop),I m c b W->b.length<N->R b x W m c->(∀E W' i,Ab C0 W c W' i->I m i b W'->R b x W' m i->Ax a x E W' i->K E W')->
   assign.wpIn (F.inRound l) (n - 1 - 1) P (Exit.then K (λ_ _ _=>False)) {tmps:=(ps.zip (encs x)).foldl (λt (p,v)=>t.setIfInBounds p v) a.tmps,defers:=[]} W)
  (bk:∀(l:Nat) (m:M) (c:Ad) (b:List α) (x:α) (E:Act) (W:V),I m c b W->b.length<N->R b x W m c->Ax a x E W c->body.wpIn (F.inRound l) (n - 1 - 1) P (iS C0 I Ix (b++[x]) W c) E W)
  (bl:∀(D:Nat) (m:M) (c:Ad) (xs:List α) (W:V),S xs->I m c xs W->W.heap[D]?=AA (Bd (AA []))->c D=199->Q .normal {a with defers:={target:=.collected D,args:=#[]}::a.defers} W)
  (bm:∀(D:Nat) (k:Code) (c:Ad) (W:V),Ix k c W->W.heap[D]?=AA (Bd (AA []))->c D=199->k.wpIn F n P Q {a with defers:={target:=.collected D,args:=#[]}::a.defers} W):
  (Code.rangeFunc g ps assign body).wpIn F n P Q a h:=by
 refine wpIn_rangeFunc ?_;intro fn bn;rw[a8]
 obtain⟨q,O⟩:∃q:LoopState->Option Code->Loop,q=λst pe=>{state:=st,pending:=pe,fn,tmps:=a.tmps,params:=ps,assign,body,defers:=h.heap.size}:=⟨_,rfl⟩
 obtain⟨o,ar⟩:=Ag ((h.alloc (Bd (AA []))).alloc (BC (q Bs A3)))
 have bq:o.heap[h.heap.size+1]?=AA (BC (q Bs A3)):=by
  rw[<-ar];have:=BB (h.alloc (Bd (AA []))) (BC (q Bs A3));rwa[World.size_alloc]at this
 have br:o.heap[h.heap.size]?=AA (Bd (AA [])):=by
  rw[<-ar];exact(Below.heap_alloc _ _ _ Δ).trans (BB h _)
 have bL:o.heap.size=h.heap.size+2:=by rw[<-ar];simp
 have aO:h.grownBy o A3:=by rw[<-ar];exact Ae (BD _ _ A3) (BD _ _ A3)
 obtain⟨J,aF⟩:=Ag (AL (AL an h.heap.size 199) (h.heap.size+1) 199)
 have aP:Ab BK h an o J:=by
  rw[<-aF];exact((Ab.grown (C:=BK) a7 aO).bC (jS h.heap.size) (show h.heap.size<o.heap.size by omega) (show BK 199 from BA rfl)).bC (show h.heap.size<=h.heap.size+1 by omega) (show h.heap.size+1<o.heap.size by omega) (show BK 199 from BA rfl)
 have bs:J h.heap.size=199:=by rw[<-aF];unfold AL;rw[j7 Ω,ke rfl]
 have bt:J (h.heap.size+1)=199:=by rw[<-aF];exact AY _ _ _
 have bu:I m0 J [] o:=hI _ _ _ _ _ _ h0 aP;generalize hD:h.heap.size=D at*;generalize hL:D+1=L at*;have az:D≠L:=Ω
 refine⟨L,[{target:=.collected D,args:=#[]}],o,{target:=.fn (.func gf) lb,args:=#[.func (.yield L) #[] #[]]},o,gf,
  #[.func (.yield L) #[] #[]]++lb,o,?_,?_,?_,?_,λ_=>h1,?_⟩
 ·rw[<-ar,O, <-hL, <-hD];exact run_enterLoop_outer _ _ _ _ _
 ·simp only[resolve,hg];simp[go_sem]
 ·intro f' aQ;simp[Target.leads]at aQ;subst aQ;exact bb
 ·simp[invoke,go_sem,eg]
 ·refine(bd L
   (λm c b W=>I m c b W/\(c L=199/\c D=199)/\W.heap[L]?=AA (BC (q Bs A3))/\W.heap[D]?=AA (Bd (AA [])))
   (λc W=>∃k,Ix k c W/\Aw W c/\c L=199/\c D=199/\W.heap[L]?=AA (BC (q BR (AA k)))/\W.heap[D]?=AA (Bd (AA [])))
   o m0 J
   (λm c b X Y d aa=>⟨hI _ _ _ _ _ _ d.1 (Ab.grown (hA _ _ _ _ d.1).2 aa),d.2.1,(aa.block L (kf.1 d.2.2.1).1 Δ).trans d.2.2.1,(aa.block D (kf.1 d.2.2.2).1 Δ).trans d.2.2.2⟩)
   (λm c i b X Y d T=>⟨hI _ _ _ _ _ _ d.1 (T.mono (λj e=>BL e)),⟨by rw[T.ah _ (kf.1 d.2.2.1).1];exact d.2.1.1,by rw[T.ah _ (kf.1 d.2.2.2).1];exact d.2.1.2⟩,(T.ak.bK L (kf.1 d.2.2.1).1 (by rw[d.2.1.1];simp[J3])).trans d.2.2.1,(T.ak.bK D (kf.1 d.2.2.2).1 (by rw[d.2.1.2];simp[J3])).trans d.2.2.2⟩)
   (λc X Y d aa=>by
    obtain⟨k,B,aA,s,u,y,hd⟩:=d
    exact⟨k,ap _ _ _ _ _ B (Ab.grown aA aa),aA.grown aa,s,u,(aa.block L (kf.1 y).1 Δ).trans y,(aa.block D (kf.1 hd).1 Δ).trans hd⟩)
   (λm c b X d=>hA _ _ _ _ d.1) ?_ ⟨bu,⟨bt,bs⟩,bq,br⟩ (be o J aO (λk B=>aP.ah k Ω))).mono ?_
  ·rintro m c b x X ⟨hi,⟨aS,aT⟩,y,B⟩ aU hr;have hy:=run_yield (P:=P) (args:=encs x) y (by rw[O];exact bf x);rw[O]at hy;refine⟨fn,_,assign,body,hy,roundIn_of_wpIn bn (bj _ m c b x X _ hi aU hr ?_)⟩;clear hy;intro E Wa ca ac bz bA bB;have au:L<X.heap.size:=(kf.1 y).1;have aB:D<X.heap.size:=(kf.1 B).1
   replace y:=(ac.ak.bK L au (by rw[aS];exact ax)).trans y
   replace B:=(ac.ak.bK D aB (by rw[aT];exact ax)).trans B
   have aH:ca L=199:=(ac.ah L au).trans aS;have aV:ca D=199:=(ac.ah D aB).trans aT
   replace au:L<Wa.heap.size:=jY au ac.size
   replace aB:D<Wa.heap.size:=jY aB ac.size
   refine⟨_,run_beginRound y (by rw[O]),?_⟩;generalize aI:Wa.putObj L (BC {q Bs A3 with state:=.busy})=U
   have tb:Ac (λk=>k=L) Wa U:=by rw[<-aI];exact F5 _ _ _
   have aW:Ab (λj=>j=199) Wa ca U ca:=AG ac.new tb (λk e=>by rw[e];exact aH);have aJ:Ab BK Wa ca U ca:=aW.mono (λ_ e=>BA e)
   have aX:U.heap[L]?=AA (BC {q Bs A3 with state:=.busy}):=by rw[<-aI];exact Bx au
   have aY:U.heap[D]?=AA (Bd (AA [])):=by rw[<-aI];exact(A2 az).trans B
   refine wpIn_mono (bk _ m ca b x E U (hI _ _ _ _ _ _ bz aJ) aU (hR _ _ _ _ _ _ _ bA aJ) (bh _ _ _ _ _ _ bB aJ)) ?_;have aZ:L<U.heap.size:=(kf.1 aX).1;have a0:D<U.heap.size:=(kf.1 aY).1
   have aC:∀(G:Option Code) (z:V) (f:Ad),Ab C0 U ca z f->∃w,(Instr.endRound L G).run P z=.ok (.bool G.isNone) w/\Ab C X c w f/\Ab BK z f w f/\f L=199/\f D=199/\
     w.heap[L]?=AA (BC (q (if G.isNone then Bs else BR) G))/\w.heap[D]?=AA (Bd (AA [])):=λG z f r=>by
    have a1:=(r.ak.bK L aZ (by rw[aH];exact ax)).trans aX;have bD:=(r.ak.bK D a0 (by rw[aV];exact ax)).trans aY;have a2:f L=199:=(r.ah L aZ).trans aH;have bE:f D=199:=(r.ah D a0).trans aV;have bF:=run_endRound (P:=P) G a1;have bG:=F5 z L (BC {({q Bs A3 with state:=.busy}:Loop)with state:=if G.isNone then Bs else BR,pending:=G});have a3:Ab (λj=>j=199) z f (z.putObj L (BC {({q Bs A3 with state:=.busy}:Loop)with state:=if G.isNone then Bs else BR,pending:=G})) f:=AG r.new bG (λk e=>by rw[e];exact a2);refine⟨_,bF,?_,a3.mono (λ_ e=>BA e),a2,bE,?_,(A2 az).trans bD⟩
    ·exact(((ac.mono aN).trans (aW.mono (λj e=>by rw[e];exact hC))).trans (r.mono aN)).trans (a3.mono (λj e=>by rw[e];exact hC))
    ·rw[Bx (kf.1 a1).1,O]
   rintro e bN z hp
   cases e with
   |normal=>
    obtain⟨f,m3,r,ad⟩:=hp;obtain⟨w,ae,af,H,s,u,e3,e4⟩:=aC A3 z f r;exact⟨_,w,ae,f,af,BA ⟨rfl,m3,hI _ _ _ _ _ _ ad H,⟨s,u⟩,e3,e4⟩⟩
   |ret=>
    obtain⟨f,r,ad⟩:=hp;obtain⟨w,ae,af,H,s,u,e3,e4⟩:=aC (AA .ret) z f r;exact⟨_,w,ae,f,af,BL ⟨rfl,.ret,ap _ _ _ _ _ ad H,H.new,s,u,e3,e4⟩⟩
   |exit id=>
    obtain⟨f,r,ad⟩:=hp;obtain⟨w,ae,af,H,s,u,e3,e4⟩:=aC (AA (.exit id)) z f r;exact⟨_,w,ae,f,af,BL ⟨rfl,.exit id,ap _ _ _ _ _ ad H,H.new,s,u,e3,e4⟩⟩
   |goto t=>
    obtain⟨f,r,ad⟩:=hp;obtain⟨w,ae,af,H,s,u,e3,e4⟩:=aC (AA (.goto t)) z f r;exact⟨_,w,ae,f,af,BL ⟨rfl,.goto t,ap _ _ _ _ _ ad H,H.new,s,u,e3,e4⟩⟩
   |panic ch=>exact hp.elim
   |outgrown=>exact hp.elim
  ·rintro e W2 ⟨⟨v,rfl⟩,c2,(⟨m2,xs,hS,hi,⟨s,u⟩,y,B⟩|⟨k,hi,aA,s,u,y,B⟩)⟩
   ·have ht:=F5 W2 L (BC {q Bs A3 with state:=.exhausted});have T:=AG (C:=BK) (hA _ _ _ _ hi).2 ht (λk e=>BA (by rw[e];exact s));exact⟨A3,_,by have:=run_endLoop (P:=P) y (by rw[O];simp);rw[O]at this⊢;exact this,bl D m2 c2 xs _ hS (hI _ _ _ _ _ _ hi T) ((A2 az).trans B) u⟩
   ·have ht:=F5 W2 L (BC {q BR (AA k)with state:=.exhausted});have T:=AG (C:=BK) aA ht (λk e=>BA (by rw[e];exact s));exact⟨AA k,_,by have:=run_endLoop (P:=P) y (by rw[O];simp);rw[O]at this⊢;exact this,bm D k c2 _ (ap _ _ _ _ _ hi T) ((A2 az).trans B) u⟩
end
end
