/- Lemmas. -/
import Derived.Test.YtcedibmdelehdaaGreatDoorG16
import Derived.Test.YtcedibmdelehdaaGreatDoorG19
import Derived.Test.YtcedibmdelehdaaGreatDoorG26
import Derived.Test.YtcedibmdelehdaaGreatDoorG27
namespace Go.Proofs.YtcedibmdelehdaaGreatDoor
set_option maxRecDepth 100000
set_option maxHeartbeats 32000000
open Option renaming some->E
open Prod renaming fst->J
open List renaming getD->O,pairwise_cons->Z,find?_some->Ax
open Or renaming inr->V,inl->Y
variable{f c g j:Nat}{h:List Ah}{a e:As}{b:Ah}{d:BitVec 64}{i:Int}
section
open Go.RowKit
abbrev Ai:=Nat×Nat
structure Au where
 d:Nat
 p:Nat
 es:List Ah
def Au.ld(b:Au):List Nat:=Ct b.d b.p b.es
def Au.ok(a:Nat)(b:Au):Prop:=Cm b.d b.p a b.es=true
theorem Au.inj{b c:Au}(h:b.ok f)(k:c.ok f)(e:b.ld=c.ld):b=c:=by
 obtain⟨g,i,a⟩:=ef h k e;obtain⟨d,p,m⟩:=b;obtain⟨j,l,n⟩:=c;simp only at g i a;rw[show d=j by omega,show p=l by omega,a]
theorem Au.eW(b:Au):b.ld.length=10+20*b.es.length:=KN _ _ _ _ (jF _)
def A9(a j d p:Nat):Prop:=j/2^(a - d)=p
instance(a j d p:Nat):Decidable (A9 a j d p):=inferInstanceAs (Decidable (_=_))
structure Cu(b:As)(c a:Nat)(L:List Ai)(B:Nat->Au):Prop where
 aC:L.length=2^a
 dh:∀i r,L[i]?=E r->b r.1=E (r.2,(B i).ld)
 ok:∀i,i<2^a->(B i).ok c
 dl:∀i,i<2^a->(B i).d<=a
 pf:∀i,i<2^a->A9 a i (B i).d (B i).p
 bb:∀i j,i<2^a->j<2^a->A9 a j (B i).d (B i).p->L[j]?=L[i]?/\B j=B i
theorem Cu.lt{L:List Ai}{B:Nat->Au}(h:Cu a c f L B){i:Nat}{r:Ai}(b:L[i]?=E r):i<2^f:=by rw[<-h.aC];exact(jL.1 b).1
theorem Cu.dI{L:List Ai}{B:Nat->Au}(h:Cu a c g L B){i:Nat}{r b:Ai}(j:L[i]?=E r)(k:L[f]?=E b)(e:r.1=b.1):B i=B f/\r=b:=by
 have d:=h.dh i r j;have l:=h.dh f b k;rw[e,l]at d;injection d with d;injection d with m n;have o:=Au.inj (h.ok f (h.lt k)) (h.ok i (h.lt j)) n;exact⟨o.symm,Prod.ext e m.symm⟩
theorem Cu.bN{L:List Ai}{B:Nat->Au}(h:Cu a g c L B){i:Nat}{r b:Ai}(j:L[i]?=E r)(d:L[f]?=E b)(e:¬A9 c f (B i).d (B i).p):b.1≠r.1:=by
 intro k;have:=(h.dI j d k.symm).1;refine e ?_;rw[this];exact h.pf f (h.lt d)
def CF(a d p:Nat)(L:List Ai)(r:Ai):List Ai:=L.mapIdx (λj x=>if A9 a j d p then r else x)
theorem Mx(a d p:Nat)(L:List Ai)(r:Ai):(CF a d p L r).length=L.length:=by simp[CF]
theorem EF(a d p:Nat)(L:List Ai)(r:Ai)(j:Nat):(CF a d p L r)[j]?=if A9 a j d p then(L[j]?).map (λ_=>r)else L[j]?:=by
 unfold CF;rw[List.getElem?_mapIdx]
 by_cases h:A9 a j d p
 ·simp only[jP h]
 ·simp only[jN h]
  cases L[j]?<;>rfl
def CQ(a:Nat)(B:Nat->Au)(b:Au):Nat->Au:=λj=>if A9 a j b.d b.p then b else B j
def Bg(a:List Ah)(h:BitVec 64):Option Ah:=a.find? (λx=>x.h==h)
def Bh(a:Nat)(B:Nat->Au)(h:BitVec 64):Option Ah:=Bg (B (AB h a)).es h
theorem Cu.put{L:List Ai}{B:Nat->Au}(h:Cu e c f L B){i:Nat}{r p:Ai}(s:L[i]?=E r){b:Au}(C:b.ok c)(u:b.d=(B i).d)(D:b.p=(B i).p)(F:a p.1=E (p.2,b.ld))
  (G:∀n x,e n=E x->n≠r.1->(∃(j:Nat) (q:Ai),L[j]?=E q/\q.1=n)->a n=E x):Cu a c f (CF f b.d b.p L p) (CQ f B b):=by
 have t:∀j,A9 f j b.d b.p↔A9 f j (B i).d (B i).p:=λj=>by rw[u,D]
 refine⟨by rw[Mx];exact h.aC,λj q d=>?_,λj d=>?_,λj d=>?_,λj d=>?_,λj k d g m=>?_⟩
 ·rw[EF]at d;unfold CQ
  split
  ·rename_i g
   rw[jP g]at d
   cases v:L[j]? with
   |none=>rw[v]at d;cases d
   |some y=>
    rw[v]at d;simp at d;subst d;exact F
  ·rename_i g
   rw[jN g]at d;exact G _ _ (h.dh j q d) (h.bN s d (by rwa[<-t j])) ⟨j,q,d,rfl⟩
 ·unfold CQ
  split
  ·exact C
  ·exact h.ok j d
 ·unfold CQ
  split
  ·rw[u];exact h.dl i (h.lt s)
  ·exact h.dl j d
 ·unfold CQ
  split
  ·assumption
  ·exact h.pf j d
 ·unfold CQ at m⊢;rw[EF,EF]
  by_cases o:A9 f j b.d b.p
  ·rw[jP o]at m⊢;rw[jP m,jP m,jP o];have H:=jK (l:=L) (by rw[h.aC];exact d);have I:=jK (l:=L) (by rw[h.aC];exact g);rw[H,I];exact⟨rfl,rfl⟩
  ·rw[jN o]at m⊢;obtain⟨J,w⟩:=h.bb j k d g m
   have z:¬A9 f k b.d b.p:=λK=>o (by
    have M:=h.bb i k (h.lt s) g ((t k).1 K);have A:=h.pf j d;rw[<-w,M.2]at A
    exact(t j).2 A)
   rw[jN z,jN z,jN o];exact⟨J,w⟩
theorem Au.ok.aS{a:Au}(h:a.ok f)(e:b∈a.es):AB b.h a.d=a.p:=by
 have g:=Kx h;have c:=(Fx.1 h).2.1 b e;unfold Do at c;rw[jQ]at c;have d:=j7 c.2;rw[KU _ _ Ω]at d
 exact_mod_cast d
theorem Au.ok.bW{b:Au}(h:b.ok f):b.es.Pairwise (λx y=>U x.h<U y.h):=(Fx.1 h).2.2
abbrev Cz(a:List Ah):Prop:=a.Pairwise (λx y=>U x.h<U y.h)
theorem Tz(j:Cz h){y:Ah}(c:b∈h)(k:y∈h)(e:b.h=y.h):b=y:=by
 induction h with
 |nil=>cases c
 |cons z m l=>
  have a:=Z.1 j
  rcases kZ.1 c with d|f<;>rcases kZ.1 k with g|i
  ·exact d.trans g.symm
  ·have:=a.1 y i;rw[<-e,d]at this;omega
  ·have:=a.1 b f;rw[e,g]at this;omega
  ·exact l a.2 f i
theorem Je(e:Cz h)(c:BitVec 64)(x:Ah):Bg h c=E x↔x∈h/\x.h=c:=by
 unfold Bg
 constructor
 ·intro a;have b:=Ax a;exact⟨pI a,by simpa using b⟩
 ·rintro⟨d,rfl⟩
  cases a:h.find? (λy=>y.h==x.h)with
  |none=>
   have:=op.1 a x d;simp at this
  |some y=>
   have b:=Ax a;rw[Tz e (pI a) d (by simpa using b)]
theorem JR(_:Cz h)(a:BitVec 64):Bg h a=none↔ ∀x∈h,x.h≠a:=by
 unfold Bg;rw[op];simp
theorem MX{c:List Ah}(f:Cz h)(g:Cz c)(d:BitVec 64)(e:∀x,x.h=d->(x∈h↔x∈c)):Bg h d=Bg c d:=by
 refine Option.ext (λx=>?_);rw[Je f,Je g];exact⟨λ⟨a,b⟩=>⟨(e x b).1 a,b⟩,λ⟨a,b⟩=>⟨(e x b).2 a,b⟩⟩
theorem QG{i:Nat}(a:b∈h.take i):∃m,m<i/\m<h.length/\h.getD m Ah.af=b:=by
 obtain⟨m,c,rfl⟩:=ng.1 a;rw[jW]at c;exact⟨m,Ω,Ω,by simp[O,show m<h.length by omega]⟩
theorem QE{i:Nat}(a:b∈h.drop i):∃m,i<=m/\m<h.length/\h.getD m Ah.af=b:=by
 obtain⟨m,c,rfl⟩:=ng.1 a;rw[j0]at c;exact⟨i+m,Ω,Ω,by simp[O,show i+m<h.length by omega]⟩
theorem Uv(c:b∈h):∃m,m<h.length/\h.getD m Ah.af=b:=by
 obtain⟨m,a,rfl⟩:=ng.1 c;exact⟨m,a,by simp[O,a]⟩
theorem PC(a:f<h.length):h.getD f Ah.af∈h:=by
 have:h.getD f Ah.af=h[f]:=by simp[O,a]
 rw[this];exact ml a
theorem MS(b:Cz h){i:Nat}(c:i<f)(a:f<h.length):U (h.getD i Ah.af).h<U (h.getD f Ah.af).h:=by
 have d:h.getD i Ah.af=h[i]:=by simp[O,show i<h.length by omega]
 have e:h.getD f Ah.af=h[f]:=by simp[O,a]
 rw[d,e];exact l9.1 b i f Ω a c
theorem OC(j:Cz h){a:Int}{i:Nat}(f:Eo h a i):(∀y∈h.take i,U y.h<a)/\(∀y∈h.drop (if A1 h a i=true then i+1 else i),a<U y.h)/\(∀y∈h,U y.h≠a->y∈h.take i\/y∈h.drop (if A1 h a i=true then i+1 else i)):=by
 refine⟨λy d=>?_,λy d=>?_,λy d l=>?_⟩
 ·obtain⟨m,c,_,rfl⟩:=QG d;exact f.lo m c
 ·obtain⟨m,c,g,rfl⟩:=QE d
  split at c
  ·rename_i b
   have k:U (h.getD i Ah.af).h=a:=by
    unfold A1 at b;rw[jQ]at b;exact j7 b.2
   have:=MS j (show i<m by omega) g;omega
  ·rename_i b
   have k:=f.hi m c g
   have n:U (h.getD i Ah.af).h≠a:=by
    intro o;refine b ?_;unfold A1;rw[o];simp;omega
   by_cases e:m=i
   ·subst e;omega
   ·have:=MS j (show i<m by omega) g;have:=f.hi i (jF _) Ω;omega
 ·obtain⟨m,c,rfl⟩:=Uv d
  by_cases k:m<i
  ·left
   rw[mZ];exact⟨m,Ω,by simp[O,c]⟩
  ·right
   rw[pJ]
   have n:(if A1 h a i=true then i+1 else i)<=m:=by
    split
    ·rename_i b
     have p:U (h.getD i Ah.af).h=a:=by
      unfold A1 at b;rw[jQ]at b;exact j7 b.2
     by_cases e:m=i
     ·subst e;exact absurd p l
     ·omega
    ·omega
   refine⟨m - (if A1 h a i=true then i+1 else i),Ω,?_⟩;have q:(if A1 h a i=true then i+1 else i)+(m - (if A1 h a i=true then i+1 else i))=m:=Ω;simp only[q];simp[O,c]
theorem OU(c:Cz h){i:Nat}(d:Eo h (U b.h) i)(y:Ah):y∈Du h b i (A1 h (U b.h) i)↔y=b\/(y∈h/\y.h≠b.h):=by
 obtain⟨f,g,j⟩:=OC c d;unfold Du;rw[kI,kZ]
 constructor
 ·rintro(a|a|a)
  ·exact V ⟨lD a,λe=>by have:=f y a;rw[e]at this;omega⟩
  ·exact Y a
  ·exact V ⟨mI a,λe=>by have:=g y a;rw[e]at this;omega⟩
 ·rintro(a|⟨a,k⟩)
  ·exact V (Y a)
  ·rcases j y a (λe=>k (PG e))with a|a
   ·exact Y a
   ·exact V (V a)
theorem Sk(c:Cz h){i:Nat}(f:Eo h (U b.h) i):Cz (Du h b i (A1 h (U b.h) i)):=by
 obtain⟨g,e,l⟩:=OC c f;unfold Du;refine List.pairwise_append.2 ⟨c.sublist (List.take_sublist _ _),Z.2 ⟨e,c.sublist (pQ _ _)⟩,λa j k d=>?_⟩;have:=g a j
 rcases kZ.1 d with rfl|d
 ·exact this
 ·have:=e k d;omega
theorem bG(a:List Ah)(x:Ah){i:Nat}(c:i<=a.length):(Du a x i (A1 a (U x.h) i)).length=if A1 a (U x.h) i=true then a.length else a.length+1:=by
 unfold Du;rw[jI,jT,jW,j0]
 split
 ·rename_i b
  unfold A1 at b;rw[jQ]at b;have:=j7 b.1;omega
 ·omega
theorem Sb(f:Cz h){i:Nat}(g:i<h.length)(y:Ah):y∈h.take i++h.drop (i+1)↔y∈h/\y.h≠(h.getD i Ah.af).h:=by
 rw[kI]
 constructor
 ·rintro(a|a)
  ·obtain⟨m,b,c,rfl⟩:=QG a;exact⟨PC c,λe=>by have:=MS f b g;rw[e]at this;omega⟩
  ·obtain⟨m,b,c,rfl⟩:=QE a;exact⟨PC c,λe=>by have:=MS f (show i<m by omega) c;rw[e]at this;omega⟩
 ·rintro⟨a,j⟩;obtain⟨m,b,rfl⟩:=Uv a
  rcases pR m i with d|d|d
  ·left
   rw[mZ];exact⟨m,Ω,by simp[O,b]⟩
  ·subst d;exact absurd rfl j
  ·right
   rw[pJ];have k:i+1+(m - (i+1))=m:=Ω;refine⟨m - (i+1),Ω,?_⟩;simp only[k];simp[O,b]
theorem Yt(a:Cz h)(i:Nat):Cz (h.take i++h.drop (i+1)):=by
 refine a.sublist ?_
 conv=>rhs;rw[<-kF i h]
 refine List.Sublist.append (pS _) ?_;rw[show h.drop (i+1)=(h.drop i).drop 1 by rw[nL]];exact pQ _ _
theorem Au.ok.gz{b:Au}(h:b.ok f)(es:List Ah)(c:Cz es)(d:es.length<=f)(e:∀x∈es,Do b.d b.p x=true):Au.ok f {b with es:=es}:=by
 have a:=(Fx.1 h).1;refine Fx.2 ⟨?_,e,c⟩;unfold FK at a⊢;have:=j7 a;exact jG ⟨this.1,this.2.1,by exact_mod_cast d,this.2.2.2⟩
theorem Au.ok.gh{a:Au}(h:a.ok f)(c:b∈a.es):Proofs.YtcedibmdelehdaaGreatDoor.Do a.d a.p b=true:=(Fx.1 h).2.1 b c
theorem Au.ok.bC{b:Au}(h:b.ok f):b.es.length<=f/\f<=255/\b.d<=8/\b.p<256:=by
 have:=Kx h;omega
theorem Au.ok.gr{b:Au}(h:b.ok f){es:List Ah}(a:es.Sublist b.es):Au.ok f {b with es:=es}:=
 h.gz es (h.bW.sublist a) (jM a.length_le h.bC.1) (λ_ c=>h.gh (a.subset c))
def Kn(r:Ai):List Nat:=At r.1 4++At r.2 8
def AT(l:List Ai):List Nat:=l.flatMap Kn
theorem cF(r:Ai):(Kn r).length=12:=by simp[Kn,AK]
theorem RF(r:Ai)(l:List Ai):AT (r::l)=Kn r++AT l:=rfl
theorem YH(l m:List Ai):AT (l++m)=AT l++AT m:=by simp[AT]
theorem GI(l:List Ai):(AT l).length=12*l.length:=by
 induction l with
 |nil=>rfl
 |cons r l a=>rw[RF,jI,a,cF,jT];omega
theorem QJ(l:List Ai):∀x∈AT l,x<256:=by
 intro x a;obtain⟨r,_,b⟩:=ny.1 a
 rcases kI.1 b with h|h
 ·exact Es _ _ x h
 ·exact Es _ _ x h
theorem Qv(l:List Ai)(b:Au):AT l≠b.ld:=λe=>by
 have h:=kM List.length e;rw[GI,Au.eW]at h;omega
def A8(a:Nat)(L:List Ai)(i:Nat):List Ai:=(L.drop (i*a)).take a
theorem JM(a:Nat)(L:List Ai)(i:Nat):(A8 a L i).length=min a (L.length - i*a):=by simp[A8]
theorem Ye(a:Nat)(L:List Ai)(i j:Nat)(b:j<a):(A8 a L i)[j]?=L[i*a+j]?:=by
 unfold A8;rw[pV b,lL]
theorem aO(a:Nat)(L:List Ai)(n:Nat)(h:0<a):(A8 a L (n/a))[n%a]?=L[n]?:=by
 rw[Ye _ _ _ _ (lA _ h),lp,lE]
def AH(a:Ai)(T:List Ai):List Nat:=a.1::T.map J
structure CS(b:As)(a:Ai)(R T:List Ai)(c:Nat->List Ai):Prop where
 rt:b a.1=E (a.2,AT R)
 tp:∀i t,T[i]?=E t->b t.1=E (t.2,AT (c i))
 nd:(AH a T).Nodup
theorem Nm{a:Ai}{T:List Ai}(h:(AH a T).Nodup){i:Nat}{t u:Ai}(b:T[i]?=E t)(c:T[f]?=E u)(e:t.1=u.1):i=f:=by
 have d:=(nC.1 h).2
 have g:(T.map J)[i]?=E t.1:=by rw[lh,b];rfl
 have j:(T.map J)[f]?=E t.1:=by rw[lh,c,e];rfl
 obtain⟨m,k⟩:=jL.1 g;obtain⟨n,l⟩:=jL.1 j;exact(List.getElem_inj d).1 (k.trans l.symm)
theorem Lh{a:Ai}{T:List Ai}(h:(AH a T).Nodup){i:Nat}{t:Ai}(b:T[i]?=E t):t.1≠a.1:=λe=>
 (nC.1 h).1 (by rw[<-e];exact lB.2 ⟨t,kp b,rfl⟩)
theorem GO{b:Ai}{T:List Ai}:f∈AH b T↔f=b.1\/∃(i:Nat) (t:Ai),T[i]?=E t/\t.1=f:=by
 unfold AH;rw[kZ,lB]
 constructor
 ·rintro(h|⟨t,c,e⟩)
  ·exact Y h
  ·obtain⟨i,a⟩:=mm c;exact V ⟨i,t,a,e⟩
 ·rintro(h|⟨i,t,a,e⟩)
  ·exact Y h
  ·exact V ⟨t,kp a,e⟩
theorem JZ{T:List Ai}{i:Nat}{a:Ai}(b:i<T.length)(j:Nat):(T.set i a)[j]?=if j=i then E a else T[j]?:=by
 rw[mL]
 by_cases h:i=j
 ·subst h;rw[jP rfl,jP rfl,jP b]
 ·rw[jN h,jN (λe=>h e.symm)]
theorem VZ{d:Ai}{T:List Ai}{i:Nat}{t f:Ai}(k:(AH d T).Nodup)(c:T[i]?=E t)(n:Nat):n∈AH d (T.set i f)↔n=f.1\/(n∈AH d T/\n≠t.1):=by
 have g:=(jL.1 c).1;rw[GO,GO]
 constructor
 ·rintro(h|⟨j,u,a,e⟩)
  ·exact V ⟨Y h,λe=>Lh k c (e.symm.trans h)⟩
  ·rw[JZ g]at a
   by_cases b:j=i
   ·rw[jP b]at a;injection a with a;exact Y (by rw[<-e,a])
   ·rw[jN b]at a;exact V ⟨V ⟨j,u,a,e⟩,λl=>b (Nm k a c (e.trans l))⟩
 ·rintro(h|⟨h,m⟩)
  ·exact V ⟨i,f,by rw[JZ g,jP rfl],h.symm⟩
  ·rcases h with h|⟨j,u,a,e⟩
   ·exact Y h
   ·refine V ⟨j,u,?_,e⟩;rw[JZ g,jN]
    ·exact a
    ·intro b;subst b;rw[c]at a;injection a with a;exact m (by rw[<-e,a])
theorem Uw{b:Ai}{T:List Ai}{i:Nat}{t d:Ai}(g:(AH b T).Nodup)(f:T[i]?=E t)(j:Fr [t.1] [d.1] a e):Fr (AH b T) (AH b (T.set i d)) a e:=by
 refine j.dD (λn=>?_) (λn=>?_)
 ·have k:t.1∈AH b T:=GO.2 (V ⟨i,t,f,rfl⟩);rw[j8]
  constructor
  ·intro h
   by_cases c:n=t.1
   ·exact Y c
   ·exact V ⟨h,c⟩
  ·rintro(c|h)
   ·rw[c];exact k
   ·exact h.1
 ·rw[VZ g f,j8,j8]
theorem Um{c d:Ai}{T:List Ai}(f:(AH c T).Nodup)(g:Fr [c.1] [d.1] a e):Fr (AH c T) (AH d T) a e:=by
 have i:=(nC.1 f).1;refine g.dD (λn=>?_) (λn=>?_)
 ·show n∈c.1::T.map J↔_\/(n∈c.1::T.map J/\_);rw[j8,kZ]
  constructor
  ·intro h
   by_cases b:n=c.1
   ·exact Y b
   ·exact V ⟨h,b⟩
  ·rintro(b|h)
   ·exact Y b
   ·exact h.1
 ·show n∈d.1::T.map J↔_\/(n∈c.1::T.map J/\_);rw[j8,kZ,kZ,j8]
  constructor
  ·rintro(b|h)
   ·exact Y b
   ·exact V ⟨V h,λb=>i (b▸h)⟩
  ·rintro(b|⟨h|h,j⟩)
   ·exact Y b
   ·exact absurd h j
   ·exact V h
theorem Pf{g:Ai}{R T:List Ai}{c:Nat->List Ai}(h:CS a g R T c){D:List Nat}(j:Fr D [f] a e)(k:f∈AH g T):f∈D:=by
 refine lH (λl=>?_);have b:=j.eX f (j8.2 rfl) l
 rcases GO.1 k with d|⟨i,t,m,d⟩
 ·rw[d,h.rt]at b;cases b
 ·rw[<-d,h.tp i t m]at b;cases b
theorem YQ{g:Ai}{T:List Ai}{i:Nat}{t d:Ai}(h:(AH g T).Nodup)(m:T[i]?=E t)(q:d.1∈AH g T->d.1=t.1):(AH g (T.set i d)).Nodup:=by
 have r:=(jL.1 m).1
 have s:∀j u,T[j]?=E u->j≠i->u.1≠d.1:=λj u a f e=>by
  have n:=q (GO.2 (V ⟨j,u,a,e⟩));exact f (Nm h a m (e.trans n))
 have w:g.1≠d.1:=λe=>by
  have n:=q (GO.2 (Y e.symm));exact Lh h m (n.symm.trans e.symm)
 refine nC.2 ⟨λx=>?_,?_⟩
 ·obtain⟨u,y,e⟩:=lB.1 x;obtain⟨j,a⟩:=mm y;rw[JZ r]at a
  by_cases f:j=i
  ·rw[jP f]at a;injection a with a;exact w (by rw[<-e,a])
  ·rw[jN f]at a;exact Lh h a e
 ·rw[List.nodup_iff_pairwise_ne,l9];intro j k a o z e;rw[mx,kG]at a o;have p:T[j]?=E T[j]:=jK a;have l:T[k]?=E T[k]:=jK o;rw[oQ,oQ]at e;have c:(T.set i d)[j]?=E ((T.set i d)[j]'(by rw[kG];exact a)):=jK _;have b:(T.set i d)[k]?=E ((T.set i d)[k]'(by rw[kG];exact o)):=jK _;rw[JZ r]at c b
  by_cases f:j=i
  ·rw[jP f]at c;rw[jN Ω,l]at b;injection c with c;injection b with b;exact s k _ l Ω ((kM J b).trans (e.symm.trans (kM J c).symm))
  ·rw[jN f,p]at c;injection c with c
   by_cases v:k=i
   ·rw[jP v]at b;injection b with b;exact s j _ p f ((kM J c).trans (e.trans (kM J b).symm))
   ·rw[jN v,l]at b;injection b with b;have:=Nm h p l ((kM J c).trans (e.trans (kM J b).symm));omega
theorem CS.g9{k:Ai}{R T:List Ai}{c l:Nat->List Ai}(h:CS e k R T c){i:Nat}{t d:Ai}(g:T[i]?=E t)(m:Fr [t.1] [d.1] e a)(o:a d.1=E (d.2,AT (l i)))(p:∀j,j<T.length->j≠i->l j=c j):CS a k R (T.set i d) l:=by
 have q:=(jL.1 g).1
 have r:d.1∈AH k T->d.1=t.1:=λs=>j8.1 (Pf h m s)
 refine⟨?_,λj u b=>?_,YQ h.nd g r⟩
 ·exact(m.cA h.rt (by rw[j8];exact λn=>Lh h.nd g n.symm)).1
 ·rw[JZ q]at b
  by_cases f:j=i
  ·rw[jP f]at b;injection b with b;subst b;subst f;exact o
  ·rw[jN f]at b;rw[p j (jL.1 b).1 f];exact(m.cA (h.tp j u b) (by rw[j8];exact λn=>f (Nm h.nd b g n))).1
theorem CS.dF{f b:Ai}{R g T:List Ai}{c:Nat->List Ai}(h:CS e f R T c)(i:Fr [f.1] [b.1] e a)(m:a b.1=E (b.2,AT g)):CS a b g T c:=by
 have n:b.1∈AH f T->b.1=f.1:=λd=>j8.1 (Pf h i d)
 have k:=nC.1 h.nd;refine⟨m,λj u l=>(i.cA (h.tp j u l) (by rw[j8];exact Lh h.nd l)).1,nC.2 ⟨λd=>?_,k.2⟩⟩;have:=n (kT _ d);rw[this]at d;exact k.1 d
theorem CS.dD{f:Ai}{R T:List Ai}{c:Nat->List Ai}(h:CS e f R T c){d:Ai}(i:Fr [] [d.1] e a)(o:a d.1=E (d.2,AT (c T.length))):CS a f R (T++[d]) c/\Fr (AH f T) (AH f (T++[d])) e a:=by
 have p:d.1∉AH f T:=λq=>by simpa using Pf h i q
 have l:AH f (T++[d])=AH f T++[d.1]:=by simp[AH]
 refine⟨⟨(i.cA h.rt Δ).1,λj u g=>?_,?_⟩,?_⟩
 ·by_cases r:j<T.length
  ·rw[kL r]at g;exact(i.cA (h.tp j u g) Δ).1
  ·rw[kQ Ω]at g
   have s:j - T.length=0:=by
    have:=(jL.1 g).1;simp at this;omega
   rw[s]at g;simp at g;subst g;rw[show j=T.length by omega];exact o
 ·rw[l,List.nodup_append];exact⟨h.nd,Δ,λw t b m=>by rw[j8]at m;subst m;exact λv=>p (v▸t)⟩
 ·rw[l]
  exact i.dD (λn=>⟨λh=>V ⟨h,Δ⟩,λh=>h.elim (λh=>by simp at h) (λh=>h.1)⟩) (λn=>⟨λh=>by
   rcases kI.1 h with k|k
   ·exact V ⟨k,Δ⟩
   ·exact Y k,λh=>by
   rcases h with k|k
   ·exact lG _ k
   ·exact lK _ k.1⟩)
theorem CS.fF{b:Ai}{R T:List Ai}{c:Nat->List Ai}(h:CS a b R T c)(d:∀n x,a n=E x->n∈AH b T->e n=E x):CS e b R T c:=
 ⟨d _ _ h.rt (GO.2 (Y rfl)),λi t f=>d _ _ (h.tp i t f) (GO.2 (V ⟨i,t,f,rfl⟩)),h.nd⟩
def By(a m:Nat):Nat:=(m+a - 1)/a
theorem GH{m i:Nat}(a:0<f):i<By f m↔i*f<m:=by
 unfold By;rw[Nat.lt_div_iff_mul_lt a];omega
structure DQ(d:As)(a b:Nat)(e:Ai)(T L:List Ai):Prop where
 aC:L.length=2^b
 dq:T.length=By a (2^b)
 c:CS d e T T (A8 a L)
theorem DQ.fF{b:Ai}{T L:List Ai}(h:DQ a f c b T L)(d:∀n x,a n=E x->n∈AH b T->e n=E x):DQ e f c b T L:=
 ⟨h.aC,h.dq,h.c.fF d⟩
theorem DQ.cF{k:Ai}{T L:List Ai}(h:DQ a c g k T L){b:Au}(d:a f=E (j,b.ld)):f∉AH k T:=by
 intro l
 rcases GO.1 l with e|⟨i,t,m,e⟩
 ·rw[e,h.c.rt]at d;injection d with d;injection d with _ d;exact Qv _ _ d
 ·rw[<-e,h.c.tp i t m]at d;injection d with d;injection d with _ d;exact Qv _ _ d
theorem JS(x:BitVec 64)(p:Nat)(a:c<=f)(b:f<=20):A9 f (AB x f) c p↔AB x c=p:=by
 unfold A9;have:=OK x c (f - c) Ω;rw[show c+(f - c)=f by omega]at this;rw[this]
theorem Cu.aS{L:List Ai}{B:Nat->Au}(h:Cu a c f L B)(e:f<=20){i:Nat}(b:i<2^f)(g:AB d (B i).d=(B i).p):B (AB d f)=B i:=
 (h.bb i _ b (J0 d f Ω) ((JS d _ (h.dl i b) e).2 g)).2
theorem eU{b:Au}(h:b.ok f)(a:AB d b.d≠b.p):Bg b.es d=none:=
 (JR h.bW d).2 (λ_ c e=>a (e▸h.aS c))
theorem My{B:Nat->Au}{b:Au}(a:b.d<=f)(d:f<=20)(x:BitVec 64):Bh f (CQ f B b) x=if AB x b.d=b.p then Bg b.es x else Bh f B x:=by
 unfold Bh CQ
 by_cases h:AB x b.d=b.p
 ·rw[jP h,jP ((JS x _ a d).2 h)]
 ·rw[jN h,jN (λc=>h ((JS x _ a d).1 c))]
theorem MZ{L:List Ai}{B:Nat->Au}(h:Cu a c f L B)(b:f<=20){i:Nat}(e:i<2^f)(g:AB d (B i).d=(B i).p):Bh f B d=Bg (B i).es d:=by
 unfold Bh;rw[h.aS b e g]
def FL(F a:BitVec 64->Option Ah)(o:Int):Prop:=∀x,a x=F x\/(a x=none/\∃e,F x=E e/\e.r<o)
theorem FL.refl(F:BitVec 64->Option Ah)(o:Int):FL F F o:=λ_=>Y rfl
theorem FL.trans{F d f:BitVec 64->Option Ah}(h:FL F d i)(k:FL d f i):FL F f i:=by
 intro x
 rcases k x with a|⟨a,e,b,g⟩
 ·rw[a];exact h x
 ·rcases h x with c|⟨c,_⟩
  ·exact V ⟨a,e,by rw[<-c];exact b,g⟩
  ·rw[c]at b;cases b
theorem OD(a:Cz h)(o:Int)(x:BitVec 64):Bg (Iy o h) x=Bg h x\/(Bg (Iy o h) x=none/\∃e,Bg h x=E e/\e.r<o):=by
 have d:Cz (Iy o h):=a.sublist nX
 have b:∀y,y∈Iy o h↔y∈h/\o<=y.r:=λy=>by simp[Iy]
 cases f:Bg h x with
 |none=>
  left
  rw[JR d]
  exact λy c=>(JR a x).1 f y ((b y).1 c).1
 |some e=>
  obtain⟨g,i⟩:=(Je a x e).1 f
  by_cases j:o<=e.r
  ·exact Y ((Je d x e).2 ⟨(b e).2 ⟨g,j⟩,i⟩)
  ·refine V ⟨(JR d x).2 (λy c k=>?_),e,rfl,Ω⟩;have:=Tz a ((b y).1 c).1 g (k.trans i.symm);subst this;exact j ((b y).1 c).2
def Da(L:List Ai):List Ai:=L.flatMap (λr=>[r,r])
theorem Na(L:List Ai):(Da L).length=L.length*2:=by
 induction L with
 |nil=>rfl
 |cons a l b=>
  simp only[Da,lP,jI,jT,kA]at b⊢;omega
theorem La(L:List Ai)(j:Nat):(Da L)[j]?=L[j/2]?:=by
 induction L generalizing j with
 |nil=>simp[Da]
 |cons a l b=>
  match j with
  |0=>simp[Da]
  |1=>simp[Da]
  |j+2=>
   have h:=b j;simp only[Da,lP,ku,jX,qd]at h⊢;rw[h,show(j+2)/2=j/2+1 by omega,qd]
theorem So(a:c<=f):A9 (f+1) g c j↔A9 f (g/2) c j:=by
 unfold A9;rw[nz,show f+1 - c=(f - c)+1 by omega,mg,lp]
theorem Cu.gf{L:List Ai}{B:Nat->Au}(h:Cu a c f L B):Cu a c (f+1) (Proofs.YtcedibmdelehdaaGreatDoor.Da L) (λj=>B (j/2)):=by
 have d:∀j,j<2^(f+1)->j/2<2^f:=λj b=>by rw[mg]at b;omega
 refine⟨by rw[Na,h.aC,mg],λj r b=>?_,λj b=>h.ok _ (d j b),λj b=>nG (h.dl _ (d j b)),λj b=>(So (h.dl _ (d j b))).2 (h.pf _ (d j b)),λi j e b g=>?_⟩
 ·rw[La]at b;exact h.dh _ r b
 ·rw[La,La];exact h.bb _ _ (d i e) (d j b) ((So (h.dl _ (d i e))).1 g)
theorem dS(a:Nat)(B:Nat->Au)(h:a+1<=64)(x:BitVec 64):Bh (a+1) (λj=>B (j/2)) x=Bh a B x:=by
 unfold Bh;have:=OK x a 1 h;rw[<-this]
def AU(b:Au):Au:=⟨b.d+1,2*b.p,b.es.filter (λx=>! DH b.d x)⟩
def AW(b:Au):Au:=⟨b.d+1,2*b.p+1,b.es.filter (DH b.d)⟩
theorem Nh(d:Nat)(x:Ah)(h:d+1<=30):DH d x=(AB x.h (d+1)%2==1):=by
 unfold DH;have:=KU x.h (d+1) h;rw[show((d:Int)+1)=((d+1:Nat):Int) by simp,this];rw[m9,mz,mz];omega
theorem MK(x:BitVec 64)(d:Nat)(h:d+1<=64):AB x (d+1)/2=AB x d:=by
 have:=OK x d 1 h;simpa using this
theorem MD{b:Au}(h:b.ok f)(r:b.d<8):(AU b).ok f/\(AW b).ok f:=by
 have j:=(Fx.1 h).1;unfold FK at j;have d:=j7 j
 have l:(b.p:Int)<2^b.d:=by have:=d.2.2.2.2.2.2;rwa[jS]at this
 have s:b.p<2^b.d:=by exact_mod_cast l
 have k:∀(q:Nat),q<2^(b.d+1)->∀(e:List Ah),e.Sublist b.es->(∀x∈e,AB x.h (b.d+1)=q)->Au.ok f ⟨b.d+1,q,e⟩:=by
  intro q m e g n;refine Fx.2 ⟨?_,λx a=>?_,h.bW.sublist g⟩
  ·unfold FK;have t:=g.length_le
   have o:(q:Int)<2^(b.d+1):=by exact_mod_cast m
   refine jG ⟨d.1,d.2.1,by have:=d.2.2.1;simp only at*;omega,by simp only;omega,by simp only;omega,by simp only;omega,?_⟩;show(q:Int)<2^((b.d+1:Nat):Int).toNat;rw[jS];exact o
  ·have c:=h.gh (g.subset a);unfold Proofs.YtcedibmdelehdaaGreatDoor.Do at c⊢;rw[jQ]at c⊢;refine⟨c.1,jG ?_⟩;show EE x.h ((b.d+1:Nat):Int)=((q:Nat):Int);rw[KU _ _ Ω,n x a]
 have u:2^(b.d+1)=2^b.d*2:=mg ..
 constructor
 ·refine k _ Ω _ nX (λx a=>?_);rw[nc,Nh _ _ Ω]at a;have c:=h.aS a.1;have p:=MK x.h b.d Ω;have i:=a.2;simp at i;omega
 ·refine k _ Ω _ nX (λx a=>?_);rw[nc,Nh _ _ Ω]at a;have c:=h.aS a.1;have p:=MK x.h b.d Ω;have i:=a.2;simp at i;omega
theorem KF(a:c<f):A9 f g c j↔A9 f g (c+1) (2*j)\/A9 f g (c+1) (2*j+1):=by
 unfold A9
 have:g/2^(f - c)=g/2^(f - (c+1))/2:=by
  rw[nz, <-mg]
  congr 2
  omega
 rw[this];omega
theorem OR(h:A9 f g (c+1) (2*j)):¬A9 f g (c+1) (2*j+1):=by
 unfold A9 at*;omega
theorem Cu.fY{L:List Ai}{B:Nat->Au}(h:Cu e c f L B){i:Nat}{r u v:Ai}(F:L[i]?=E r){y:Au}(O:y.ok c)(P:y.d=(B i).d)(Q:y.p=(B i).p)(R:y.d<f)(h8:f<=8)
  (S:a u.1=E (u.2,(AU y).ld))(T:a v.1=E (v.2,(AW y).ld))
  (U:∀n x,e n=E x->n≠r.1->(∃(j:Nat) (q:Ai),L[j]?=E q/\q.1=n)->a n=E x):
  Cu a c f (CF f (AU y).d (AU y).p (CF f (AW y).d (AW y).p L v) u) (CQ f (CQ f B (AW y)) (AU y)):=by
 obtain⟨W,X⟩:=MD O Ω
 have A:∀j,A9 f j (B i).d (B i).p↔A9 f j (AU y).d (AU y).p\/A9 f j (AW y).d (AW y).p:=λj=>by rw[<-P, <-Q];exact KF R
 have G:∀j,A9 f j (AU y).d (AU y).p->¬A9 f j (AW y).d (AW y).p:=λj h=>OR h
 have p:∀j,CQ f (CQ f B (AW y)) (AU y) j=if A9 f j (AU y).d (AU y).p then AU y else if A9 f j (AW y).d (AW y).p then AW y else B j:=λj=>rfl
 have C:∀j,(CF f (AU y).d (AU y).p (CF f (AW y).d (AW y).p L v) u)[j]?=if A9 f j (AU y).d (AU y).p then(L[j]?).map (λ_=>u)else if A9 f j (AW y).d (AW y).p then(L[j]?).map (λ_=>v)else L[j]?:=by
  intro j;rw[EF,EF]
  by_cases d:A9 f j (AU y).d (AU y).p
  ·rw[jP d,jP d,jN (G j d)]
  ·rw[jN d,jN d]
 have ad:(AU y).d=y.d+1:=rfl;have ae:(AW y).d=y.d+1:=rfl;generalize AU y=o at*;generalize AW y=t at*;refine⟨by rw[Mx,Mx];exact h.aC,λj q b=>?_,λj b=>?_,λj b=>?_,λj b=>?_,λj k b D g=>?_⟩
 ·rw[C]at b;rw[p]
  by_cases d:A9 f j o.d o.p
  ·rw[jP d]at b⊢
   cases w:L[j]? with
   |none=>rw[w]at b;cases b
   |some x=>
    rw[w]at b;simp only[oe,mK]at b;subst b;exact S
  ·rw[jN d]at b⊢
   by_cases m:A9 f j t.d t.p
   ·rw[jP m]at b⊢
    cases w:L[j]? with
    |none=>rw[w]at b;cases b
    |some x=>
     rw[w]at b;simp only[oe,mK]at b;subst b;exact T
   ·rw[jN m]at b⊢;exact U _ _ (h.dh j q b) (h.bN F b (λs=>((A j).1 s).elim d m)) ⟨j,q,b,rfl⟩
 ·rw[p]
  split
  ·exact W
  ·split
   ·exact X
   ·exact h.ok j b
 ·rw[p]
  split
  ·omega
  ·split
   ·omega
   ·exact h.dl j b
 ·rw[p]
  split
  ·assumption
  ·split
   ·assumption
   ·exact h.pf j b
 ·rw[p,p];rw[p]at g;rw[C,C];have H:=jK (l:=L) (by rw[h.aC];exact b);have I:=jK (l:=L) (by rw[h.aC];exact D)
  by_cases d:A9 f j o.d o.p
  ·rw[jP d]at g⊢;rw[jP g,jP g,jP d,H,I];exact⟨rfl,rfl⟩
  ·rw[jN d]at g⊢
   by_cases m:A9 f j t.d t.p
   ·rw[jP m]at g⊢
    have z:¬A9 f k o.d o.p:=λs=>G k s g
    rw[jN z,jN z,jP g,jP g,jN d,jP m,H,I];exact⟨rfl,rfl⟩
   ·rw[jN m]at g⊢;obtain⟨Z,J⟩:=h.bb j k b D g
    have K:¬A9 f k (B i).d (B i).p:=λhc=>by
     have g1:=h.bb i k (h.lt F) D hc;have M:=h.pf j b;rw[<-J,g1.2]at M;exact((A j).1 M).elim d m
    have z:¬A9 f k o.d o.p:=λs=>K ((A k).2 (Y s))
    have N:¬A9 f k t.d t.p:=λs=>K ((A k).2 (V s))
    rw[jN z,jN N,jN z,jN N,jN d,jN m];exact⟨Z,J⟩
theorem Cu.hW{L:List Ai}{B:Nat->Au}(h:Cu a c f L B){i:Nat}{r r1:Ai}(d:L[i]?=E r){y:Au}(g:y.d=(B i).d)(k:y.p=(B i).p)(l:y.d<f):
  CF f (AU y).d (AU y).p (CF f (AW y).d (AW y).p L r1) r=CF f (AW y).d (AW y).p L r1:=by
 refine lQ (λj=>?_);rw[EF,EF]
 by_cases b:A9 f j (AU y).d (AU y).p
 ·rw[jP b,jN (show¬A9 f j (AW y).d (AW y).p from OR b)]
  cases e:L[j]? with
  |none=>rfl
  |some x=>
   have m:A9 f j (B i).d (B i).p:=by rw[<-g, <-k];exact(KF l).2 (Y b)
   have:=(h.bb i j (h.lt d) (h.lt e) m).1;rw[e,d]at this;exact this.symm
 ·rw[jN b]
theorem Cu.fU{L:List Ai}{B:Nat->Au}(h:Cu a c f L B){i:Nat}{r:Ai}(e:L[i]?=E r){b:Au}(k:b.d=(B i).d)(l:b.p=(B i).p):CF f b.d b.p L r=L:=by
 refine lQ (λj=>?_);rw[EF]
 by_cases d:A9 f j b.d b.p
 ·rw[jP d]
  cases g:L[j]? with
  |none=>rfl
  |some x=>
   rw[k,l]at d;have:=(h.bb i j (h.lt e) (h.lt g) d).1;rw[g,e]at this;exact this.symm
 ·rw[jN d]
theorem Yz{y:Au}(a:y.ok f)(h:y.d<8)(x:BitVec 64):(if AB x (AU y).d=(AU y).p then Bg (AU y).es x else if AB x (AW y).d=(AW y).p then Bg (AW y).es x else none)=Bg y.es x:=by
 obtain⟨i,j⟩:=MD a h;have k:=MK x y.d Ω
 by_cases c:AB x y.d=y.p
 ·by_cases b:AB x (AU y).d=(AU y).p
  ·rw[jP b];refine MX i.bW a.bW x (λe d=>?_)
   have:DH y.d e=false:=by
    rw[Nh _ _ Ω,d];have:AB x (y.d+1)=2*y.p:=b;rw[this];simp
   simp[AU,this]
  ·have g:AB x (AW y).d=(AW y).p:=by
    show AB x (y.d+1)=2*y.p+1;have:¬AB x (y.d+1)=2*y.p:=b;omega
   rw[jN b,jP g];refine MX j.bW a.bW x (λe d=>?_)
   have:DH y.d e=true:=by
    rw[Nh _ _ Ω,d];have:AB x (y.d+1)=2*y.p+1:=g;rw[this];simp
   simp[AW,this]
 ·rw[eU a c,jN (show¬AB x (AU y).d=(AU y).p from λe=>(show¬AB x (y.d+1)=2*y.p by omega) e),jN (show¬AB x (AW y).d=(AW y).p from λe=>(show¬AB x (y.d+1)=2*y.p+1 by omega) e)]
theorem Yn{L:List Ai}{B:Nat->Au}(_:Cu a c f L B){i:Nat}(_:i<2^f){y:Au}(j:y.ok c)(m:y.d=(B i).d)(n:y.p=(B i).p)(o:y.d<f)(p:f<=8)(x:BitVec 64):
  Bh f (CQ f (CQ f B (AW y)) (AU y)) x=if AB x y.d=y.p then Bg y.es x else Bh f B x:=by
 have k:=Yz j Ω x;have q:=MK x y.d Ω;have r:(AU y).d=y.d+1:=rfl;have s:(AW y).d=y.d+1:=rfl;rw[My Ω Ω,My Ω Ω]
 by_cases d:AB x y.d=y.p
 ·rw[jP d];rw[<-k]
  by_cases b:AB x (AU y).d=(AU y).p
  ·rw[jP b,jP b]
  ·have g:AB x (AW y).d=(AW y).p:=by
    show AB x (y.d+1)=2*y.p+1;have:¬AB x (y.d+1)=2*y.p:=b;omega
   rw[jN b,jN b,jP g,jP g]
 ·rw[jN d,jN (show¬AB x (AU y).d=(AU y).p from λe=>(show¬AB x (y.d+1)=2*y.p by omega) e),jN (show¬AB x (AW y).d=(AW y).p from λe=>(show¬AB x (y.d+1)=2*y.p+1 by omega) e)]
end
