/- Lemmas. -/
import Derived.Test.YtcedibmdelehdaaGreatDoorH17
import Derived.Test.YtcedibmdelehdaaGreatDoorH19
import Derived.Test.YtcedibmdelehdaaGreatDoorH23
import Derived.Test.YtcedibmdelehdaaGreatDoorH26
namespace Go.Proofs.YtcedibmdelehdaaGreatDoor
set_option maxRecDepth 100000
set_option maxHeartbeats 32000000
open Option renaming some->E
open Prod renaming fst->J
open List renaming getD->O,pairwise_cons->Z,find?_some->Ax
open Or renaming inr->V,inl->Y
variable{h d g j:Nat}{a:List Af}{b f:Ap}{c:Af}{e:BitVec 64}{i:Int}
section
open Go.RowKit
abbrev Ah:=Nat×Nat
structure Au where
 d:Nat
 p:Nat
 es:List Af
def Au.ld(b:Au):List Nat:=Ci b.d b.p b.es
def Au.ok(a:Nat)(b:Au):Prop:=BY b.d b.p a b.es=true
theorem Au.inj{b c:Au}(f:b.ok h)(k:c.ok h)(e:b.ld=c.ld):b=c:=by
 obtain⟨g,i,a⟩:=ed f k e;obtain⟨d,p,m⟩:=b;obtain⟨j,l,n⟩:=c;simp only at g i a;rw[show d=j by omega,show p=l by omega,a]
theorem Au.eZ(b:Au):b.ld.length=10+20*b.es.length:=Kt _ _ _ _ (jS _)
def A1(a j d p:Nat):Prop:=j/2^(a - d)=p
instance(a j d p:Nat):Decidable (A1 a j d p):=inferInstanceAs (Decidable (_=_))
structure Cj(b:Ap)(c a:Nat)(L:List Ah)(B:Nat->Au):Prop where
 aF:L.length=2^a
 cZ:∀i r,L[i]?=E r->b r.1=E (r.2,(B i).ld)
 ok:∀i,i<2^a->(B i).ok c
 dl:∀i,i<2^a->(B i).d<=a
 pf:∀i,i<2^a->A1 a i (B i).d (B i).p
 bg:∀i j,i<2^a->j<2^a->A1 a j (B i).d (B i).p->L[j]?=L[i]?/\B j=B i
theorem Cj.lt{L:List Ah}{B:Nat->Au}(a:Cj b d h L B){i:Nat}{r:Ah}(c:L[i]?=E r):i<2^h:=by rw[<-a.aF];exact(jX.1 c).1
theorem Cj.dE{L:List Ah}{B:Nat->Au}(a:Cj b d g L B){i:Nat}{r c:Ah}(j:L[i]?=E r)(k:L[h]?=E c)(e:r.1=c.1):B i=B h/\r=c:=by
 have f:=a.cZ i r j;have l:=a.cZ h c k;rw[e,l]at f;injection f with f;injection f with m n;have o:=Au.inj (a.ok h (a.lt k)) (a.ok i (a.lt j)) n;exact⟨o.symm,Prod.ext e m.symm⟩
theorem Cj.bP{L:List Ah}{B:Nat->Au}(a:Cj b g d L B){i:Nat}{r c:Ah}(j:L[i]?=E r)(f:L[h]?=E c)(e:¬A1 d h (B i).d (B i).p):c.1≠r.1:=by
 intro k;have:=(a.dE j f k.symm).1;refine e ?_;rw[this];exact a.pf h (a.lt f)
def Cr(a d p:Nat)(L:List Ah)(r:Ah):List Ah:=L.mapIdx (λj x=>if A1 a j d p then r else x)
theorem Ml(a d p:Nat)(L:List Ah)(r:Ah):(Cr a d p L r).length=L.length:=by simp[Cr]
theorem Ew(a d p:Nat)(L:List Ah)(r:Ah)(j:Nat):(Cr a d p L r)[j]?=if A1 a j d p then(L[j]?).map (λ_=>r)else L[j]?:=by
 unfold Cr;rw[List.getElem?_mapIdx]
 by_cases h:A1 a j d p
 ·simp only[ke h]
 ·simp only[j7 h]
  cases L[j]?<;>rfl
def Cy(a:Nat)(B:Nat->Au)(b:Au):Nat->Au:=λj=>if A1 a j b.d b.p then b else B j
def A9(a:List Af)(h:BitVec 64):Option Af:=a.find? (λx=>x.h==h)
def Ba(a:Nat)(B:Nat->Au)(h:BitVec 64):Option Af:=A9 (B (Ay h a)).es h
theorem Cj.put{L:List Ah}{B:Nat->Au}(c:Cj f d h L B){i:Nat}{r p:Ah}(s:L[i]?=E r){e:Au}(C:e.ok d)(u:e.d=(B i).d)(D:e.p=(B i).p)(F:b p.1=E (p.2,e.ld))
  (G:∀n x,f n=E x->n≠r.1->(∃(j:Nat) (q:Ah),L[j]?=E q/\q.1=n)->b n=E x):Cj b d h (Cr h e.d e.p L p) (Cy h B e):=by
 have t:∀j,A1 h j e.d e.p↔A1 h j (B i).d (B i).p:=λj=>by rw[u,D]
 refine⟨by rw[Ml];exact c.aF,λj q a=>?_,λj a=>?_,λj a=>?_,λj a=>?_,λj k a g m=>?_⟩
 ·rw[Ew]at a;unfold Cy
  split
  ·rename_i g
   rw[ke g]at a
   cases v:L[j]? with
   |none=>rw[v]at a;cases a
   |some y=>
    rw[v]at a;simp at a;subst a;exact F
  ·rename_i g
   rw[j7 g]at a;exact G _ _ (c.cZ j q a) (c.bP s a (by rwa[<-t j])) ⟨j,q,a,rfl⟩
 ·unfold Cy
  split
  ·exact C
  ·exact c.ok j a
 ·unfold Cy
  split
  ·rw[u];exact c.dl i (c.lt s)
  ·exact c.dl j a
 ·unfold Cy
  split
  ·assumption
  ·exact c.pf j a
 ·unfold Cy at m⊢;rw[Ew,Ew]
  by_cases o:A1 h j e.d e.p
  ·rw[ke o]at m⊢;rw[ke m,ke m,ke o];have H:=jW (l:=L) (by rw[c.aF];exact a);have I:=jW (l:=L) (by rw[c.aF];exact g);rw[H,I];exact⟨rfl,rfl⟩
  ·rw[j7 o]at m⊢;obtain⟨J,w⟩:=c.bg j k a g m
   have z:¬A1 h k e.d e.p:=λK=>o (by
    have M:=c.bg i k (c.lt s) g ((t k).1 K);have A:=c.pf j a;rw[<-w,M.2]at A
    exact(t j).2 A)
   rw[j7 z,j7 z,j7 o];exact⟨J,w⟩
theorem Au.ok.aM{b:Au}(d:b.ok h)(f:c∈b.es):Ay c.h b.d=b.p:=by
 have g:=Kj d;have a:=(Fw.1 d).2.1 c f;unfold CT at a;rw[kh]at a;have e:=kQ a.2;rw[Ky _ _ Ω]at e
 exact_mod_cast e
theorem Au.ok.bS{b:Au}(a:b.ok h):b.es.Pairwise (λx y=>U x.h<U y.h):=(Fw.1 a).2.2
abbrev Co(a:List Af):Prop:=a.Pairwise (λx y=>U x.h<U y.h)
theorem To(j:Co a){y:Af}(d:c∈a)(k:y∈a)(e:c.h=y.h):c=y:=by
 induction a with
 |nil=>cases d
 |cons z m l=>
  have b:=Z.1 j
  rcases lK.1 d with f|g<;>rcases lK.1 k with h|i
  ·exact f.trans h.symm
  ·have:=b.1 y i;rw[<-e,f]at this;omega
  ·have:=b.1 c g;rw[e,h]at this;omega
  ·exact l b.2 g i
theorem IY(e:Co a)(h:BitVec 64)(x:Af):A9 a h=E x↔x∈a/\x.h=h:=by
 unfold A9
 constructor
 ·intro b;have c:=Ax b;exact⟨qi b,by simpa using c⟩
 ·rintro⟨d,rfl⟩
  cases b:a.find? (λy=>y.h==x.h)with
  |none=>
   have:=pj.1 b x d;simp at this
  |some y=>
   have c:=Ax b;rw[To e (qi b) d (by simpa using c)]
theorem JE(_:Co a)(h:BitVec 64):A9 a h=none↔ ∀x∈a,x.h≠h:=by
 unfold A9;rw[pj];simp
theorem MI{c:List Af}(f:Co a)(g:Co c)(h:BitVec 64)(e:∀x,x.h=h->(x∈a↔x∈c)):A9 a h=A9 c h:=by
 refine Option.ext (λx=>?_);rw[IY f,IY g];exact⟨λ⟨d,b⟩=>⟨(e x b).1 d,b⟩,λ⟨d,b⟩=>⟨(e x b).2 d,b⟩⟩
theorem Qy{i:Nat}(h:c∈a.take i):∃m,m<i/\m<a.length/\a.getD m Af.ad=c:=by
 obtain⟨m,b,rfl⟩:=nO.1 h;rw[kA]at b;exact⟨m,Ω,Ω,by simp[O,show m<a.length by omega]⟩
theorem Qx{i:Nat}(h:c∈a.drop i):∃m,i<=m/\m<a.length/\a.getD m Af.ad=c:=by
 obtain⟨m,b,rfl⟩:=nO.1 h;rw[kK]at b;exact⟨i+m,Ω,Ω,by simp[O,show i+m<a.length by omega]⟩
theorem Uk(h:c∈a):∃m,m<a.length/\a.getD m Af.ad=c:=by
 obtain⟨m,b,rfl⟩:=nO.1 h;exact⟨m,b,by simp[O,b]⟩
theorem Pt(b:h<a.length):a.getD h Af.ad∈a:=by
 have:a.getD h Af.ad=a[h]:=by simp[O,b]
 rw[this];exact mQ b
theorem MB(c:Co a){i:Nat}(d:i<h)(b:h<a.length):U (a.getD i Af.ad).h<U (a.getD h Af.ad).h:=by
 have e:a.getD i Af.ad=a[i]:=by simp[O,show i<a.length by omega]
 have f:a.getD h Af.ad=a[h]:=by simp[O,b]
 rw[e,f];exact mK.1 c i h Ω b d
theorem On(j:Co a){h:Int}{i:Nat}(f:Ef a h i):(∀y∈a.take i,U y.h<h)/\(∀y∈a.drop (if AW a h i=true then i+1 else i),h<U y.h)/\(∀y∈a,U y.h≠h->y∈a.take i\/y∈a.drop (if AW a h i=true then i+1 else i)):=by
 refine⟨λy d=>?_,λy d=>?_,λy d l=>?_⟩
 ·obtain⟨m,c,_,rfl⟩:=Qy d;exact f.lo m c
 ·obtain⟨m,c,g,rfl⟩:=Qx d
  split at c
  ·rename_i b
   have k:U (a.getD i Af.ad).h=h:=by
    unfold AW at b;rw[kh]at b;exact kQ b.2
   have:=MB j (show i<m by omega) g;omega
  ·rename_i b
   have k:=f.hi m c g
   have n:U (a.getD i Af.ad).h≠h:=by
    intro o;refine b ?_;unfold AW;rw[o];simp;omega
   by_cases e:m=i
   ·subst e;omega
   ·have:=MB j (show i<m by omega) g;have:=f.hi i (jS _) Ω;omega
 ·obtain⟨m,c,rfl⟩:=Uk d
  by_cases k:m<i
  ·left
   rw[nG];exact⟨m,Ω,by simp[O,c]⟩
  ·right
   rw[qj]
   have n:(if AW a h i=true then i+1 else i)<=m:=by
    split
    ·rename_i b
     have p:U (a.getD i Af.ad).h=h:=by
      unfold AW at b;rw[kh]at b;exact kQ b.2
     by_cases e:m=i
     ·subst e;exact absurd p l
     ·omega
    ·omega
   refine⟨m - (if AW a h i=true then i+1 else i),Ω,?_⟩;have q:(if AW a h i=true then i+1 else i)+(m - (if AW a h i=true then i+1 else i))=m:=Ω;simp only[q];simp[O,c]
theorem OO(b:Co a){i:Nat}(d:Ef a (U c.h) i)(y:Af):y∈Dd a c i (AW a (U c.h) i)↔y=c\/(y∈a/\y.h≠c.h):=by
 obtain⟨f,g,j⟩:=On b d;unfold Dd;rw[kY,lK]
 constructor
 ·rintro(h|h|h)
  ·exact V ⟨lV h,λe=>by have:=f y h;rw[e]at this;omega⟩
  ·exact Y h
  ·exact V ⟨nj h,λe=>by have:=g y h;rw[e]at this;omega⟩
 ·rintro(h|⟨h,k⟩)
  ·exact V (Y h)
  ·rcases j y h (λe=>k (Px e))with h|h
   ·exact Y h
   ·exact V (V h)
theorem Sa(d:Co a){i:Nat}(g:Ef a (U c.h) i):Co (Dd a c i (AW a (U c.h) i)):=by
 obtain⟨h,f,l⟩:=On d g;unfold Dd;refine List.pairwise_append.2 ⟨d.sublist (List.take_sublist _ _),Z.2 ⟨f,d.sublist (qt _ _)⟩,λj k b e=>?_⟩;have:=h j k
 rcases lK.1 e with rfl|e
 ·exact this
 ·have:=f b e;omega
theorem aY(a:List Af)(x:Af){i:Nat}(c:i<=a.length):(Dd a x i (AW a (U x.h) i)).length=if AW a (U x.h) i=true then a.length else a.length+1:=by
 unfold Dd;rw[jU,kj,kA,kK]
 split
 ·rename_i b
  unfold AW at b;rw[kh]at b;have:=kQ b.1;omega
 ·omega
theorem RN(f:Co a){i:Nat}(g:i<a.length)(y:Af):y∈a.take i++a.drop (i+1)↔y∈a/\y.h≠(a.getD i Af.ad).h:=by
 rw[kY]
 constructor
 ·rintro(h|h)
  ·obtain⟨m,b,c,rfl⟩:=Qy h;exact⟨Pt c,λe=>by have:=MB f b g;rw[e]at this;omega⟩
  ·obtain⟨m,b,c,rfl⟩:=Qx h;exact⟨Pt c,λe=>by have:=MB f (show i<m by omega) c;rw[e]at this;omega⟩
 ·rintro⟨h,j⟩;obtain⟨m,b,rfl⟩:=Uk h
  rcases qu m i with d|d|d
  ·left
   rw[nG];exact⟨m,Ω,by simp[O,b]⟩
  ·subst d;exact absurd rfl j
  ·right
   rw[qj];have k:i+1+(m - (i+1))=m:=Ω;refine⟨m - (i+1),Ω,?_⟩;simp only[k];simp[O,b]
theorem Yj(b:Co a)(i:Nat):Co (a.take i++a.drop (i+1)):=by
 refine b.sublist ?_
 conv=>rhs;rw[<-lh i a]
 refine List.Sublist.append (qw _) ?_;rw[show a.drop (i+1)=(a.drop i).drop 1 by rw[ou]];exact qt _ _
theorem Au.ok.gI{b:Au}(c:b.ok h)(es:List Af)(d:Co es)(e:es.length<=h)(f:∀x∈es,CT b.d b.p x=true):Au.ok h {b with es:=es}:=by
 have a:=(Fw.1 c).1;refine Fw.2 ⟨?_,f,d⟩;unfold FF at a⊢;have:=kQ a;exact jT ⟨this.1,this.2.1,by exact_mod_cast e,this.2.2.2⟩
theorem Au.ok.gl{b:Au}(a:b.ok h)(d:c∈b.es):Proofs.YtcedibmdelehdaaGreatDoor.CT b.d b.p c=true:=(Fw.1 a).2.1 c d
theorem Au.ok.bA{b:Au}(a:b.ok h):b.es.length<=h/\h<=255/\b.d<=8/\b.p<256:=by
 have:=Kj a;omega
theorem Au.ok.gz{b:Au}(a:b.ok h){es:List Af}(c:es.Sublist b.es):Au.ok h {b with es:=es}:=
 a.gI es (a.bS.sublist c) (j8 c.length_le a.bA.1) (λ_ d=>a.gl (c.subset d))
def Ka(r:Ah):List Nat:=At r.1 4++At r.2 8
def AQ(l:List Ah):List Nat:=l.flatMap Ka
theorem bV(r:Ah):(Ka r).length=12:=by simp[Ka,AI]
theorem Rs(r:Ah)(l:List Ah):AQ (r::l)=Ka r++AQ l:=rfl
theorem Yw(l m:List Ah):AQ (l++m)=AQ l++AQ m:=by simp[AQ]
theorem Gv(l:List Ah):(AQ l).length=12*l.length:=by
 induction l with
 |nil=>rfl
 |cons r l a=>rw[Rs,jU,a,bV,kj];omega
theorem QB(l:List Ah):∀x∈AQ l,x<256:=by
 intro x a;obtain⟨r,_,b⟩:=oF.1 a
 rcases kY.1 b with h|h
 ·exact Ek _ _ x h
 ·exact Ek _ _ x h
theorem Qo(l:List Ah)(b:Au):AQ l≠b.ld:=λe=>by
 have h:=kL List.length e;rw[Gv,Au.eZ]at h;omega
def A0(a:Nat)(L:List Ah)(i:Nat):List Ah:=(L.drop (i*a)).take a
theorem Jv(a:Nat)(L:List Ah)(i:Nat):(A0 a L i).length=min a (L.length - i*a):=by simp[A0]
theorem XT(a:Nat)(L:List Ah)(i j:Nat)(b:j<a):(A0 a L i)[j]?=L[i*a+j]?:=by
 unfold A0;rw[nR b,mj]
theorem aG(a:Nat)(L:List Ah)(n:Nat)(h:0<a):(A0 a L (n/a))[n%a]?=L[n]?:=by
 rw[XT _ _ _ _ (lT _ h),lM,lW]
def AE(a:Ah)(T:List Ah):List Nat:=a.1::T.map J
structure Cz(b:Ap)(a:Ah)(R T:List Ah)(c:Nat->List Ah):Prop where
 rt:b a.1=E (a.2,AQ R)
 tp:∀i t,T[i]?=E t->b t.1=E (t.2,AQ (c i))
 nd:(AE a T).Nodup
theorem Na{a:Ah}{T:List Ah}(b:(AE a T).Nodup){i:Nat}{t u:Ah}(c:T[i]?=E t)(d:T[h]?=E u)(e:t.1=u.1):i=h:=by
 have f:=(nL.1 b).2
 have g:(T.map J)[i]?=E t.1:=by rw[lB,c];rfl
 have j:(T.map J)[h]?=E t.1:=by rw[lB,d,e];rfl
 obtain⟨m,k⟩:=jX.1 g;obtain⟨n,l⟩:=jX.1 j;exact(List.getElem_inj f).1 (k.trans l.symm)
theorem KK{a:Ah}{T:List Ah}(h:(AE a T).Nodup){i:Nat}{t:Ah}(b:T[i]?=E t):t.1≠a.1:=λe=>
 (nL.1 h).1 (by rw[<-e];exact lP.2 ⟨t,kX b,rfl⟩)
theorem GF{c:Ah}{T:List Ah}:h∈AE c T↔h=c.1\/∃(i:Nat) (t:Ah),T[i]?=E t/\t.1=h:=by
 unfold AE;rw[lK,lP]
 constructor
 ·rintro(a|⟨t,d,e⟩)
  ·exact Y a
  ·obtain⟨i,b⟩:=mD d;exact V ⟨i,t,b,e⟩
 ·rintro(a|⟨i,t,b,e⟩)
  ·exact Y a
  ·exact V ⟨t,kX b,e⟩
theorem JK{T:List Ah}{i:Nat}{a:Ah}(b:i<T.length)(j:Nat):(T.set i a)[j]?=if j=i then E a else T[j]?:=by
 rw[mW]
 by_cases h:i=j
 ·subst h;rw[ke rfl,ke rfl,ke b]
 ·rw[j7 h,j7 (λe=>h e.symm)]
theorem VT{d:Ah}{T:List Ah}{i:Nat}{t f:Ah}(k:(AE d T).Nodup)(c:T[i]?=E t)(n:Nat):n∈AE d (T.set i f)↔n=f.1\/(n∈AE d T/\n≠t.1):=by
 have g:=(jX.1 c).1;rw[GF,GF]
 constructor
 ·rintro(h|⟨j,u,a,e⟩)
  ·exact V ⟨Y h,λe=>KK k c (e.symm.trans h)⟩
  ·rw[JK g]at a
   by_cases b:j=i
   ·rw[ke b]at a;injection a with a;exact Y (by rw[<-e,a])
   ·rw[j7 b]at a;exact V ⟨V ⟨j,u,a,e⟩,λl=>b (Na k a c (e.trans l))⟩
 ·rintro(h|⟨h,m⟩)
  ·exact V ⟨i,f,by rw[JK g,ke rfl],h.symm⟩
  ·rcases h with h|⟨j,u,a,e⟩
   ·exact Y h
   ·refine V ⟨j,u,?_,e⟩;rw[JK g,j7]
    ·exact a
    ·intro b;subst b;rw[c]at a;injection a with a;exact m (by rw[<-e,a])
theorem Ul{a:Ah}{T:List Ah}{i:Nat}{t c:Ah}(g:(AE a T).Nodup)(d:T[i]?=E t)(j:Fr [t.1] [c.1] b f):Fr (AE a T) (AE a (T.set i c)) b f:=by
 refine j.dz (λn=>?_) (λn=>?_)
 ·have k:t.1∈AE a T:=GF.2 (V ⟨i,t,d,rfl⟩);rw[kH]
  constructor
  ·intro h
   by_cases e:n=t.1
   ·exact Y e
   ·exact V ⟨h,e⟩
  ·rintro(e|h)
   ·rw[e];exact k
   ·exact h.1
 ·rw[VT g d,kH,kH]
theorem TZ{a c:Ah}{T:List Ah}(d:(AE a T).Nodup)(g:Fr [a.1] [c.1] b f):Fr (AE a T) (AE c T) b f:=by
 have i:=(nL.1 d).1;refine g.dz (λn=>?_) (λn=>?_)
 ·show n∈a.1::T.map J↔_\/(n∈a.1::T.map J/\_);rw[kH,lK]
  constructor
  ·intro h
   by_cases e:n=a.1
   ·exact Y e
   ·exact V ⟨h,e⟩
  ·rintro(e|h)
   ·exact Y e
   ·exact h.1
 ·show n∈c.1::T.map J↔_\/(n∈a.1::T.map J/\_);rw[kH,lK,lK,kH]
  constructor
  ·rintro(e|h)
   ·exact Y e
   ·exact V ⟨V h,λe=>i (e▸h)⟩
  ·rintro(e|⟨h|h,j⟩)
   ·exact Y e
   ·exact absurd h j
   ·exact V h
theorem OX{d:Ah}{R T:List Ah}{c:Nat->List Ah}(g:Cz b d R T c){D:List Nat}(j:Fr D [h] b f)(k:h∈AE d T):h∈D:=by
 refine lJ (λl=>?_);have a:=j.e2 h (kH.2 rfl) l
 rcases GF.1 k with e|⟨i,t,m,e⟩
 ·rw[e,g.rt]at a;cases a
 ·rw[<-e,g.tp i t m]at a;cases a
theorem YF{g:Ah}{T:List Ah}{i:Nat}{t d:Ah}(h:(AE g T).Nodup)(m:T[i]?=E t)(q:d.1∈AE g T->d.1=t.1):(AE g (T.set i d)).Nodup:=by
 have r:=(jX.1 m).1
 have s:∀j u,T[j]?=E u->j≠i->u.1≠d.1:=λj u a f e=>by
  have n:=q (GF.2 (V ⟨j,u,a,e⟩));exact f (Na h a m (e.trans n))
 have w:g.1≠d.1:=λe=>by
  have n:=q (GF.2 (Y e.symm));exact KK h m (n.symm.trans e.symm)
 refine nL.2 ⟨λx=>?_,?_⟩
 ·obtain⟨u,y,e⟩:=lP.1 x;obtain⟨j,a⟩:=mD y;rw[JK r]at a
  by_cases f:j=i
  ·rw[ke f]at a;injection a with a;exact w (by rw[<-e,a])
  ·rw[j7 f]at a;exact KK h a e
 ·rw[List.nodup_iff_pairwise_ne,mK];intro j k a o z e;rw[mH,lm]at a o;have p:T[j]?=E T[j]:=jW a;have l:T[k]?=E T[k]:=jW o;rw[pG,pG]at e;have c:(T.set i d)[j]?=E ((T.set i d)[j]'(by rw[lm];exact a)):=jW _;have b:(T.set i d)[k]?=E ((T.set i d)[k]'(by rw[lm];exact o)):=jW _;rw[JK r]at c b
  by_cases f:j=i
  ·rw[ke f]at c;rw[j7 Ω,l]at b;injection c with c;injection b with b;exact s k _ l Ω ((kL J b).trans (e.symm.trans (kL J c).symm))
  ·rw[j7 f,p]at c;injection c with c
   by_cases v:k=i
   ·rw[ke v]at b;injection b with b;exact s j _ p f ((kL J c).trans (e.trans (kL J b).symm))
   ·rw[j7 v,l]at b;injection b with b;have:=Na h p l ((kL J c).trans (e.trans (kL J b).symm));omega
theorem Cz.hw{l:Ah}{R T:List Ah}{c m:Nat->List Ah}(h:Cz f l R T c){i:Nat}{t d:Ah}(k:T[i]?=E t)(n:Fr [t.1] [d.1] f b)(o:b d.1=E (d.2,AQ (m i)))(p:∀j,j<T.length->j≠i->m j=c j):Cz b l R (T.set i d) m:=by
 have q:=(jX.1 k).1
 have r:d.1∈AE l T->d.1=t.1:=λs=>kH.1 (OX h n s)
 refine⟨?_,λj u a=>?_,YF h.nd k r⟩
 ·exact(n.cA h.rt (by rw[kH];exact λe=>KK h.nd k e.symm)).1
 ·rw[JK q]at a
  by_cases g:j=i
  ·rw[ke g]at a;injection a with a;subst a;subst g;exact o
  ·rw[j7 g]at a;rw[p j (jX.1 a).1 g];exact(n.cA (h.tp j u a) (by rw[kH];exact λe=>g (Na h.nd a k e))).1
theorem Cz.dA{e a:Ah}{R g T:List Ah}{c:Nat->List Ah}(h:Cz f e R T c)(i:Fr [e.1] [a.1] f b)(m:b a.1=E (a.2,AQ g)):Cz b a g T c:=by
 have n:a.1∈AE e T->a.1=e.1:=λd=>kH.1 (OX h i d)
 have k:=nL.1 h.nd;refine⟨m,λj u l=>(i.cA (h.tp j u l) (by rw[kH];exact KK h.nd l)).1,nL.2 ⟨λd=>?_,k.2⟩⟩;have:=n (lA _ d);rw[this]at d;exact k.1 d
theorem Cz.dz{g:Ah}{R T:List Ah}{c:Nat->List Ah}(h:Cz f g R T c){d:Ah}(l:Fr [] [d.1] f b)(o:b d.1=E (d.2,AQ (c T.length))):Cz b g R (T++[d]) c/\Fr (AE g T) (AE g (T++[d])) f b:=by
 have p:d.1∉AE g T:=λq=>by simpa using OX h l q
 have e:AE g (T++[d])=AE g T++[d.1]:=by simp[AE]
 refine⟨⟨(l.cA h.rt Δ).1,λj u i=>?_,?_⟩,?_⟩
 ·by_cases r:j<T.length
  ·rw[lj r]at i;exact(l.cA (h.tp j u i) Δ).1
  ·rw[lf Ω]at i
   have s:j - T.length=0:=by
    have:=(jX.1 i).1;simp at this;omega
   rw[s]at i;simp at i;subst i;rw[show j=T.length by omega];exact o
 ·rw[e,List.nodup_append];exact⟨h.nd,Δ,λa t w m=>by rw[kH]at m;subst m;exact λv=>p (v▸t)⟩
 ·rw[e]
  exact l.dz (λn=>⟨λh=>V ⟨h,Δ⟩,λh=>h.elim (λh=>by simp at h) (λh=>h.1)⟩) (λn=>⟨λh=>by
   rcases kY.1 h with k|k
   ·exact V ⟨k,Δ⟩
   ·exact Y k,λh=>by
   rcases h with k|k
   ·exact lY _ k
   ·exact me _ k.1⟩)
theorem Cz.fI{a:Ah}{R T:List Ah}{c:Nat->List Ah}(h:Cz b a R T c)(d:∀n x,b n=E x->n∈AE a T->f n=E x):Cz f a R T c:=
 ⟨d _ _ h.rt (GF.2 (Y rfl)),λi t e=>d _ _ (h.tp i t e) (GF.2 (V ⟨i,t,e,rfl⟩)),h.nd⟩
def Bl(a m:Nat):Nat:=(m+a - 1)/a
theorem Gu{m i:Nat}(a:0<h):i<Bl h m↔i*h<m:=by
 unfold Bl;rw[Nat.lt_div_iff_mul_lt a];omega
structure DD(d:Ap)(a b:Nat)(e:Ah)(T L:List Ah):Prop where
 aF:L.length=2^b
 df:T.length=Bl a (2^b)
 c:Cz d e T T (A0 a L)
theorem DD.fI{a:Ah}{T L:List Ah}(c:DD b h d a T L)(e:∀n x,b n=E x->n∈AE a T->f n=E x):DD f h d a T L:=
 ⟨c.aF,c.df,c.c.fI e⟩
theorem DD.cC{c:Ap}{f:Ah}{T L:List Ah}(k:DD c d g f T L){b:Au}(a:c h=E (j,b.ld)):h∉AE f T:=by
 intro l
 rcases GF.1 l with e|⟨i,t,m,e⟩
 ·rw[e,k.c.rt]at a;injection a with a;injection a with _ a;exact Qo _ _ a
 ·rw[<-e,k.c.tp i t m]at a;injection a with a;injection a with _ a;exact Qo _ _ a
theorem JF(x:BitVec 64)(p:Nat)(a:d<=h)(b:h<=20):A1 h (Ay x h) d p↔Ay x d=p:=by
 unfold A1;have:=Ox x d (h - d) Ω;rw[show d+(h - d)=h by omega]at this;rw[this]
theorem Cj.aM{L:List Ah}{B:Nat->Au}(a:Cj b d h L B)(f:h<=20){i:Nat}(c:i<2^h)(g:Ay e (B i).d=(B i).p):B (Ay e h)=B i:=
 (a.bg i _ c (JL e h Ω) ((JF e _ (a.dl i c) f).2 g)).2
theorem eU{b:Au}(a:b.ok h)(c:Ay e b.d≠b.p):A9 b.es e=none:=
 (JE a.bS e).2 (λ_ d f=>c (f▸a.aM d))
theorem Mm{B:Nat->Au}{b:Au}(d:b.d<=h)(e:h<=20)(x:BitVec 64):Ba h (Cy h B b) x=if Ay x b.d=b.p then A9 b.es x else Ba h B x:=by
 unfold Ba Cy
 by_cases a:Ay x b.d=b.p
 ·rw[ke a,ke ((JF x _ d e).2 a)]
 ·rw[j7 a,j7 (λc=>a ((JF x _ d e).1 c))]
theorem MK{L:List Ah}{B:Nat->Au}(a:Cj b d h L B)(c:h<=20){i:Nat}(f:i<2^h)(g:Ay e (B i).d=(B i).p):Ba h B e=A9 (B i).es e:=by
 unfold Ba;rw[a.aM c f g]
def FH(F a:BitVec 64->Option Af)(o:Int):Prop:=∀x,a x=F x\/(a x=none/\∃e,F x=E e/\e.r<o)
theorem FH.refl(F:BitVec 64->Option Af)(o:Int):FH F F o:=λ_=>Y rfl
theorem FH.trans{F d f:BitVec 64->Option Af}(h:FH F d i)(k:FH d f i):FH F f i:=by
 intro x
 rcases k x with a|⟨a,e,b,g⟩
 ·rw[a];exact h x
 ·rcases h x with c|⟨c,_⟩
  ·exact V ⟨a,e,by rw[<-c];exact b,g⟩
  ·rw[c]at b;cases b
theorem Oo(b:Co a)(o:Int)(x:BitVec 64):A9 (Ih o a) x=A9 a x\/(A9 (Ih o a) x=none/\∃e,A9 a x=E e/\e.r<o):=by
 have f:Co (Ih o a):=b.sublist oN
 have c:∀y,y∈Ih o a↔y∈a/\o<=y.r:=λy=>by simp[Ih]
 cases g:A9 a x with
 |none=>
  left
  rw[JE f]
  exact λy d=>(JE b x).1 g y ((c y).1 d).1
 |some e=>
  obtain⟨h,i⟩:=(IY b x e).1 g
  by_cases j:o<=e.r
  ·exact Y ((IY f x e).2 ⟨(c e).2 ⟨h,j⟩,i⟩)
  ·refine V ⟨(JE f x).2 (λy d k=>?_),e,rfl,Ω⟩;have:=To b ((c y).1 d).1 h (k.trans i.symm);subst this;exact j ((c y).1 d).2
def CG(L:List Ah):List Ah:=L.flatMap (λr=>[r,r])
theorem ML(L:List Ah):(CG L).length=L.length*2:=by
 induction L with
 |nil=>rfl
 |cons a l b=>
  simp only[CG,mh,jU,kj,kP]at b⊢;omega
theorem KF(L:List Ah)(j:Nat):(CG L)[j]?=L[j/2]?:=by
 induction L generalizing j with
 |nil=>simp[CG]
 |cons a l b=>
  match j with
  |0=>simp[CG]
  |1=>simp[CG]
  |j+2=>
   have h:=b j;simp only[CG,mh,kO,kv,mR]at h⊢;rw[h,show(j+2)/2=j/2+1 by omega,mR]
theorem Sf(a:d<=h):A1 (h+1) g d j↔A1 h (g/2) d j:=by
 unfold A1;rw[n7,show h+1 - d=(h - d)+1 by omega,mX,lM]
theorem Cj.gj{L:List Ah}{B:Nat->Au}(c:Cj b d h L B):Cj b d (h+1) (Proofs.YtcedibmdelehdaaGreatDoor.CG L) (λj=>B (j/2)):=by
 have e:∀j,j<2^(h+1)->j/2<2^h:=λj a=>by rw[mX]at a;omega
 refine⟨by rw[ML,c.aF,mX],λj r a=>?_,λj a=>c.ok _ (e j a),λj a=>nN (c.dl _ (e j a)),λj a=>(Sf (c.dl _ (e j a))).2 (c.pf _ (e j a)),λi j f a g=>?_⟩
 ·rw[KF]at a;exact c.cZ _ r a
 ·rw[KF,KF];exact c.bg _ _ (e i f) (e j a) ((Sf (c.dl _ (e i f))).1 g)
theorem dM(a:Nat)(B:Nat->Au)(h:a+1<=64)(x:BitVec 64):Ba (a+1) (λj=>B (j/2)) x=Ba a B x:=by
 unfold Ba;have:=Ox x a 1 h;rw[<-this]
def AR(b:Au):Au:=⟨b.d+1,2*b.p,b.es.filter (λx=>! Dp b.d x)⟩
def AT(b:Au):Au:=⟨b.d+1,2*b.p+1,b.es.filter (Dp b.d)⟩
theorem MU(d:Nat)(x:Af)(h:d+1<=30):Dp d x=(Ay x.h (d+1)%2==1):=by
 unfold Dp;have:=Ky x.h (d+1) h;rw[show((d:Int)+1)=((d+1:Nat):Int) by simp,this];rw[nH,nc,nc];omega
theorem Mv(x:BitVec 64)(d:Nat)(h:d+1<=64):Ay x (d+1)/2=Ay x d:=by
 have:=Ox x d 1 h;simpa using this
theorem Mr{b:Au}(c:b.ok h)(r:b.d<8):(AR b).ok h/\(AT b).ok h:=by
 have j:=(Fw.1 c).1;unfold FF at j;have e:=kQ j
 have l:(b.p:Int)<2^b.d:=by have:=e.2.2.2.2.2.2;rwa[km]at this
 have s:b.p<2^b.d:=by exact_mod_cast l
 have k:∀(q:Nat),q<2^(b.d+1)->∀(f:List Af),f.Sublist b.es->(∀x∈f,Ay x.h (b.d+1)=q)->Au.ok h ⟨b.d+1,q,f⟩:=by
  intro q m f g n;refine Fw.2 ⟨?_,λx a=>?_,c.bS.sublist g⟩
  ·unfold FF;have t:=g.length_le
   have o:(q:Int)<2^(b.d+1):=by exact_mod_cast m
   refine jT ⟨e.1,e.2.1,by have:=e.2.2.1;simp only at*;omega,by simp only;omega,by simp only;omega,by simp only;omega,?_⟩;show(q:Int)<2^((b.d+1:Nat):Int).toNat;rw[km];exact o
  ·have d:=c.gl (g.subset a);unfold Proofs.YtcedibmdelehdaaGreatDoor.CT at d⊢;rw[kh]at d⊢;refine⟨d.1,jT ?_⟩;show Ev x.h ((b.d+1:Nat):Int)=((q:Nat):Int);rw[Ky _ _ Ω,n x a]
 have u:2^(b.d+1)=2^b.d*2:=mX ..
 constructor
 ·refine k _ Ω _ oN (λx a=>?_);rw[nI,MU _ _ Ω]at a;have d:=c.aM a.1;have p:=Mv x.h b.d Ω;have i:=a.2;simp at i;omega
 ·refine k _ Ω _ oN (λx a=>?_);rw[nI,MU _ _ Ω]at a;have d:=c.aM a.1;have p:=Mv x.h b.d Ω;have i:=a.2;simp at i;omega
theorem Kp(a:d<h):A1 h g d j↔A1 h g (d+1) (2*j)\/A1 h g (d+1) (2*j+1):=by
 unfold A1
 have:g/2^(h - d)=g/2^(h - (d+1))/2:=by
  rw[n7, <-mX]
  congr 2
  omega
 rw[this];omega
theorem OK(a:A1 h g (d+1) (2*j)):¬A1 h g (d+1) (2*j+1):=by
 unfold A1 at*;omega
theorem Cj.f5{L:List Ah}{B:Nat->Au}(g:Cj f d h L B){i:Nat}{r u v:Ah}(F:L[i]?=E r){y:Au}(O:y.ok d)(P:y.d=(B i).d)(Q:y.p=(B i).p)(R:y.d<h)(h8:h<=8)
  (S:b u.1=E (u.2,(AR y).ld))(T:b v.1=E (v.2,(AT y).ld))
  (U:∀n x,f n=E x->n≠r.1->(∃(j:Nat) (q:Ah),L[j]?=E q/\q.1=n)->b n=E x):
  Cj b d h (Cr h (AR y).d (AR y).p (Cr h (AT y).d (AT y).p L v) u) (Cy h (Cy h B (AT y)) (AR y)):=by
 obtain⟨W,X⟩:=Mr O Ω
 have A:∀j,A1 h j (B i).d (B i).p↔A1 h j (AR y).d (AR y).p\/A1 h j (AT y).d (AT y).p:=λj=>by rw[<-P, <-Q];exact Kp R
 have G:∀j,A1 h j (AR y).d (AR y).p->¬A1 h j (AT y).d (AT y).p:=λj g=>OK g
 have s:∀j,Cy h (Cy h B (AT y)) (AR y) j=if A1 h j (AR y).d (AR y).p then AR y else if A1 h j (AT y).d (AT y).p then AT y else B j:=λj=>rfl
 have C:∀j,(Cr h (AR y).d (AR y).p (Cr h (AT y).d (AT y).p L v) u)[j]?=if A1 h j (AR y).d (AR y).p then(L[j]?).map (λ_=>u)else if A1 h j (AT y).d (AT y).p then(L[j]?).map (λ_=>v)else L[j]?:=by
  intro j;rw[Ew,Ew]
  by_cases e:A1 h j (AR y).d (AR y).p
  ·rw[ke e,ke e,j7 (G j e)]
  ·rw[j7 e,j7 e]
 have ad:(AR y).d=y.d+1:=rfl;have ae:(AT y).d=y.d+1:=rfl;generalize AR y=p at*;generalize AT y=t at*;refine⟨by rw[Ml,Ml];exact g.aF,λj q a=>?_,λj a=>?_,λj a=>?_,λj a=>?_,λj k a D m=>?_⟩
 ·rw[C]at a;rw[s]
  by_cases e:A1 h j p.d p.p
  ·rw[ke e]at a⊢
   cases w:L[j]? with
   |none=>rw[w]at a;cases a
   |some x=>
    rw[w]at a;simp only[oe,oh]at a;subst a;exact S
  ·rw[j7 e]at a⊢
   by_cases o:A1 h j t.d t.p
   ·rw[ke o]at a⊢
    cases w:L[j]? with
    |none=>rw[w]at a;cases a
    |some x=>
     rw[w]at a;simp only[oe,oh]at a;subst a;exact T
   ·rw[j7 o]at a⊢;exact U _ _ (g.cZ j q a) (g.bP F a (λc=>((A j).1 c).elim e o)) ⟨j,q,a,rfl⟩
 ·rw[s]
  split
  ·exact W
  ·split
   ·exact X
   ·exact g.ok j a
 ·rw[s]
  split
  ·omega
  ·split
   ·omega
   ·exact g.dl j a
 ·rw[s]
  split
  ·assumption
  ·split
   ·assumption
   ·exact g.pf j a
 ·rw[s,s];rw[s]at m;rw[C,C];have H:=jW (l:=L) (by rw[g.aF];exact a);have I:=jW (l:=L) (by rw[g.aF];exact D)
  by_cases e:A1 h j p.d p.p
  ·rw[ke e]at m⊢;rw[ke m,ke m,ke e,H,I];exact⟨rfl,rfl⟩
  ·rw[j7 e]at m⊢
   by_cases o:A1 h j t.d t.p
   ·rw[ke o]at m⊢
    have z:¬A1 h k p.d p.p:=λc=>G k c m
    rw[j7 z,j7 z,ke m,ke m,j7 e,ke o,H,I];exact⟨rfl,rfl⟩
   ·rw[j7 o]at m⊢;obtain⟨Z,J⟩:=g.bg j k a D m
    have K:¬A1 h k (B i).d (B i).p:=λhc=>by
     have g1:=g.bg i k (g.lt F) D hc;have M:=g.pf j a;rw[<-J,g1.2]at M;exact((A j).1 M).elim e o
    have z:¬A1 h k p.d p.p:=λc=>K ((A k).2 (Y c))
    have N:¬A1 h k t.d t.p:=λc=>K ((A k).2 (V c))
    rw[j7 z,j7 N,j7 z,j7 N,j7 e,j7 o];exact⟨Z,J⟩
theorem Cj.ik{L:List Ah}{B:Nat->Au}(c:Cj b d h L B){i:Nat}{r r1:Ah}(e:L[i]?=E r){y:Au}(g:y.d=(B i).d)(k:y.p=(B i).p)(l:y.d<h):
  Cr h (AR y).d (AR y).p (Cr h (AT y).d (AT y).p L r1) r=Cr h (AT y).d (AT y).p L r1:=by
 refine lR (λj=>?_);rw[Ew,Ew]
 by_cases a:A1 h j (AR y).d (AR y).p
 ·rw[ke a,j7 (show¬A1 h j (AT y).d (AT y).p from OK a)]
  cases f:L[j]? with
  |none=>rfl
  |some x=>
   have m:A1 h j (B i).d (B i).p:=by rw[<-g, <-k];exact(Kp l).2 (Y a)
   have:=(c.bg i j (c.lt e) (c.lt f) m).1;rw[f,e]at this;exact this.symm
 ·rw[j7 a]
theorem Cj.fX{g:Ap}{L:List Ah}{B:Nat->Au}(c:Cj g d h L B){i:Nat}{r:Ah}(e:L[i]?=E r){b:Au}(k:b.d=(B i).d)(l:b.p=(B i).p):Cr h b.d b.p L r=L:=by
 refine lR (λj=>?_);rw[Ew]
 by_cases a:A1 h j b.d b.p
 ·rw[ke a]
  cases f:L[j]? with
  |none=>rfl
  |some x=>
   rw[k,l]at a;have:=(c.bg i j (c.lt e) (c.lt f) a).1;rw[f,e]at this;exact this.symm
 ·rw[j7 a]
theorem Yp{y:Au}(a:y.ok h)(g:y.d<8)(x:BitVec 64):(if Ay x (AR y).d=(AR y).p then A9 (AR y).es x else if Ay x (AT y).d=(AT y).p then A9 (AT y).es x else none)=A9 y.es x:=by
 obtain⟨i,j⟩:=Mr a g;have k:=Mv x y.d Ω
 by_cases c:Ay x y.d=y.p
 ·by_cases b:Ay x (AR y).d=(AR y).p
  ·rw[ke b];refine MI i.bS a.bS x (λe d=>?_)
   have:Dp y.d e=false:=by
    rw[MU _ _ Ω,d];have:Ay x (y.d+1)=2*y.p:=b;rw[this];simp
   simp[AR,this]
  ·have f:Ay x (AT y).d=(AT y).p:=by
    show Ay x (y.d+1)=2*y.p+1;have:¬Ay x (y.d+1)=2*y.p:=b;omega
   rw[j7 b,ke f];refine MI j.bS a.bS x (λe d=>?_)
   have:Dp y.d e=true:=by
    rw[MU _ _ Ω,d];have:Ay x (y.d+1)=2*y.p+1:=f;rw[this];simp
   simp[AT,this]
 ·rw[eU a c,j7 (show¬Ay x (AR y).d=(AR y).p from λe=>(show¬Ay x (y.d+1)=2*y.p by omega) e),j7 (show¬Ay x (AT y).d=(AT y).p from λe=>(show¬Ay x (y.d+1)=2*y.p+1 by omega) e)]
theorem Yc{L:List Ah}{B:Nat->Au}(_:Cj b d h L B){i:Nat}(_:i<2^h){y:Au}(g:y.ok d)(m:y.d=(B i).d)(n:y.p=(B i).p)(o:y.d<h)(p:h<=8)(x:BitVec 64):
  Ba h (Cy h (Cy h B (AT y)) (AR y)) x=if Ay x y.d=y.p then A9 y.es x else Ba h B x:=by
 have j:=Yp g Ω x;have q:=Mv x y.d Ω;have r:(AR y).d=y.d+1:=rfl;have s:(AT y).d=y.d+1:=rfl;rw[Mm Ω Ω,Mm Ω Ω]
 by_cases c:Ay x y.d=y.p
 ·rw[ke c];rw[<-j]
  by_cases a:Ay x (AR y).d=(AR y).p
  ·rw[ke a,ke a]
  ·have f:Ay x (AT y).d=(AT y).p:=by
    show Ay x (y.d+1)=2*y.p+1;have:¬Ay x (y.d+1)=2*y.p:=a;omega
   rw[j7 a,j7 a,ke f,ke f]
 ·rw[j7 c,j7 (show¬Ay x (AR y).d=(AR y).p from λe=>(show¬Ay x (y.d+1)=2*y.p by omega) e),j7 (show¬Ay x (AT y).d=(AT y).p from λe=>(show¬Ay x (y.d+1)=2*y.p+1 by omega) e)]
end
