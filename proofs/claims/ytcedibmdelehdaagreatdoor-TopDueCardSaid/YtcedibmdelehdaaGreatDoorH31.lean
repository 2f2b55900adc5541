/- Lemmas. -/
import Derived.Test.YtcedibmdelehdaaGreatDoorH14
import Derived.Test.YtcedibmdelehdaaGreatDoorH30
namespace Go.Proofs.YtcedibmdelehdaaGreatDoor
set_option maxRecDepth 100000
set_option maxHeartbeats 32000000
open Option renaming none->E,some->V
open Bool renaming true->J,false->Ax
open Go renaming World->O,Value->A3
open Or renaming inl->Y,inr->Z
open Go.Value renaming pointer->AA,int->A2
variable{h p:Int->List Nat}{a g j l q w x y z A B:Nat}{b:Pl}{c:List Nat}{d n:O}{e r:Ad}{f s t v:Nat->Bool}{i:Int->Option Pg}{k:Ap}{o:A3}
section
open Go.RowKit
def Da(f:Nat->Bool)(i:Int):Option A3:=if 0<=i/\f i.toNat=J then V (.bool J)else E
theorem Tb(f:Nat->Bool)(k:Nat):Da f (k:Int)=if f k=J then V (.bool J)else E:=by
 unfold Da;simp
def Gq(f:Nat->Bool)(k:Nat):Nat->Bool:=λj=>decide (j=k)||f j
def Jg(f:Nat->Bool)(k:Nat):Nat->Bool:=λj=>! decide (j=k)&&f j
theorem SX(f:Nat->Bool)(k:Nat):Ec (Da f) (k:Int) (.bool J)=Da (Gq f k):=by
 funext j
 unfold Ec Da Gq
 by_cases h:j=(k:Int)
 ·subst h;simp
 ·rw[j7 h]
  by_cases a:0<=j
  ·have:¬j.toNat=k:=by omega
   simp[this]
  ·simp[a]
theorem YN(f:Nat->Bool)(k:Nat):FN (Da f) (k:Int)=Da (Jg f k):=by
 funext j
 unfold FN Da Jg
 by_cases h:j=(k:Int)
 ·subst h;simp
 ·rw[j7 h]
  by_cases a:0<=j
  ·have:¬j.toNat=k:=by omega
   simp[this]
  ·simp[a]
def FW(P:Pl)(a:Int->Option Pg)(d:Int->List Nat)(k b:Nat)(c:List Nat):Prop:=
 a (k:Int)=V (b,c,J)\/((a (k:Int)=E\/a (k:Int)=V (b,c,Ax))/\d ((P.aK+k:Nat):Int)=BO P.n 2 k b c)
structure FL(P:Pl)(b k c:Nat)(a:List Nat):Prop where
 lt:k<P.a2
 aF:a.length<=P.n - 19
 bx:∀x∈a,x<256
 fQ:c<=b
structure BZ(P:Pl)(f:Nat)(g h b c:Nat->Bool)(j:Int->Option Pg)(m:Int->List Nat)(a:Ap):Prop where
 dm:∀k,g k=J->a k≠E\/b k=J\/c k=J
 dk:∀k,a k≠E\/b k=J\/c k=J->g k=J
 cN:∀k,h k=J->a k≠E
 dC:∀k,b k=J->a k=E
 dO:∀k,c k=J->a k=E
 eQ:∀k,b k=J->c k=Ax
 eP:∀k,b k=J->k<P.a2
 fv:∀k,c k=J->k<P.a2
 bs:∀k d e,a k=V (d,e)->FW P j m k d e/\FL P f k d e
 bU:∀i d e n,j i=V (d,e,n)->∃k:Nat,i=k/\FL P f k d e
 ah:∃l:List Nat,l.length<=P.bv/\∀k,h k=Ax->(a k≠E\/b k=J)->k∈l
 fx:∃l:List Nat,l.length<=P.bv/\∀k,c k=J->k∈l
structure Bu(w:O)(a:Ad)(s d:Nat)(P:Pl)(q f B g i b c e h:Nat)(j k l m:Nat->Bool)(n:Int->Option Pg):Prop where
 u:Aa w s 196 (AA (V ⟨d,0,E⟩)::(P.cells++[A2 .i64 P.aK,A2 .i64 P.a2,A2 .i64 (P.n - 19:Nat),A2 .i64 f,AA (V ⟨B,0,E⟩),.map (V b),.map (V c),.map (V e),AA (V ⟨h,0,E⟩)]))
 aR:SF w B g P.a2 i j
 mf:MF w Tryz.prog 3 b q (Da k)
 my:MF w Tryz.prog 3 c q (Da l)
 md:MF w Tryz.prog 3 e q (Da m)
 cs:DR w a h P.a7 q n
 fy:b≠c
 fd:b≠e
 yd:c≠e
 c0:a s=3
 c1:a B=3
 c2:a g=3
 c3:a b=3
 c4:a c=3
 c5:a e=3
 dX:a 0=0
 q1:f<=q+1
def DF(w:O)(i:Ad)(s d:Nat)(P:Pl)(q a:Nat)(j:Ap)(k:Int->List Nat):Prop:=
 ∃B g l m n o p b c e f h,Bu w i s d P q a B g l m n o p b c e f h/\BZ P a b c e f h k j
theorem SF.eh(h:SF d a g j l f):a<d.heap.size/\g<d.heap.size/\l<j/\0<d.heap.size:=by
 obtain⟨c,i,b,_⟩:=h;obtain⟨k,e⟩:=b.aB;exact⟨b.u.lt,e.lt,b.hd,b.fw⟩
theorem Bu.am{col':Ad}{S:Nat->Prop}(h:Bu d e a g b j l q w x y z A B f s t v i)(o:Ac S d n)(c:∀k,e k=3\/e k=2\/e k=0->¬S k)(m:∀k,k<d.heap.size->col' k=e k):Bu n col' a g b j l q w x y z A B f s t v i:=
 {h with
  u:=o.u h.u (c _ (Y h.c0))
  aR:=h.aR.ak o (c _ (Y h.c1)) (c _ (Y h.c2)) (c _ (Z (Z h.dX)))
  mf:=h.mf.ak o (c _ (Y h.c3))
  my:=h.my.ak o (c _ (Y h.c4))
  md:=h.md.ak o (c _ (Y h.c5))
  cs:=h.cs.am o (λk p=>c k (Z p)) m
  c0:=by rw[m _ h.u.lt];exact h.c0
  c1:=by rw[m _ h.aR.eh.1];exact h.c1
  c2:=by rw[m _ h.aR.eh.2.1];exact h.c2
  c3:=by rw[m _ h.mf.lt];exact h.c3
  c4:=by rw[m _ h.my.lt];exact h.c4
  c5:=by rw[m _ h.md.lt];exact h.c5
  dX:=by rw[m _ h.aR.eh.2.2.2];exact h.dX}
theorem Bu.grown(h:Bu d e a g b j l q w x y z A B f s t v i)(c:d.grownBy n E):Bu n e a g b j l q w x y z A B f s t v i:=
 h.am (Ac.au (S:=λ_=>False) c) (λ_ _ h=>h) (λ_ _=>rfl)
theorem Bu.ae{C:Nat->Prop}(h:Bu d e a g b j l q w x y z A B f s t v i)(k:Ab C d e n r)(o:¬C 3)(p:¬C 2)(u:¬C 0):Bu n r a g b j l q w x y z A B f s t v i:=
 h.am k.ak (λE D c=>by
  rcases D with m|m|m
  ·rw[m]at c;exact o c
  ·rw[m]at c;exact p c
  ·rw[m]at c;exact u c) k.ah
theorem Bu.mono{k:Nat}(h:Bu d e a g b j q w x y z A B k f s t v i)(c:j<=l):Bu d e a g b l q w x y z A B k f s t v i:=
 {h with mf:=h.mf.mono c,my:=h.my.mono c,md:=h.md.mono c,cs:=h.cs.mono c,q1:=j8 h.q1 (mJ c)}
theorem DF.ae{C:Nat->Prop}(c:DF d e a g b j l k h)(f:Ab C d e n r)(i:¬C 3)(m:¬C 2)(o:¬C 0):DF n r a g b j l k h:=
 let⟨B,p,q,s,t,u,v,w,x,y,z,A,D,F⟩:=c
 ⟨B,p,q,s,t,u,v,w,x,y,z,A,D.ae f i m o,F⟩
theorem DF.grown(c:DF d e a g b j l k h)(f:d.grownBy n E):DF n e a g b j l k h:=
 let⟨B,i,m,o,p,q,r,s,t,u,v,w,x,y⟩:=c
 ⟨B,i,m,o,p,q,r,s,t,u,v,w,x.grown f,y⟩
theorem DF.mono(c:DF d e a g b j q k h)(f:j<=l):DF d e a g b l q k h:=
 let⟨B,i,m,n,o,p,r,s,t,u,v,w,x,y⟩:=c
 ⟨B,i,m,n,o,p,r,s,t,u,v,w,x.mono f,y⟩
def JT(P:Pl)(a b:Int->List Nat):Prop:=∀k,k<P.a2->b ((P.aK+k:Nat):Int)=a ((P.aK+k:Nat):Int)
def AN(P:Pl)(a b:Int->List Nat):Prop:=∀i:Int,(i<(P.aK:Nat)\/((P.aK+P.a2:Nat):Int)<=i)->b i=a i
theorem AN.refl(P:Pl)(a:Int->List Nat):AN P a a:=λ_ _=>rfl
theorem AN.trans{a:Int->List Nat}(d:AN b h p)(k:AN b p a):AN b h a:=λi c=>(k i c).trans (d i c)
theorem BZ.c9(c:BZ b a f s t v i h k)(l:JT b h p):BZ b a f s t v i p k:=
 {c with bs:=λd e g j=>⟨(c.bs d e g j).1.imp id (λ⟨m,n⟩=>⟨m,(l d (c.bs d e g j).2.lt).trans n⟩),(c.bs d e g j).2⟩}
theorem DF.c9(c:DF d e a g b j l k h)(f:JT b h p):DF d e a g b j l k p:=
 let⟨B,i,m,n,o,q,r,s,t,u,v,w,x,y⟩:=c
 ⟨B,i,m,n,o,q,r,s,t,u,v,w,x,y.c9 f⟩
structure SD(w:O)(a:Ad)(s d:Nat)(P:Pl)(q c:Nat)(e:Ap)(b:Int->List Nat):Prop where
 bJ:DF w a s d P q c e b
 bI:AD w a d P.ss P.n q b
 cl:Aw w a
 a1:P.aU
theorem SD.ae{C:Nat->Prop}(c:SD d e a g b j l k h)(f:Ab C d e n r)(i:¬C 3)(m:¬C 2)(o:¬C 1)(p:¬C 0):SD n r a g b j l k h:=
 ⟨c.bJ.ae f i m p,c.bI.ae f o,f.new,c.a1⟩
theorem SD.grown(c:SD d e a g b j l k h)(f:d.grownBy n E):SD n e a g b j l k h:=
 ⟨c.bJ.grown f,c.bI.grown f,c.cl.grown f,c.a1⟩
theorem SD.mono(c:SD d e a g b j q k h)(f:j<=l):SD d e a g b l q k h:=
 ⟨c.bJ.mono f,c.bI.mono f,c.cl,c.a1⟩
def BM(P:Pl)(q i:Nat):Nat:=q%P.rg*P.rs+i
abbrev Bz:=Nat->List Nat
def Ck(a:Bz)(b:Nat)(c:List Nat):Bz:=λk=>if k=b then a k++c else a k
theorem CW(b:Bz)(a:Nat)(c:List Nat):Ck b a c a=b a++c:=ke rfl
theorem Gb(b:Bz)(c:List Nat)(h:a≠g):Ck b g c a=b a:=j7 h
theorem OM(a:Bz)(b:Nat):Ck a b []=a:=by
 funext k
 unfold Ck;simp
theorem Mn(b:Bz)(a:Nat)(c d:List Nat):Ck (Ck b a c) a d=Ck b a (c++d):=by
 funext k
 unfold Ck
 by_cases h:k=a
 ·simp[h]
 ·simp[h]
theorem KU(h:b.aU){q i:Nat}(d:i<b.rs):BM b q i<b.rg*b.rs:=by
 have a:q%b.rg<b.rg:=lT _ (Ψ h.gS);have c:(q%b.rg+1)*b.rs<=b.rg*b.rs:=mg _ a;unfold BM;rw[mS]at c;omega
theorem TY{i:Nat}(c:i<b.rs)(d:a<b.rs)(h:BM b g i=BM b j a):g%b.rg=j%b.rg/\i=a:=by
 unfold BM at h
 have e:(g%b.rg*b.rs+i)/b.rs=g%b.rg:=by
  rw[lM,oY Ω,nw c,lD]
 have k:(j%b.rg*b.rs+a)/b.rs=j%b.rg:=by
  rw[lM,oY Ω,nw d,lD]
 have f:(g%b.rg*b.rs+i)%b.rs=i:=by rw[qd,ny c]
 have l:(j%b.rg*b.rs+a)%b.rs=a:=by rw[qd,ny d]
 rw[h]at e f;exact⟨e.symm.trans k,f.symm.trans l⟩
theorem Zy(c:a<g)(d:g<a+j):a%j≠g%j:=by
 intro e;have b:=Nat.sub_mod_eq_zero_of_mod_eq e.symm;have f:=Nat.le_of_dvd Ω (Nat.dvd_of_mod_eq_zero b);omega
structure Cl(P:Pl)(b:Nat)(c:List Nat)(a:Bz)(d:Int->List Nat):Prop where
 dh:∀q,(a q).length<=P.aI
 bx:∀q,∀x∈a q,x<256
 fM:c=(a b).drop ((a b).length/(P.n - 19)*(P.n - 19))
 ew:∀q,b<q->a q=[]
 fZ:∀q,q<b->(a q).length%(P.n - 19)=0
 fq:∀q i,1<=q->q<=b->b<q+P.rg->(i+1)*(P.n - 19)<=(a q).length->
  d ((P.region+BM P q i:Nat):Int)=BO P.n 3 (BM P q i) q (((a q).drop (i*(P.n - 19))).take (P.n - 19))
theorem ce(l:List Nat):(l.drop (l.length/a*a)).length=l.length%a:=by
 rw[kK];have:=lW l.length a;rw[lM]at this;omega
theorem Cl.dN{d:Bz}(e:Cl b a c d h):c.length=(d a).length%(b.n - 19):=by rw[e.fM];exact ce _
theorem Cl.ft{d:Bz}(e:Cl b a c d h)(f:b.aU):c.length<b.n - 19:=by
 rw[e.dN];have:=f.n0;exact lT _ Ω
theorem Cl.gB{e:Bz}(d:Cl b a c e h):∀x∈c,x<256:=by
 rw[d.fM]
 exact λx f=>d.bx a x (nj f)
theorem Jz{P:Pl}{L i:Nat}(b:0<a)(c:L<=P.rs*a)(d:(i+1)*a<=L):i<P.rs:=by
 have e:(i+1)*a<=P.rs*a:=j8 d c;exact Nat.le_of_mul_le_mul_right e b
theorem Oz{L k:Nat}(b:0<a)(h:L%a+k<a):(L+k)/a=L/a:=by
 have c:=lW L a;rw[show L+k=a*(L/a)+(L%a+k) by omega,oY b,nw h,lD]
theorem JI{L k:Nat}(b:0<a)(h:L%a+k=a):(L+k)/a=L/a+1/\(L/a+1)*a=L+k:=by
 have d:=lW L a
 have c:L+k=a*(L/a+1):=by rw[pk,mL];omega
 rw[c];exact⟨Nat.mul_div_cancel_left _ b,lM _ _⟩
theorem I4{i:Nat}(b:0<a):(i+1)*a<=g↔i<g/a:=by
 rw[<-Nat.le_div_iff_mul_le b];omega
theorem SU{b:List Nat}{i:Nat}(h:(i+1)*a<=c.length):((c++b).drop (i*a)).take a=(c.drop (i*a)).take a:=by
 rw[mS,nZ]at h;rw[mM Ω,nk (by rw[kK];omega)]
theorem Cl.grow{m:Bz}(d:Cl b a c m h)(u:b.aU)(f:List Nat)(v:∀x∈f,x<256)
  (o:c.length+f.length<b.n - 19)(w:(m a).length+f.length<=b.aI):Cl b a (c++f) (Ck m a f) h:=by
 have j:0<b.n - 19:=by have:=u.n0;omega
 have p:=d.dN;refine⟨λq=>?_,λq x l=>?_,?_,λq n=>?_,λq n=>?_,λq i r s t g=>?_⟩
 ·by_cases e:q=a
  ·subst e;rw[CW,jU];exact w
  ·rw[Gb _ _ e];exact d.dh q
 ·by_cases e:q=a
  ·subst e;rw[CW]at l
   rcases kY.1 l with k|k
   ·exact d.bx _ _ k
   ·exact v _ k
  ·rw[Gb _ _ e]at l;exact d.bx _ _ l
 ·rw[CW,jU,Oz j (by rw[<-p];exact o),mM (oO _ _), <-d.fM]
 ·rw[Gb _ _ Ω];exact d.ew q n
 ·rw[Gb _ _ Ω];exact d.fZ q n
 ·by_cases e:q=a
  ·subst e;rw[CW,jU,I4 j,Oz j (by rw[<-p];exact o), <-I4 j]at g;rw[CW,SU g];exact d.fq q i r s t g
  ·rw[Gb _ _ e]at g⊢;exact d.fq q i r s t g
theorem Cl.gO{d:Bz}(f:Cl b a c d h)(C:b.aU)(g:List Nat)(D:∀x∈g,x<256)
  (E:c.length+g.length=b.n - 19)(u:(d a).length+g.length<=b.aI):
  Cl b a [] (Ck d a g) (Cu h ((b.region+BM b a ((d a).length/(b.n - 19)):Nat):Int) (BO b.n 3 (BM b a ((d a).length/(b.n - 19))) a (c++g))):=by
 have j:0<b.n - 19:=by have:=C.n0;omega
 have F:=f.dN;obtain⟨v,w⟩:=JI (L:=(d a).length) (k:=g.length) j (by rw[<-F];exact E);have n:b.aI=b.rs*(b.n - 19):=rfl;have y:(d a).length/(b.n - 19)<b.rs:=Jz j (by rw[<-n];exact u) (by rw[w];exact jS _);refine⟨λq=>?_,λq x l=>?_,?_,λq o=>?_,λq o=>?_,λq i z A p m=>?_⟩
 ·by_cases e:q=a
  ·subst e;rw[CW,jU];exact u
  ·rw[Gb _ _ e];exact f.dh q
 ·by_cases e:q=a
  ·subst e;rw[CW]at l
   rcases kY.1 l with k|k
   ·exact f.bx _ _ k
   ·exact D _ k
  ·rw[Gb _ _ e]at l;exact f.bx _ _ l
 ·rw[CW,jU,v,w, <-jU,List.drop_length]
 ·rw[Gb _ _ Ω];exact f.ew q o
 ·rw[Gb _ _ Ω];exact f.fZ q o
 ·unfold Cu
  by_cases e:q=a
  ·subst e;rw[CW,jU,I4 j,v]at m
   by_cases B:i=(d q).length/(b.n - 19)
   ·subst B;rw[ke rfl,CW,mM (oO _ _), <-f.fM,lF (by rw[jU];omega)]
   ·have r:(i+1)*(b.n - 19)<=(d q).length:=(I4 j).2 Ω;have s:i<b.rs:=Jz j (by rw[<-n];exact f.dh q) r
    rw[j7 (by
     intro e
     have t:b.region+BM b q i=b.region+BM b q ((d q).length/(b.n - 19)):=by exact_mod_cast e
     exact B (TY s y (oQ t)).2),CW,SU r]
    exact f.fq q i z A p r
  ·rw[Gb _ _ e]at m⊢;have s:i<b.rs:=Jz j (by rw[<-n];exact f.dh q) m
   rw[j7 (by
    intro G
    have t:b.region+BM b q i=b.region+BM b a ((d a).length/(b.n - 19)):=by exact_mod_cast G
    exact Zy Ω p (TY s y (oQ t)).1)]
   exact f.fq q i z A p m
theorem Cl.iL{f:Bz}(d:Cl b a c f h)(j:b.aU)(k:(f a).length%(b.n - 19)=0):Cl b (a+1) [] f h:=by
 have n:0<b.n - 19:=by have:=j.n0;omega
 refine⟨d.dh,d.bx,?_,λq l=>d.ew q Ω,λq l=>?_,λq i m o p g=>?_⟩
 ·rw[d.ew (a+1) Ω,List.drop_nil]
 ·by_cases e:q=a
  ·subst e;exact k
  ·exact d.fZ q Ω
 ·by_cases e:q=a+1
  ·subst e;rw[d.ew _ Ω]at g;have:=qO (b.n - 19) (Nat.succ_pos i);simp only[kP,Nat.succ_eq_add_one]at*;omega
  ·exact d.fq q i m Ω Ω g
def KT(P:Pl)(a b:Int->List Nat):Prop:=∀i:Nat,i<P.rg*P.rs->b ((P.region+i:Nat):Int)=a ((P.region+i:Nat):Int)
def DN(P:Pl)(a b:Int->List Nat):Prop:=∀i:Int,(i<(P.region:Nat)\/(P.aK:Int)<=i)->b i=a i
theorem DN.refl(P:Pl)(a:Int->List Nat):DN P a a:=λ_ _=>rfl
theorem DN.trans{a:Int->List Nat}(d:DN b h p)(k:DN b p a):DN b h a:=λi c=>(k i c).trans (d i c)
theorem Pl.eI(P:Pl):P.aK=P.region+P.rg*P.rs:=rfl
theorem DN.dn(c:b.aU)(a:Int->List Nat){q i:Nat}(d:i<b.rs)(e:List Nat):DN b a (Cu a ((b.region+BM b q i:Nat):Int) e):=by
 intro k f;have g:=KU c (q:=q) d;have j:=b.eI;unfold Cu
 rw[j7 (by
  rintro rfl
  rcases f with h|h
  ·have:b.region+BM b q i<b.region:=by exact_mod_cast h
   omega
  ·have:b.aK<=b.region+BM b q i:=by exact_mod_cast h
   omega)]
theorem DN.eN(a:DN b h p):JT b h p:=λk _=>a _ (Z (by push_cast;omega))
theorem AN.ed(a:AN b h p):KT b h p:=λk c=>a _ (Y (by have:=b.eI;exact_mod_cast (by omega:b.region+k<b.aK)))
theorem Cl.c9{e:Bz}(d:Cl b a c e h)(f:b.aU)(j:KT b h p):Cl b a c e p:=
 ⟨d.dh,d.bx,d.fM,d.ew,d.fZ,λq i k l m g=>by
  have n:0<b.n - 19:=by have:=f.n0;omega
  rw[j _ (KU f (Jz n (d.dh q) g))]
  exact d.fq q i k l m g⟩
def Gi(P:Pl):Bz:=λk=>if k=0 then AJ P.aI else[]
theorem Cl.ad(P:Pl)(c:P.aU)(d:Int->List Nat):Cl P 0 [] (Gi P) d:=by
 have e:0<P.n - 19:=by have:=c.n0;omega
 refine⟨λq=>?_,λq x a=>?_,?_,λq b=>j7 Ω,λq b=>absurd b Ω,λq i g f=>absurd f Ω⟩
 ·unfold Gi
  split
  ·simp[AJ]
  ·simp
 ·unfold Gi at a
  split at a
  ·have:=lN a;omega
  ·cases a
 ·show[]=List.drop _ (AJ P.aI);rw[mY];show(AJ P.aI).length<=(AJ P.aI).length/(P.n - 19)*(P.n - 19);rw[show(AJ P.aI).length=P.rs*(P.n - 19)from mw,Nat.mul_div_cancel _ e];exact jS _
structure A8(w:O)(c:Ad)(g d:Nat)(P:Pl)(f h:Nat)(a:A3)(e:List Nat):Prop where
 u:Aa w g 172 (AA (V ⟨d,0,E⟩)::(P.cells++(P.c7++[A2 .i64 (P.n - 19:Nat),A2 .i64 f,A2 .i64 h,a])))
 aM:w.ownsRow 0 5 1 a e.length (Ao e)
 c0:c g=4
 cp:∀b,a.ownBlock=V b->c b=4
theorem A8.am{S:Nat->Prop}(h:A8 d e a g b j l o c)(m:Ac S d n)(p:∀k,e k=4->¬S k)(q:∀k,k<d.heap.size->r k=e k):A8 n r a g b j l o c:=
 ⟨m.u h.u (p _ h.c0),m.aL h.aM (λf i=>p _ (h.cp f i)),by rw[q _ h.u.lt];exact h.c0,λf i=>by rw[q _ (h.aM.lt f i).2];exact h.cp f i⟩
theorem A8.grown(h:A8 d e a g b j l o c)(f:d.grownBy n E):A8 n e a g b j l o c:=
 h.am (Ac.au (S:=λ_=>False) f) (λ_ _ h=>h) (λ_ _=>rfl)
theorem A8.ae{C:Nat->Prop}(h:A8 d e a g b j l o c)(k:Ab C d e n r)(i:¬C 4):A8 n r a g b j l o c:=
 h.am k.ak (λp m f=>by rw[m]at f;exact i f) k.ah
def Ds(w:O)(e:Ad)(g d:Nat)(P:Pl)(a:Nat)(b:Bz)(f:Int->List Nat):Prop:=
 ∃h c,A8 w e g d P a (b a).length h c/\Cl P a c b f
theorem Ds.ae{C:Nat->Prop}{c:Bz}(f:Ds d e a g b j c h)(k:Ab C d e n r)(i:¬C 4):Ds n r a g b j c h:=
 let⟨l,m,o,p⟩:=f
 ⟨l,m,o.ae k i,p⟩
theorem Ds.grown{c:Bz}(f:Ds d e a g b j c h)(i:d.grownBy n E):Ds n e a g b j c h:=
 let⟨k,l,m,o⟩:=f
 ⟨k,l,m.grown i,o⟩
theorem Ds.c9{c:Bz}(f:Ds d e a g b j c h)(i:b.aU)(k:KT b h p):Ds d e a g b j c p:=
 let⟨l,m,n,o⟩:=f
 ⟨l,m,n,o.c9 i k⟩
theorem A8.cells(h:A8 d e a g b j l o c):
  d.cell? ⟨a,0,E⟩=V (AA (V ⟨g,0,E⟩))/\d.cell? ⟨a,3,E⟩=V (A2 .i64 b.rg)/\d.cell? ⟨a,4,E⟩=V (A2 .i64 b.rs)/\d.cell? ⟨a,10,E⟩=V (A2 .i64 b.region)/\d.cell? ⟨a,16,E⟩=V (A2 .i64 b.aI)/\
  d.cell? ⟨a,17,E⟩=V (A2 .i64 (b.n - 19:Nat))/\d.cell? ⟨a,18,E⟩=V (A2 .i64 j)/\d.cell? ⟨a,19,E⟩=V (A2 .i64 l)/\d.cell? ⟨a,20,E⟩=V o:=
 ⟨h.u.m 0,h.u.m 3,h.u.m 4,h.u.m 10,h.u.m 16,h.u.m 17,h.u.m 18,h.u.m 19,h.u.m 20⟩
end
section
open Go.RowKit
structure Hc(P:Pl)(n:Nat)(p:Pg)(d a:Int->Option Pg)(b c:Int->List Nat):Prop where
 d3:a (n:Int)=V p
 jf:∀i:Int,i≠n->a i=d i\/a i=E
 bs:∀k:Nat,k≠n->k<P.a2->∀e f,FW P d b k e f->FW P a c k e f
 cA:c ((P.aK+n:Nat):Int)=b ((P.aK+n:Nat):Int)
 on:AN P b c
variable {P:Pl} {gen:Nat} {tk fr dy dd:Nat->Bool} {mem mem':Int->Option Pg} {ct ct':Int->List Nat} {pg:Ap}
theorem Hc.bU{d:Bool}(h:Hc P g (a,c,d) mem mem' ct ct')(j:∀i a c d,mem i=V (a,c,d)->∃k:Nat,i=k/\FL P gen k a c)(l:FL P gen g a c):∀i a c d,mem' i=V (a,c,d)->∃k:Nat,i=k/\FL P gen k a c:=by
 intro i m n o b
 by_cases e:i=g
 ·subst e;rw[h.d3]at b
  cases b
  exact⟨g,rfl,l⟩
 ·rcases h.jf i e with f|f
  ·rw[f]at b;exact j i _ _ _ b
  ·rw[f]at b
   cases b
theorem BZ.iF(h:BZ P gen tk fr dy dd mem ct pg)(j:mem a=V (g,c,J)):BZ P gen tk fr dy dd mem (Cu ct ((P.aK+a:Nat):Int) (BO P.n 2 a g c)) pg:=by
 refine{h with bs:=λk d f i=>⟨?_,(h.bs k d f i).2⟩};have b:=(h.bs k d f i).1
 by_cases e:k=a
 ·subst e;unfold FW at b⊢;rw[j]at b⊢
  rcases b with b|⟨b|b,_⟩
  ·exact Y b
  ·cases b
  ·injection b with b;injection b with _ b;injection b with _ b;cases b
 ·unfold FW at b⊢;rw[show Cu ct ((P.aK+a:Nat):Int) (BO P.n 2 a g c) ((P.aK+k:Nat):Int)=ct ((P.aK+k:Nat):Int)from j7 (λl=>e (oQ (n:=P.aK) (by exact_mod_cast l)))];exact b
theorem BZ.ip(h:BZ P gen tk fr dy dd mem ct pg)(m:mem a=V (g,c,J))(r:ct ((P.aK+a:Nat):Int)=BO P.n 2 a g c)(n:mem' a=V (g,c,Ax))(o:∀j:Int,j≠a->mem' j=mem j):BZ P gen tk fr dy dd mem' ct pg:=by
 refine{h with bs:=λk d f p=>⟨?_,(h.bs k d f p).2⟩,bU:=λi d f u l=>?_}
 ·have b:=(h.bs k d f p).1
  by_cases e:k=a
  ·subst e;unfold FW at b⊢;rw[m]at b;rw[n]
   have q:d=g/\f=c:=by
    rcases b with b|⟨b|b,_⟩
    ·injection b with b;injection b with s b;injection b with t _;exact⟨s.symm,t.symm⟩
    ·cases b
    ·injection b with b;injection b with _ b;injection b with _ b;cases b
   rw[q.1,q.2];exact Z ⟨Z rfl,r⟩
  ·unfold FW at b⊢;rw[o k (by exact_mod_cast e)];exact b
 ·by_cases e:i=a
  ·subst e;rw[n]at l
   cases l
   exact h.bU _ _ _ _ m
  ·rw[o i e]at l;exact h.bU _ _ _ _ l
theorem BZ.bO(h:BZ P gen tk fr dy dd mem ct pg)(i:pg a=V (g,c))(j:mem a=E)(f:Hc P a (g,c,Ax) mem mem' ct ct'):BZ P gen tk fr dy dd mem' ct' pg:=by
 obtain⟨b,l⟩:=h.bs a g c i;refine{h with bs:=λk m n d=>⟨?_,(h.bs k m n d).2⟩,bU:=f.bU h.bU l}
 by_cases e:k=a
 ·subst e;rw[i]at d
  cases d
  refine Z ⟨Z f.d3,?_⟩;rw[f.cA]
  rcases b with b|b
  ·rw[j]at b;cases b
  ·exact b.2
 ·exact f.bs k e (h.bs k _ _ d).2.lt _ _ (h.bs k _ _ d).1
theorem BZ.iD(h:BZ P gen tk fr dy dd mem ct pg)(m:fr a=J)(i:FL P gen a gen c)(d:Hc P a (gen,c,J) mem mem' ct ct'):BZ P gen tk fr dy dd mem' ct' (Eo pg a (gen,c)):=by
 have n:pg a≠E:=h.cN a m
 have g:∀k,Eo pg a (gen,c) k≠E↔pg k≠E:=by
  intro k
  by_cases e:k=a
  ·subst e;rw[EP];simp[n]
  ·rw[El pg _ e]
 have j:∀k,pg k=E->Eo pg a (gen,c) k=E:=λk d=>lJ (λo=>(g k).1 o d)
 refine{h with dm:=λk d=>(h.dm k d).imp (g k).2 id,dk:=λk d=>h.dk k (d.imp (g k).1 id),cN:=λk d=>(g k).2 (h.cN k d),dC:=λk d=>j k (h.dC k d),dO:=λk d=>j k (h.dO k d),bs:=λk s t f=>?_,bU:=d.bU h.bU i,ah:=?_}
 ·by_cases e:k=a
  ·subst e;rw[EP]at f
   cases f
   exact⟨Y d.d3,i⟩
  ·rw[El pg _ e]at f;exact⟨d.bs k e (h.bs k _ _ f).2.lt _ _ (h.bs k _ _ f).1,(h.bs k _ _ f).2⟩
 ·obtain⟨l,p,q⟩:=h.ah;exact⟨l,p,λk r b=>q k r (b.imp (g k).1 id)⟩
theorem BZ.new(h:BZ P gen tk fr dy dd mem ct pg){n:Nat}{ld:List Nat}(p:tk n=Ax)(q:FL P gen n gen ld)(j:Hc P n (gen,ld,J) mem mem' ct ct')(r:∀k,f k=Gq tk n k):BZ P gen f (Gq fr n) dy dd mem' ct' (Eo pg n (gen,ld))/\pg n=E:=by
 have m:¬(pg n≠E\/dy n=J\/dd n=J):=λc=>by rw[h.dk n c]at p;cases p
 have t:pg n=E:=lJ (λc=>m (Y c))
 have i:∀(o:Nat->Bool) k,Gq o n k=J↔k=n\/o k=J:=λo k=>by simp[Gq]
 have u:∀k,dy k=J->k≠n:=λk d e=>m (Z (Y (e▸d)))
 have v:∀k,dd k=J->k≠n:=λk d e=>m (Z (Z (e▸d)))
 refine⟨{dm:=λk d=>?_,dk:=λk d=>?_,cN:=λk d=>?_,dC:=λk d=>?_,dO:=λk d=>?_,eQ:=h.eQ,eP:=h.eP,fv:=h.fv,bs:=λk z A g=>?_,bU:=j.bU h.bU q,ah:=?_,fx:=h.fx},t⟩
 ·rw[r,i]at d
  by_cases e:k=n
  ·exact Y (by rw[e,EP];simp)
  ·rw[El pg _ e];exact h.dm k (d.resolve_left e)
 ·rw[r,i]
  by_cases e:k=n
  ·exact Y e
  ·rw[El pg _ e]at d;exact Z (h.dk k d)
 ·rw[i]at d
  by_cases e:k=n
  ·subst e;rw[EP];simp
  ·rw[El pg _ e];exact h.cN k (d.resolve_left e)
 ·rw[El pg _ (u k d)];exact h.dC k d
 ·rw[El pg _ (v k d)];exact h.dO k d
 ·by_cases e:k=n
  ·subst e;rw[EP]at g
   cases g
   exact⟨Y j.d3,q⟩
  ·rw[El pg _ e]at g;exact⟨j.bs k e (h.bs k _ _ g).2.lt _ _ (h.bs k _ _ g).1,(h.bs k _ _ g).2⟩
 ·obtain⟨l,w,x⟩:=h.ah;refine⟨l,w,λk a b=>?_⟩
  have s:¬(k=n\/fr k=J):=λc=>by rw[(i fr k).2 c]at a;cases a
  have e:k≠n:=λe=>s (Y e)
  rw[El pg _ e]at b;refine x k ?_ b
  cases y:fr k with
  |false=>rfl
  |true=>exact absurd (Z y) s
theorem BZ.d2(h:BZ P gen tk fr dy dd mem ct pg)(d:Ce pg (P.bv+3))(n:3*P.bv+4<=P.a2):∃j,j<P.a2/\tk j=Ax:=by
 obtain⟨a,o,e⟩:=d;obtain⟨b,p,f⟩:=h.ah;obtain⟨c,q,g⟩:=h.fx;refine ZO (l:=a++(b++c)) (λj _ i=>?_) (by simp only[jU];omega)
 rcases h.dm j i with k|k|k
 ·exact me _ (e j k)
 ·refine lY _ (me _ (f j ?_ (Z k)))
  cases m:fr j with
  |false=>rfl
  |true=>exact absurd (h.dC j k) (h.cN j m)
 ·exact lY _ (lY _ (g j k))
theorem BZ.ii(h:BZ P gen tk fr dy dd mem ct pg)(z:fr a=J)(m:pg a≠E){tk':Nat->Bool}(n:∀k,tk' k=Jg tk a k)(o:∀k:Int,k≠a->mem' k=mem k)(s:mem' a=E):BZ P gen tk' (Jg fr a) dy dd mem' ct (Hl pg a):=by
 have d:∀(f:Nat->Bool) k,Jg f a k=J↔k≠a/\f k=J:=λf k=>by simp[Jg]
 have p:∀k,dy k=J->k≠a:=λk c e=>m (h.dC a (e▸c))
 have t:∀k,dd k=J->k≠a:=λk c e=>m (h.dO a (e▸c))
 have q:∀k,pg k=E->Hl pg a k=E:=λk c=>by
  by_cases e:k=a
  ·subst e;exact Hw pg k
  ·rw[Fh pg e];exact c
 refine{dm:=λk c=>?_,dk:=λk c=>?_,cN:=λk c=>?_,dC:=λk c=>q k (h.dC k c),dO:=λk c=>q k (h.dO k c),eQ:=h.eQ,eP:=h.eP,fv:=h.fv,bs:=λk u v g=>?_,bU:=λi u v A j=>?_,ah:=?_,fx:=h.fx}
 ·rw[n,d]at c;rw[Fh pg c.1];exact h.dm k c.2
 ·rw[n,d]
  by_cases e:k=a
  ·subst e;rw[Hw]at c
   rcases c with c|c|c
   ·exact absurd rfl c
   ·exact absurd rfl (p k c)
   ·exact absurd rfl (t k c)
  ·rw[Fh pg e]at c;exact⟨e,h.dk k c⟩
 ·rw[d]at c;rw[Fh pg c.1];exact h.cN k c.2
 ·by_cases e:k=a
  ·subst e;rw[Hw]at g;cases g
  ·rw[Fh pg e]at g;have:=h.bs k _ _ g;unfold FW at this⊢;rw[o k (by exact_mod_cast e)];exact this
 ·by_cases e:i=a
  ·subst e;rw[s]at j;cases j
  ·rw[o i e]at j;exact h.bU i _ _ _ j
 ·obtain⟨l,w,x⟩:=h.ah;refine⟨l,w,λk r b=>?_⟩
  by_cases e:k=a
  ·subst e;rw[Hw]at b
   rcases b with b|b
   ·exact absurd rfl b
   ·exact absurd rfl (p k b)
  ·rw[Fh pg e]at b;refine x k ?_ b
   cases y:fr k with
   |false=>rfl
   |true=>rw[(d fr k).2 ⟨e,y⟩]at r;cases r
theorem BZ.im(h:BZ P gen tk fr dy dd mem ct pg)(q:fr a=Ax)(i:pg a≠E):BZ P gen tk fr (Gq dy a) dd mem ct (Hl pg a):=by
 have g:∀(f:Nat->Bool) k,Gq f a k=J↔k=a\/f k=J:=λf k=>by simp[Gq]
 have m:∀k,pg k=E->Hl pg a k=E:=λk d=>by
  by_cases e:k=a
  ·subst e;exact Hw pg k
  ·rw[Fh pg e];exact d
 have r:a<P.a2:=by
  cases n:pg a with
  |none=>exact absurd n i
  |some x=>exact(h.bs a x.1 x.2 n).2.lt
 refine{h with dm:=λk d=>?_,dk:=λk d=>?_,cN:=λk d=>?_,dC:=λk d=>?_,dO:=λk d=>m k (h.dO k d),eQ:=λk d=>?_,eP:=λk d=>?_,bs:=λk u v j=>?_,ah:=?_}
 ·by_cases e:k=a
  ·exact Z (Y ((g dy k).2 (Y e)))
  ·rw[Fh pg e];exact(h.dm k d).imp id (λc=>c.imp (λc=>(g dy k).2 (Z c)) id)
 ·by_cases e:k=a
  ·exact h.dk k (Y (e▸i))
  ·rw[Fh pg e,g]at d;exact h.dk k (d.imp id (λc=>c.imp (λc=>c.resolve_left e) id))
 ·have e:k≠a:=λe=>by rw[e,q]at d;cases d
  rw[Fh pg e];exact h.cN k d
 ·by_cases e:k=a
  ·subst e;exact Hw pg k
  ·exact m k (h.dC k (((g dy k).1 d).resolve_left e))
 ·rcases(g dy k).1 d with rfl|d
  ·cases s:dd k with
   |false=>rfl
   |true=>exact absurd (h.dO k s) i
  ·exact h.eQ k d
 ·rcases(g dy k).1 d with rfl|d
  ·exact r
  ·exact h.eP k d
 ·by_cases e:k=a
  ·subst e;rw[Hw]at j;cases j
  ·rw[Fh pg e]at j;exact h.bs k _ _ j
 ·obtain⟨l,t,o⟩:=h.ah;refine⟨l,t,λk p b=>?_⟩
  by_cases e:k=a
  ·exact o k p (Y (e▸i))
  ·rw[Fh pg e,g]at b;exact o k p (b.imp id (λc=>c.resolve_left e))
theorem BZ.iA(h:BZ P gen tk fr dy dd mem ct pg)(s:Ce pg P.bv){tk':Nat->Bool}(o:∀k,tk' k=(tk k&&! dd k))(t:∀k:Nat,dd k=J->mem' k=E)(p:∀i:Int,(∀k:Nat,i=k->dd k=Ax)->mem' i=mem i):BZ P (gen+1) tk' (λ_=>Ax) (λ_=>Ax) dy mem' ct pg:=by
 have u:∀k:Nat,dd k=Ax->mem' k=mem k:=λk a=>p k (λj e=>by
  have:k=j:=by exact_mod_cast e
  rw[<-this]
  exact a)
 have q:∀k,pg k≠E->dd k=Ax:=λk a=>by
  cases g:dd k with
  |false=>rfl
  |true=>exact absurd (h.dO k g) a
 refine{dm:=λk a=>?_,dk:=λk a=>?_,cN:=λk a=>(by cases a),dC:=λk a=>(by cases a),dO:=h.dC,eQ:=λk a=>(by cases a),eP:=λk a=>(by cases a),fv:=h.eP,bs:=λk v w r=>?_,bU:=λi v w y m=>?_,ah:=?_,fx:=?_}
 ·rw[o]at a;simp at a
  rcases h.dm k a.1 with c|c|c
  ·exact Y c
  ·exact Z (Z c)
  ·rw[a.2]at c;cases c
 ·rw[o]
  rcases a with c|c|c
  ·rw[h.dk k (Y c),q k c];rfl
  ·cases c
  ·rw[h.dk k (Z (Y c)),h.eQ k c];rfl
 ·have d:=h.bs k _ _ r;have f:=u k (q k (by rw[r];simp));unfold FW at d⊢;rw[f];exact⟨d.1,d.2.lt,d.2.aF,d.2.bx,nN d.2.fQ⟩
 ·by_cases g:∃k:Nat,i=k/\dd k=J
  ·obtain⟨k,e,a⟩:=g;rw[e,t k a]at m
   cases m
  ·rw[p i (λk e=>by
    cases a:dd k with
    |false=>rfl
    |true=>exact absurd ⟨k,e,a⟩ g)]at m
   obtain⟨k,e,n⟩:=h.bU i _ _ _ m;exact⟨k,e,n.lt,n.aF,n.bx,nN n.fQ⟩
 ·obtain⟨l,d,f⟩:=s;exact⟨l,d,λk _ b=>b.elim (f k) (λc=>by cases c)⟩
 ·obtain⟨l,d,f⟩:=h.ah;refine⟨l,d,λk a=>f k ?_ (Z a)⟩
  cases x:fr k with
  |false=>rfl
  |true=>exact absurd (h.dC k a) (h.cN k x)
end
