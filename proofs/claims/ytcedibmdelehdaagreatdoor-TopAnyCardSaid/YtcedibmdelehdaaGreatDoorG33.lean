/- Lemmas. -/
import Derived.Test.YtcedibmdelehdaaGreatDoorG12
import Derived.Test.YtcedibmdelehdaaGreatDoorG32
namespace Go.Proofs.YtcedibmdelehdaaGreatDoor
set_option maxRecDepth 100000
set_option maxHeartbeats 32000000
open Option renaming none->E,some->V
open Bool renaming true->J,false->Ax
open Go renaming World->O,Value->A3
open Or renaming inl->Y,inr->Z
open Go.Value renaming pointer->AA,int->A2
variable{f p:Int->List Nat}{h g j l q w x z A B C:Nat}{a:Pl}{b:List Nat}{c n:O}{d r:Ae}{e s t v:Nat->Bool}{i:Int->Option Pg}{k:As}{o:A3}
section
open Go.RowKit
def Dr(f:Nat->Bool)(i:Int):Option A3:=if 0<=i/\f i.toNat=J then V (.bool J)else E
theorem Tm(f:Nat->Bool)(k:Nat):Dr f (k:Int)=if f k=J then V (.bool J)else E:=by
 unfold Dr;simp
def Gy(f:Nat->Bool)(k:Nat):Nat->Bool:=λj=>decide (j=k)||f j
def Jt(f:Nat->Bool)(k:Nat):Nat->Bool:=λj=>! decide (j=k)&&f j
theorem Ti(f:Nat->Bool)(k:Nat):Fq (Dr f) (k:Int) (.bool J)=Dr (Gy f k):=by
 funext j
 unfold Fq Dr Gy
 by_cases h:j=(k:Int)
 ·subst h;simp
 ·rw[jN h]
  by_cases a:0<=j
  ·have:¬j.toNat=k:=by omega
   simp[this]
  ·simp[a]
theorem YZ(f:Nat->Bool)(k:Nat):If (Dr f) (k:Int)=Dr (Jt f k):=by
 funext j
 unfold If Dr Jt
 by_cases h:j=(k:Int)
 ·subst h;simp
 ·rw[jN h]
  by_cases a:0<=j
  ·have:¬j.toNat=k:=by omega
   simp[this]
  ·simp[a]
def Gb(P:Pl)(a:Int->Option Pg)(d:Int->List Nat)(k b:Nat)(c:List Nat):Prop:=
 a (k:Int)=V (b,c,J)\/((a (k:Int)=E\/a (k:Int)=V (b,c,Ax))/\d ((P.aP+k:Nat):Int)=Cd P.n 2 k b c)
structure FP(P:Pl)(b k c:Nat)(a:List Nat):Prop where
 lt:k<P.a4
 aC:a.length<=P.n - 19
 bB:∀x∈a,x<256
 fL:c<=b
structure Cn(P:Pl)(f:Nat)(g h b c:Nat->Bool)(j:Int->Option Pg)(m:Int->List Nat)(a:As):Prop where
 dv:∀k,g k=J->a k≠E\/b k=J\/c k=J
 du:∀k,a k≠E\/b k=J\/c k=J->g k=J
 cP:∀k,h k=J->a k≠E
 dG:∀k,b k=J->a k=E
 dT:∀k,c k=J->a k=E
 eP:∀k,b k=J->c k=Ax
 eO:∀k,b k=J->k<P.a4
 ft:∀k,c k=J->k<P.a4
 bx:∀k d e,a k=V (d,e)->Gb P j m k d e/\FP P f k d e
 bX:∀i d e n,j i=V (d,e,n)->∃k:Nat,i=k/\FP P f k d e
 ak:∃l:List Nat,l.length<=P.bz/\∀k,h k=Ax->(a k≠E\/b k=J)->k∈l
 fw:∃l:List Nat,l.length<=P.bz/\∀k,c k=J->k∈l
structure BI(w:O)(a:Ae)(s d:Nat)(P:Pl)(q f B g i b c e h:Nat)(j k l m:Nat->Bool)(n:Int->Option Pg):Prop where
 y:Aa w s 196 (AA (V ⟨d,0,E⟩)::(P.cells++[A2 .i64 P.aP,A2 .i64 P.a4,A2 .i64 (P.n - 19:Nat),A2 .i64 f,AA (V ⟨B,0,E⟩),.map (V b),.map (V c),.map (V e),AA (V ⟨h,0,E⟩)]))
 aV:SF w B g P.a4 i j
 mf:MF w Tryz.prog 3 b q (Dr k)
 my:MF w Tryz.prog 3 c q (Dr l)
 md:MF w Tryz.prog 3 e q (Dr m)
 cu:CZ w a h P.a7 q n
 fy:b≠c
 fd:b≠e
 yd:c≠e
 c0:a s=3
 c1:a B=3
 c2:a g=3
 c3:a b=3
 c4:a c=3
 c5:a e=3
 dZ:a 0=0
 q1:f<=q+1
def DS(w:O)(i:Ae)(s d:Nat)(P:Pl)(q a:Nat)(j:As)(k:Int->List Nat):Prop:=
 ∃B g l m n o p b c e f h,BI w i s d P q a B g l m n o p b c e f h/\Cn P a b c e f h k j
theorem SF.ek(b:SF c h g j l e):h<c.heap.size/\g<c.heap.size/\l<j/\0<c.heap.size:=by
 obtain⟨f,i,a,_⟩:=b;obtain⟨k,d⟩:=a.aI;exact⟨a.y.lt,d.lt,a.hd,a.fv⟩
theorem BI.ao{col':Ae}{S:Nat->Prop}(b:BI c d h g a j l q w x z A B C e s t v i)(o:Ac S c n)(f:∀k,d k=3\/d k=2\/d k=0->¬S k)(m:∀k,k<c.heap.size->col' k=d k):BI n col' h g a j l q w x z A B C e s t v i:=
 {b with
  y:=o.y b.y (f _ (Y b.c0))
  aV:=b.aV.au o (f _ (Y b.c1)) (f _ (Y b.c2)) (f _ (Z (Z b.dZ)))
  mf:=b.mf.au o (f _ (Y b.c3))
  my:=b.my.au o (f _ (Y b.c4))
  md:=b.md.au o (f _ (Y b.c5))
  cu:=b.cu.ao o (λk p=>f k (Z p)) m
  c0:=by rw[m _ b.y.lt];exact b.c0
  c1:=by rw[m _ b.aV.ek.1];exact b.c1
  c2:=by rw[m _ b.aV.ek.2.1];exact b.c2
  c3:=by rw[m _ b.mf.lt];exact b.c3
  c4:=by rw[m _ b.my.lt];exact b.c4
  c5:=by rw[m _ b.md.lt];exact b.c5
  dZ:=by rw[m _ b.aV.ek.2.2.2];exact b.dZ}
theorem BI.u(b:BI c d h g a j l q w x z A B C e s t v i)(f:c.grownBy n E):BI n d h g a j l q w x z A B C e s t v i:=
 b.ao (Ac.az (S:=λ_=>False) f) (λ_ _ b=>b) (λ_ _=>rfl)
theorem BI.ag{C:Nat->Prop}{m:Nat}(o:BI c d h g a j l q w x z A B m e s t v i)(k:Ad C c d n r)(p:¬C 3)(u:¬C 2)(y:¬C 0):BI n r h g a j l q w x z A B m e s t v i:=
 o.ao k.au (λE D b=>by
  rcases D with f|f|f
  ·rw[f]at b;exact p b
  ·rw[f]at b;exact u b
  ·rw[f]at b;exact y b) k.ak
theorem BI.mono{k:Nat}(b:BI c d h g a j q w x z A B C k e s t v i)(f:j<=l):BI c d h g a l q w x z A B C k e s t v i:=
 {b with mf:=b.mf.mono f,my:=b.my.mono f,md:=b.md.mono f,cu:=b.cu.mono f,q1:=jM b.q1 (mG f)}
theorem DS.ag{C:Nat->Prop}(b:DS c d h g a j l k f)(e:Ad C c d n r)(i:¬C 3)(m:¬C 2)(o:¬C 0):DS n r h g a j l k f:=
 let⟨B,p,q,s,t,u,v,w,x,y,z,A,D,F⟩:=b
 ⟨B,p,q,s,t,u,v,w,x,y,z,A,D.ag e i m o,F⟩
theorem DS.u(b:DS c d h g a j l k f)(e:c.grownBy n E):DS n d h g a j l k f:=
 let⟨B,i,m,o,p,q,r,s,t,u,v,w,x,y⟩:=b
 ⟨B,i,m,o,p,q,r,s,t,u,v,w,x.u e,y⟩
theorem DS.mono(b:DS c d h g a j q k f)(e:j<=l):DS c d h g a l q k f:=
 let⟨B,i,m,n,o,p,r,s,t,u,v,w,x,y⟩:=b
 ⟨B,i,m,n,o,p,r,s,t,u,v,w,x.mono e,y⟩
def Kb(P:Pl)(a b:Int->List Nat):Prop:=∀k,k<P.a4->b ((P.aP+k:Nat):Int)=a ((P.aP+k:Nat):Int)
def AR(P:Pl)(a b:Int->List Nat):Prop:=∀i:Int,(i<(P.aP:Nat)\/((P.aP+P.a4:Nat):Int)<=i)->b i=a i
theorem AR.refl(P:Pl)(a:Int->List Nat):AR P a a:=λ_ _=>rfl
theorem AR.trans{b:Int->List Nat}(h:AR a f p)(k:AR a p b):AR a f b:=λi c=>(k i c).trans (h i c)
theorem Cn.dk(c:Cn a h e s t v i f k)(m:Kb a f p):Cn a h e s t v i p k:=
 {c with bx:=λd g j l=>⟨(c.bx d g j l).1.imp id (λ⟨n,b⟩=>⟨n,(m d (c.bx d g j l).2.lt).trans b⟩),(c.bx d g j l).2⟩}
theorem DS.dk(b:DS c d h g a j l k f)(e:Kb a f p):DS c d h g a j l k p:=
 let⟨B,i,m,n,o,q,r,s,t,u,v,w,x,y⟩:=b
 ⟨B,i,m,n,o,q,r,s,t,u,v,w,x,y.dk e⟩
structure SD(w:O)(a:Ae)(s d:Nat)(P:Pl)(q c:Nat)(e:As)(b:Int->List Nat):Prop where
 bM:DS w a s d P q c e b
 bH:AF w a d P.ss P.n q b
 cl:AD w a
 a2:P.aY
theorem SD.ag{C:Nat->Prop}(b:SD c d h g a j l k f)(e:Ad C c d n r)(i:¬C 3)(m:¬C 2)(o:¬C 1)(p:¬C 0):SD n r h g a j l k f:=
 ⟨b.bM.ag e i m p,b.bH.ag e o,e.new,b.a2⟩
theorem SD.u(b:SD c d h g a j l k f)(e:c.grownBy n E):SD n d h g a j l k f:=
 ⟨b.bM.u e,b.bH.u e,b.cl.u e,b.a2⟩
theorem SD.mono(b:SD c d h g a j q k f)(e:j<=l):SD c d h g a l q k f:=
 ⟨b.bM.mono e,b.bH.mono e,b.cl,b.a2⟩
def BY(P:Pl)(q i:Nat):Nat:=q%P.rg*P.rs+i
abbrev BO:=Nat->List Nat
def Cv(a:BO)(b:Nat)(c:List Nat):BO:=λk=>if k=b then a k++c else a k
theorem Dp(b:BO)(a:Nat)(c:List Nat):Cv b a c a=b a++c:=jP rfl
theorem Gn(a:BO)(b:List Nat)(c:h≠g):Cv a g b h=a h:=jN c
theorem OS(a:BO)(b:Nat):Cv a b []=a:=by
 funext k
 unfold Cv;simp
theorem Mz(b:BO)(a:Nat)(c d:List Nat):Cv (Cv b a c) a d=Cv b a (c++d):=by
 funext k
 unfold Cv
 by_cases h:k=a
 ·simp[h]
 ·simp[h]
theorem Lo(h:a.aY){q i:Nat}(d:i<a.rs):BY a q i<a.rg*a.rs:=by
 have b:q%a.rg<a.rg:=lA _ (Ψ h.fP);have c:(q%a.rg+1)*a.rs<=a.rg*a.rs:=lC _ b;unfold BY;rw[lT]at c;omega
theorem Ul{i:Nat}(b:i<a.rs)(c:h<a.rs)(d:BY a g i=BY a j h):g%a.rg=j%a.rg/\i=h:=by
 unfold BY at d
 have e:(g%a.rg*a.rs+i)/a.rs=g%a.rg:=by
  rw[lp,og Ω,mQ b,kU]
 have k:(j%a.rg*a.rs+h)/a.rs=j%a.rg:=by
  rw[lp,og Ω,mQ c,kU]
 have f:(g%a.rg*a.rs+i)%a.rs=i:=by rw[pG,mR b]
 have l:(j%a.rg*a.rs+h)%a.rs=h:=by rw[pG,mR c]
 rw[d]at e f;exact⟨e.symm.trans k,f.symm.trans l⟩
theorem ZK(b:h<g)(c:g<h+j):h%j≠g%j:=by
 intro e;have a:=Nat.sub_mod_eq_zero_of_mod_eq e.symm;have d:=Nat.le_of_dvd Ω (Nat.dvd_of_mod_eq_zero a);omega
structure Cx(P:Pl)(b:Nat)(c:List Nat)(a:BO)(d:Int->List Nat):Prop where
 dg:∀q,(a q).length<=P.aA
 bB:∀q,∀x∈a q,x<256
 fI:c=(a b).drop ((a b).length/(P.n - 19)*(P.n - 19))
 eA:∀q,b<q->a q=[]
 fX:∀q,q<b->(a q).length%(P.n - 19)=0
 fl:∀q i,1<=q->q<=b->b<q+P.rg->(i+1)*(P.n - 19)<=(a q).length->
  d ((P.region+BY P q i:Nat):Int)=Cd P.n 3 (BY P q i) q (((a q).drop (i*(P.n - 19))).take (P.n - 19))
theorem cK(l:List Nat):(l.drop (l.length/h*h)).length=l.length%h:=by
 rw[j0];have:=lE l.length h;rw[lp]at this;omega
theorem Cx.dS{c:BO}(d:Cx a h b c f):b.length=(c h).length%(a.n - 19):=by rw[d.fI];exact cK _
theorem Cx.fs{c:BO}(d:Cx a h b c f)(e:a.aY):b.length<a.n - 19:=by
 rw[d.dS];have:=e.n0;exact lA _ Ω
theorem Cx.gt{d:BO}(c:Cx a h b d f):∀x∈b,x<256:=by
 rw[c.fI]
 exact λx e=>c.bB h x (mI e)
theorem JP{P:Pl}{L i:Nat}(a:0<h)(b:L<=P.rs*h)(c:(i+1)*h<=L):i<P.rs:=by
 have d:(i+1)*h<=P.rs*h:=jM c b;exact Nat.le_of_mul_le_mul_right d a
theorem OL{L k:Nat}(a:0<h)(b:L%h+k<h):(L+k)/h=L/h:=by
 have c:=lE L h;rw[show L+k=h*(L/h)+(L%h+k) by omega,og a,mQ b,kU]
theorem JW{L k:Nat}(a:0<h)(c:L%h+k=h):(L+k)/h=L/h+1/\(L/h+1)*h=L+k:=by
 have d:=lE L h
 have b:L+k=h*(L/h+1):=by rw[oq,mj];omega
 rw[b];exact⟨Nat.mul_div_cancel_left _ a,lp _ _⟩
theorem Jh{i:Nat}(a:0<h):(i+1)*h<=g↔i<g/h:=by
 rw[<-Nat.le_div_iff_mul_le a];omega
theorem Tg{a:List Nat}{i:Nat}(c:(i+1)*h<=b.length):((b++a).drop (i*h)).take h=(b.drop (i*h)).take h:=by
 rw[lT,mP]at c;rw[mb Ω,mJ (by rw[j0];omega)]
theorem Cx.fj{m:BO}(c:Cx a h b m f)(u:a.aY)(d:List Nat)(v:∀x∈d,x<256)
  (o:b.length+d.length<a.n - 19)(w:(m h).length+d.length<=a.aA):Cx a h (b++d) (Cv m h d) f:=by
 have j:0<a.n - 19:=by have:=u.n0;omega
 have p:=c.dS;refine⟨λq=>?_,λq x l=>?_,?_,λq n=>?_,λq n=>?_,λq i r s t g=>?_⟩
 ·by_cases e:q=h
  ·subst e;rw[Dp,jI];exact w
  ·rw[Gn _ _ e];exact c.dg q
 ·by_cases e:q=h
  ·subst e;rw[Dp]at l
   rcases kI.1 l with k|k
   ·exact c.bB _ _ k
   ·exact v _ k
  ·rw[Gn _ _ e]at l;exact c.bB _ _ l
 ·rw[Dp,jI,OL j (by rw[<-p];exact o),mb (np _ _), <-c.fI]
 ·rw[Gn _ _ Ω];exact c.eA q n
 ·rw[Gn _ _ Ω];exact c.fX q n
 ·by_cases e:q=h
  ·subst e;rw[Dp,jI,Jh j,OL j (by rw[<-p];exact o), <-Jh j]at g;rw[Dp,Tg g];exact c.fl q i r s t g
  ·rw[Gn _ _ e]at g⊢;exact c.fl q i r s t g
theorem Cx.gF{c:BO}(d:Cx a h b c f)(C:a.aY)(g:List Nat)(D:∀x∈g,x<256)
  (E:b.length+g.length=a.n - 19)(u:(c h).length+g.length<=a.aA):
  Cx a h [] (Cv c h g) (CJ f ((a.region+BY a h ((c h).length/(a.n - 19)):Nat):Int) (Cd a.n 3 (BY a h ((c h).length/(a.n - 19))) h (b++g))):=by
 have j:0<a.n - 19:=by have:=C.n0;omega
 have F:=d.dS;obtain⟨v,w⟩:=JW (L:=(c h).length) (k:=g.length) j (by rw[<-F];exact E);have n:a.aA=a.rs*(a.n - 19):=rfl;have y:(c h).length/(a.n - 19)<a.rs:=JP j (by rw[<-n];exact u) (by rw[w];exact jF _);refine⟨λq=>?_,λq x l=>?_,?_,λq o=>?_,λq o=>?_,λq i z A p m=>?_⟩
 ·by_cases e:q=h
  ·subst e;rw[Dp,jI];exact u
  ·rw[Gn _ _ e];exact d.dg q
 ·by_cases e:q=h
  ·subst e;rw[Dp]at l
   rcases kI.1 l with k|k
   ·exact d.bB _ _ k
   ·exact D _ k
  ·rw[Gn _ _ e]at l;exact d.bB _ _ l
 ·rw[Dp,jI,v,w, <-jI,List.drop_length]
 ·rw[Gn _ _ Ω];exact d.eA q o
 ·rw[Gn _ _ Ω];exact d.fX q o
 ·unfold CJ
  by_cases e:q=h
  ·subst e;rw[Dp,jI,Jh j,v]at m
   by_cases B:i=(c q).length/(a.n - 19)
   ·subst B;rw[jP rfl,Dp,mb (np _ _), <-d.fI,lf (by rw[jI];omega)]
   ·have r:(i+1)*(a.n - 19)<=(c q).length:=(Jh j).2 Ω;have s:i<a.rs:=JP j (by rw[<-n];exact d.dg q) r
    rw[jN (by
     intro e
     have t:a.region+BY a q i=a.region+BY a q ((c q).length/(a.n - 19)):=by exact_mod_cast e
     exact B (Ul s y (nY t)).2),Dp,Tg r]
    exact d.fl q i z A p r
  ·rw[Gn _ _ e]at m⊢;have s:i<a.rs:=JP j (by rw[<-n];exact d.dg q) m
   rw[jN (by
    intro G
    have t:a.region+BY a q i=a.region+BY a h ((c h).length/(a.n - 19)):=by exact_mod_cast G
    exact ZK Ω p (Ul s y (nY t)).1)]
   exact d.fl q i z A p m
theorem Cx.iv{d:BO}(c:Cx a h b d f)(j:a.aY)(k:(d h).length%(a.n - 19)=0):Cx a (h+1) [] d f:=by
 have n:0<a.n - 19:=by have:=j.n0;omega
 refine⟨c.dg,c.bB,?_,λq l=>c.eA q Ω,λq l=>?_,λq i m o p g=>?_⟩
 ·rw[c.eA (h+1) Ω,List.drop_nil]
 ·by_cases e:q=h
  ·subst e;exact k
  ·exact c.fX q Ω
 ·by_cases e:q=h+1
  ·subst e;rw[c.eA _ Ω]at g;have:=qk (a.n - 19) (Nat.succ_pos i);simp only[kA,Nat.succ_eq_add_one]at*;omega
  ·exact c.fl q i m Ω Ω g
def Ln(P:Pl)(a b:Int->List Nat):Prop:=∀i:Nat,i<P.rg*P.rs->b ((P.region+i:Nat):Int)=a ((P.region+i:Nat):Int)
def Ea(P:Pl)(a b:Int->List Nat):Prop:=∀i:Int,(i<(P.region:Nat)\/(P.aP:Int)<=i)->b i=a i
theorem Ea.refl(P:Pl)(a:Int->List Nat):Ea P a a:=λ_ _=>rfl
theorem Ea.trans{b:Int->List Nat}(h:Ea a f p)(k:Ea a p b):Ea a f b:=λi c=>(k i c).trans (h i c)
theorem Pl.eI(P:Pl):P.aP=P.region+P.rg*P.rs:=rfl
theorem Ea.cX(c:a.aY)(b:Int->List Nat){q i:Nat}(d:i<a.rs)(e:List Nat):Ea a b (CJ b ((a.region+BY a q i:Nat):Int) e):=by
 intro k f;have g:=Lo c (q:=q) d;have j:=a.eI;unfold CJ
 rw[jN (by
  rintro rfl
  rcases f with h|h
  ·have:a.region+BY a q i<a.region:=by exact_mod_cast h
   omega
  ·have:a.aP<=a.region+BY a q i:=by exact_mod_cast h
   omega)]
theorem Ea.ew(h:Ea a f p):Kb a f p:=λk _=>h _ (Z (by push_cast;omega))
theorem AR.ei(h:AR a f p):Ln a f p:=λk b=>h _ (Y (by have:=a.eI;exact_mod_cast (by omega:a.region+k<a.aP)))
theorem Cx.dk{d:BO}(c:Cx a h b d f)(e:a.aY)(j:Ln a f p):Cx a h b d p:=
 ⟨c.dg,c.bB,c.fI,c.eA,c.fX,λq i k l m g=>by
  have n:0<a.n - 19:=by have:=e.n0;omega
  rw[j _ (Lo e (JP n (c.dg q) g))]
  exact c.fl q i k l m g⟩
def Gu(P:Pl):BO:=λk=>if k=0 then AO P.aA else[]
theorem Cx.af(P:Pl)(c:P.aY)(d:Int->List Nat):Cx P 0 [] (Gu P) d:=by
 have e:0<P.n - 19:=by have:=c.n0;omega
 refine⟨λq=>?_,λq x a=>?_,?_,λq b=>jN Ω,λq b=>absurd b Ω,λq i g f=>absurd f Ω⟩
 ·unfold Gu
  split
  ·simp[AO]
  ·simp
 ·unfold Gu at a
  split at a
  ·have:=ls a;omega
  ·cases a
 ·show[]=List.drop _ (AO P.aA);rw[lR];show(AO P.aA).length<=(AO P.aA).length/(P.n - 19)*(P.n - 19);rw[show(AO P.aA).length=P.rs*(P.n - 19)from lU,Nat.mul_div_cancel _ e];exact jF _
structure Bf(w:O)(c:Ae)(g d:Nat)(P:Pl)(f h:Nat)(a:A3)(e:List Nat):Prop where
 y:Aa w g 172 (AA (V ⟨d,0,E⟩)::(P.cells++(P.dj++[A2 .i64 (P.n - 19:Nat),A2 .i64 f,A2 .i64 h,a])))
 aS:w.ownsRow 0 5 1 a e.length (Ar e)
 c0:c g=4
 cp:∀b,a.ownBlock=V b->c b=4
theorem Bf.ao{S:Nat->Prop}(e:Bf c d h g a j l o b)(m:Ac S c n)(p:∀k,d k=4->¬S k)(q:∀k,k<c.heap.size->r k=d k):Bf n r h g a j l o b:=
 ⟨m.y e.y (p _ e.c0),m.aT e.aS (λf i=>p _ (e.cp f i)),by rw[q _ e.y.lt];exact e.c0,λf i=>by rw[q _ (e.aS.lt f i).2];exact e.cp f i⟩
theorem Bf.u(e:Bf c d h g a j l o b)(f:c.grownBy n E):Bf n d h g a j l o b:=
 e.ao (Ac.az (S:=λ_=>False) f) (λ_ _ e=>e) (λ_ _=>rfl)
theorem Bf.ag{C:Nat->Prop}(f:Bf c d h g a j l o b)(k:Ad C c d n r)(i:¬C 4):Bf n r h g a j l o b:=
 f.ao k.au (λp m e=>by rw[m]at e;exact i e) k.ak
def DJ(w:O)(e:Ae)(g d:Nat)(P:Pl)(a:Nat)(b:BO)(f:Int->List Nat):Prop:=
 ∃h c,Bf w e g d P a (b a).length h c/\Cx P a c b f
theorem DJ.ag{C:Nat->Prop}{b:BO}(e:DJ c d h g a j b f)(k:Ad C c d n r)(i:¬C 4):DJ n r h g a j b f:=
 let⟨l,m,o,p⟩:=e
 ⟨l,m,o.ag k i,p⟩
theorem DJ.u{b:BO}(e:DJ c d h g a j b f)(i:c.grownBy n E):DJ n d h g a j b f:=
 let⟨k,l,m,o⟩:=e
 ⟨k,l,m.u i,o⟩
theorem DJ.dk{b:BO}(e:DJ c d h g a j b f)(i:a.aY)(k:Ln a f p):DJ c d h g a j b p:=
 let⟨l,m,n,o⟩:=e
 ⟨l,m,n,o.dk i k⟩
theorem Bf.cells(e:Bf c d h g a j l o b):
  c.cell? ⟨h,0,E⟩=V (AA (V ⟨g,0,E⟩))/\c.cell? ⟨h,3,E⟩=V (A2 .i64 a.rg)/\c.cell? ⟨h,4,E⟩=V (A2 .i64 a.rs)/\c.cell? ⟨h,10,E⟩=V (A2 .i64 a.region)/\c.cell? ⟨h,16,E⟩=V (A2 .i64 a.aA)/\
  c.cell? ⟨h,17,E⟩=V (A2 .i64 (a.n - 19:Nat))/\c.cell? ⟨h,18,E⟩=V (A2 .i64 j)/\c.cell? ⟨h,19,E⟩=V (A2 .i64 l)/\c.cell? ⟨h,20,E⟩=V o:=
 ⟨e.y.m 0,e.y.m 3,e.y.m 4,e.y.m 10,e.y.m 16,e.y.m 17,e.y.m 18,e.y.m 19,e.y.m 20⟩
end
section
open Go.RowKit
structure Hs(P:Pl)(n:Nat)(p:Pg)(d a:Int->Option Pg)(b c:Int->List Nat):Prop where
 d5:a (n:Int)=V p
 iY:∀i:Int,i≠n->a i=d i\/a i=E
 bx:∀k:Nat,k≠n->k<P.a4->∀e f,Gb P d b k e f->Gb P a c k e f
 cA:c ((P.aP+n:Nat):Int)=b ((P.aP+n:Nat):Int)
 on:AR P b c
variable {P:Pl} {gen:Nat} {tk fr dy dd:Nat->Bool} {mem mem':Int->Option Pg} {ct ct':Int->List Nat} {pg:As}
theorem Hs.bX{c:Bool}(f:Hs P g (h,b,c) mem mem' ct ct')(j:∀i h b c,mem i=V (h,b,c)->∃k:Nat,i=k/\FP P gen k h b)(l:FP P gen g h b):∀i h b c,mem' i=V (h,b,c)->∃k:Nat,i=k/\FP P gen k h b:=by
 intro i m n o a
 by_cases e:i=g
 ·subst e;rw[f.d5]at a
  cases a
  exact⟨g,rfl,l⟩
 ·rcases f.iY i e with d|d
  ·rw[d]at a;exact j i _ _ _ a
  ·rw[d]at a
   cases a
theorem Cn.ip(d:Cn P gen tk fr dy dd mem ct pg)(l:mem h=V (g,b,J)):Cn P gen tk fr dy dd mem (CJ ct ((P.aP+h:Nat):Int) (Cd P.n 2 h g b)) pg:=by
 refine{d with bx:=λk f i j=>⟨?_,(d.bx k f i j).2⟩};have a:=(d.bx k f i j).1
 by_cases e:k=h
 ·subst e;unfold Gb at a⊢;rw[l]at a⊢
  rcases a with a|⟨a|a,_⟩
  ·exact Y a
  ·cases a
  ·injection a with a;injection a with _ a;injection a with _ a;cases a
 ·unfold Gb at a⊢;rw[show CJ ct ((P.aP+h:Nat):Int) (Cd P.n 2 h g b) ((P.aP+k:Nat):Int)=ct ((P.aP+k:Nat):Int)from jN (λc=>e (nY (n:=P.aP) (by exact_mod_cast c)))];exact a
theorem Cn.h9(c:Cn P gen tk fr dy dd mem ct pg)(m:mem h=V (g,b,J))(r:ct ((P.aP+h:Nat):Int)=Cd P.n 2 h g b)(n:mem' h=V (g,b,Ax))(o:∀j:Int,j≠h->mem' j=mem j):Cn P gen tk fr dy dd mem' ct pg:=by
 refine{c with bx:=λk d f p=>⟨?_,(c.bx k d f p).2⟩,bX:=λi d f u l=>?_}
 ·have a:=(c.bx k d f p).1
  by_cases e:k=h
  ·subst e;unfold Gb at a⊢;rw[m]at a;rw[n]
   have q:d=g/\f=b:=by
    rcases a with a|⟨a|a,_⟩
    ·injection a with a;injection a with s a;injection a with t _;exact⟨s.symm,t.symm⟩
    ·cases a
    ·injection a with a;injection a with _ a;injection a with _ a;cases a
   rw[q.1,q.2];exact Z ⟨Z rfl,r⟩
  ·unfold Gb at a⊢;rw[o k (by exact_mod_cast e)];exact a
 ·by_cases e:i=h
  ·subst e;rw[n]at l
   cases l
   exact c.bX _ _ _ _ m
  ·rw[o i e]at l;exact c.bX _ _ _ _ l
theorem Cn.bT(a:Cn P gen tk fr dy dd mem ct pg)(i:pg h=V (g,b))(j:mem h=E)(f:Hs P h (g,b,Ax) mem mem' ct ct'):Cn P gen tk fr dy dd mem' ct' pg:=by
 obtain⟨c,l⟩:=a.bx h g b i;refine{a with bx:=λk m n d=>⟨?_,(a.bx k m n d).2⟩,bX:=f.bX a.bX l}
 by_cases e:k=h
 ·subst e;rw[i]at d
  cases d
  refine Z ⟨Z f.d5,?_⟩;rw[f.cA]
  rcases c with c|c
  ·rw[j]at c;cases c
  ·exact c.2
 ·exact f.bx k e (a.bx k _ _ d).2.lt _ _ (a.bx k _ _ d).1
theorem Cn.il(f:Cn P gen tk fr dy dd mem ct pg)(n:fr h=J)(j:FP P gen h gen b)(d:Hs P h (gen,b,J) mem mem' ct ct'):Cn P gen tk fr dy dd mem' ct' (Ex pg h (gen,b)):=by
 have o:pg h≠E:=f.cP h n
 have i:∀k,Ex pg h (gen,b) k≠E↔pg k≠E:=by
  intro k
  by_cases e:k=h
  ·subst e;rw[EV];simp[o]
  ·rw[Et pg _ e]
 have m:∀k,pg k=E->Ex pg h (gen,b) k=E:=λk d=>lH (λc=>(i k).1 c d)
 refine{f with dv:=λk d=>(f.dv k d).imp (i k).2 id,du:=λk d=>f.du k (d.imp (i k).1 id),cP:=λk d=>(i k).2 (f.cP k d),dG:=λk d=>m k (f.dG k d),dT:=λk d=>m k (f.dT k d),bx:=λk s t g=>?_,bX:=d.bX f.bX j,ak:=?_}
 ·by_cases e:k=h
  ·subst e;rw[EV]at g
   cases g
   exact⟨Y d.d5,j⟩
  ·rw[Et pg _ e]at g;exact⟨d.bx k e (f.bx k _ _ g).2.lt _ _ (f.bx k _ _ g).1,(f.bx k _ _ g).2⟩
 ·obtain⟨l,p,q⟩:=f.ak;exact⟨l,p,λk a r=>q k a (r.imp (i k).1 id)⟩
theorem Cn.new(h:Cn P gen tk fr dy dd mem ct pg){n:Nat}{ld:List Nat}(p:tk n=Ax)(q:FP P gen n gen ld)(m:Hs P n (gen,ld,J) mem mem' ct ct')(r:∀k,e k=Gy tk n k):Cn P gen e (Gy fr n) dy dd mem' ct' (Ex pg n (gen,ld))/\pg n=E:=by
 have o:¬(pg n≠E\/dy n=J\/dd n=J):=λc=>by rw[h.du n c]at p;cases p
 have t:pg n=E:=lH (λc=>o (Y c))
 have j:∀(f:Nat->Bool) k,Gy f n k=J↔k=n\/f k=J:=λf k=>by simp[Gy]
 have u:∀k,dy k=J->k≠n:=λk g d=>o (Z (Y (d▸g)))
 have v:∀k,dd k=J->k≠n:=λk g d=>o (Z (Z (d▸g)))
 refine⟨{dv:=λk g=>?_,du:=λk g=>?_,cP:=λk g=>?_,dG:=λk g=>?_,dT:=λk g=>?_,eP:=h.eP,eO:=h.eO,ft:=h.ft,bx:=λk z A i=>?_,bX:=m.bX h.bX q,ak:=?_,fw:=h.fw},t⟩
 ·rw[r,j]at g
  by_cases d:k=n
  ·exact Y (by rw[d,EV];simp)
  ·rw[Et pg _ d];exact h.dv k (g.resolve_left d)
 ·rw[r,j]
  by_cases d:k=n
  ·exact Y d
  ·rw[Et pg _ d]at g;exact Z (h.du k g)
 ·rw[j]at g
  by_cases d:k=n
  ·subst d;rw[EV];simp
  ·rw[Et pg _ d];exact h.cP k (g.resolve_left d)
 ·rw[Et pg _ (u k g)];exact h.dG k g
 ·rw[Et pg _ (v k g)];exact h.dT k g
 ·by_cases d:k=n
  ·subst d;rw[EV]at i
   cases i
   exact⟨Y m.d5,q⟩
  ·rw[Et pg _ d]at i;exact⟨m.bx k d (h.bx k _ _ i).2.lt _ _ (h.bx k _ _ i).1,(h.bx k _ _ i).2⟩
 ·obtain⟨l,w,x⟩:=h.ak;refine⟨l,w,λk a b=>?_⟩
  have s:¬(k=n\/fr k=J):=λc=>by rw[(j fr k).2 c]at a;cases a
  have d:k≠n:=λd=>s (Y d)
  rw[Et pg _ d]at b;refine x k ?_ b
  cases y:fr k with
  |false=>rfl
  |true=>exact absurd (Z y) s
theorem Cn.d4(h:Cn P gen tk fr dy dd mem ct pg)(d:Cq pg (P.bz+3))(n:3*P.bz+4<=P.a4):∃j,j<P.a4/\tk j=Ax:=by
 obtain⟨a,o,e⟩:=d;obtain⟨b,p,f⟩:=h.ak;obtain⟨c,q,g⟩:=h.fw;refine ZZ (l:=a++(b++c)) (λj _ i=>?_) (by simp only[jI];omega)
 rcases h.dv j i with k|k|k
 ·exact lK _ (e j k)
 ·refine lG _ (lK _ (f j ?_ (Z k)))
  cases m:fr j with
  |false=>rfl
  |true=>exact absurd (h.dG j k) (h.cP j m)
 ·exact lG _ (lG _ (g j k))
theorem Cn.hV(d:Cn P gen tk fr dy dd mem ct pg)(z:fr h=J)(n:pg h≠E){tk':Nat->Bool}(o:∀k,tk' k=Jt tk h k)(p:∀k:Int,k≠h->mem' k=mem k)(s:mem' h=E):Cn P gen tk' (Jt fr h) dy dd mem' ct (Ia pg h):=by
 have g:∀(f:Nat->Bool) k,Jt f h k=J↔k≠h/\f k=J:=λf k=>by simp[Jt]
 have q:∀k,dy k=J->k≠h:=λk c e=>n (d.dG h (e▸c))
 have t:∀k,dd k=J->k≠h:=λk c e=>n (d.dT h (e▸c))
 have r:∀k,pg k=E->Ia pg h k=E:=λk c=>by
  by_cases e:k=h
  ·subst e;exact Im pg k
  ·rw[Fi pg e];exact c
 refine{dv:=λk c=>?_,du:=λk c=>?_,cP:=λk c=>?_,dG:=λk c=>r k (d.dG k c),dT:=λk c=>r k (d.dT k c),eP:=d.eP,eO:=d.eO,ft:=d.ft,bx:=λk u v j=>?_,bX:=λi u v A m=>?_,ak:=?_,fw:=d.fw}
 ·rw[o,g]at c;rw[Fi pg c.1];exact d.dv k c.2
 ·rw[o,g]
  by_cases e:k=h
  ·subst e;rw[Im]at c
   rcases c with c|c|c
   ·exact absurd rfl c
   ·exact absurd rfl (q k c)
   ·exact absurd rfl (t k c)
  ·rw[Fi pg e]at c;exact⟨e,d.du k c⟩
 ·rw[g]at c;rw[Fi pg c.1];exact d.cP k c.2
 ·by_cases e:k=h
  ·subst e;rw[Im]at j;cases j
  ·rw[Fi pg e]at j;have:=d.bx k _ _ j;unfold Gb at this⊢;rw[p k (by exact_mod_cast e)];exact this
 ·by_cases e:i=h
  ·subst e;rw[s]at m;cases m
  ·rw[p i e]at m;exact d.bX i _ _ _ m
 ·obtain⟨l,w,x⟩:=d.ak;refine⟨l,w,λk a b=>?_⟩
  by_cases e:k=h
  ·subst e;rw[Im]at b
   rcases b with b|b
   ·exact absurd rfl b
   ·exact absurd rfl (q k b)
  ·rw[Fi pg e]at b;refine x k ?_ b
   cases y:fr k with
   |false=>rfl
   |true=>rw[(g fr k).2 ⟨e,y⟩]at a;cases a
theorem Cn.h0(g:Cn P gen tk fr dy dd mem ct pg)(q:fr h=Ax)(j:pg h≠E):Cn P gen tk fr (Gy dy h) dd mem ct (Ia pg h):=by
 have i:∀(f:Nat->Bool) k,Gy f h k=J↔k=h\/f k=J:=λf k=>by simp[Gy]
 have n:∀k,pg k=E->Ia pg h k=E:=λk d=>by
  by_cases e:k=h
  ·subst e;exact Im pg k
  ·rw[Fi pg e];exact d
 have r:h<P.a4:=by
  cases o:pg h with
  |none=>exact absurd o j
  |some x=>exact(g.bx h x.1 x.2 o).2.lt
 refine{g with dv:=λk d=>?_,du:=λk d=>?_,cP:=λk d=>?_,dG:=λk d=>?_,dT:=λk d=>n k (g.dT k d),eP:=λk d=>?_,eO:=λk d=>?_,bx:=λk u v m=>?_,ak:=?_}
 ·by_cases e:k=h
  ·exact Z (Y ((i dy k).2 (Y e)))
  ·rw[Fi pg e];exact(g.dv k d).imp id (λc=>c.imp (λc=>(i dy k).2 (Z c)) id)
 ·by_cases e:k=h
  ·exact g.du k (Y (e▸j))
  ·rw[Fi pg e,i]at d;exact g.du k (d.imp id (λc=>c.imp (λc=>c.resolve_left e) id))
 ·have e:k≠h:=λe=>by rw[e,q]at d;cases d
  rw[Fi pg e];exact g.cP k d
 ·by_cases e:k=h
  ·subst e;exact Im pg k
  ·exact n k (g.dG k (((i dy k).1 d).resolve_left e))
 ·rcases(i dy k).1 d with rfl|d
  ·cases s:dd k with
   |false=>rfl
   |true=>exact absurd (g.dT k s) j
  ·exact g.eP k d
 ·rcases(i dy k).1 d with rfl|d
  ·exact r
  ·exact g.eO k d
 ·by_cases e:k=h
  ·subst e;rw[Im]at m;cases m
  ·rw[Fi pg e]at m;exact g.bx k _ _ m
 ·obtain⟨l,t,p⟩:=g.ak;refine⟨l,t,λk a b=>?_⟩
  by_cases e:k=h
  ·exact p k a (Y (e▸j))
  ·rw[Fi pg e,i]at b;exact p k a (b.imp id (λc=>c.resolve_left e))
theorem Cn.ii(h:Cn P gen tk fr dy dd mem ct pg)(s:Cq pg P.bz){tk':Nat->Bool}(o:∀k,tk' k=(tk k&&! dd k))(t:∀k:Nat,dd k=J->mem' k=E)(p:∀i:Int,(∀k:Nat,i=k->dd k=Ax)->mem' i=mem i):Cn P (gen+1) tk' (λ_=>Ax) (λ_=>Ax) dy mem' ct pg:=by
 have u:∀k:Nat,dd k=Ax->mem' k=mem k:=λk a=>p k (λj e=>by
  have:k=j:=by exact_mod_cast e
  rw[<-this]
  exact a)
 have q:∀k,pg k≠E->dd k=Ax:=λk a=>by
  cases g:dd k with
  |false=>rfl
  |true=>exact absurd (h.dT k g) a
 refine{dv:=λk a=>?_,du:=λk a=>?_,cP:=λk a=>(by cases a),dG:=λk a=>(by cases a),dT:=h.dG,eP:=λk a=>(by cases a),eO:=λk a=>(by cases a),ft:=h.eO,bx:=λk v w r=>?_,bX:=λi v w y m=>?_,ak:=?_,fw:=?_}
 ·rw[o]at a;simp at a
  rcases h.dv k a.1 with c|c|c
  ·exact Y c
  ·exact Z (Z c)
  ·rw[a.2]at c;cases c
 ·rw[o]
  rcases a with c|c|c
  ·rw[h.du k (Y c),q k c];rfl
  ·cases c
  ·rw[h.du k (Z (Y c)),h.eP k c];rfl
 ·have d:=h.bx k _ _ r;have f:=u k (q k (by rw[r];simp));unfold Gb at d⊢;rw[f];exact⟨d.1,d.2.lt,d.2.aC,d.2.bB,nG d.2.fL⟩
 ·by_cases g:∃k:Nat,i=k/\dd k=J
  ·obtain⟨k,e,a⟩:=g;rw[e,t k a]at m
   cases m
  ·rw[p i (λk e=>by
    cases a:dd k with
    |false=>rfl
    |true=>exact absurd ⟨k,e,a⟩ g)]at m
   obtain⟨k,e,n⟩:=h.bX i _ _ _ m;exact⟨k,e,n.lt,n.aC,n.bB,nG n.fL⟩
 ·obtain⟨l,d,f⟩:=s;exact⟨l,d,λk _ b=>b.elim (f k) (λc=>by cases c)⟩
 ·obtain⟨l,d,f⟩:=h.ak;refine⟨l,d,λk a=>f k ?_ (Z a)⟩
  cases x:fr k with
  |false=>rfl
  |true=>exact absurd (h.dG k a) (h.cP k x)
end
