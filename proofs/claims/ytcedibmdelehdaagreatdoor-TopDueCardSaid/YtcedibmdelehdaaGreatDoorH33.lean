/- Lemmas. -/
import Derived.Test.YtcedibmdelehdaaGreatDoorH31
import Derived.Test.YtcedibmdelehdaaGreatDoorH32
namespace Go.Proofs.YtcedibmdelehdaaGreatDoor
set_option maxRecDepth 100000
set_option maxHeartbeats 32000000
open Go.Value renaming int->E,slice->Ax,pointer->A2,bool->Bs,tuple->CR,agg->CV
open Go.World renaming grownBy_alloc->O
open Go.IntKind renaming i64->V,wrap_i64->CX,u64->C8
open Option renaming none->Y,some->A3
open Bool renaming false->AA,true->BL
open Go.NoPanic renaming normal->A4
open Go.Ending renaming returned->Bd
open Go renaming World->Bk,bodyPost_ret->BA,results_tmp2->B0,Value->CA,Calls->CL,Addr->C4,Ending->C7,maxLen->C9,TypeId->DA
open Go.Proofs.Tryz renaming prog->Bn,results229->C0,ntmps229->C1,ntmps180->C2,func229->C5,func180->C6
open Go.IntWalk renaming wrap64_in->BB
open And renaming intro->BC
open Go.Obj renaming cells->BD
open Or renaming inr->BE,inl->CE
open Decidable renaming decide->BR
open Go.RowKit renaming wrap64->CB,intOf->DV
variable{h:Bk}{J f g j p q r s t w x:Nat}{Z:Int->List Nat}{a:Ad}{b:Int->Option Pg}{c:Pl}{d:List Nat}{e:CA}{i y z A:Nat->Bool}{k:Ap}{l:DA}{n:Pg}{o:List CA}
section
open Go.RowKit
attribute [local go_sem ↓] Go.wp_at_zero Go.wp_at_succ
theorem Pl.aU.dD(h:c.aU){k:Nat}(a:k<c.a2):c.aK+k<c.ss/\c.a2<=16384/\c.aK<=16384:=by
 have d:=h.ec;have e:=h.d4;have b:c.a2=c.ss - c.aK:=rfl;rw[b]at a⊢;exact⟨Ω,Ω,Ω⟩
theorem Bu.cells(d:Bu h a J f c t g j w x p q r s i y z A b):
  h.cell? ⟨J,0,Y⟩=A3 (A2 (A3 ⟨f,0,Y⟩))/\h.cell? ⟨J,9,Y⟩=A3 (E V c.aK)/\h.cell? ⟨J,10,Y⟩=A3 (E V c.a2)/\h.cell? ⟨J,11,Y⟩=A3 (E V (c.n - 19:Nat))/\h.cell? ⟨J,12,Y⟩=A3 (E V g)/\
  h.cell? ⟨J,13,Y⟩=A3 (A2 (A3 ⟨j,0,Y⟩))/\h.cell? ⟨J,14,Y⟩=A3 (.map (A3 p))/\h.cell? ⟨J,15,Y⟩=A3 (.map (A3 q))/\h.cell? ⟨J,16,Y⟩=A3 (.map (A3 r))/\h.cell? ⟨J,17,Y⟩=A3 (A2 (A3 ⟨s,0,Y⟩)):=
 ⟨d.u.m 0,d.u.m 9,d.u.m 10,d.u.m 11,d.u.m 12,d.u.m 13,d.u.m 14,d.u.m 15,d.u.m 16,d.u.m 17⟩
theorem TR(d:Bu h a J f c g j p q r s t w x i y z A b)(k l:Nat)(o:k<c.a2):
  CL Bn 228 #[A2 (A3 ⟨J,0,Y⟩),CV #[E V k,E V l]] h λe m=>e=Bd (E V 0)/\h.grownBy m Y:=by
 obtain⟨_,_,n,_⟩:=d.cells;clear d;generalize c.a2=N at*;have u:BR ((k:Int)<0)=AA:=Δ;have v:BR ((N:Int)<=(k:Int))=AA:=Γ;have B:BR (N<=k)=AA:=Γ;have C:=(O h (BD #[E V k,E V l] 165) Y).cell n Δ
 go_enter Tryz.func228,Tryz.ntmps228
 go_wp2_with fail
 go_quiet (fail)
 go_wp2_with fail;go_ret;exact⟨rfl,Ae (O _ _ Y) (AS _ nq Y)⟩
theorem OQ{bc:Nat}(B:Bu h a g J c j p q r s t w x bc i y z A b)(S:AD h a J c.ss c.n f Z)(T:Aw h a)(U:f<=1073741824)(aj:j<=1073741824)(X:c.aU)
  (k m:Nat)(o:Option C4)(u:Nat)(d:List Nat)(L:Bool)(v:FL c p k m d)(hp:Bj h a o u d):
  CL Bn 150 #[A2 (A3 ⟨g,0,Y⟩),E V k,CV #[E V m,Ax o d.length u,Bs L]] h λe n=>e=Bd (E V 0)/\∃l,Ab (λC=>C=1) h a n l/\AD n l J c.ss c.n (f+1) (Cu Z ((c.aK+k:Nat):Int) (BO c.n 2 k m d)):=by
 obtain⟨M,ab,ak⟩:=X.dD v.lt;have al:=B.q1;have ac:=v.lt;have am:=v.fQ;have N:CB ((c.aK:Int)+(k:Int))=((c.aK+k:Nat):Int):=De rfl (j8 (nQ (jY M X.d4)) Ω)
 have ad:=λ(W:Bk) (D:Ad) (hD:AD W D J c.ss c.n f Z) (hC:Aw W D) (hP:Bj W D o u d)=>MA J c.ss c.n f Z ((c.aK+k:Nat):Int) 2 k m d o u W D hD hC U Ω (by exact_mod_cast M) Ω Ω (j8 (nQ (jY ac ab)) Ω) Ω v.aF v.bx hP.1
 have ae:=zh ad;have H:=zh B;have HD:=zh S;have HC:=zh T;have HP:=zh hp
 have au:∀(e:C7) (n:Bk),(e=Bd (E V 0)/\∃l,Ab (λC=>C=1) h a n l/\AD n l J c.ss c.n (f+1) (Cu Z ((c.aK+k:Nat):Int) (BO c.n 2 k m d)))->(e=Bd (E V 0)/\∃l,Ab (λC=>C=1) h a n l/\AD n l J c.ss c.n (f+1) (Cu Z ((c.aK+k:Nat):Int) (BO c.n 2 k m d))):=λ_ _ B=>B
 obtain⟨aC,P⟩:∃av,c.aK=av:=⟨_,rfl⟩;obtain⟨ag,F⟩:∃ag:Nat,c.aK+k=ag:=⟨_,rfl⟩;rw[F]at N ae;rw[P]at N;have aw:=zh P;have HZ:=zh F;clear B S T hp ad v M ab ak ac am al U aj P au;rw[F];clear F
 go_enter Tryz.func150,Tryz.ntmps150
 go_wp2_with fail;obtain⟨G,I⟩:=Ag (h.alloc (BD #[E V m,Ax o d.length u,Bs L] 198))
 have Q:h.grownBy G Y:=by rw[<-I];exact O _ _ Y
 have R:Aa G h.heap.size 198 [E V m,Ax o d.length u,Bs L]:=by rw[<-I];exact Aa.new _ _ _
 rw[I];have G1:=zh Q;have H1:=H.o.grown Q;obtain⟨c0,c9,_⟩:=H1.cells;have x0:=R.m 0;have x1:=R.m 1;rw[aw.o]at c9;clear I Q H1 R
 go_still_tail 16,Φ
 go_wp2_with fail;have K:=Ae G1.o (Be G);have az:=HP.o.grown K;rw[N];refine(ae.o G.drew a (HD.o.grown K) (HC.o.grown K) az).mono ?_;rintro e w2 ⟨rfl,l,hs,aB⟩;go_wp2_with fail;go_ret;exact⟨rfl,l,(Ab.grown HC.o K).trans hs,aB⟩
theorem Bu.eY{C:Nat->Prop}{B:Bk}{n:Ad}{D:Nat}{E:Int->Option Pg}(d:Bu B a g j c p q r s t w x D f i y z A E)(k:Ab C B a h n)(F:¬C 3)(G:¬C 0)(m:p<=J)(H:DR h n f c.a7 J b):Bu h n g j c J q r s t w x D f i y z A b:=by
 have l:∀o,a o=3->¬C (a o):=λo e v=>F (by rw[<-e];exact v)
 exact{
  u:=k.ak.u d.u (l _ d.c0)
  aR:=d.aR.ak k.ak (l _ d.c1) (l _ d.c2) (λv=>G (by rw[<-d.dX];exact v))
  mf:=(d.mf.ak k.ak (l _ d.c3)).mono m
  my:=(d.my.ak k.ak (l _ d.c4)).mono m
  md:=(d.md.ak k.ak (l _ d.c5)).mono m
  cs:=H
  fy:=d.fy
  fd:=d.fd
  yd:=d.yd
  c0:=by rw[k.ah _ d.u.lt];exact d.c0
  c1:=by rw[k.ah _ d.aR.eh.1];exact d.c1
  c2:=by rw[k.ah _ d.aR.eh.2.1];exact d.c2
  c3:=by rw[k.ah _ d.mf.lt];exact d.c3
  c4:=by rw[k.ah _ d.my.lt];exact d.c4
  c5:=by rw[k.ah _ d.md.lt];exact d.c5
  dX:=by rw[k.ah _ d.aR.eh.2.2.2];exact d.dX
  q1:=j8 d.q1 (mJ m)}
theorem QM{a:Int->Option Pg}(e:b (J:Int)=A3 n)(d:∀j:Int,j≠J->b j=a j):Hc c J n a b Z Z:=
 ⟨e,λi f=>CE (d i f),λk g _ l m h=>by
  unfold FW at h⊢;rw[d k (by exact_mod_cast g)]
  exact h,rfl,AN.refl _ _⟩
theorem Qq{a:Int->Option Pg}(o:b (f:Int)=A3 n)(p:a (J:Int)=A3 (g,d,AA))(l:b (J:Int)=Y)(m:∀j:Int,j≠f->j≠J->b j=a j):Hc c f n a b Z Z:=by
 refine⟨o,λi q=>?_,λk r _ s t h=>?_,rfl,AN.refl _ _⟩
 ·by_cases e:i=J
  ·exact BE (by rw[e];exact l)
  ·exact CE (m i q e)
 ·unfold FW at h⊢
  by_cases e:k=J
  ·subst e;rw[p]at h;rw[l]
   rcases h with h|⟨_,h⟩
   ·injection h with h;injection h with _ h;injection h with _ h;cases h
   ·exact BE ⟨CE rfl,h⟩
  ·rw[m k (by exact_mod_cast r) (by exact_mod_cast e)];exact h
theorem QJ{l:Int->Option Pg}(s:b (f:Int)=A3 n)(t:l (J:Int)=A3 (g,d,BL))(o:b (J:Int)=Y)(u:J≠f)(v:J<c.a2)(p:∀j:Int,j≠f->j≠J->b j=l j):
  Hc c f n l b Z (Cu Z ((c.aK+J:Nat):Int) (BO c.n 2 J g d)):=by
 have q:∀k:Nat,k≠J->Cu Z ((c.aK+J:Nat):Int) (BO c.n 2 J g d) ((c.aK+k:Nat):Int)=Z ((c.aK+k:Nat):Int):=λk m=>j7 (λe=>m (oQ (n:=c.aK) (by exact_mod_cast e)))
 refine⟨s,λi a=>?_,λk m _ w x h=>?_,q f (λe=>u e.symm),λi a=>j7 (λe=>?_)⟩
 ·by_cases e:i=J
  ·exact BE (by rw[e];exact o)
  ·exact CE (p i a e)
 ·unfold FW at h⊢
  by_cases e:k=J
  ·subst e;rw[t]at h;rw[o]
   have r:w=g/\x=d:=by
    rcases h with h|⟨h|h,_⟩
    ·injection h with h;injection h with y h;injection h with z _;exact⟨y.symm,z.symm⟩
    ·cases h
    ·injection h with h;injection h with _ h;injection h with _ h;cases h
   rw[r.1,r.2];exact BE ⟨CE rfl,ke rfl⟩
  ·rw[p k (by exact_mod_cast m) (by exact_mod_cast e),q k e];exact h
 ·subst e
  rcases a with a|a
  ·have:c.aK+J<c.aK:=by exact_mod_cast a
   exact absurd this (Nat.not_lt.2 (nW _ _))
  ·have:c.aK+c.a2<=c.aK+J:=by exact_mod_cast a
   exact absurd (qk this) (Nat.not_le.2 v)
theorem Cn{x y:Int}(h:CB x=y):V.wrap x=y:=by
 rw[<-h,CX];unfold CB;rfl
theorem DF.iB(b:DF h a J f c g j k Z):
  ∃d,Aa h J 196 (A2 (A3 ⟨f,0,Y⟩)::(c.cells++d)):=by
 obtain⟨B,i,l,m,n,o,p,q,r,s,t,u,e,_⟩:=b;exact⟨_,e.u⟩
theorem RJ(d:DF h a J f c g j k Z):
  CL Bn 136 #[A2 (A3 ⟨J,0,Y⟩)] h λe i=>e=Bd c.val/\h.grownBy i Y:=by
 obtain⟨u,b⟩:=d.iB;clear d;obtain⟨l,n,m,o,q,r,s,t⟩:=c;have w:=(O h (BD #[E V 0,E V 0,E V 0,E V 0,E V 0,E V 0,E V 0,E C8 0] 37) Y).cell (b.m 1) Δ;have x:=(O h (BD #[E V 0,E V 0,E V 0,E V 0,E V 0,E V 0,E V 0,E C8 0] 37) Y).cell (b.m 2) Δ;have y:=(O h (BD #[E V 0,E V 0,E V 0,E V 0,E V 0,E V 0,E V 0,E C8 0] 37) Y).cell (b.m 3) Δ;have z:=(O h (BD #[E V 0,E V 0,E V 0,E V 0,E V 0,E V 0,E V 0,E C8 0] 37) Y).cell (b.m 4) Δ;have A:=(O h (BD #[E V 0,E V 0,E V 0,E V 0,E V 0,E V 0,E V 0,E C8 0] 37) Y).cell (b.m 5) Δ;have B:=(O h (BD #[E V 0,E V 0,E V 0,E V 0,E V 0,E V 0,E V 0,E C8 0] 37) Y).cell (b.m 6) Δ;have C:=(O h (BD #[E V 0,E V 0,E V 0,E V 0,E V 0,E V 0,E V 0,E C8 0] 37) Y).cell (b.m 7) Δ;have D:=(O h (BD #[E V 0,E V 0,E V 0,E V 0,E V 0,E V 0,E V 0,E C8 0] 37) Y).cell (b.m 8) Δ;clear b
 go_enter Tryz.func136,Tryz.ntmps136
 go_wp2_with fail;refine BA (v:=CV #[E V l,E V n,E V m,E V o,E V q,E V r,E V s,E C8 (U t)]) (results_cell_row (p:=2) (ty:=37) rfl _ _ h.heap.size _ _ _ _ rfl (World.alloc_heap_new _ _) Tryz.underlying37 rfl Φ) rfl ⟨rfl,O _ _ Y⟩
def Cv(P:Pl)(a:Nat):Nat:=max (a+1 - P.rg) 1
theorem ZW(b:A8 h a J g c f j e d):
  CL Bn 157 #[A2 (A3 ⟨J,0,Y⟩)] h λi k=>i=Bd (E V f)/\h=k:=by
 obtain⟨_,_,_,_,_,_,l,_⟩:=b.cells;clear b
 go_enter Tryz.func157,Tryz.ntmps157
 go_wp2_with fail;go_ret;exact⟨rfl,rfl⟩
theorem NM(i:A8 h a f g c J j e d)(k:c.aU)(n:J<=1099511627776):
  CL Bn 48 #[A2 (A3 ⟨f,0,Y⟩)] h λl m=>l=Bd (E V (Cv c J:Nat))/\h.grownBy m Y:=by
 obtain⟨_,o,_,_,_,_,p,_⟩:=i.cells;have q:=k.gg;clear i k;unfold Cv;generalize c.rg=b at*;have r:CB ((J:Int) - (b:Int))=(J:Int) - (b:Int):=BB _ Ω;have s:CB ((J:Int) - (b:Int)+1)=(J:Int) - (b:Int)+1:=BB _ Ω
 go_enter Tryz.func48,Tryz.ntmps48
 go_wp2_with fail
 go_quiet (fail)
 go_wp2_with fail;go_ret;refine⟨?_,AS _ nq Y⟩;rw[show max ((J:Int) - (b:Int)+1) 1=((max (J+1 - b) 1:Nat):Int) by omega];rfl
theorem Ye(k:A8 h a g j c J f e d)(i:c.aU)(l:J<=1099511627776)(r:f<=c.aI):
  CL Bn 47 #[A2 (A3 ⟨g,0,Y⟩)] h λn o=>n=Bd (E V (J*c.aI+f:Nat))/\h.grownBy o Y:=by
 obtain⟨_,_,_,_,s,_,t,u,_⟩:=k.cells;have p:c.aI<=32*493:=mn i.dq (Ψ i.n1);clear k i;generalize c.aI=b at*;have v:J*b<=1099511627776*(32*493):=mn l p
 have q:(J:Int)*(b:Int)=((J*b:Nat):Int):=by push_cast;rfl
 generalize J*b=m at*
 have w:CB ((J:Int)*(b:Int))=(m:Int):=by rw[q];exact BB _ Ω
 have x:CB ((m:Int)+(f:Int))=((m+f:Nat):Int):=by rw[BB _ Ω];rfl
 go_enter Tryz.func47,Tryz.ntmps47
 go_wp2_with fail
 go_quiet (fail)
 go_wp2_with fail;go_ret;exact⟨rfl,AS _ nq Y⟩
theorem QD(k:A8 h a J f c g j e d)(b:c.aU)(q i:Nat)(n:i<c.rs):
  CL Bn 208 #[A2 (A3 ⟨J,0,Y⟩),E V q,E V i] h λo p=>o=Bd (E V (BM c q i:Nat))/\h.grownBy p Y:=by
 obtain⟨_,w,x,_⟩:=k.cells;have r:=KU b (q:=q) n;have y:=b.gS;have z:=b.fN;clear k b;unfold BM at r⊢
 have A:((q:Int)).tmod (c.rg:Int)=((q%c.rg:Nat):Int):=by rw[ln Ω];rfl
 have l:((q%c.rg:Nat):Int)*(c.rs:Int)=((q%c.rg*c.rs:Nat):Int):=by push_cast;rfl
 generalize q%c.rg*c.rs=m at*;generalize q%c.rg=u at*;generalize c.rg*c.rs=v at*;generalize c.rg=s at*;generalize c.rs=t at*;have B:((s:Int)==0)=AA:=Γ
 have C:CB ((u:Int)*(t:Int))=(m:Int):=by rw[l];exact BB _ Ω
 have D:CB ((m:Int)+(i:Int))=((m+i:Nat):Int):=by rw[BB _ Ω];rfl
 clear l
 go_enter Tryz.func208,Tryz.ntmps208
 go_wp2_with fail
 go_quiet (fail)
 go_wp2_with fail;go_ret;exact⟨rfl,AS _ nq Y⟩
theorem QX(i:A8 h a f g c J j e d)(l:c.aU)(r:J<=1099511627776)(q:Nat)(w:q<=J):
  CL Bn 180 #[A2 (A3 ⟨f,0,Y⟩),E V q] h λk s=>k=Bd (Bs (BR (Cv c J<=q)))/\h.grownBy s Y:=by
 have m:=zh (NM i l r);obtain⟨_,_,_,_,_,_,n,_⟩:=i.cells;clear i l;generalize Cv c J=o at*;have x:BR ((q:Int)<=(J:Int))=BL:=jT Ω
 by_cases p:o<=q
 ·have t:BR ((o:Int)<=(q:Int))=BL:=jT Ω;rw[show BR (o<=q)=BL from jT p]
  go_enter C6,C2
  go_wp2_with fail;refine m.o.mono ?_;rintro k u ⟨rfl,b⟩;have v:=b.cell n Δ;go_wp2_with fail;go_ret;exact⟨rfl,b⟩
 ·have t:BR ((o:Int)<=(q:Int))=AA:=jV Ω;rw[show BR (o<=q)=AA from jV p]
  go_enter C6,C2
  go_wp2_with fail;refine m.o.mono ?_;rintro k u ⟨rfl,b⟩;have v:=b.cell n Δ;go_wp2_with fail;go_ret;exact⟨rfl,b⟩
abbrev SK(n:Nat):Nat->Prop:=Sc (λj=>j=1\/j=2) n
def aU(w:Bk)(h:Ad)(s d:Nat)(P:Pl)(q i B g j l m o p:Nat)(r t u v:Nat->Bool)(y:Int->Option Pg)(z:Int->List Nat)(k:Nat)(x:Pg)(n:Nat)(e:C7)(a:Bk):Prop:=
 e=Bd (E V 0)/\∃b c f,Ab (SK n) w h a b/\Bu a b s d P (q+1) i B g j l m o p r t u v c/\AD a b d P.ss P.n (q+1) f/\Hc P k x y c z f
structure Le(w:Bk)(c:Ad)(s d:Nat)(P:Pl)(q e B g f h i j l:Nat)(m n o p:Nat->Bool)(t:Int->Option Pg)(r:Int->List Nat)(k:Nat)(x:Pg)(W:Bk)(a:Ad)(b:Int->Option Pg):Prop where
 st:Ab (SK 102) w c W a
 bJ:Bu W a s d P (q+1) e B g f h i j l m n o p b
 bI:AD W a d P.ss P.n q r
 d3:b (k:Int)=A3 x
theorem Le.aM{v:Ad}{k:Nat}{W B:Bk}{C:Int->Option Pg}(d:Le h v J f c g j p q r s t w x i y z A b Z k n W a C){L:Nat}(m:a L=101)(o:Ac (λl=>l=L) W B):Le h v J f c g j p q r s t w x i y z A b Z k n B a C:=
 ⟨d.st.trans (AG d.st.new o (λl e=>by rw[e,m];exact BE ⟨Ω,Ω⟩)),d.bJ.am o (λl u e=>by rw[e,m]at u;omega) (λ_ _=>rfl),d.bI.am o (λl u e=>by rw[e,m]at u;omega) (λ_ _=>rfl),d.d3⟩
theorem Jy{tk:Nat->Bool}(u:Bu h a f j c J g q r s t w x p tk y z A b)(bh:∀i Q N X,b i=A3 (Q,N,X)->∃k:Nat,i=k/\FL c g k Q N)(hd:AD h a j c.ss c.n J Z)(bj:Aw h a)(hq:J<=1073741823)(aR:c.aU)
  (k Q:Nat)(ag:Option C4)(ah:Nat)(N:List Nat)(X:Bool)(hk:FL c g k Q N)(hp:Bj h a ag ah N):
  CL Bn 139 #[A2 (A3 ⟨f,0,Y⟩),E V k,CV #[E V Q,Ax ag N.length ah,Bs X]] h (aU h a f j c J g q r s t w x p tk y z A b Z k (Q,N,X) 102):=by
 have bl:(k:Int)<=65535:=by have:=(aR.dD hk.lt).2.1;have:=hk.lt;omega
 have H:=zh u;have bm:=zh bh;have HD:=zh hd;have HC:=zh bj;have HP:=zh hp;have HK:=zh hk;clear u bh hd bj hp hk
 go_enter Tryz.func139,Tryz.ntmps139
 go_wp2_with fail;obtain⟨w1,ar⟩:=Ag (h.alloc (BD #[E V Q,Ax ag N.length ah,Bs X] 198))
 have g1:h.grownBy w1 Y:=by rw[<-ar];exact O _ _ Y
 have b1:Aa w1 h.heap.size 198 [E V Q,Ax ag N.length ah,Bs X]:=by rw[<-ar];exact Aa.new _ _ _
 have bS:w1.heap.size=h.heap.size+1:=by rw[<-ar];simp
 rw[ar];have G1:=zh g1;have B1:=zh b1;clear ar g1 b1;refine A7 (λW=>W.cell? ⟨f,17,Y⟩=A3 (A2 (A3 ⟨p,0,Y⟩))/\Aa W h.heap.size 198 [E V (Q:Nat),Ax ag N.length ah,Bs X]) (.bP [0,1,2,3,4,5] 6 AA (.an [] [7,8,9,10] 11 BL (.an [] [12] 13 AA (.an [] [] 14 AA (.nil)))) 11 BL (.an [] [] 6 AA (.an [] [7,8,9,10,12] 13 AA (.an [] [] 14 AA (.nil))))) Φ Φ ?_;obtain⟨w2,aS⟩:=Ag w1.drew
 have g2:w1.grownBy w2 Y:=by rw[<-aS];exact Be w1
 rw[aS];have G2:=zh (Ae G1.o g2);have B2:=zh (B1.o.grown g2 Δ);have H2:=zh (H.o.grown G2.o);have bp:=zh (HD.o.grown G2.o);have bF:=zh (HC.o.grown G2.o);have bq:=zh (HP.o.grown G2.o);clear aS g2;refine Ej ⟨H2.o.cells.2.2.2.2.2.2.2.2.2,B2.o⟩ ?_
 iterate 6 ((apply AB rfl Θ;(· intro wS aj;(try have aj:=aj rfl);(try dsimp only at aj);(try(have bU:=aj.1;have x0:=aj.2.m 0;have x1:=aj.2.m 1;have x2:=aj.2.m 2));go_simp;(try with_reducible rfl)));refine Ak ?_)
 refine Aj ⟨?_,?_⟩
 ·refine Al ?_;intro K m;refine(Pn H2.o.cs bF.o (by unfold C9;omega) k Ω bl Q ag ah N X bq.o).mono ?_;rintro e P ⟨au,I,U,av,aw,ax⟩
  obtain⟨v,D,B,C,n,F,wb,rfl,hr⟩:∃(v:Int) (D:Nat) (B:Option C4) (C:Nat) (n:List Nat) (F wb:Bool),e=Bd (CR #[E V v,CV #[E V D,Ax B n.length C,Bs F],Bs wb])/\
    ((wb=AA/\∀d:Int,d≠k->I d=b d)\/(wb=BL/\v≠k/\b v=A3 (D,n,F)/\I v=Y/\(∀d:Int,d≠k->d≠v->I d=b d)/\Bj P au B C n)):=by
   rcases ax with⟨rfl,o⟩|⟨v,D,B,C,n,F,rfl,o,L,R,T,h5,_⟩
   ·exact⟨0,0,Y,0,[],AA,AA,rfl,CE ⟨rfl,o⟩⟩
   ·exact⟨v,D,B,C,n,F,BL,rfl,BE ⟨rfl,o,L,R,T,h5⟩⟩
  have HR:=zh hr;have aX:Hd (Ab (SK 102) h a P au):=zh ((Ab.grown HC.o G2.o).trans (U.mono (Sc.mono (λd e=>BE e) Ω)));have br:=zh (H2.o.eY U (Sc.az Ω Ω) (Sc.az Ω Ω) (lC J) av);have bs:=zh (bp.o.ae U (Sc.az Ω Ω));have bt:=zh aw;have aY:=zh (U.u B2.o (by rw[HC.o h.heap.size (jS _)];exact Sc.az Ω Ω));clear U av aw ax hr;dsimp only;refine As m ?_;clear m K;refine Ar ?_
  iterate 4 refine Az ?_
  refine Aj ?_;refine Al ?_;intro K m;obtain⟨w4,aJ⟩:=Ag (P.alloc (BD #[E V 0,Ax Y 0 0,Bs AA] 198))
  have g4:P.grownBy w4 Y:=by rw[<-aJ];exact O _ _ Y
  have b4:Aa w4 P.heap.size 198 [E V 0,Ax Y 0 0,Bs AA]:=by rw[<-aJ];exact Aa.new _ _ _
  rw[aJ];obtain⟨ab,aK⟩:=Ag (AL au P.heap.size 101)
  have a0:ab P.heap.size=101:=by rw[<-aK];exact AY _ _ _
  have aL:∀d,d<P.heap.size->ab d=au d:=λd hj=>by rw[<-aK];exact Bg _ _ Ω
  have bu:Le h a f j c J g q r s t w x p tk y z A b Z k (Q,N,X) w4 ab I:=
   ⟨aX.o.trans (by rw[<-aK];exact Cc aX.o.new g4 (jS _) b4.lt (BE ⟨Ω,Ω⟩)),br.o.am (Ac.au (S:=λ_=>False) g4) (λ_ _ u=>u) aL,bs.o.am (Ac.au (S:=λ_=>False) g4) (λ_ _ u=>u) aL,bt.o⟩
  have a1:Hd (Bj P au B C n->∀w5,Ac (λd=>d=P.heap.size) w4 w5->Bj w5 ab B C n):=zh (λu w5 ht=>((u.am (col':=ab) (Ac.au (S:=λ_=>False) g4) (λ_ _ u=>u) aL)).am ht (λbH hb e=>by rw[e,a0]at hb;cases hb) (λ_ _=>rfl));have aM:=zh a0;have aN:=zh bu;have M:=zh b4;have bI:=zh (aY.o.grown g4 Δ);clear aJ g4 b4 aK aL bu a0 aX br bs bt;refine m _ _ ⟨_,λ_ u=>u,λ_=>⟨aN.o.bJ.cells.2.2.2.2.2.2.2.2.2,bI.o⟩,?_⟩;clear m K;refine Ak ?_;refine Ar ?_;refine Az ?_;refine Aj ?_;have y0:=M.o.m 0;have y1:=M.o.m 1;have y2:=M.o.m 2;have f0:=M.o.v 0;have f1:=M.o.v 1;have f2:=M.o.v 2;refine Al ?_;intro K m;obtain⟨w5,aA,aB,ak⟩:=Br M.o (E V D) (Ax B n.length C) (Bs F);rw[aA];have aC:=aN.o.aM aM.o ak;have a9:=zh ak;clear y0 y1 y2 f0 f1 f2 aA ak;refine As m ?_;clear m K;refine Ar ?_;refine Aj ?_;refine Al ?_;intro K m;refine As m ?_;clear m K;refine AK (A4 ?_);have al:=zh aB;have l:=zh aC;clear aB aC;have z0:=al.o.m 0;have z1:=al.o.m 1;have z2:=al.o.m 2
  rcases HR.o with⟨rfl,o⟩|⟨rfl,o,L,R,T,h5⟩
  ·have H1:=zh o;clear o;go_wp2_with fail;go_ret;exact⟨rfl,_,I,Z,l.o.st,l.o.bJ,l.o.bI.mono (lC J),QM l.o.d3 H1.o⟩
  ·obtain⟨gk,rfl,am⟩:=bm.o v D n F L
   cases F
   ·have G:=zh (BC o (BC L (BC R T)));clear o L R T h5 am;go_wp2_with fail;go_ret;exact⟨rfl,_,I,Z,l.o.st,l.o.bJ,l.o.bI.mono (lC J),Qq l.o.d3 G.o.2.1 G.o.2.2.1 G.o.2.2.2⟩
   ·have G:=zh (BC o (BC L (BC R T)));have HG:=zh am;have H5:=zh (a1.o h5 w5 a9.o);clear o L R T h5 am;go_wp2_with fail;refine(OQ l.o.bJ l.o.bI l.o.st.new Ω Ω aR gk D B C n BL HG.o H5.o).mono ?_;rintro e w9 ⟨rfl,bc,aE,bd⟩;go_wp2_with fail;go_ret
    have be:gk≠k:=λe=>G.o.1 (by rw[e])
    exact⟨rfl,bc,I,_,l.o.st.trans (aE.mono (λd e=>CE (CE e))),l.o.bJ.ae aE Ω Ω Ω,bd,QJ l.o.d3 G.o.2.1 G.o.2.2.1 be HG.o.lt G.o.2.2.2⟩
 ·refine Al ?_;intro K m;obtain⟨P,aO⟩:=Ag (w2.alloc (BD #[E V 0,Ax Y 0 0,Bs AA] 198))
  have g3:w2.grownBy P Y:=by rw[<-aO];exact O _ _ Y
  have b3:Aa P w2.heap.size 198 [E V 0,Ax Y 0 0,Bs AA]:=by rw[<-aO];exact Aa.new _ _ _
  rw[aO];obtain⟨aq,aP⟩:=Ag (AL a w2.heap.size 101)
  have bv:aq w2.heap.size=101:=by rw[<-aP];exact AY _ _ _
  have bN:h.heap.size<=w2.heap.size:=G2.o.size
  have aQ:∀d,d<w2.heap.size->aq d=a d:=λd hj=>by rw[<-aP];exact Bg _ _ Ω
  have bw:Ab (SK 102) h a P aq:=by rw[<-aP];exact Cc HC.o (Ae G2.o g3) bN b3.lt (BE ⟨Ω,Ω⟩)
  have bx:=zh bw;have bg:=zh (H2.o.am (col':=aq) (Ac.au (S:=λ_=>False) g3) (λ_ _ u=>u) aQ);have bO:=zh (bp.o.am (col':=aq) (Ac.au (S:=λ_=>False) g3) (λ_ _ u=>u) aQ);have bP:=zh (bq.o.am (col':=aq) (Ac.au (S:=λ_=>False) g3) (λ_ _ u=>u) aQ);have B3:=zh b3;have bA:=zh bv;have aY:=zh (B2.o.grown g3 Δ);clear aO g3 b3 aP bv aQ bw;refine m _ _ ⟨_,λ_ u=>u,λ_=>⟨bg.o.cells.2.2.2.2.2.2.2.2.2,aY.o⟩,?_⟩;clear m K;refine Ak ?_;refine Ar ?_;refine Aj ?_;refine Al ?_;intro K m;refine(Pn bg.o.cs bx.o.new (by unfold C9;omega) k Ω bl Q ag ah N X bP.o).mono ?_;rintro e w4 ⟨ab,I,U,av,aw,ax⟩
  obtain⟨v,D,B,C,n,F,wb,rfl,hr⟩:∃(v:Int) (D:Nat) (B:Option C4) (C:Nat) (n:List Nat) (F wb:Bool),e=Bd (CR #[E V v,CV #[E V D,Ax B n.length C,Bs F],Bs wb])/\
    ((wb=AA/\∀d:Int,d≠k->I d=b d)\/(wb=BL/\v≠k/\b v=A3 (D,n,F)/\I v=Y/\(∀d:Int,d≠k->d≠v->I d=b d)/\Bj w4 ab B C n)):=by
   rcases ax with⟨rfl,o⟩|⟨v,D,B,C,n,F,rfl,o,L,R,T,h5,_⟩
   ·exact⟨0,0,Y,0,[],AA,AA,rfl,CE ⟨rfl,o⟩⟩
   ·exact⟨v,D,B,C,n,F,BL,rfl,BE ⟨rfl,o,L,R,T,h5⟩⟩
  have HR:=zh hr;have aM:Hd (ab w2.heap.size=101):=zh (by rw[U.ah _ B3.o.lt];exact bA.o);have M:=zh (U.u B3.o (by rw[bA.o];exact Sc.az Ω Ω));have aN:Hd (Le h a f j c J g q r s t w x p tk y z A b Z k (Q,N,X) w4 ab I):=zh ⟨bx.o.trans (U.mono (Sc.mono (λd e=>BE e) Ω)),bg.o.eY U (Sc.az Ω Ω) (Sc.az Ω Ω) (lC J) av,bO.o.ae U (Sc.az Ω Ω),aw⟩;have a1:Hd (Bj w4 ab B C n->∀w5,Ac (λd=>d=w2.heap.size) w4 w5->Bj w5 ab B C n):=zh (λu w5 ht=>u.am ht (λbH hb e=>by rw[e,aM.o]at hb;cases hb) (λ_ _=>rfl));clear U av aw ax hr;dsimp only;refine As m ?_;clear m K;refine Ar ?_
  iterate 5 refine Az ?_
  refine Aj ?_;have y0:=M.o.m 0;have y1:=M.o.m 1;have y2:=M.o.m 2;have f0:=M.o.v 0;have f1:=M.o.v 1;have f2:=M.o.v 2;refine Al ?_;intro K m;obtain⟨w5,aA,aB,ak⟩:=Br M.o (E V D) (Ax B n.length C) (Bs F);rw[aA];have aC:=aN.o.aM aM.o ak;have a9:=zh ak;clear y0 y1 y2 f0 f1 f2 aA ak;refine As m ?_;clear m K;refine Ar ?_;refine Aj ?_;refine Al ?_;intro K m;refine As m ?_;clear m K;refine AK (A4 ?_);have al:=zh aB;have l:=zh aC;clear aB aC;have z0:=al.o.m 0;have z1:=al.o.m 1;have z2:=al.o.m 2
  rcases HR.o with⟨rfl,o⟩|⟨rfl,o,L,R,T,h5⟩
  ·have H1:=zh o;clear o;go_wp2_with fail;go_ret;exact⟨rfl,_,I,Z,l.o.st,l.o.bJ,l.o.bI.mono (lC J),QM l.o.d3 H1.o⟩
  ·obtain⟨gk,rfl,am⟩:=bm.o v D n F L
   cases F
   ·have G:=zh (BC o (BC L (BC R T)));clear o L R T h5 am;go_wp2_with fail;go_ret;exact⟨rfl,_,I,Z,l.o.st,l.o.bJ,l.o.bI.mono (lC J),Qq l.o.d3 G.o.2.1 G.o.2.2.1 G.o.2.2.2⟩
   ·have G:=zh (BC o (BC L (BC R T)));have HG:=zh am;have H5:=zh (a1.o h5 w5 a9.o);clear o L R T h5 am;go_wp2_with fail;refine(OQ l.o.bJ l.o.bI l.o.st.new Ω Ω aR gk D B C n BL HG.o H5.o).mono ?_;rintro e w9 ⟨rfl,bc,aE,bd⟩;go_wp2_with fail;go_ret
    have be:gk≠k:=λe=>G.o.1 (by rw[e])
    exact⟨rfl,bc,I,_,l.o.st.trans (aE.mono (λd e=>CE (CE e))),l.o.bJ.ae aE Ω Ω Ω,bd,QJ l.o.d3 G.o.2.1 G.o.2.2.1 be HG.o.lt G.o.2.2.2⟩
end
section
open Go.RowKit
theorem Ov{t:DA}{b:List CA}(a:Aa h J l o)(k:Aa h J t b):l=t:=by
 unfold Aa at a k;rw[a]at k;injection k with k;injection k
section
variable {w w1:World} {col:Ad} {s d:Nat} {P:Pl} {q q' gen B g hand hand' bf by' bd bc:Nat} {tk tk' fr fr' dy dy' dd dd':Nat->Bool} {mem:Int->Option Pg}
theorem Bu.dM(h:Bu w col s d P q gen B g hand bf by' bd bc tk fr dy dd mem):s≠B/\s≠g/\bf≠B/\bf≠g/\by'≠B/\by'≠g/\bd≠B/\bd≠g/\bf≠s/\by'≠s/\bd≠s:=by
 obtain⟨c,f,a,_⟩:=h.aR;obtain⟨i,b⟩:=a.aB;refine⟨λe=>?_,λe=>?_,h.mf.b6 a.u,h.mf.b6 b,h.my.b6 a.u,h.my.b6 b,h.md.b6 a.u,h.md.b6 b,h.mf.b6 h.u,h.my.b6 h.u,h.md.b6 h.u⟩
 ·have:=Ov h.u (e▸a.u);exact absurd this Ξ
 ·have:=Ov h.u (e▸b);exact absurd this Ξ
theorem Bu.gy(h:Bu w col s d P q gen B g hand bf by' bd bc tk fr dy dd mem)(c:SF w1 B g P.a2 hand' tk')(a:Ac (Hn B g) w w1):Bu w1 col s d P q gen B g hand' bf by' bd bc tk' fr dy dd mem:=by
 obtain⟨f,i,k,l,m,n,o,p,_,_,_⟩:=h.dM
 exact{h with
  u:=a.u h.u (λe=>e.elim f i)
  aR:=c
  mf:=h.mf.ak a (λe=>e.elim k l)
  my:=h.my.ak a (λe=>e.elim m n)
  md:=h.md.ak a (λe=>e.elim o p)
  cs:=h.cs.am a (λj b e=>by
   have r:=h.c1;have t:=h.c2
   rcases e with e|e
   ·rw[e]at b;omega
   ·rw[e]at b;omega) (λ_ _=>rfl)}
theorem Bu.g7(h:Bu w col s d P q gen B g hand bf by' bd bc tk fr dy dd mem)(f:MF w1 Bn 3 bf q' (Da fr'))(i:w.grownBy w1 (A3 bf))(b:q<=q'):Bu w1 col s d P q' gen B g hand bf by' bd bc tk fr' dy dd mem:=by
 obtain⟨p,r,l,m,t,v,x,y,n,z,A⟩:=h.dM;have a:Ac (λj=>j=bf) w w1:=Ac.of i (λk e=>by cases e;rfl);have c:=h.c3
 exact{h with
  u:=a.u h.u (λe=>n e.symm)
  aR:=h.aR.ak a (λe=>l e.symm) (λe=>m e.symm) (λe=>absurd (c.symm.trans ((kL col e).symm.trans h.dX)) Ξ)
  mf:=f
  my:=(h.my.ak a (λe=>h.fy e.symm)).mono b
  md:=(h.md.ak a (λe=>h.fd e.symm)).mono b
  cs:=(h.cs.am a (λj o e=>by rw[e,c]at o;omega) (λ_ _=>rfl)).mono b
  q1:=j8 h.q1 (mJ b)}
theorem Bu.iz(h:Bu w col s d P q gen B g hand bf by' bd bc tk fr dy dd mem)(f:MF w1 Bn 3 by' q' (Da dy'))(i:w.grownBy w1 (A3 by'))(b:q<=q'):Bu w1 col s d P q' gen B g hand bf by' bd bc tk fr dy' dd mem:=by
 obtain⟨p,r,t,v,l,m,x,y,z,n,A⟩:=h.dM;have a:Ac (λj=>j=by') w w1:=Ac.of i (λk e=>by cases e;rfl);have c:=h.c4
 exact{h with
  u:=a.u h.u (λe=>n e.symm)
  aR:=h.aR.ak a (λe=>l e.symm) (λe=>m e.symm) (λe=>absurd (c.symm.trans ((kL col e).symm.trans h.dX)) Ξ)
  mf:=(h.mf.ak a (λe=>h.fy e)).mono b
  my:=f
  md:=(h.md.ak a (λe=>h.yd e.symm)).mono b
  cs:=(h.cs.am a (λj o e=>by rw[e,c]at o;omega) (λ_ _=>rfl)).mono b
  q1:=j8 h.q1 (mJ b)}
end
end
section
open Go.RowKit
attribute [local go_sem ↓] Go.wp_at_zero Go.wp_at_succ
abbrev SS(n:Nat):Nat->Prop:=Sc (λj=>j=1\/j=2\/j=3) n
theorem SI(f:Nat->Bool)(k:Nat):(Da f (k:Int)).getD (Bs AA)=Bs (f k):=by
 rw[Tb]
 cases f k<;>rfl
theorem Zr(ax:SD h a f g c J j k Z)(hq:J<=1073741823)(b:Nat)(p:k b≠Y):
  CL Bn 229 #[A2 (A3 ⟨f,0,Y⟩),E V b] h λe Q=>(∃v,e=Bd v)/\∃R,Ab (SS 102) h a Q R/\SD Q R f g c (J+1) j (Hl k b) Z:=by
 obtain⟨⟨B,C,D,F,G,T,U,H,W,dy,X,az,i,q⟩,s,u,w⟩:=ax
 have I:b<c.a2:=by
  cases hx:k b with
  |none=>exact absurd hx p
  |some x=>exact(q.bs b x.1 x.2 hx).2.lt
 have K:(Lit.int V (b:Int)).wf=BL:=Hj Ω (Ψ ((w.dD I).2.1))
 have aA:(b:Int)<=65535:=by have:=(w.dD I).2.1;omega
 obtain⟨c0,c9,ad,ae,af,ag,aQ,aB,ah,ai⟩:=i.cells;have L:=i.mf.fi (e:=4) (t:=116) kr nB (z:=Bs AA) (w:=h) rfl b K;rw[SI]at L
 cases o:W b with
 |false=>
  rw[o]at L;obtain⟨M,aR,m,l⟩:=i.my.eu kr nB (by unfold C9;omega) b K (Bs BL);rw[SX]at m;have HH:=zh (i.iz m l (lC J));have HD:=zh (s.am (col':=a) (Ac.of l (S:=λd=>d=G) (λd e=>by cases e;rfl)) (λd n e=>by rw[e,i.c4]at n;cases n) (λ_ _=>rfl));have N:=zh (q.im o p);have HG:=zh l;have HC:=zh u;have HB:=zh i.c4;clear i q s u m l p o c0 c9 ad ae af ag ah ai
  go_enter C5,C1
  go_wp2_with fail;refine BA (v:=CR #[]) (by simp[results,C0,go_sem]) rfl ?_;exact⟨⟨_,rfl⟩,a,Ab.of HC.o HG.o (λd e=>by cases e;rw[HB.o];exact CE (BE (BE rfl))),⟨B,C,D,F,G,T,U,H,W,_,X,az,HH.o,N.o⟩,HD.o.mono (lC J),HC.o.grown HG.o,w⟩
 |true=>
  rw[o]at L;obtain⟨M,aS,m,l⟩:=i.mf.fG kr nB b K 0;rw[YN]at m;have r:=zh (i.g7 m l (jS J));have aF:=zh (s.am (col':=a) (Ac.of l (S:=λd=>d=F) (λd e=>by cases e;rfl)) (λd n e=>by rw[e,i.c3]at n;cases n) (λ_ _=>rfl));have al:Hd (Ab (SS 102) h a M a):=zh (Ab.of u l (λd e=>by cases e;rw[i.c3];exact CE (BE (BE rfl))));have N:=zh q;have HF:=zh o;have HK:=zh p;clear i q s u m l p o c0 c9 ad ae af aB ah;obtain⟨_,_,_,_,_,aI,_,_,_,O⟩:=r.o.cells;clear ag ai
  go_enter C5,C1
  go_wp2_with fail;refine(RI B C c.a2 D H b M r.o.aR).mono ?_;rintro e w2 ⟨rfl,am,y⟩;have an:=r.o.c1;have ao:=r.o.c2;have P:=zh (r.o.gy am y);have aK:=zh (aF.o.am (col':=a) y (λd n e=>by rcases e with e|e<;>rw[e]at n<;>omega) (λ_ _=>rfl));have ap:Hd (Ab (SS 102) h a w2 a):=zh (al.o.trans (AG al.o.new y (λd e=>by rcases e with e|e<;>rw[e]<;>(first|rw[an]|rw[ao])<;>exact CE (BE (BE rfl)))));clear am y an ao aI O;obtain⟨_,_,_,_,_,_,_,_,_,O⟩:=P.o.cells;go_wp2_with fail;refine(TA P.o.cs ap.o.new b Ω aA).mono ?_;rintro e w3 ⟨v,aL,aq,rfl,A,ar,au,av⟩;have H3:=zh (P.o.eY A (Sc.az Ω Ω) (Sc.az Ω Ω) (jS J) ar);have aN:=zh (aK.o.ae A (Sc.az Ω Ω));have aw:=zh (ap.o.trans (A.mono (Sc.mono (λd e=>BE (CE e)) Ω)))
  have aO:=zh (N.o.ii (mem':=aq) HF.o HK.o (tk':=I0 c.a2 H b) (λd=>by
   unfold I0 Jg Df;rw[show BR (0<=(b:Int)/\(b:Int)<(c.a2:Int))=BL from jT ⟨Ω,by exact_mod_cast I⟩];simp only[km,nS];rw[Bool.and_comm]
   congr 1) av au)
  clear A ar au av O;go_wp2_with fail;refine bodyPost_end (v:=CR #[]) (by simp[results,C0,go_sem]) rfl ?_;exact⟨⟨_,rfl⟩,aL,aw.o,⟨B,C,D,F,G,T,U,_,_,dy,X,aq,H3.o.mono (lC J),aO.o⟩,aN.o.mono (lC J),aw.o.new,w⟩
theorem EG{m:Nat}(h:J<=m):∀j,SS J j->SS m j:=Sc.mono (λ_ e=>e) h
theorem JY(h:J<=f):∀j,SK J j->SS f j:=Sc.mono (λ_ e=>e.elim CE (λe=>BE (CE e))) h
theorem Ea{f:CA}(g:Aa h J l [e,f])(c d:CA):∃a,((h.setCell ⟨J,0,Y⟩ c).setCell ⟨J,1,Y⟩ d)=a/\Aa a J l [c,d]/\Ac (λk=>k=J) h a:=
 ⟨_,rfl,(g.setCell 0 _).setCell 1 _,(Ac.of (An _ _ _) (λk b=>by cases b;rfl)).trans (Ac.of (An _ _ _) (λk b=>by cases b;rfl))⟩
theorem aZ(n:Nat)(f:Nat->Bool)(k:Nat)(a:k<n)(j:Nat):Jf n f (k:Int) j=Gq f k j:=by
 unfold Jf Gq Df;rw[show BR (0<=(k:Int)/\(k:Int)<(n:Int))=BL from jT ⟨Ω,by exact_mod_cast a⟩];simp only[km,nS];rw[Bool.or_comm]
 congr 1
def gF(w:Bk)(h:Ad)(s d:Nat)(P:Pl)(q a:Nat)(b:Ap)(i:Int->List Nat)(j:List Nat)(n:Nat)(e:C7)(c:Bk):Prop:=
 ∃k:Nat,e=Bd (CR #[CV #[E V (k:Nat),E V a],E V 0])/\b k=Y/\k<P.a2/\∃f g,Ab (SS n) w h c f/\SD c f s d P (q+2) a (Eo b k (a,j)) g/\AN P i g
theorem JD(q:SD h a g j c f J k Z)(hq:f<=1073741800)(ax:Ce k (c.bv+3))(ac:Option C4)(ad:Nat)(m:List Nat)(ae:m.length<=c.n - 19)(hp:Bj h a ac ad m):
  CL Bn 83 #[A2 (A3 ⟨g,0,Y⟩),Ax ac m.length ad] h (gF h a g j c f J k Z m 103):=by
 obtain⟨⟨B,v,az,bf,ba,bd,bc,G,fr,dy,dd,bV,hi,hl⟩,aC,aD,w⟩:=q;have aE:=hl.d2 ax (by have h1:=w.d2;have h2:c.a2=c.ss - c.aK:=rfl;rw[h2];exact pL (by rw[qK];exact h1));have bj:=w.n1;obtain⟨M,hM⟩:=Ag (c.n - 19);have bW:M<=1000:=Ω
 have bX:m.length<=M:=by rw[<-hM];exact ae
 have bY:BR ((M:Int)<(m.length:Int))=AA:=Γ;have bZ:BR (M<m.length)=AA:=Γ;obtain⟨s,H⟩:=Ag (h.alloc (BD #[E V 0,E V 0] 165))
 have g1:h.grownBy s Y:=by rw[<-H];exact O _ _ Y
 have b1:Aa s h.heap.size 165 [E V 0,E V 0]:=by rw[<-H];exact Aa.new _ _ _
 obtain⟨o,I⟩:=Ag (AL a h.heap.size 102)
 have aG:o h.heap.size=102:=by rw[<-I];exact AY _ _ _
 have L:∀d,d<h.heap.size->o d=a d:=λd l=>by rw[<-I];exact Bg _ _ Ω
 have aH:Ab (SS 103) h a s o:=by rw[<-I];exact Cc aD g1 (jS _) b1.lt (BE ⟨Ω,Ω⟩)
 have N:Ac (λ_=>False) h s:=Ac.au g1;have x:=zh (hi.am (col':=o) N (λ_ _ q=>q) L);have D1:=zh (aC.am (col':=o) N (λ_ _ q=>q) L);have P1:=zh (hp.am (col':=o) N (λ_ _ q=>q) L);have aI:=zh aH;have B1:=zh b1;have HL:=zh hl;have P:=zh aG;have bn:=zh aE;have aK:=zh ae;have ai:=zh H;clear hi hl aC aD aH b1 aG L N aE I H g1 ax hp ae;obtain⟨c0,c9,bq,Q,aj,ak,al,br,bs,bt⟩:=x.o.cells;rw[hM]at Q;clear c0 c9 bq aj al br bs bt bj
 go_enter Tryz.func83,Tryz.ntmps83
 rw[<-ai.o]at Q ak;go_wp2_with fail;rw[ai.o];rw[ai.o]at Q ak;refine(ei B v c.a2 az G s x.o.aR).mono ?_;rintro e w2 hT
 obtain⟨i,rfl,an,aM,t⟩:∃i:Nat,e=Bd (CR #[E V i,Bs BL])/\Nm c.a2 az G i/\SF w2 B v c.a2 ((i+1)%c.a2) (Jf c.a2 G i)/\Ac (Hn B v) s w2:=by
  rcases hT with⟨_,_,h3⟩|q
  ·obtain⟨d,l,hf⟩:=bn.o;rw[h3 d l]at hf
   cases hf
  ·exact q
 have bv:=x.o.c1;have bw:=x.o.c2
 have y:∀d,Hn B v d->o d=3:=λd e=>by rcases e with e|e<;>rw[e]<;>assumption
 have R:=zh (x.o.gy aM t);have D2:=zh (D1.o.am (col':=o) t (λd l e=>by rw[y d e]at l;omega) (λ_ _=>rfl));have P2:=zh (P1.o.am (col':=o) t (λd l e=>by rw[y d e]at l;omega) (λ_ _=>rfl));have B2:=zh (t.u B1.o (λe=>by have:=y _ e;rw[P.o]at this;omega));have aO:=zh (aI.o.trans (AG aI.o.new t (λd e=>by rw[y d e];exact CE (BE (BE rfl)))));have z:=zh an;have aP:=an.1;clear aM t an hT bv bw y Q ak;obtain⟨_,_,_,_,_,_,al,_,_,_⟩:=R.o.cells;have bB:=(w.dD aP).2.1;have aQ:(Lit.int V (i:Int)).wf=BL:=Hj Ω Ω;obtain⟨S,T,ao,ap⟩:=R.o.mf.eu kr nB (by unfold C9;omega) i aQ (Bs BL);rw[SX]at ao;have A:=R.o.c3;have C:Ac (λd=>d=bf) w2 S:=Ac.of ap (λd e=>by cases e;rfl);have H3:=zh (R.o.g7 ao ap (lC f));have D3:=zh (D2.o.am (col':=o) C (λd l e=>by rw[e,A]at l;omega) (λ_ _=>rfl));have P3:=zh (P2.o.am (col':=o) C (λd l e=>by rw[e,A]at l;omega) (λ_ _=>rfl));have B3:=zh (C.u B2.o (λe=>by have:=P.o;rw[e,A]at this;omega));have aR:=zh (aO.o.trans (AG aO.o.new C (λd e=>by rw[e,A];exact CE (BE (BE rfl)))));have bG:=zh T;clear ao ap C A T aP bB aQ;have T:=bG.o;go_wp2_with fail;clear T al;refine A7 (λW=>W.cell? ⟨g,12,Y⟩=A3 (E V J)) (.an [2,3,4,5] [0,1,6] 7 BL (.an [] [8] 9 AA (.an [] [] 10 AA (.nil)))) Φ Φ ?_;obtain⟨w4,aq⟩:=Ag S.drew
 have u:S.grownBy w4 Y:=by rw[<-aq];exact Be S
 rw[aq];have H4:=zh (H3.o.grown u);have D4:=zh (D3.o.grown u);have P4:=zh (P3.o.grown u);have B4:=zh (B3.o.grown u Δ);have ar:=zh (aR.o.trans (Ab.grown aR.o.new u));clear aq u;refine DK H4.o.cells.2.2.2.2.1 ?_
 iterate 4 ((apply AB rfl Θ;(· intro wS U;(try have U:=U rfl);(try dsimp only at U);(try(have aj:=U));go_simp;(try with_reducible rfl)));refine Ak ?_)
 refine Aj ?_
 iterate 3 refine Az ?_
 refine Aj ?_;refine Al ?_;intro K r;refine(DW m ac ad w4 Ω P4.o.1).mono ?_;rintro e w5 ⟨a5,c5,rfl,X,D⟩;dsimp only;have H5:=zh (H4.o.grown D);have D5:=zh (D4.o.grown D);have B5:=zh (B4.o.grown D Δ);have a0:=zh (ar.o.trans (Ab.grown ar.o.new D));have P5:Hd (Bj w5 o a5 c5 m):=zh ⟨Ai.aj X,λb hb=>⟨ar.o.new b (X.lt b hb).1,(X.lt b hb).2⟩,P4.o.2.2⟩;clear X D;refine r _ _ ⟨_,λ_ q=>q,λ_=>H5.o.cells.2.2.2.2.1,?_⟩;clear r K;refine Ak ?_;refine Ar ?_;refine Az ?_;refine Aj ?_;refine Al ?_;intro K r;have a2:FL c J i J m:=⟨z.o.1,aK.o,P5.o.2.2,jS _⟩;refine(Jy H5.o HL.o.bU (D5.o.mono (lC f)) a0.o.new Ω w i J a5 c5 m BL a2 P5.o).mono ?_;rintro e w6 ⟨rfl,a3,bL,bM,aa,a4,a6,a7⟩;have H6:=zh a4;have D6:=zh a6;have K6:=zh a7;have F:=zh (aa.u B5.o (by rw[P.o];exact Sc.az Ω Ω));have bO:Hd (a3 h.heap.size=102):=zh (by rw[aa.ah _ B5.o.lt];exact P.o);have av:=zh (a0.o.trans (aa.mono (JY Ω)));clear a4 a6 a7 aa a2;dsimp only;refine As r ?_;clear r K;refine Ar ?_;refine Aj ?_;refine Al ?_;intro K r;refine As r ?_;clear r K;refine AK (A4 ?_);have y0:=F.o.m 0;have y1:=F.o.m 1;have f0:=F.o.v 0;have f1:=F.o.v 1;obtain⟨_,_,_,_,aj,_⟩:=H6.o.cells;go_wp2_with fail;obtain⟨w7,bP,b7,t7⟩:=Ea F.o (E V i) (E V J);rw[bP];have aw:=bO.o;obtain⟨bR,bS⟩:=HL.o.new (n:=i) (ld:=m) z.o.2.1 ⟨z.o.1,aK.o,P5.o.2.2,jS _⟩ K6.o (λd=>aZ c.a2 G i z.o.1 d);refine BA (DH (p:=4) (ty:=165) rfl _ _ h.heap.size _ _ _ _ rfl b7 nC rfl rfl) rfl ⟨i,rfl,bS,z.o.1,a3,bM,av.o.trans (AG av.o.new t7 (λd e=>by rw[e,aw];exact BE ⟨Ω,Ω⟩)),⟨⟨B,v,_,bf,ba,bd,bc,_,_,dy,dd,bL,H6.o.am t7 (λd l e=>by rw[e,aw]at l;omega) (λ_ _=>rfl),bR⟩,D6.o.am t7 (λd l e=>by rw[e,aw]at l;omega) (λ_ _=>rfl),av.o.new.ak t7,w⟩,K6.o.on⟩
def YB(w:Bk)(i:Ad)(s d:Nat)(P:Pl)(q b:Nat)(j:Ap)(l:Int->List Nat)(k:Nat)(m:List Nat)(n:Nat)(e:C7)(f:Bk):Prop:=
 ∃a:Nat,e=Bd (CR #[CV #[E V (a:Nat),E V b],E V 0])/\a<P.a2/\∃g h c,Ab (SS n) w i f g/\SD f g s d P (q+3) b c h/\AN P l h/\Fr [k] [a] j c/\c a=A3 (b,m)
theorem Ju(m:SD h a f j c g J k Z)(hq:g<=1073741800)(bE:Ce k (c.bv+3))(d st:Nat)(F:k d≠Y)(ar:Option C4)(au:Nat)(o:List Nat)(aP:o.length<=c.n - 19)(hp:Bj h a ar au o):
  CL Bn 172 #[A2 (A3 ⟨f,0,Y⟩),CV #[E V d,E V st],Ax ar o.length au] h (YB h a f j c g J k Z d o 106):=by
 have hH:=m;obtain⟨⟨B,aQ,aR,bG,bH,bI,bc,tk,fr,dy,dd,cz,hi,hl⟩,bN,bO,H⟩:=m
 have bP:d<c.a2:=by
  cases hx:k d with
  |none=>exact absurd hx F
  |some x=>exact(hl.bs d x.1 x.2 hx).2.lt
 have bR:tk d=BL:=hl.dk d (CE F);have cA:=H.n1;obtain⟨M,hM⟩:=Ag (c.n - 19);have c1:M<=1000:=Ω
 have c2:o.length<=M:=by rw[<-hM];exact aP
 have c3:BR ((M:Int)<(o.length:Int))=AA:=Γ;have c4:BR (M<o.length)=AA:=Γ;obtain⟨w1,ah⟩:=Ag ((h.alloc (BD #[E V d,E V st] 165)).alloc (BD #[E V 0,E V 0] 165))
 have g1:h.grownBy w1 Y:=by rw[<-ah];exact Ae (O _ _ Y) (O _ _ Y)
 have r1:Aa w1 h.heap.size 165 [E V d,E V st]:=by rw[<-ah];exact(Aa.new h _ _).alloc _
 have b1:Aa w1 (h.heap.size+1) 165 [E V 0,E V 0]:=by
  rw[<-ah];have:=Aa.new (h.alloc (BD #[E V d,E V st] 165)) 165 [E V 0,E V 0];rw[World.size_alloc]at this;exact this
 obtain⟨y,aW⟩:=Ag (AL (AL a h.heap.size 104) (h.heap.size+1) 104)
 have aw:∀i,y i=if i=h.heap.size+1 then 104 else if i=h.heap.size then 104 else a i:=λi=>by rw[<-aW];rfl
 have bT:y (h.heap.size+1)=104:=by rw[aw,ke rfl]
 have bU:y h.heap.size=104:=by rw[aw,j7 Ω,ke rfl]
 have ax:∀i,i<h.heap.size->y i=a i:=λi A=>by rw[aw,j7 Ω,j7 Ω]
 have bV:Ab (SS 106) h a w1 y:=by
  rw[<-aW];exact((Ab.grown bO g1).bC (jS _) r1.lt (BE ⟨Ω,Ω⟩)).bC Ω b1.lt (BE ⟨Ω,Ω⟩)
 have t1:Ac (λ_=>False) h w1:=Ac.au g1;have H1:=zh (hi.am (col':=y) t1 (λ_ _ m=>m) ax);have D1:=zh (bN.am (col':=y) t1 (λ_ _ m=>m) ax);have P1:=zh (hp.am (col':=y) t1 (λ_ _ m=>m) ax);have bW:=zh bV;have B1:=zh b1;have R1:=zh r1;have HL:=zh hl;have I:=zh (BC bT bU);have bX:=zh aP;have bY:=zh ah;have cE:=zh bE;have bZ:=zh F;have cF:=zh bR;have T:=zh bP;clear hi hl bN bO bV b1 r1 bT bU ax t1 aw aW ah g1 bE hp aP F bR bP hH cA;obtain⟨c0,c9,a2,ai,az,a3,aj,a4,a5,a6⟩:=H1.o.cells;rw[hM]at ai;clear c0 c9 a2 az a3 aj a4 a5 a6;have w:=R1.o.m 0;have x1:=R1.o.m 1;rw[<-bY.o]at ai w x1
 go_enter Tryz.func172,Tryz.ntmps172
 go_wp2_with fail;rw[bY.o];clear ai w x1;refine(TR H1.o d st T.o).mono ?_;rintro e w2 ⟨rfl,L⟩;have H2:=zh (H1.o.grown L);have D2:=zh (D1.o.grown L);have P2:=zh (P1.o.grown L);have B2:=zh (B1.o.grown L Δ);have R2:=zh (R1.o.grown L Δ);have b0:=zh (bW.o.trans (Ab.grown bW.o.new L));clear L;go_wp2_with fail;refine A7 (λ_=>True) (.an [] [0,1,2,3,4,5] 6 AA (.an [] [] 7 AA (.nil))) Φ Φ ?_;obtain⟨w3,a8⟩:=Ag w2.drew
 have N:w2.grownBy w3 Y:=by rw[<-a8];exact Be w2
 rw[a8];have H3:=zh (H2.o.grown N);have D3:=zh (D2.o.grown N);have P3:=zh (P2.o.grown N);have B3:=zh (B2.o.grown N Δ);have R3:=zh (R2.o.grown N Δ);have b2:=zh (b0.o.trans (Ab.grown b0.o.new N));clear a8 N;obtain⟨c0,c9,a2,ai,az,a3,aj,a4,a5,a6⟩:=H3.o.cells;have w:=R3.o.m 0;have x1:=R3.o.m 1;clear c0 c9 a2 ai az aj a4 a5 a6;refine Ar ?_
 iterate 6 refine Az ?_
 refine Aj ?_;refine Al ?_;intro K l;refine(bu B aQ c.a2 aR tk d w3 H3.o.aR).mono ?_;rintro e w4 ⟨rfl,rfl⟩
 have cO:JW c.a2 tk (d:Int)=BL:=by
  unfold JW Df;rw[show BR (0<=(d:Int)/\(d:Int)<(c.a2:Int))=BL from jT ⟨Ω,by exact_mod_cast T.o⟩,km,cF.o];rfl
 rw[cO];dsimp only;refine As l ?_;clear l K;refine Ar ?_;refine Aj ?_;refine Al ?_;intro K l;refine As l ?_;clear l K;refine AK (A4 ?_);clear a3;go_wp2_with fail;have b3:(Lit.int V (d:Int)).wf=BL:=Hj Ω (by have:=(H.dD T.o).2.1;have:=T.o;omega);refine A7 (λ_=>True) (.an [] [0,1,2,3,4,5] 6 AA (.nil)) Φ Φ ?_;obtain⟨w5,bb⟩:=Ag w3.drew
 have P:w3.grownBy w5 Y:=by rw[<-bb];exact Be w3
 rw[bb];have H5:=zh (H3.o.grown P);have D5:=zh (D3.o.grown P);have P5:=zh (P3.o.grown P);have B5:=zh (B3.o.grown P Δ);have R5:=zh (R3.o.grown P Δ);have aD:=zh (b2.o.trans (Ab.grown b2.o.new P));clear bb P w x1;obtain⟨_,_,_,_,_,_,aj,_,_,_⟩:=H5.o.cells;have w:=R5.o.m 0;have b6:=H5.o.mf.fi (e:=4) (t:=116) kr nB (z:=Bs AA) (w:=w5) rfl d b3;rw[SI]at b6;refine Ar ?_
 iterate 6 refine Az ?_
 refine Aj ?_;refine Al ?_;intro K l;refine As l ?_;clear l K;refine AK (A4 ?_);clear b6 aj w b3
 cases hf:fr d with
 |true=>
  have HF:=zh hf;clear hf;go_wp2_with fail;refine A7 (λW=>W.cell? ⟨f,12,Y⟩=A3 (E V J)/\W.cell? ⟨h.heap.size,0,Y⟩=A3 (E V d)) (.an [0,1,2,3,4,5,6,8,9,10,11,12,13] [7,14] 15 BL (.an [] [16] 17 BL (.an [] [] 18 AA (.an [] [] 19 AA (.nil))))) Φ Φ ?_;obtain⟨r,bd⟩:=Ag w5.drew
  have Q:w5.grownBy r Y:=by rw[<-bd];exact Be w5
  rw[bd];have H6:=zh (H5.o.grown Q);have D6:=zh (D5.o.grown Q);have P6:=zh (P5.o.grown Q);have B6:=zh (B5.o.grown Q Δ);have R6:=zh (R5.o.grown Q Δ);have U:=zh (aD.o.trans (Ab.grown aD.o.new Q));clear bd Q;refine DK ⟨H6.o.cells.2.2.2.2.1,R6.o.m 0⟩ ?_
  iterate 13 ((apply AB rfl Θ;(· intro wS am;(try have am:=am rfl);(try dsimp only at am);(try(have az:=am.1;have w:=am.2));go_simp;(try with_reducible rfl)));refine Ak ?_)
  refine Aj ?_
  iterate 2 refine Az ?_
  refine Aj ?_;refine Al ?_;intro K l;refine(DW o ar au r Ω P6.o.1).mono ?_;rintro e X ⟨a7,c7,rfl,o7,q⟩;dsimp only;have H7:=zh (H6.o.grown q);have D7:=zh (D6.o.grown q);have B7:=zh (B6.o.grown q Δ);have R7:=zh (R6.o.grown q Δ);have aK:=zh (U.o.trans (Ab.grown U.o.new q));have P7:Hd (Bj X y a7 c7 o):=zh ⟨Ai.aj o7,λb hb=>⟨U.o.new b (o7.lt b hb).1,(o7.lt b hb).2⟩,P6.o.2.2⟩;clear o7 q;refine l _ _ ⟨_,λ_ m=>m,λ_=>⟨H7.o.cells.2.2.2.2.1,R7.o.m 0⟩,?_⟩;clear l K;refine Ak ?_;refine Ar ?_;refine Az ?_;refine Aj ?_;refine Al ?_;intro K l;have F:FL c J d J o:=⟨T.o,bX.o,P7.o.2.2,jS _⟩;refine(Jy H7.o HL.o.bU D7.o aK.o.new Ω H d J a7 c7 o BL F P7.o).mono ?_;rintro e w8 ⟨rfl,aa,cQ,cR,s,ch,ao,ci⟩;have H8:=zh ch;have D8:=zh ao;have K8:=zh ci;have u:=zh (s.u B7.o (by rw[I.o.1];exact Sc.az Ω Ω));have R8:=zh (s.u R7.o (by rw[I.o.2];exact Sc.az Ω Ω));have bf:Hd (aa (h.heap.size+1)=104):=zh (by rw[s.ah _ B7.o.lt];exact I.o.1);have ab:=zh (aK.o.trans (s.mono (JY Ω)));have cT:=zh F;clear ch ao ci s F;dsimp only;refine l _ _ ⟨_,λ_ m=>m,λ_=>⟨H8.o.cells.2.2.2.2.1,R8.o.m 0⟩,?_⟩;clear l K;refine Ak ?_;have y0:=u.o.m 0;have y1:=u.o.m 1;have f0:=u.o.v 0;have f1:=u.o.v 1;refine Ar ?_;refine Aj ?_;refine Al ?_;intro K l;obtain⟨w9,bg,b9,C⟩:=Ea u.o (E V d) (E V J);rw[bg];clear y0 y1 f0 f1;refine As l ?_;clear l K;refine Ar ?_;refine Aj ?_;refine Al ?_;intro K l;refine As l ?_;clear l K;refine AK (A4 ?_);go_wp2_with fail;have R:=bf.o;refine BA (DH (p:=6) (ty:=165) rfl _ _ (h.heap.size+1) _ _ _ _ rfl b9 nC rfl rfl) rfl ⟨d,rfl,T.o,aa,cR,Eo k d (J,o),ab.o.trans (AG ab.o.new C (λi e=>by rw[e,R];exact BE ⟨Ω,Ω⟩)),(SD.mono ⟨⟨B,aQ,aR,bG,bH,bI,bc,tk,fr,dy,dd,cQ,H8.o.am C (λi A e=>by rw[e,R]at A;omega) (λ_ _=>rfl),HL.o.iD HF.o cT.o K8.o⟩,D8.o.am C (λi A e=>by rw[e,R]at A;omega) (λ_ _=>rfl),ab.o.new.ak C,H⟩ Ω),K8.o.on,Fr.aR _,EP _ _ _⟩
 |false=>
  have HF:=zh hf;clear hf;go_wp2_with fail;refine(JD ⟨⟨B,aQ,aR,bG,bH,bI,bc,tk,fr,dy,dd,cz,H5.o,HL.o⟩,D5.o,aD.o.new,H⟩ hq cE.o ar au o bX.o P5.o).mono ?_;rintro e r ⟨D,rfl,cq,cr,aq,bi,ac,cs,ct⟩;have D6:=zh cs;have N6:=zh (BC cq cr);have B6:=zh (ac.u B5.o (by rw[I.o.1];exact Sc.az Ω Ω));have R6:=zh (ac.u R5.o (by rw[I.o.2];exact Sc.az Ω Ω));have cU:Hd (aq (h.heap.size+1)=104/\aq h.heap.size=104):=zh ⟨by rw[ac.ah _ B5.o.lt];exact I.o.1,by rw[ac.ah _ R5.o.lt];exact I.o.2⟩;have U:=zh (aD.o.trans (ac.mono (EG Ω)));have O6:=zh ct;clear cs cq cr ac ct;obtain⟨X,aL⟩:=Ag (r.alloc (BD #[E V D,E V J] 165))
  have q:r.grownBy X Y:=by rw[<-aL];exact O _ _ Y
  have b7:Aa X r.heap.size 165 [E V D,E V J]:=by rw[<-aL];exact Aa.new _ _ _
  obtain⟨ad,aM⟩:=Ag (AL aq r.heap.size 105)
  have cu:ad r.heap.size=105:=by rw[<-aM];exact AY _ _ _
  have aN:∀i,i<r.heap.size->ad i=aq i:=λi A=>by rw[<-aM];exact Bg _ _ Ω
  have bl:Ab (SS 106) r aq X ad:=by rw[<-aM];exact Cc U.o.new q (jS _) b7.lt (BE ⟨Ω,Ω⟩)
  have D7:Hd (SD X ad f j c (g+2) J (Eo k D (J,o)) bi):=zh ⟨by
    obtain⟨B',g',bo,bp,bq,br,bs,bt,bv,bw,bx,bz,bA,bB⟩:=D6.o.bJ
    exact⟨B',g',bo,bp,bq,br,bs,bt,bv,bw,bx,bz,bA.am (Ac.au (S:=λ_=>False) q) (λ_ _ m=>m) aN,bB⟩,D6.o.bI.am (Ac.au (S:=λ_=>False) q) (λ_ _ m=>m) aN,bl.new,H⟩
  have B7:=zh (B6.o.grown q Δ);have R7:=zh (R6.o.grown q Δ);have N7:=zh b7;have bC:Hd (ad (h.heap.size+1)=104/\ad r.heap.size=105):=zh ⟨by rw[aN _ B6.o.lt];exact cU.o.1,cu⟩;have aK:=zh (U.o.trans bl);have cv:=zh aL;clear q b7 aM cu aN bl aL;have w:=R7.o.m 0;rw[<-cv.o]at w;go_wp2_with fail;rw[cv.o];clear w
  have bD:d≠D:=λe=>bZ.o (by rw[e];exact N6.o.1)
  refine(Zr D7.o Ω d (by rw[El _ _ bD];exact bZ.o)).mono ?_;rintro e w8 ⟨⟨v,rfl⟩,aa,s,ao⟩;have D8:=zh ao;have u:=zh (s.u B7.o (by rw[bC.o.1];exact Sc.az Ω Ω));have N8:=zh (s.u N7.o (by rw[bC.o.2];exact Sc.az Ω Ω));have bf:Hd (aa (h.heap.size+1)=104):=zh (by rw[s.ah _ B7.o.lt];exact bC.o.1);have ab:=zh (aK.o.trans (s.mono (EG Ω)));have cX:=zh bD;clear ao s bD;have y0:=u.o.m 0;have y1:=u.o.m 1;have f0:=u.o.v 0;have f1:=u.o.v 1;have z0:=N8.o.m 0;have z1:=N8.o.m 1;go_wp2_with fail;obtain⟨w9,bg,b9,C⟩:=Ea u.o (E V D) (E V J);rw[bg];have R:=bf.o
  have cY:SD w9 aa f j c (g+3) J (Hl (Eo k D (J,o)) d) bi:=by
   obtain⟨B',g',bo,bp,bq,br,bs,bt,bv,bw,bx,bz,bA,bB⟩:=D8.o.bJ;exact⟨⟨B',g',bo,bp,bq,br,bs,bt,bv,bw,bx,bz,bA.am C (λi A e=>by rw[e,R]at A;omega) (λ_ _=>rfl),bB⟩,D8.o.bI.am C (λi A e=>by rw[e,R]at A;omega) (λ_ _=>rfl),D8.o.cl.ak C,H⟩
  have cZ:Fr [d] [D] k (Hl (Eo k D (J,o)) d):=by
   refine⟨λn G h2=>?_,λn G h2=>?_,λn G h2=>?_⟩
   ·simp at G h2;rw[Fh _ G,El _ _ h2]
   ·simp at G;rw[G];exact N6.o.1
   ·simp at G;rw[G];exact Hw _ _
  refine BA (DH (p:=6) (ty:=165) rfl _ _ (h.heap.size+1) _ _ _ _ rfl b9 nC rfl rfl) rfl ⟨D,rfl,N6.o.2,aa,bi,_,ab.o.trans (AG ab.o.new C (λi e=>by rw[e,R];exact BE ⟨Ω,Ω⟩)),cY,O6.o,cZ,?_⟩;rw[Fh _ (λe=>cX.o e.symm),EP]
theorem EZ{i j m:CA}(n:Aa h J l [e,i,j,m])(c d f g:CA):∃b,((((h.setCell ⟨J,0,Y⟩ c).setCell ⟨J,1,Y⟩ d).setCell ⟨J,2,Y⟩ f).setCell ⟨J,3,Y⟩ g)=b/\Aa b J l [c,d,f,g]/\Ac (λk=>k=J) h b:=
 ⟨_,rfl,(((n.setCell 0 _).setCell 1 _).setCell 2 _).setCell 3 _,(((Ac.of (An _ _ _) (λk a=>by cases a;rfl)).trans (Ac.of (An _ _ _) (λk a=>by cases a;rfl))).trans (Ac.of (An _ _ _) (λk a=>by cases a;rfl))).trans (Ac.of (An _ _ _) (λk a=>by cases a;rfl))⟩
def eC(w:Bk)(i:Ad)(s d:Nat)(P:Pl)(q j:Nat)(k:Ap)(l:Int->List Nat)(c:List Nat)(n:Nat)(e:C7)(a:Bk):Prop:=
 ∃f g,e=Bd (CR #[Ax f c.length g,E V 0])/\∃b h,Ab (SS n) w i a b/\SD a b s d P (q+1) j k h/\AN P l h/\Bj a b f g c
theorem NZ(i:SD h a f g c J j k Z)(hq:J<=1073741800)(q s:Nat)(y:List Nat)(cT:k q=A3 (s,y)):
  CL Bn 223 #[A2 (A3 ⟨f,0,Y⟩),CV #[E V q,E V s]] h (eC h a f g c J j k Z y 107):=by
 obtain⟨⟨B,b0,b1,bf,b3,b4,bu,tk,fr,dy,dd,aL,hi,hl⟩,dh,di,aF⟩:=i;obtain⟨dj,bt⟩:=hl.bs q s y cT;have cc:=aF.dD bt.lt;have dA:=bt.lt
 have dk:(q:Int)<=65535:=by have:=cc.2.1;omega
 have cC:CB ((c.aK:Int)+(q:Int))=((c.aK+q:Nat):Int):=De rfl (j8 (nQ (jY cc.1 aF.d4)) Ω);have dB:=hi.q1;have dC:=bt.fQ;have dD:=bt.aF;have dE:=aF.n1
 have dl:=λ(W:Bk) (cW:Ad) (hD:AD W cW g c.ss c.n J Z) (hC:Aw W cW) (bh:Z ((c.aK+q:Nat):Int)=BO c.n 2 q s y)=>Sv g c.ss c.n J Z ((c.aK+q:Nat):Int) 2 q s y W cW hD hC Ω (by exact_mod_cast cc.1) bh Ω Ω (Ψ cc.2.1) Ω bt.aF bt.bx
 have cf:=zh dl;have cD:=zh dj;have av:=zh bt;have cE:=zh cT;have dT:y.length<=1000:=Ω;obtain⟨cF,cG⟩:∃p,c.aK=p:=⟨_,rfl⟩;obtain⟨cg,hZ⟩:∃cg:Nat,c.aK+q=cg:=⟨_,rfl⟩;rw[hZ]at cC cf;rw[cG]at cC
 have dH:cF+q=cg:=by rw[<-cG];exact hZ
 have dI:cg<20000:=by rw[<-hZ];exact jY cc.1 (j8 aF.d4 Ω)
 have cH:Hd (V.wrap ((cF:Int)+(q:Int))=((cg:Nat):Int)):=zh (by rw[CX];omega);have cd:=zh cG;have HL:=zh hl;have H:=zh hi;have HD:=zh dh;have HC:=zh di;have HZ:=zh hZ;have dU:=zh cC;clear hi hl dh di dj bt cT dl cc cG hZ dH dI dA dB dC dD dE cC
 go_enter Tryz.func223,Tryz.ntmps223
 go_wp2_with fail;obtain⟨w1,cI⟩:=Ag (h.alloc (BD #[E V q,E V s] 165))
 have g1:h.grownBy w1 Y:=by rw[<-cI];exact O _ _ Y
 have dp:Aa w1 h.heap.size 165 [E V q,E V s]:=by rw[<-cI];exact Aa.new _ _ _
 rw[cI];have R1:=zh dp;have G1:=zh g1;have H1:=zh (H.o.grown g1);clear cI g1 dp;refine(TR H1.o q s av.o.lt).mono ?_;rintro e w2 ⟨rfl,g2⟩;have R2:=zh (R1.o.grown g2 Δ);have G2:=zh (Ae G1.o g2);clear g2;go_wp2_with fail;refine A7 (λW=>W.cell? ⟨f,17,Y⟩=A3 (A2 (A3 ⟨bu,0,Y⟩))/\Aa W h.heap.size 165 [E V q,E V s]) (.bP [0,1,2,3,4,5] 6 AA (.an [] [7,8,9] 10 BL (.an [] [] 11 AA (.an [] [] 12 AA (.nil)))) 10 BL (.an [] [] 6 AA (.an [] [7,8,9] 11 AA (.an [] [] 12 AA (.nil))))) Φ Φ ?_;obtain⟨w3,c1⟩:=Ag w2.drew
 have g3:w2.grownBy w3 Y:=by rw[<-c1];exact Be w2
 rw[c1];have G3:=zh (Ae G2.o g3);have H3:=zh (H.o.grown G3.o);have D3:=zh (HD.o.grown G3.o);have R3:=zh (R2.o.grown g3 Δ);have C3:=zh (HC.o.grown G3.o);have c3:Hd (Ab (SS 107) h a w3 a):=zh (Ab.grown HC.o G3.o);have dr:a h.heap.size=0:=HC.o _ (jS _);have RC:=zh dr;clear c1 g3 dr;refine Ej ⟨H3.o.cells.2.2.2.2.2.2.2.2.2,R3.o⟩ ?_
 iterate 6 ((apply AB rfl Θ;(· intro wS ae;(try have ae:=ae rfl);(try dsimp only at ae);(try(have dV:=ae.1;have x0:=ae.2.m 0));go_simp;(try with_reducible rfl)));refine Ak ?_)
 refine Aj ⟨?_,?_⟩
 ·refine Al ?_;intro K l;refine(Ut H3.o.cs C3.o q Ω dk).mono ?_;rintro e w4 ⟨aM,bi,dt,cj⟩
  obtain⟨X,a',c',F,au,wb,rfl,hr⟩:∃(X:Nat) (a':Option C4) (c':Nat) (F:List Nat) (au wb:Bool),e=Bd (CR #[CV #[E V X,Ax a' F.length c',Bs au],Bs wb])/\
    ((wb=AA/\aL q=Y)\/(wb=BL/\aL q=A3 (X,F,au)/\Bj w4 aM a' c' F)):=by
   rcases cj with⟨h1,rfl⟩|⟨X,a',c',F,au,h1,rfl,h2⟩
   ·exact⟨0,Y,0,[],AA,AA,rfl,CE ⟨rfl,h1⟩⟩
   ·exact⟨X,a',c',F,au,BL,rfl,BE ⟨rfl,h1,h2⟩⟩
  have bv:=zh hr;have H4:=zh (H3.o.eY bi (Sc.az Ω Ω) (Sc.az Ω Ω) (jS J) dt);have D4:=zh (D3.o.ae bi (Sc.az Ω Ω));have R4:=zh (bi.u R3.o (by rw[RC.o];exact Sc.az Ω Ω));have cL:Hd (aM h.heap.size=0):=zh (by rw[bi.ah _ R3.o.lt];exact RC.o);have cm:=zh (c3.o.trans (bi.mono (Sc.mono (λd e=>BE (CE e)) Ω)));clear bi dt hr cj;dsimp only;refine As l ?_;clear l K;refine Ar ?_
  iterate 3 refine Az ?_
  refine Aj ?_;refine Al ?_;intro K l;obtain⟨wL,cM⟩:=Ag (w4.alloc (BD #[E V 0,Ax Y 0 0,Bs AA] 198))
  have gL:w4.grownBy wL Y:=by rw[<-cM];exact O _ _ Y
  have bL:Aa wL w4.heap.size 198 [E V 0,Ax Y 0 0,Bs AA]:=by rw[<-cM];exact Aa.new _ _ _
  rw[cM];obtain⟨t,cO⟩:=Ag (AL aM w4.heap.size 105)
  have du:t w4.heap.size=105:=by rw[<-cO];exact AY _ _ _
  have cn:∀d,d<w4.heap.size->t d=aM d:=λd n=>by rw[<-cO];exact Bg _ _ Ω
  have aO:Ab (SS 107) w4 aM wL t:=by rw[<-cO];exact Cc cm.o.new gL (jS _) bL.lt (BE ⟨Ω,Ω⟩)
  have t5:Ac (λ_=>False) w4 wL:=Ac.au gL;have HX:=zh (H4.o.am (col':=t) t5 (λ_ _ i=>i) cn);have DX:=zh (D4.o.am (col':=t) t5 (λ_ _ i=>i) cn);have RX:=zh (R4.o.grown gL Δ);have z:=zh bL;have L:=zh du;have M:Hd (t h.heap.size=0):=zh (by rw[cn _ R4.o.lt];exact cL.o);have N:=zh (cm.o.trans aO);have bv:Hd ((wb=AA/\aL q=Y)\/(wb=BL/\aL q=A3 (X,F,au)/\Bj wL t a' c' F)):=zh (bv.o.imp id (λ⟨co,b,cp⟩=>⟨co,b,cp.am t5 (λ_ _ i=>i) cn⟩));clear cM gL bL cO du cn aO t5;generalize w4.heap.size=L7 at*;refine l _ _ ⟨_,λ_ i=>i,λ_=>⟨HX.o.cells.2.2.2.2.2.2.2.2.2,RX.o⟩,?_⟩;clear l K;refine Ak ?_;refine Ar ?_;refine Aj ?_;have f0:=z.o.v 0;have f1:=z.o.v 1;have f2:=z.o.v 2;have y0:=z.o.m 0;have y1:=z.o.m 1;have y2:=z.o.m 2;refine Al ?_;intro K l;obtain⟨w5,cq,b5,t5⟩:=Br z.o (E V X) (Ax a' F.length c') (Bs au);rw[cq];have cs:=L.o
  have aG:∀d,d=L7->t d=105:=λd e=>by rw[e];exact cs
  have H5:=zh (HX.o.am t5 (λd n e=>by rw[aG d e]at n;omega) (λ_ _=>rfl));have D5:=zh (DX.o.am t5 (λd n e=>by rw[aG d e]at n;omega) (λ_ _=>rfl));have R5:=zh (t5.u RX.o (λe=>by have:=aG _ e;rw[M.o]at this;cases this));have B5:=zh b5;have cw:=L;have cx:=M;have aH:=zh (N.o.trans (AG N.o.new t5 (λd e=>by rw[aG d e];exact BE ⟨Ω,Ω⟩)));have c7:Hd ((wb=AA/\aL q=Y)\/(wb=BL/\aL q=A3 (X,F,au)/\Bj w5 t a' c' F)):=zh (bv.o.imp id (λ⟨co,b,cp⟩=>⟨co,b,cp.am t5 (λb m e=>by rw[aG b e]at m;cases m) (λ_ _=>rfl)⟩));clear f0 f1 f2 y0 y1 y2 cq b5 t5 cs aG HX DX RX z N bv L M;refine As l ?_;clear l K;refine Ar ?_;refine Aj ?_;refine Al ?_;intro K l;refine As l ?_;clear l K;refine AK (A4 ?_);have y0:=B5.o.m 0;have y1:=B5.o.m 1;have y2:=B5.o.m 2;have x1:=R5.o.m 1
  rcases c7.o with⟨rfl,h1⟩|⟨rfl,h1,h2⟩
  ·have cy:=zh h1
   have bh:Z ((c.aK+q:Nat):Int)=BO c.n 2 q s y:=by
    rcases cD.o with i|i
    ·rw[h1]at i;cases i
    ·exact i.2
   rw[HZ.o]at bh;have cz:=zh bh;clear h1 bh y0 y1 y2 x1;go_wp2_with fail;refine A7 (λW=>W.cell? ⟨f,0,Y⟩=A3 (A2 (A3 ⟨g,0,Y⟩))/\W.cell? ⟨f,9,Y⟩=A3 (E V cF)/\Aa W h.heap.size 165 [E V q,E V s]) (.bP [0,1,2,3,4,5,6,7,8,9,10,11,12] 13 AA (.an [] [14,15,16] 17 BL (.an [] [] 18 AA (.an [] [] 19 AA (.nil)))) 17 BL (.an [] [] 13 AA (.an [] [14,15,16] 18 AA (.an [] [] 19 AA (.nil))))) Φ Φ ?_;obtain⟨P,bz⟩:=Ag w5.drew
   have g6:w5.grownBy P Y:=by rw[<-bz];exact Be w5
   rw[bz];have H6:=zh (H5.o.grown g6);have D6:=zh (D5.o.grown g6);have R6:=zh (R5.o.grown g6 Δ);have B6:=zh (B5.o.grown g6 Δ);have aJ:=zh (aH.o.trans (Ab.grown aH.o.new g6));clear bz g6;refine Ej ⟨H6.o.cells.1,by rw[<-cd.o];exact H6.o.cells.2.1,R6.o⟩ ?_
   iterate 13 ((apply AB rfl Θ;(· intro wS ae;(try have ae:=ae rfl);(try dsimp only at ae);(try(have c0:=ae.1;have c9:=ae.2.1;have x0:=ae.2.2.m 0));go_simp;(try with_reducible rfl)));refine Ak ?_)
   refine Aj ⟨?_,?_⟩
   ·refine Al ?_;intro K l;rw[cH.o];refine(cf.o P t D6.o aJ.o.new cz.o).mono ?_;rintro e u ⟨⟨Q,R,rfl,o7⟩,G⟩;dsimp only;have H7:=zh (H6.o.grown G);have D7:=zh (D6.o.grown G);have R7:=zh (R6.o.grown G Δ);have B7:=zh (B6.o.grown G Δ);have P7:Hd (Bj u t Q R y):=zh ⟨Ai.aj o7,λb m=>⟨aJ.o.new b (o7.lt b m).1,(o7.lt b m).2⟩,av.o.bx⟩;have az:=zh (aJ.o.trans (Ab.grown aJ.o.new G));clear o7 G;refine As l ?_;clear l K;refine Ar ?_
    iterate 3 refine Az ?_
    refine Aj ?_;refine Al ?_;intro K l;obtain⟨w8,bq⟩:=Ag (u.alloc (BD #[E V 0,E V 0,E V 0,Ax Y 0 0] 174))
    have C:u.grownBy w8 Y:=by rw[<-bq];exact O _ _ Y
    have b8:Aa w8 u.heap.size 174 [E V 0,E V 0,E V 0,Ax Y 0 0]:=by rw[<-bq];exact Aa.new _ _ _
    rw[bq];obtain⟨o,ak⟩:=Ag (AL t u.heap.size 106)
    have aS:o u.heap.size=106:=by rw[<-ak];exact AY _ _ _
    have I:∀d,d<u.heap.size->o d=t d:=λd n=>by rw[<-ak];exact Bg _ _ Ω
    have aT:Ab (SS 107) u t w8 o:=by rw[<-ak];exact Cc az.o.new C (jS _) b8.lt (BE ⟨Ω,Ω⟩)
    have tX:Ac (λ_=>False) u w8:=Ac.au C;have HX:=zh (H7.o.am (col':=o) tX (λ_ _ i=>i) I);have DX:=zh (D7.o.am (col':=o) tX (λ_ _ i=>i) I);have PX:=zh (P7.o.am (col':=o) tX (λ_ _ i=>i) I);have RX:=zh (R7.o.grown C Δ);have z:=zh (B7.o.grown C Δ);have r:=zh b8;have XC:=zh aS;have L:Hd (o L7=105):=zh (by rw[I _ B7.o.lt];exact cw.o);have M:Hd (o h.heap.size=0):=zh (by rw[I _ R7.o.lt];exact cx.o);have N:=zh (az.o.trans aT);clear bq C b8 ak aS I aT tX;generalize u.heap.size=L9 at*;refine l _ _ ⟨_,λ_ i=>i,λ_=>⟨HX.o.cells.1,by rw[<-cd.o];exact HX.o.cells.2.1,RX.o⟩,?_⟩;clear l K;refine Ak ?_;refine Ar ?_;refine Aj ?_;have f0:=r.o.v 0;have f1:=r.o.v 1;have f2:=r.o.v 2;have f3:=r.o.v 3;have z0:=r.o.m 0;have z1:=r.o.m 1;have z2:=r.o.m 2;have z3:=r.o.m 3;refine Al ?_;intro K l;obtain⟨wY,aV,bY,v⟩:=EZ r.o (E V 2) (E V q) (E V s) (Ax Q y.length R);rw[aV];have aX:=XC.o
    have w:∀d,d=L9->o d=106:=λd e=>by rw[e];exact aX
    have H8:=zh (HX.o.am v (λd n e=>by rw[w d e]at n;omega) (λ_ _=>rfl));have D8:=zh (DX.o.am v (λd n e=>by rw[w d e]at n;omega) (λ_ _=>rfl));have P8:=zh (PX.o.am v (λb m e=>by rw[w b e]at m;cases m) (λ_ _=>rfl));have R8:=zh (v.u RX.o (λe=>by have:=w _ e;rw[M.o]at this;cases this));have x:=zh (v.u z.o (λe=>by have:=w _ e;rw[L.o]at this;cases this));have X8:=zh bY;have aE:=L;have aZ:=M;have a0:=zh (N.o.trans (AG N.o.new v (λd e=>by rw[w d e];exact BE ⟨Ω,Ω⟩)));clear f0 f1 f2 f3 z0 z1 z2 z3 aV bY v aX w HX DX PX RX z r N;refine As l ?_;clear l K;refine Ar ?_;refine Aj ?_;refine Al ?_;intro K l;refine As l ?_;clear l K;refine AK (A4 ?_);generalize o=bJ at*;clear L M;have z0:=X8.o.m 0;have z1:=X8.o.m 1;have z2:=X8.o.m 2;have z3:=X8.o.m 3;have y0:=x.o.m 0;have y1:=x.o.m 1;have y2:=x.o.m 2;have f0:=x.o.v 0;have f1:=x.o.v 1;have f2:=x.o.v 2;have x0:=R8.o.m 0
    have a1:L7≠h.heap.size:=λe=>by have:=aE.o;rw[e,aZ.o]at this;cases this
    have a2:h.heap.size≠L7:=λe=>a1 e.symm
    obtain⟨w9,a3,b9,D⟩:=Br x.o (E V s) (Ax Q y.length R) (Bs AA);have a5:=aE.o
    have S:∀d,d=L7->bJ d=105:=λd e=>by rw[e];exact a5
    have H9:=zh (H8.o.am D (λd n e=>by rw[S d e]at n;omega) (λ_ _=>rfl));have D9:=zh (D8.o.am D (λd n e=>by rw[S d e]at n;omega) (λ_ _=>rfl));have P9:=zh (P8.o.am D (λb m e=>by rw[S b e]at m;cases m) (λ_ _=>rfl));have R9:=zh (D.u R8.o (λe=>a2 e));have B9:=zh b9;have a7:=zh (a0.o.trans (AG a0.o.new D (λd e=>by rw[S d e];exact BE ⟨Ω,Ω⟩)));have bO:=zh a3;clear b9 D S a5 a3;go_wp2_with fail;rw[bO.o];clear z0 z1 z2 z3 y0 y1 y2 f0 f1 f2 x0 a1 a2;refine(Jy H9.o HL.o.bU D9.o a7.o.new Ω aF q s Q R y AA av.o P9.o).mono ?_;rintro e bP ⟨rfl,bQ,bR,bS,T,a8,a9,ba⟩;have bT:=zh a8;have bU:=zh a9;have bb:=zh ba;have bc:=zh (T.u B9.o (by rw[aE.o];exact Sc.az Ω Ω));have bV:=zh (T.u R9.o (by rw[aZ.o];exact Sc.az Ω Ω));have bW:=zh (P9.o.ae T (Sc.az Ω Ω));have am:=zh (a7.o.trans (T.mono (JY Ω)));clear a8 a9 ba T;have y0:=bc.o.m 0;have y1:=bc.o.m 1;have x1:=bV.o.m 1;have cA:((s:Int)!=(s:Int))=AA:=Δ;go_wp2_with fail;refine(DW y Q R bP Ω bW.o.1).mono ?_;rintro e cB ⟨bd,be,rfl,U,A⟩;go_wp2_with fail;refine BA (B0 rfl _ _ _) rfl ?_;exact⟨bd,be,rfl,bQ,bS,am.o.trans (Ab.grown am.o.new A),⟨⟨B,b0,b1,bf,b3,b4,bu,tk,fr,dy,dd,bR,bT.o.grown A,HL.o.bO cE.o cy.o bb.o⟩,bU.o.grown A,am.o.new.grown A,aF⟩,bb.o.on,Ai.aj U,λb m=>⟨am.o.new b (U.lt b m).1,(U.lt b m).2⟩,av.o.bx⟩
   ·refine Al ?_;intro K l;obtain⟨u,br⟩:=Ag (P.alloc (BD #[E V 0,E V 0,E V 0,Ax Y 0 0] 174))
    have G:P.grownBy u Y:=by rw[<-br];exact O _ _ Y
    have b7:Aa u P.heap.size 174 [E V 0,E V 0,E V 0,Ax Y 0 0]:=by rw[<-br];exact Aa.new _ _ _
    rw[br];obtain⟨o,ak⟩:=Ag (AL t P.heap.size 106)
    have aS:o P.heap.size=106:=by rw[<-ak];exact AY _ _ _
    have I:∀d,d<P.heap.size->o d=t d:=λd n=>by rw[<-ak];exact Bg _ _ Ω
    have aT:Ab (SS 107) P t u o:=by rw[<-ak];exact Cc aJ.o.new G (jS _) b7.lt (BE ⟨Ω,Ω⟩)
    have tX:Ac (λ_=>False) P u:=Ac.au G;have H7:=zh (H6.o.am (col':=o) tX (λ_ _ i=>i) I);have D7:=zh (D6.o.am (col':=o) tX (λ_ _ i=>i) I);have R7:=zh (R6.o.grown G Δ);have B7:=zh (B6.o.grown G Δ);have X7:=zh b7;have XC:=zh aS;have L:Hd (o L7=105):=zh (by rw[I _ B6.o.lt];exact cw.o);have M:Hd (o h.heap.size=0):=zh (by rw[I _ R6.o.lt];exact cx.o);have az:=zh (aJ.o.trans aT);clear br G b7 ak aS I aT tX;generalize P.heap.size=L9 at*;refine l _ _ ⟨_,λ_ i=>i,λ_=>⟨H7.o.cells.1,by rw[<-cd.o];exact H7.o.cells.2.1,R7.o⟩,?_⟩;clear l K;refine Ak ?_;refine Ar ?_;refine Aj ?_;refine Al ?_;intro K l;rw[cH.o];refine(cf.o u o D7.o az.o.new cz.o).mono ?_;rintro e w8 ⟨⟨Q,R,rfl,o8⟩,C⟩;dsimp only;have HX:=zh (H7.o.grown C);have DX:=zh (D7.o.grown C);have RX:=zh (R7.o.grown C Δ);have z:=zh (B7.o.grown C Δ);have r:=zh (X7.o.grown C Δ);have PX:Hd (Bj w8 o Q R y):=zh ⟨Ai.aj o8,λb m=>⟨az.o.new b (o8.lt b m).1,(o8.lt b m).2⟩,av.o.bx⟩;have N:=zh (az.o.trans (Ab.grown az.o.new C));clear o8 C;refine As l ?_;clear l K;refine Ar ?_
    iterate 3 refine Az ?_
    refine Aj ?_;have f0:=r.o.v 0;have f1:=r.o.v 1;have f2:=r.o.v 2;have f3:=r.o.v 3;have z0:=r.o.m 0;have z1:=r.o.m 1;have z2:=r.o.m 2;have z3:=r.o.m 3;refine Al ?_;intro K l;obtain⟨wY,aV,bY,v⟩:=EZ r.o (E V 2) (E V q) (E V s) (Ax Q y.length R);rw[aV];have aX:=XC.o
    have w:∀d,d=L9->o d=106:=λd e=>by rw[e];exact aX
    have H8:=zh (HX.o.am v (λd n e=>by rw[w d e]at n;omega) (λ_ _=>rfl));have D8:=zh (DX.o.am v (λd n e=>by rw[w d e]at n;omega) (λ_ _=>rfl));have P8:=zh (PX.o.am v (λb m e=>by rw[w b e]at m;cases m) (λ_ _=>rfl));have R8:=zh (v.u RX.o (λe=>by have:=w _ e;rw[M.o]at this;cases this));have x:=zh (v.u z.o (λe=>by have:=w _ e;rw[L.o]at this;cases this));have X8:=zh bY;have aE:=L;have aZ:=M;have a0:=zh (N.o.trans (AG N.o.new v (λd e=>by rw[w d e];exact BE ⟨Ω,Ω⟩)));clear f0 f1 f2 f3 z0 z1 z2 z3 aV bY v aX w HX DX PX RX z r N;refine As l ?_;clear l K;refine Ar ?_;refine Aj ?_;refine Al ?_;intro K l;refine As l ?_;clear l K;refine AK (A4 ?_);generalize o=bJ at*;clear L M;have z0:=X8.o.m 0;have z1:=X8.o.m 1;have z2:=X8.o.m 2;have z3:=X8.o.m 3;have y0:=x.o.m 0;have y1:=x.o.m 1;have y2:=x.o.m 2;have f0:=x.o.v 0;have f1:=x.o.v 1;have f2:=x.o.v 2;have x0:=R8.o.m 0
    have a1:L7≠h.heap.size:=λe=>by have:=aE.o;rw[e,aZ.o]at this;cases this
    have a2:h.heap.size≠L7:=λe=>a1 e.symm
    obtain⟨w9,a3,b9,D⟩:=Br x.o (E V s) (Ax Q y.length R) (Bs AA);have a5:=aE.o
    have S:∀d,d=L7->bJ d=105:=λd e=>by rw[e];exact a5
    have H9:=zh (H8.o.am D (λd n e=>by rw[S d e]at n;omega) (λ_ _=>rfl));have D9:=zh (D8.o.am D (λd n e=>by rw[S d e]at n;omega) (λ_ _=>rfl));have P9:=zh (P8.o.am D (λb m e=>by rw[S b e]at m;cases m) (λ_ _=>rfl));have R9:=zh (D.u R8.o (λe=>a2 e));have B9:=zh b9;have a7:=zh (a0.o.trans (AG a0.o.new D (λd e=>by rw[S d e];exact BE ⟨Ω,Ω⟩)));have bO:=zh a3;clear b9 D S a5 a3;go_wp2_with fail;rw[bO.o];clear z0 z1 z2 z3 y0 y1 y2 f0 f1 f2 x0 a1 a2;refine(Jy H9.o HL.o.bU D9.o a7.o.new Ω aF q s Q R y AA av.o P9.o).mono ?_;rintro e bP ⟨rfl,bQ,bR,bS,T,a8,a9,ba⟩;have bT:=zh a8;have bU:=zh a9;have bb:=zh ba;have bc:=zh (T.u B9.o (by rw[aE.o];exact Sc.az Ω Ω));have bV:=zh (T.u R9.o (by rw[aZ.o];exact Sc.az Ω Ω));have bW:=zh (P9.o.ae T (Sc.az Ω Ω));have am:=zh (a7.o.trans (T.mono (JY Ω)));clear a8 a9 ba T;have y0:=bc.o.m 0;have y1:=bc.o.m 1;have x1:=bV.o.m 1;have cA:((s:Int)!=(s:Int))=AA:=Δ;go_wp2_with fail;refine(DW y Q R bP Ω bW.o.1).mono ?_;rintro e cB ⟨bd,be,rfl,U,A⟩;go_wp2_with fail;refine BA (B0 rfl _ _ _) rfl ?_;exact⟨bd,be,rfl,bQ,bS,am.o.trans (Ab.grown am.o.new A),⟨⟨B,b0,b1,bf,b3,b4,bu,tk,fr,dy,dd,bR,bT.o.grown A,HL.o.bO cE.o cy.o bb.o⟩,bU.o.grown A,am.o.new.grown A,aF⟩,bb.o.on,Ai.aj U,λb m=>⟨am.o.new b (U.lt b m).1,(U.lt b m).2⟩,av.o.bx⟩
  ·have dc:X=s/\F=y:=by
    rcases cD.o with i|⟨i|i,_⟩<;>rw[h1]at i
    ·injection i with i;injection i with ha i;injection i with m _;exact⟨ha,m⟩
    ·cases i
    ·injection i with i;injection i with ha i;injection i with m _;exact⟨ha,m⟩
   obtain⟨rfl,rfl⟩:=dc;have P5:=zh h2;have cA:((X:Int)!=(X:Int))=AA:=Δ;clear h1 h2;go_wp2_with fail;refine(DW F a' c' w5 Ω P5.o.1).mono ?_;rintro e cB ⟨bd,be,rfl,U,A⟩;go_wp2_with fail;refine BA (B0 rfl _ _ _) rfl ?_;exact⟨bd,be,rfl,t,Z,aH.o.trans (Ab.grown aH.o.new A),SD.mono ⟨⟨B,b0,b1,bf,b3,b4,bu,tk,fr,dy,dd,aL,H5.o.grown A,HL.o⟩,D5.o.grown A,aH.o.new.grown A,aF⟩ (lC J),AN.refl _ _,Ai.aj U,λb m=>⟨aH.o.new b (U.lt b m).1,(U.lt b m).2⟩,av.o.bx⟩
 ·refine Al ?_;intro K l;obtain⟨w4,cP⟩:=Ag (w3.alloc (BD #[E V 0,Ax Y 0 0,Bs AA] 198))
  have g4:w3.grownBy w4 Y:=by rw[<-cP];exact O _ _ Y
  have df:Aa w4 w3.heap.size 198 [E V 0,Ax Y 0 0,Bs AA]:=by rw[<-cP];exact Aa.new _ _ _
  rw[cP];obtain⟨aM,cR⟩:=Ag (AL a w3.heap.size 105)
  have dv:aM w3.heap.size=105:=by rw[<-cR];exact AY _ _ _
  have cS:∀d,d<w3.heap.size->aM d=a d:=λd n=>by rw[<-cR];exact Bg _ _ Ω
  have bi:Ab (SS 107) w3 a w4 aM:=by rw[<-cR];exact Cc c3.o.new g4 (jS _) df.lt (BE ⟨Ω,Ω⟩)
  have t4:Ac (λ_=>False) w3 w4:=Ac.au g4;have H4:=zh (H3.o.am (col':=aM) t4 (λ_ _ i=>i) cS);have D4:=zh (D3.o.am (col':=aM) t4 (λ_ _ i=>i) cS);have R4:=zh (R3.o.grown g4 Δ);have B4:=zh df;have dx:=zh dv;have cL:Hd (aM h.heap.size=0):=zh (by rw[cS _ R3.o.lt];exact RC.o);have cm:=zh (c3.o.trans bi);clear cP g4 df cR dv cS bi t4;generalize w3.heap.size=L7 at*;refine l _ _ ⟨_,λ_ i=>i,λ_=>⟨H4.o.cells.2.2.2.2.2.2.2.2.2,R4.o⟩,?_⟩;clear l K;refine Ak ?_;refine Ar ?_;refine Aj ?_;refine Al ?_;intro K l;refine(Ut H4.o.cs cm.o.new q Ω dk).mono ?_;rintro e wL ⟨t,aO,dz,cj⟩
  obtain⟨X,a',c',F,au,wb,rfl,hr⟩:∃(X:Nat) (a':Option C4) (c':Nat) (F:List Nat) (au wb:Bool),e=Bd (CR #[CV #[E V X,Ax a' F.length c',Bs au],Bs wb])/\
    ((wb=AA/\aL q=Y)\/(wb=BL/\aL q=A3 (X,F,au)/\Bj wL t a' c' F)):=by
   rcases cj with⟨h1,rfl⟩|⟨X,a',c',F,au,h1,rfl,h2⟩
   ·exact⟨0,Y,0,[],AA,AA,rfl,CE ⟨rfl,h1⟩⟩
   ·exact⟨X,a',c',F,au,BL,rfl,BE ⟨rfl,h1,h2⟩⟩
  have bv:=zh hr;have HX:=zh (H4.o.eY aO (Sc.az Ω Ω) (Sc.az Ω Ω) (jS J) dz);have DX:=zh (D4.o.ae aO (Sc.az Ω Ω));have RX:=zh (aO.u R4.o (by rw[cL.o];exact Sc.az Ω Ω));have z:=zh (aO.u B4.o (by rw[dx.o];exact Sc.az Ω Ω));have L:Hd (t L7=105):=zh (by rw[aO.ah _ B4.o.lt];exact dx.o);have M:Hd (t h.heap.size=0):=zh (by rw[aO.ah _ R4.o.lt];exact cL.o);have N:=zh (cm.o.trans (aO.mono (Sc.mono (λd e=>BE (CE e)) Ω)));clear aO dz hr cj;dsimp only;refine As l ?_;clear l K;refine Ar ?_
  iterate 3 refine Az ?_
  refine Aj ?_;have f0:=z.o.v 0;have f1:=z.o.v 1;have f2:=z.o.v 2;have y0:=z.o.m 0;have y1:=z.o.m 1;have y2:=z.o.m 2;refine Al ?_;intro K l;obtain⟨w5,cq,b5,t5⟩:=Br z.o (E V X) (Ax a' F.length c') (Bs au);rw[cq];have cs:=L.o
  have aG:∀d,d=L7->t d=105:=λd e=>by rw[e];exact cs
  have H5:=zh (HX.o.am t5 (λd n e=>by rw[aG d e]at n;omega) (λ_ _=>rfl));have D5:=zh (DX.o.am t5 (λd n e=>by rw[aG d e]at n;omega) (λ_ _=>rfl));have R5:=zh (t5.u RX.o (λe=>by have:=aG _ e;rw[M.o]at this;cases this));have B5:=zh b5;have cw:=L;have cx:=M;have aH:=zh (N.o.trans (AG N.o.new t5 (λd e=>by rw[aG d e];exact BE ⟨Ω,Ω⟩)));have c7:Hd ((wb=AA/\aL q=Y)\/(wb=BL/\aL q=A3 (X,F,au)/\Bj w5 t a' c' F)):=zh (bv.o.imp id (λ⟨co,b,cp⟩=>⟨co,b,cp.am t5 (λb m e=>by rw[aG b e]at m;cases m) (λ_ _=>rfl)⟩));clear f0 f1 f2 y0 y1 y2 cq b5 t5 cs aG HX DX RX z N bv L M;refine As l ?_;clear l K;refine Ar ?_;refine Aj ?_;refine Al ?_;intro K l;refine As l ?_;clear l K;refine AK (A4 ?_);have y0:=B5.o.m 0;have y1:=B5.o.m 1;have y2:=B5.o.m 2;have x1:=R5.o.m 1
  rcases c7.o with⟨rfl,h1⟩|⟨rfl,h1,h2⟩
  ·have cy:=zh h1
   have bh:Z ((c.aK+q:Nat):Int)=BO c.n 2 q s y:=by
    rcases cD.o with i|i
    ·rw[h1]at i;cases i
    ·exact i.2
   rw[HZ.o]at bh;have cz:=zh bh;clear h1 bh y0 y1 y2 x1;go_wp2_with fail;refine A7 (λW=>W.cell? ⟨f,0,Y⟩=A3 (A2 (A3 ⟨g,0,Y⟩))/\W.cell? ⟨f,9,Y⟩=A3 (E V cF)/\Aa W h.heap.size 165 [E V q,E V s]) (.bP [0,1,2,3,4,5,6,7,8,9,10,11,12] 13 AA (.an [] [14,15,16] 17 BL (.an [] [] 18 AA (.an [] [] 19 AA (.nil)))) 17 BL (.an [] [] 13 AA (.an [] [14,15,16] 18 AA (.an [] [] 19 AA (.nil))))) Φ Φ ?_;obtain⟨P,bz⟩:=Ag w5.drew
   have g6:w5.grownBy P Y:=by rw[<-bz];exact Be w5
   rw[bz];have H6:=zh (H5.o.grown g6);have D6:=zh (D5.o.grown g6);have R6:=zh (R5.o.grown g6 Δ);have B6:=zh (B5.o.grown g6 Δ);have aJ:=zh (aH.o.trans (Ab.grown aH.o.new g6));clear bz g6;refine Ej ⟨H6.o.cells.1,by rw[<-cd.o];exact H6.o.cells.2.1,R6.o⟩ ?_
   iterate 13 ((apply AB rfl Θ;(· intro wS ae;(try have ae:=ae rfl);(try dsimp only at ae);(try(have c0:=ae.1;have c9:=ae.2.1;have x0:=ae.2.2.m 0));go_simp;(try with_reducible rfl)));refine Ak ?_)
   refine Aj ⟨?_,?_⟩
   ·refine Al ?_;intro K l;rw[cH.o];refine(cf.o P t D6.o aJ.o.new cz.o).mono ?_;rintro e u ⟨⟨Q,R,rfl,o7⟩,G⟩;dsimp only;have H7:=zh (H6.o.grown G);have D7:=zh (D6.o.grown G);have R7:=zh (R6.o.grown G Δ);have B7:=zh (B6.o.grown G Δ);have P7:Hd (Bj u t Q R y):=zh ⟨Ai.aj o7,λb m=>⟨aJ.o.new b (o7.lt b m).1,(o7.lt b m).2⟩,av.o.bx⟩;have az:=zh (aJ.o.trans (Ab.grown aJ.o.new G));clear o7 G;refine As l ?_;clear l K;refine Ar ?_
    iterate 3 refine Az ?_
    refine Aj ?_;refine Al ?_;intro K l;obtain⟨w8,bq⟩:=Ag (u.alloc (BD #[E V 0,E V 0,E V 0,Ax Y 0 0] 174))
    have C:u.grownBy w8 Y:=by rw[<-bq];exact O _ _ Y
    have b8:Aa w8 u.heap.size 174 [E V 0,E V 0,E V 0,Ax Y 0 0]:=by rw[<-bq];exact Aa.new _ _ _
    rw[bq];obtain⟨o,ak⟩:=Ag (AL t u.heap.size 106)
    have aS:o u.heap.size=106:=by rw[<-ak];exact AY _ _ _
    have I:∀d,d<u.heap.size->o d=t d:=λd n=>by rw[<-ak];exact Bg _ _ Ω
    have aT:Ab (SS 107) u t w8 o:=by rw[<-ak];exact Cc az.o.new C (jS _) b8.lt (BE ⟨Ω,Ω⟩)
    have tX:Ac (λ_=>False) u w8:=Ac.au C;have HX:=zh (H7.o.am (col':=o) tX (λ_ _ i=>i) I);have DX:=zh (D7.o.am (col':=o) tX (λ_ _ i=>i) I);have PX:=zh (P7.o.am (col':=o) tX (λ_ _ i=>i) I);have RX:=zh (R7.o.grown C Δ);have z:=zh (B7.o.grown C Δ);have r:=zh b8;have XC:=zh aS;have L:Hd (o L7=105):=zh (by rw[I _ B7.o.lt];exact cw.o);have M:Hd (o h.heap.size=0):=zh (by rw[I _ R7.o.lt];exact cx.o);have N:=zh (az.o.trans aT);clear bq C b8 ak aS I aT tX;generalize u.heap.size=L9 at*;refine l _ _ ⟨_,λ_ i=>i,λ_=>⟨HX.o.cells.1,by rw[<-cd.o];exact HX.o.cells.2.1,RX.o⟩,?_⟩;clear l K;refine Ak ?_;refine Ar ?_;refine Aj ?_;have f0:=r.o.v 0;have f1:=r.o.v 1;have f2:=r.o.v 2;have f3:=r.o.v 3;have z0:=r.o.m 0;have z1:=r.o.m 1;have z2:=r.o.m 2;have z3:=r.o.m 3;refine Al ?_;intro K l;obtain⟨wY,aV,bY,v⟩:=EZ r.o (E V 2) (E V q) (E V s) (Ax Q y.length R);rw[aV];have aX:=XC.o
    have w:∀d,d=L9->o d=106:=λd e=>by rw[e];exact aX
    have H8:=zh (HX.o.am v (λd n e=>by rw[w d e]at n;omega) (λ_ _=>rfl));have D8:=zh (DX.o.am v (λd n e=>by rw[w d e]at n;omega) (λ_ _=>rfl));have P8:=zh (PX.o.am v (λb m e=>by rw[w b e]at m;cases m) (λ_ _=>rfl));have R8:=zh (v.u RX.o (λe=>by have:=w _ e;rw[M.o]at this;cases this));have x:=zh (v.u z.o (λe=>by have:=w _ e;rw[L.o]at this;cases this));have X8:=zh bY;have aE:=L;have aZ:=M;have a0:=zh (N.o.trans (AG N.o.new v (λd e=>by rw[w d e];exact BE ⟨Ω,Ω⟩)));clear f0 f1 f2 f3 z0 z1 z2 z3 aV bY v aX w HX DX PX RX z r N;refine As l ?_;clear l K;refine Ar ?_;refine Aj ?_;refine Al ?_;intro K l;refine As l ?_;clear l K;refine AK (A4 ?_);generalize o=bJ at*;clear L M;have z0:=X8.o.m 0;have z1:=X8.o.m 1;have z2:=X8.o.m 2;have z3:=X8.o.m 3;have y0:=x.o.m 0;have y1:=x.o.m 1;have y2:=x.o.m 2;have f0:=x.o.v 0;have f1:=x.o.v 1;have f2:=x.o.v 2;have x0:=R8.o.m 0
    have a1:L7≠h.heap.size:=λe=>by have:=aE.o;rw[e,aZ.o]at this;cases this
    have a2:h.heap.size≠L7:=λe=>a1 e.symm
    obtain⟨w9,a3,b9,D⟩:=Br x.o (E V s) (Ax Q y.length R) (Bs AA);have a5:=aE.o
    have S:∀d,d=L7->bJ d=105:=λd e=>by rw[e];exact a5
    have H9:=zh (H8.o.am D (λd n e=>by rw[S d e]at n;omega) (λ_ _=>rfl));have D9:=zh (D8.o.am D (λd n e=>by rw[S d e]at n;omega) (λ_ _=>rfl));have P9:=zh (P8.o.am D (λb m e=>by rw[S b e]at m;cases m) (λ_ _=>rfl));have R9:=zh (D.u R8.o (λe=>a2 e));have B9:=zh b9;have a7:=zh (a0.o.trans (AG a0.o.new D (λd e=>by rw[S d e];exact BE ⟨Ω,Ω⟩)));have bO:=zh a3;clear b9 D S a5 a3;go_wp2_with fail;rw[bO.o];clear z0 z1 z2 z3 y0 y1 y2 f0 f1 f2 x0 a1 a2;refine(Jy H9.o HL.o.bU D9.o a7.o.new Ω aF q s Q R y AA av.o P9.o).mono ?_;rintro e bP ⟨rfl,bQ,bR,bS,T,a8,a9,ba⟩;have bT:=zh a8;have bU:=zh a9;have bb:=zh ba;have bc:=zh (T.u B9.o (by rw[aE.o];exact Sc.az Ω Ω));have bV:=zh (T.u R9.o (by rw[aZ.o];exact Sc.az Ω Ω));have bW:=zh (P9.o.ae T (Sc.az Ω Ω));have am:=zh (a7.o.trans (T.mono (JY Ω)));clear a8 a9 ba T;have y0:=bc.o.m 0;have y1:=bc.o.m 1;have x1:=bV.o.m 1;have cA:((s:Int)!=(s:Int))=AA:=Δ;go_wp2_with fail;refine(DW y Q R bP Ω bW.o.1).mono ?_;rintro e cB ⟨bd,be,rfl,U,A⟩;go_wp2_with fail;refine BA (B0 rfl _ _ _) rfl ?_;exact⟨bd,be,rfl,bQ,bS,am.o.trans (Ab.grown am.o.new A),⟨⟨B,b0,b1,bf,b3,b4,bu,tk,fr,dy,dd,bR,bT.o.grown A,HL.o.bO cE.o cy.o bb.o⟩,bU.o.grown A,am.o.new.grown A,aF⟩,bb.o.on,Ai.aj U,λb m=>⟨am.o.new b (U.lt b m).1,(U.lt b m).2⟩,av.o.bx⟩
   ·refine Al ?_;intro K l;obtain⟨u,br⟩:=Ag (P.alloc (BD #[E V 0,E V 0,E V 0,Ax Y 0 0] 174))
    have G:P.grownBy u Y:=by rw[<-br];exact O _ _ Y
    have b7:Aa u P.heap.size 174 [E V 0,E V 0,E V 0,Ax Y 0 0]:=by rw[<-br];exact Aa.new _ _ _
    rw[br];obtain⟨o,ak⟩:=Ag (AL t P.heap.size 106)
    have aS:o P.heap.size=106:=by rw[<-ak];exact AY _ _ _
    have I:∀d,d<P.heap.size->o d=t d:=λd n=>by rw[<-ak];exact Bg _ _ Ω
    have aT:Ab (SS 107) P t u o:=by rw[<-ak];exact Cc aJ.o.new G (jS _) b7.lt (BE ⟨Ω,Ω⟩)
    have tX:Ac (λ_=>False) P u:=Ac.au G;have H7:=zh (H6.o.am (col':=o) tX (λ_ _ i=>i) I);have D7:=zh (D6.o.am (col':=o) tX (λ_ _ i=>i) I);have R7:=zh (R6.o.grown G Δ);have B7:=zh (B6.o.grown G Δ);have X7:=zh b7;have XC:=zh aS;have L:Hd (o L7=105):=zh (by rw[I _ B6.o.lt];exact cw.o);have M:Hd (o h.heap.size=0):=zh (by rw[I _ R6.o.lt];exact cx.o);have az:=zh (aJ.o.trans aT);clear br G b7 ak aS I aT tX;generalize P.heap.size=L9 at*;refine l _ _ ⟨_,λ_ i=>i,λ_=>⟨H7.o.cells.1,by rw[<-cd.o];exact H7.o.cells.2.1,R7.o⟩,?_⟩;clear l K;refine Ak ?_;refine Ar ?_;refine Aj ?_;refine Al ?_;intro K l;rw[cH.o];refine(cf.o u o D7.o az.o.new cz.o).mono ?_;rintro e w8 ⟨⟨Q,R,rfl,o8⟩,C⟩;dsimp only;have HX:=zh (H7.o.grown C);have DX:=zh (D7.o.grown C);have RX:=zh (R7.o.grown C Δ);have z:=zh (B7.o.grown C Δ);have r:=zh (X7.o.grown C Δ);have PX:Hd (Bj w8 o Q R y):=zh ⟨Ai.aj o8,λb m=>⟨az.o.new b (o8.lt b m).1,(o8.lt b m).2⟩,av.o.bx⟩;have N:=zh (az.o.trans (Ab.grown az.o.new C));clear o8 C;refine As l ?_;clear l K;refine Ar ?_
    iterate 3 refine Az ?_
    refine Aj ?_;have f0:=r.o.v 0;have f1:=r.o.v 1;have f2:=r.o.v 2;have f3:=r.o.v 3;have z0:=r.o.m 0;have z1:=r.o.m 1;have z2:=r.o.m 2;have z3:=r.o.m 3;refine Al ?_;intro K l;obtain⟨wY,aV,bY,v⟩:=EZ r.o (E V 2) (E V q) (E V s) (Ax Q y.length R);rw[aV];have aX:=XC.o
    have w:∀d,d=L9->o d=106:=λd e=>by rw[e];exact aX
    have H8:=zh (HX.o.am v (λd n e=>by rw[w d e]at n;omega) (λ_ _=>rfl));have D8:=zh (DX.o.am v (λd n e=>by rw[w d e]at n;omega) (λ_ _=>rfl));have P8:=zh (PX.o.am v (λb m e=>by rw[w b e]at m;cases m) (λ_ _=>rfl));have R8:=zh (v.u RX.o (λe=>by have:=w _ e;rw[M.o]at this;cases this));have x:=zh (v.u z.o (λe=>by have:=w _ e;rw[L.o]at this;cases this));have X8:=zh bY;have aE:=L;have aZ:=M;have a0:=zh (N.o.trans (AG N.o.new v (λd e=>by rw[w d e];exact BE ⟨Ω,Ω⟩)));clear f0 f1 f2 f3 z0 z1 z2 z3 aV bY v aX w HX DX PX RX z r N;refine As l ?_;clear l K;refine Ar ?_;refine Aj ?_;refine Al ?_;intro K l;refine As l ?_;clear l K;refine AK (A4 ?_);generalize o=bJ at*;clear L M;have z0:=X8.o.m 0;have z1:=X8.o.m 1;have z2:=X8.o.m 2;have z3:=X8.o.m 3;have y0:=x.o.m 0;have y1:=x.o.m 1;have y2:=x.o.m 2;have f0:=x.o.v 0;have f1:=x.o.v 1;have f2:=x.o.v 2;have x0:=R8.o.m 0
    have a1:L7≠h.heap.size:=λe=>by have:=aE.o;rw[e,aZ.o]at this;cases this
    have a2:h.heap.size≠L7:=λe=>a1 e.symm
    obtain⟨w9,a3,b9,D⟩:=Br x.o (E V s) (Ax Q y.length R) (Bs AA);have a5:=aE.o
    have S:∀d,d=L7->bJ d=105:=λd e=>by rw[e];exact a5
    have H9:=zh (H8.o.am D (λd n e=>by rw[S d e]at n;omega) (λ_ _=>rfl));have D9:=zh (D8.o.am D (λd n e=>by rw[S d e]at n;omega) (λ_ _=>rfl));have P9:=zh (P8.o.am D (λb m e=>by rw[S b e]at m;cases m) (λ_ _=>rfl));have R9:=zh (D.u R8.o (λe=>a2 e));have B9:=zh b9;have a7:=zh (a0.o.trans (AG a0.o.new D (λd e=>by rw[S d e];exact BE ⟨Ω,Ω⟩)));have bO:=zh a3;clear b9 D S a5 a3;go_wp2_with fail;rw[bO.o];clear z0 z1 z2 z3 y0 y1 y2 f0 f1 f2 x0 a1 a2;refine(Jy H9.o HL.o.bU D9.o a7.o.new Ω aF q s Q R y AA av.o P9.o).mono ?_;rintro e bP ⟨rfl,bQ,bR,bS,T,a8,a9,ba⟩;have bT:=zh a8;have bU:=zh a9;have bb:=zh ba;have bc:=zh (T.u B9.o (by rw[aE.o];exact Sc.az Ω Ω));have bV:=zh (T.u R9.o (by rw[aZ.o];exact Sc.az Ω Ω));have bW:=zh (P9.o.ae T (Sc.az Ω Ω));have am:=zh (a7.o.trans (T.mono (JY Ω)));clear a8 a9 ba T;have y0:=bc.o.m 0;have y1:=bc.o.m 1;have x1:=bV.o.m 1;have cA:((s:Int)!=(s:Int))=AA:=Δ;go_wp2_with fail;refine(DW y Q R bP Ω bW.o.1).mono ?_;rintro e cB ⟨bd,be,rfl,U,A⟩;go_wp2_with fail;refine BA (B0 rfl _ _ _) rfl ?_;exact⟨bd,be,rfl,bQ,bS,am.o.trans (Ab.grown am.o.new A),⟨⟨B,b0,b1,bf,b3,b4,bu,tk,fr,dy,dd,bR,bT.o.grown A,HL.o.bO cE.o cy.o bb.o⟩,bU.o.grown A,am.o.new.grown A,aF⟩,bb.o.on,Ai.aj U,λb m=>⟨am.o.new b (U.lt b m).1,(U.lt b m).2⟩,av.o.bx⟩
  ·have dc:X=s/\F=y:=by
    rcases cD.o with i|⟨i|i,_⟩<;>rw[h1]at i
    ·injection i with i;injection i with ha i;injection i with m _;exact⟨ha,m⟩
    ·cases i
    ·injection i with i;injection i with ha i;injection i with m _;exact⟨ha,m⟩
   obtain⟨rfl,rfl⟩:=dc;have P5:=zh h2;have cA:((X:Int)!=(X:Int))=AA:=Δ;clear h1 h2;go_wp2_with fail;refine(DW F a' c' w5 Ω P5.o.1).mono ?_;rintro e cB ⟨bd,be,rfl,U,A⟩;go_wp2_with fail;refine BA (B0 rfl _ _ _) rfl ?_;exact⟨bd,be,rfl,t,Z,aH.o.trans (Ab.grown aH.o.new A),SD.mono ⟨⟨B,b0,b1,bf,b3,b4,bu,tk,fr,dy,dd,aL,H5.o.grown A,HL.o⟩,D5.o.grown A,aH.o.new.grown A,aF⟩ (lC J),AN.refl _ _,Ai.aj U,λb m=>⟨aH.o.new b (U.lt b m).1,(U.lt b m).2⟩,av.o.bx⟩
theorem A8.iq(i:A8 h a J f c j g e d)(m:Nat):A8 (h.setCell ⟨J,18,Y⟩ (E V m)) a J f c m g e d:=
 ⟨i.u.setCell 18 _,(Ac.of (S:=λk=>k=J) (An _ _ _) (λk l=>by cases l;rfl)).aL i.aM (λb n l=>by subst l;exact Bh i.u i.aM Ξ n),i.c0,i.cp⟩
theorem A8.f6(i:A8 h a J f c g j e d)(m:Nat):A8 (h.setCell ⟨J,19,Y⟩ (E V m)) a J f c g m e d:=
 ⟨i.u.setCell 19 _,(Ac.of (S:=λk=>k=J) (An _ _ _) (λk l=>by cases l;rfl)).aL i.aM (λb n l=>by subst l;exact Bh i.u i.aM Ξ n),i.c0,i.cp⟩
theorem A8.ir(i:A8 h a J f c g j e d){pv':CA}{pend':List Nat}(m:h.ownsRow 0 5 1 pv' pend'.length (Ao pend'))(n:∀b,pv'.ownBlock=A3 b->a b=4):A8 (h.setCell ⟨J,20,Y⟩ pv') a J f c g j pv' pend':=
 ⟨i.u.setCell 20 _,(Ac.of (S:=λk=>k=J) (An _ _ _) (λk l=>by cases l;rfl)).aL m (λb o l=>by subst l;exact Bh i.u m Ξ o),i.c0,n⟩
theorem Ha{C:Nat->Prop}(b:Aw h a){g o:Nat}(v:CA)(c:C (a g)):Ab C h a (h.setCell ⟨g,o,Y⟩ v) a:=Ab.of b (An _ _ _) (λk e=>by cases e;exact c)
theorem A8.aP(m:A8 h a J f c g j e d):∃b i,e=Ax b d.length i/\Ai h 1 (Ax b d.length i) d.length (Ao d):=by
 have k:=Ai.aj m.aM;obtain⟨b,i,l⟩:=k.slice;exact⟨b,i,l,by rw[<-l];exact k⟩
def Bo:Nat->Prop:=λj=>j=1\/j=4
theorem NW(m:A8 h a f j c J g e d)(hD:AD h a j c.ss c.n p Z)(hC:Aw h a)(q:c.aU)(hq:p<=1073741824)(hl:J<=1099511627776)
  (i:Nat)(T:i<c.rs)(a6:1<=g)(U:(g - 1)/(c.n - 19)=i)(a7:g<=c.aI)(hp:d.length<=c.n - 19)(hs:∀x∈d,x<256):
  CL Bn 148 #[A2 (A3 ⟨f,0,Y⟩)] h λl w'=>l=Bd (E V 0)/\∃z,Ab Bo h a w' z/\A8 w' z f j c J g (Ax Y 0 0) []/\
   AD w' z j c.ss c.n (p+1) (Cu Z ((c.region+BM c J i:Nat):Int) (BO c.n 3 (BM c J i) J d)):=by
 have a8:=KU q (q:=J) T;have a9:=q.fN;have ba:=q.ec;have bb:=q.d4;have bc:=c.eI;have bd:=q.n0;have be:c.aI<=32*493:=mn q.dq (Ψ q.n1);obtain⟨u,v,rfl,bf⟩:=m.aP
 have ab:=λ(W:Bk) (hW:A8 W a f j c J g (Ax u d.length v) d)=>QD hW q J i T
 have ad:=λ(W:Bk) (hW:AD W a j c.ss c.n p Z) (bg:Aw W a) (hR:Ai W 1 (Ax u d.length v) d.length (Ao d))=>
  MA j c.ss c.n p Z ((c.region+BM c J i:Nat):Int) 3 (BM c J i) J d u v W a hW bg hq Ω (by exact_mod_cast (show c.region+BM c J i<c.ss by omega)) Ω Ω Ω Ω hp hs hR
 have aF:CB ((c.region:Int)+(BM c J i:Int))=((c.region+BM c J i:Nat):Int):=De rfl Ω;have hM:0<c.n - 19:=Ω;have hz:(((c.n - 19:Nat):Int)==0)=AA:=Γ;obtain⟨A,hA⟩:=Ag (g - 1);rw[hA]at U
 have bj:CB ((g:Int) - 1)=(A:Int):=by rw[BB _ Ω];omega
 have bP:V.wrap ((g:Int) - 1)=(A:Int):=Cn bj
 have ae:CB ((A:Int)/((c.n - 19:Nat):Int))=(i:Int):=by
  rw[show((A:Int)/((c.n - 19:Nat):Int))=(i:Int) by rw[<-U];rfl];exact EX (Ψ q.dq)
 obtain⟨M,af⟩:=Ag (c.n - 19);obtain⟨S,ag⟩:=Ag (BM c J i);rw[af]at hM hz ae;rw[ag]at ab aF ad;rw[ag];have bQ:¬M=0:=Ω;have bR:(M:Int)≠0:=Ω;have bk:=zh ae;clear ae;have bl:=zh ab;have bm:=zh ad;have H:=zh m;have HD:=zh hD;have HC:=zh hC;have HM:=zh af;clear m hD hC bf ab ad af ag a8 a9 ba bb bc bd be q hq hl a6 U a7 hp hs T hM hA;obtain⟨c0,_,_,bq,_,aJ,br,bs,bt⟩:=H.o.cells;rw[HM.o]at aJ;have g1:=Be h;have aL:=zh g1;clear g1
 go_enter Tryz.func148,Tryz.ntmps148
 go_wp2_with fail
 go_still_tail 15,Φ
 go_wp2_with fail;rw[bk.o];refine(bl.o h.drew (H.o.grown aL.o)).mono ?_;rintro l w2 ⟨rfl,g2⟩;have bu:=zh (Ae aL.o g2);clear g2 c0 bq aJ br bs bt;go_wp2_with fail;obtain⟨w,ai⟩:=Ag w2.drew;have aj:=Ae bu.o (show w2.grownBy w Y by rw[<-ai];exact Be w2);have H3:=zh (H.o.grown aj);have aN:=zh aj;have bv:=zh ai;clear ai aj;refine A7 (λW=>W.cell? ⟨f,18,Y⟩=A3 (E V J)/\W.cell? ⟨f,20,Y⟩=A3 (Ax u d.length v)) (.an [0,1,2,3,4,5,6,7,8,9] [] 10 BL (.an [] [] 11 AA (.nil))) Φ Φ ?_;rw[bv.o];have B:=H3.o.cells.2.2.2.2.2.2.1;have t:=H3.o.cells.2.2.2.2.2.2.2.2;refine DK ⟨B,t⟩ ?_
 iterate 10 ((apply AB rfl Θ;(· intro wS D;(try have D:=D rfl);(try dsimp only at D);(try(have bT:=D.1;have bU:=D.2));go_simp;(try with_reducible rfl)));refine Ak ?_)
 refine Aj ?_;refine Aj ?_;refine Al ?_;intro K n;obtain⟨w4,L⟩:=Ag (w.alloc (BD #[E V 0,E V 0,E V 0,Ax Y 0 0] 174))
 have g4:w.grownBy w4 Y:=by rw[<-L];exact O _ _ Y
 have b4:Aa w4 w.heap.size 174 [E V 0,E V 0,E V 0,Ax Y 0 0]:=by rw[<-L];exact Aa.new _ _ _
 rw[L];have H4:=zh (H3.o.grown g4);have r:=zh b4;have bw:=zh (Ae aN.o g4);have HX:Hd (h.heap.size<=w.heap.size):=zh aN.o.size;clear L g4 b4 B t;generalize w.heap.size=X at*;have B:=H4.o.cells.2.2.2.2.2.2.1;have t:=H4.o.cells.2.2.2.2.2.2.2.2;refine n _ _ ⟨_,λ_ m=>m,λ_=>⟨B,t⟩,?_⟩;clear n K;refine Ak ?_;refine Ar ?_;refine Aj ?_;have f0:=r.o.v 0;have f1:=r.o.v 1;have f2:=r.o.v 2;have f3:=r.o.v 3;have z0:=r.o.m 0;have z1:=r.o.m 1;have z2:=r.o.m 2;have z3:=r.o.m 3;refine Al ?_;intro K n;obtain⟨F,aS,b5,t5⟩:=EZ r.o (E V 3) (E V S) (E V J) (Ax u d.length v);rw[aS];have t0:Ac (λ_=>False) h F:=(Ac.au bw.o).ae t5 (λar l=>BE (by rw[l];exact HX.o));have s:=zh (H.o.am t0 (λ_ _ m=>m) (λ_ _=>rfl));have T5:=zh t0;have B5:=zh b5;clear f0 f1 f2 f3 z0 z1 z2 z3 aS b5 t5 t0 B t;refine As n ?_;clear n K;refine AK (A4 ?_);obtain⟨y,N⟩:=Ag (F.setCell ⟨f,20,Y⟩ (Ax Y 0 0));have h6:=s.o.ir (pv':=Ax Y 0 0) (pend':=[]) (World.ownsRow_nil _ _ _ _) (λb hb=>by simp[Value.ownBlock]at hb);have aV:Aw F a:=HC.o.ak T5.o;have s6:=Ha (C:=Bo) (g:=f) (o:=20) aV (Ax Y 0 0) (BE s.o.c0)
 have P:Ac (λk=>k=f) F y:=by rw[<-N];exact Ac.of (An _ _ _) (λk l=>by cases l;rfl)
 have s5:Ab Bo h a F a:=AG HC.o T5.o (λk m=>m.elim);have d6:AD y a j c.ss c.n p Z:=(HD.o.am T5.o (λ_ _ m=>m) (λ_ _=>rfl)).am P (λar Q l=>by rw[l,s.o.c0]at Q;cases Q) (λ_ _=>rfl);have r6:Ai y 1 (Ax u d.length v) d.length (Ao d):=P.aP (Ai.aj s.o.aM) (λb hb l=>by subst l;exact Bh s.o.u s.o.aM Ξ hb)
 have aZ:X≠f:=λl=>by have:=H.o.u.lt;have:=HX.o;omega
 have b6:=P.u B5.o aZ;have bD:=s.o.u.v 20;have t:=s.o.cells.2.2.2.2.2.2.2.2;rw[N]at h6 s6;have H6:=zh h6;have ay:=zh (s5.trans s6);have D6:=zh d6;have R6:=zh r6;have B6:=zh b6;have bH:=zh N;clear h6 s6 P s5 d6 r6 aZ b6 N aV;go_wp2_with fail;rw[bH.o];clear bD t;obtain⟨w7,az⟩:=Ag y.drew
 have R:y.grownBy w7 Y:=by rw[<-az];exact Be y
 obtain⟨k0,_,_,bJ,_⟩:=(H6.o.grown R).cells;have G:=B6.o.grown R Δ;have z0:=G.m 0;have z1:=G.m 1;have z2:=G.m 2;have z3:=G.m 3;have I:=zh R;have bK:=zh az;clear G R az;refine A7 (λ_=>True) (.an [] [0,1,2,3,4,5,6,7,8,9,10,11] 12 AA (.an [] [] 13 AA (.nil))) Φ Φ ?_;rw[bK.o];refine Ar ?_
 iterate 12 refine Az ?_
 refine Aj ?_;refine Al ?_;intro K n;rw[Cn aF];have r7:=R6.o.grown I.o Δ;refine(bm.o w7 (D6.o.grown I.o) (ay.o.new.grown I.o) r7).mono ?_;rintro l w8 ⟨rfl,z,s8,d8⟩;have S7:=ay.o.trans (Ab.grown ay.o.new I.o);have h8:=(H6.o.grown I.o).ae s8 Ω;have s9:=S7.trans (s8.mono (λar Q=>(CE Q:Bo ar)));dsimp only;clear z0 z1 z2 z3 k0 bJ r7;refine As n ?_;clear n K;refine Ar ?_;refine Aj ?_;refine Al ?_;intro K n;refine As n ?_;clear n K;refine AK (A4 ?_);go_wp2_with fail;go_ret;exact⟨rfl,z,s9,h8,d8⟩
end
section
open Go.RowKit Go.Shelf
attribute [local go_sem] Oper.semAt_some
structure Kc where
 k:Nat
 st:Nat
 a:Option C4
 c:Nat
 ld:List Nat
abbrev PG(x:Kc):Array CA:=#[E V x.k,CV #[E V x.st,Ax x.a x.ld.length x.c,Bs BL]]
def UI(d s a e:Nat)(b:Int->Option Pg)(c:Ad)(X:Bk):Prop:=
 X.cell? ⟨d,0,Y⟩=A3 (A2 (A3 ⟨s,0,Y⟩))/\X.cell? ⟨s,17,Y⟩=A3 (A2 (A3 ⟨a,0,Y⟩))/\(∃q,DR X c a e q b)/\∀i f g h,b i=A3 (f,g,h)->∃k:Nat,i=k
def UG(x:Kc)(X:Bk)(a:Int->Option Pg)(c:Ad):Prop:=a (x.k:Int)=A3 (x.st,x.ld,BL)/\Bj X c x.a x.c x.ld
theorem VQ(s:Nat)(w:Bk):
  CL Bn 149 #[A2 (A3 ⟨s,0,Y⟩)] w λe a=>e=Bd (.func (.func 209) #[] #[A2 (A3 ⟨w.heap.size,0,Y⟩)])/\a=w.alloc (BD #[A2 (A3 ⟨s,0,Y⟩)] 80):=by
 go_enter Tryz.func149,Tryz.ntmps149
 go_wp2;go_ret;exact⟨rfl,rfl⟩
theorem WQ(b:h.ownsRow f l g e J o):∃a c,e=Ax a J c:=by
 rcases b.2 with⟨rfl,rfl,_⟩|⟨d,i,j,rfl,_⟩
 ·exact⟨_,_,rfl⟩
 ·exact⟨_,_,rfl⟩
theorem fg(r:DR h a J f g b):
  CL Bn 210 #[A2 (A3 ⟨J,0,Y⟩)] h λe n=>∃(i:Option C4) (l:Nat) (d:List Int),e=Bd (Ax i d.length l)/\n.ownsRow h.heap.size 3 1 (Ax i d.length l) d.length (d.map (E V))/\(∀k∈d,0<=k/\k<=65535)/\d.length<=4096/\h.grownBy n Y:=by
 obtain⟨t,u,c,w,x,m,y⟩:=r;refine(ZQ m).mono ?_;rintro e n ⟨v,rfl,o,s⟩;obtain⟨i,l,rfl⟩:=WQ o
 have p:(GL c (fl c c.length)).length=(fl c c.length).length:=by simp[GL]
 rw[<-p]at o;refine⟨i,l,GL c (fl c c.length),by rw[p],o,λk q=>?_,?_,s⟩
 ·simp only[GL,lP]at q;obtain⟨j,_,rfl⟩:=q;exact m.ev _ (kX (Tm c j.val j.isLt))
 ·rw[p];have:=MT c c.length (jS _);have:=m.aF;have:=m.r1;omega
theorem eI(c:DR h a J f g b)(k:Int)(q:0<=k)(r:k<=65535):
  CL Bn 211 #[A2 (A3 ⟨J,0,Y⟩),E V k] h λe n=>∃(i:Nat) (j:Option C4) (l:Nat) (d:List Nat) (m s:Bool),e=Bd (CR #[CV #[E V i,Ax j d.length l,Bs m],Bs s])/\h.grownBy n Y/\(m=BL->b k=A3 (i,d,BL)/\Bj n a j l d):=by
 refine(fF c k q r).mono ?_;rintro e n ⟨o,(⟨p,rfl⟩|⟨i,j,l,d,m,p,rfl,t⟩)⟩
 ·exact⟨0,Y,0,[],AA,AA,rfl,o,λc=>by cases c⟩
 ·exact⟨i,j,l,d,m,BL,rfl,o,λc=>⟨by rw[p,c],t⟩⟩
theorem WZ(n T s bc aw:Nat)(hn:1<=n)(C:Nat->Prop)(ax:¬C 0):
  Iu Fence.wide n Bn 209 #[A2 (A3 ⟨T,0,Y⟩)] PG C (UI T s bc aw) (λ_=>UG) (λxs=>xs.length<=4096) 4096:=by
 intro l J Jx W m0 U X _ aX F Z G _;have HA:=zh F;have H:=zh X;have HY:=zh Z;have H0:=zh G;obtain⟨⟨b0,b1,⟨q0,o⟩,_⟩,p⟩:=F _ _ _ _ G;have aD:=zh o;clear F X Z G o;refine callsIn_of_wp Tryz.func209 rfl kI ?_ rfl;simp only[Tryz.ntmps209,kR,kj,kP,Nat.reduceAdd,Nat.reduceSub,kF,kG,kU,kJ,kv,kO]
 gi_wp2_with (refine⟨kI,?_⟩;gi_at_call 210;refine(callsIn_wide.2 (fg aD.o)).mono ?_;rintro e w1 ⟨v,g,a,rfl,w,ad,ae,g1⟩)
 have HR:Hd (Ai w1 1 (Ax v a.length g) a.length (a.map (E V))/\∀b,(Ax v a.length g).ownBlock=A3 b->U b=0/\b<w1.heap.size):=zh ⟨Ai.aj w,λb d=>⟨p b (w.lt b d).1,(w.lt b d).2⟩⟩;have aE:=zh (H.o _ _ _ _ _ H0.o g1);have aF:=zh ad;clear w g1 ad b0 b1 p
 gi_wp2
 gi_loopw [13] (λi wr=>∃k:Nat,k<=a.length/\i=E V (k:Nat)/\∃m c h,J m c h wr/\h.length<=k/\Ai wr 1 (Ax v a.length g) a.length (a.map (E V))/\∀b,(Ax v a.length g).ownBlock=A3 b->c b=0/\b<wr.heap.size) (λi _=>((a.length:Int) - (DV i)).toNat)
 case atStart=>exact⟨0,kN _,Δ,m0,U,[],aE.o,kN _,HR.o.1,HR.o.2⟩
 case round=>
  obtain⟨k,hk,rfl,m,c,h,x,y,hr,ho⟩:=hrel;have aG:=HA.o _ _ _ _ x;obtain⟨⟨b0,b1,⟨q1,o⟩,aj⟩,p⟩:=aG
  by_cases I:k<a.length
  ·have aH:BR ((k:Int)<a.length)=BL:=jT Ω;have a1:BR (k<a.length)=BL:=jT I;have a2:CB ((k:Int)+1)=(k:Int)+1:=BB _ Ω;have ak:=zh x;have j:=zh (BC hr ho);have aI:=zh o;have a3:=zh p;have aJ:=zh aj;obtain⟨q,al⟩:∃q,a[k]?=A3 q:=⟨_,jW I⟩;have aK:=aF.o q (kX al);obtain⟨kb,ko,aL,ao⟩:=hr.aZ (show 0<a.length by omega);subst aL;have a4:=ao k (E V q) (by rw[lB,al];rfl);clear x ho o p aj ao;obtain⟨k0,k1⟩:=aK
   gi_wp2_with (refine⟨kI,?_⟩;gi_at_call 211;refine(callsIn_wide.2 (eI aI.o q k0 k1)).mono ?_;rintro e K ⟨L,M,N,P,a5,wb,rfl,r,Q⟩)
   ·obtain⟨R,ap⟩:=Q (by first|assumption|simp_all);obtain⟨k',rfl⟩:=aJ.o _ _ _ _ R;obtain⟨z,A⟩:=Ag (K.alloc (BD #[E V L,Ax M P.length N,Bs BL] 198))
    have t:K.grownBy z Y:=by rw[<-A];exact O _ _ Y
    have aP:=zh (H.o _ _ _ _ _ ak.o (Ae r t));obtain⟨fn,a8,a9,ba,S,aq⟩:=HY.o m c h ⟨k',L,M,N,P⟩ z aP.o (mm y (jY I ae)) ⟨R,ap.grown t⟩;have u:Hd (Ai z 1 (Ax (A3 ⟨kb,ko,Y⟩) a.length g) a.length (a.map (E V))/\∀b,(Ax (A3 ⟨kb,ko,Y⟩) a.length g).ownBlock=A3 b->c b=0/\b<z.heap.size):=zh ⟨j.o.1.grown (Ae r t) Δ,λb d=>⟨(j.o.2 b d).1,jY (j.o.2 b d).2 (Ae r t).size⟩⟩;dsimp only[PG]at S;rw[<-A]at S aq;have aQ:=zh A;clear Q R ap t A;rw[S]
    gi_wp2
    refine aq.mono ?_;rintro e W4 ⟨c4,B,(⟨rfl,m4,aS⟩|⟨rfl,aT⟩)⟩
    ·rw[aQ.o]at B
     gi_wp2
     go_roundw
     case rel=>exact⟨k+1,Ω,by push_cast;rfl,m4,c4,_,aS,(by rw[jU];exact pM y 1),B.aP u.o.1 (λb d e=>ax (by rw[(u.o.2 b d).1]at e;exact e)),λb d=>⟨by rw[B.ah b (u.o.2 b d).2];exact(u.o.2 b d).1,jY (u.o.2 b d).2 B.size⟩⟩
     case measure=>first|(simp[DV];done)|(simp[DV];omega)
    ·gi_wp2
     refine BA (results_none rfl _ _ _) rfl ?_;exact⟨⟨_,rfl⟩,c4,BE aT⟩
   ·have D:=Ae r (O K (BD #[E V L,Ax M P.length N,Bs AA] 198) Y);have aU:=zh (H.o _ _ _ _ _ ak.o D);have au:=zh (BC (j.o.1.grown D Δ) (λb d=>BC (j.o.2 b d).1 (jY (j.o.2 b d).2 D.size)));clear Q D r;refine⟨(λf e=>by cases e),?_⟩
    gi_wp2
    go_roundw
    case rel=>exact⟨k+1,Ω,by push_cast;rfl,m,c,h,aU.o,nN y,au.o.1,au.o.2⟩
    case measure=>first|(simp[DV];done)|(simp[DV];omega)
  ·obtain rfl:k=a.length:=by omega
   have aH:BR ((a.length:Int)<a.length)=AA:=jV Ω
   gi_wp2
   go_end0
   exact⟨⟨_,rfl⟩,c,CE ⟨m,h,j8 y ae,x⟩⟩
end
