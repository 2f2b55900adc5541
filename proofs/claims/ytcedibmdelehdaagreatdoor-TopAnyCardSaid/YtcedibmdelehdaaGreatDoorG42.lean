/- Lemmas. -/
import Derived.Test.YtcedibmdelehdaaGreatDoorG41
import Derived.Maps.OwnIn
namespace Go.Proofs.YtcedibmdelehdaaGreatDoor
set_option maxRecDepth 100000
set_option maxHeartbeats 32000000
open And renaming intro->J
open Go.Value renaming int->O,slice->Ax,pointer->A6,ownBlock->CR
open Go.IntKind renaming i64->V
open Option renaming none->A3,some->A5
open Go renaming World->A4,bodyPost_ret->Bs,results_tmp->Bx,Addr->BZ,Calls->B2,wpQuiet_nil->CA,Value->CE,maxLen->CV
open Go.NoPanic renaming normal->A7
open Bool renaming false->Bd,true->BL
open Go.Ending renaming returned->Bk
open Go.Proofs.Tryz renaming prog->Bn,underlying209->CK
open Decidable renaming decide->BR
open Go.World renaming grownBy_alloc->BX,ownsRow_nil->CL
open Or renaming inr->B8,inl->CX
variable{f w:Int->List Nat}{h d e g i j k n t:Nat}{E o:A4}{Y s:Ae}{Z p:List Ai}{a:Ai}{b:As}{c:Pl}{l:Option BZ}{q:Nat->Au}{r:List Ah}{x:CE}{z:Au}{A:BitVec 64}
section
open Go Go.RowKit Go.Shelf
attribute [local go_sem] Oper.semAt_some
theorem ci:(Bn.info? 251).map (λi=>(i.zero,i.size,i.bytes))=A5 (A5 (Ax A3 0 0),1,24):=Φ
theorem Ot{C:Nat->Prop}(h:Ad C E (λ_=>0) o Y)(a:¬C 0):E.grownBy o A3:=⟨h.au.os,h.au.f8,h.au.fV,h.au.aQ,λk b _=>h.au.bV k b a⟩
def Kc(g o:Nat)(x:GB):CE:=Ax (A5 ⟨g,o+x.i*2,A3⟩) x.n x.n
def Gv(a N:Nat)(j:Nat):GB:=⟨a*j,min a (N - a*j)⟩
def It(a N K:Nat):List GB:=BU (Gv a N) K
theorem Yi{N:Nat}(a:1<=h)(b:N<=h*d/\h*d<N+h):d=By h N:=by
 unfold By;refine(Nat.div_eq_of_lt_le ?_ ?_).symm
 ·rw[lp];omega
 ·rw[lT,lp d h];omega
structure LP(w:A4)(g o per N c:Nat)(f h i:Nat)(a:Ae)(d:List GB)(X:A4):Prop where
 st:Ad (λj=>190<=j/\j<200) w (λ_=>0) X a
 ks:Aa X h 251 [Ax (A5 ⟨g,o,A3⟩) N c]
 hs:a h=0
 kn:Aa X i 3 [O V per]
 hn:a i=0
 h5:a f=198
 o:∃e,Aa X f 403 [e]/\X.ownsRow w.heap.size 251 1 e d.length (d.map (Kc g o))/\∀b,e.ownBlock=A5 b->a b=198
 dt:d=It per N d.length
theorem LP.ao{C:Nat->Prop}{N:Nat}{m:List GB}{n:A4}(a:LP E h d e N g i j k Y m o)(c:Ad C o Y n s)(p:¬C 0)(q:¬C 198)(v:∀l,C l->190<=l/\l<200):LP E h d e N g i j k s m n:=by
 obtain⟨w,r,t,u⟩:=a.o;exact⟨a.st.trans (c.mono v),c.y a.ks (by rw[a.hs];exact p),by rw[c.ak _ a.ks.lt];exact a.hs,c.y a.kn (by rw[a.hn];exact p),by rw[c.ak _ a.kn.lt];exact a.hn,by rw[c.ak _ r.lt];exact a.h5,⟨w,c.y r (by rw[a.h5];exact q),c.au.aT t (λb f=>by rw[u b f];exact q),λb f=>by rw[c.ak _ (t.lt b f).2];exact u b f⟩,a.dt⟩
theorem Wm(g o a N c:Nat)(F:1<=a)(aD:a<=1000)(hN:1<=N)(a4:N<=256)(hc:N<=c)(w:A4):
  B2 Bn 289 #[Ax (A5 ⟨g,o,A3⟩) N c,O V a] w λe w'=>∃t G,e=Bk (Ax t (By a N) G)/\w'.ownsRow w.heap.size 251 1 (Ax t (By a N) G) (By a N) ((It a N (By a N)).map (Kc g o))/\w.grownBy w' A3:=by
 obtain⟨i0,hi,aH,aI,aJ⟩:=info_parts ci;have ad:Fence.wide.round=A3:=rfl;refine(callsIn_wide (n:=20)).1 ?_;refine callsIn_of_wp_marks Tryz.func289 rfl ki ?_ ad;simp only[Tryz.ntmps289,kB,jT,kA,Nat.reduceAdd,Nat.reduceSub,kf,kh,kJ,kr,jX,ku];obtain⟨i,aK,g1,Q⟩:=An w 403 [Ax A3 0 0]
 gi_wp2_with (refine⟨ki,?_⟩;gi_at_call 294;refine(callsIn_wide.2 (Wn _ N c a F i)).mono ?_;rintro e w2 ⟨rfl,H,aL,bL,bB⟩)
 obtain⟨R,I⟩:=Af (AN (λ_=>0) w.heap.size 198);have aM:=Q.lt;have hG:=Ab g1 H
 have aj:Ad (λj=>190<=j/\j<200) w (λ_=>0) w2 R:=by
  rw[<-I];exact(Ad.u (λ_ _=>rfl) hG).bQ (jF _) (jJ aM H.size) ⟨Ω,Ω⟩
 have S:∀j,j≠w.heap.size->R j=0:=λj d=>by rw[<-I,Bz _ _ d]
 have f:LP w g o a N c w.heap.size i.heap.size (i.heap.size+1) R [] w2:=⟨aj,bL,S _ Ω,bB,S _ Ω,by rw[<-I];exact A0 _ _ _,⟨Ax A3 0 0,Q.u H Δ,CL _ _ _ _,λb z=>by simp[CR]at z⟩,rfl⟩;have T:=zh f;clear f bB bL hG aj aL I S g1 H Q aK
 refine Kz T.o.st.new ad Ω (gf:=307) (lb:=#[A6 (A5 ⟨i.heap.size,0,A3⟩),A6 (A5 ⟨i.heap.size+1,0,A3⟩)]) rfl ki (enters_of Tryz.func307 Φ rfl)
  (C:=λj=>j=198\/j=199) (B8 rfl) (Yk 19 i.heap.size (i.heap.size+1) g o a N c Ω F aD Ω hc _) (λ_ _ _ _=>ki) (λ_=>rfl)
  (λ_=>LP w g o a N c w.heap.size i.heap.size (i.heap.size+1)) (λ_ _ _=>False)
  (λa0 x t X c=>t={tmps:=(a0.tmps.setIfInBounds 10 (Ax (A5 ⟨g,o+x.i*2,A3⟩) x.n x.n)).setIfInBounds 6 (Ax (A5 ⟨g,o+x.i*2,A3⟩) x.n x.n),defers:=[]})
  ()
  (λm c G k X Y h s=>h.ao s Ω Ω (λj e=>Ω))
  (λ_ _ _ _ _ h _=>h)
  (λm c k X h=>⟨⟨h.ks.m 0,h.kn.m 0⟩,h.st.new⟩)
  (λ_ _ _ _ _ _ _ h _=>h)
  (λc G x t X Y h s=>h)
  T.o (λj=>j=198) (λj h=>CX h) Ω Ω
  ?assign ?body ?done (λ_ _ _ _ h=>h.elim)
 case assign=>
  intro l m' u k x X K f aO v L;have aP:=zh f.st.new
  gi_wp2
  exact L _ _ u (Ad.refl aP.o) f v rfl
 case body=>
  intro l m' u k x t X f aO v aQ;subst aQ;obtain⟨ov,p,q,A⟩:=f.o;obtain⟨va,vc,rfl⟩:=(Ag.ai q).slice;have U:=p.m 0;have f0:=p.v 0;have B:=zh f;have W:=zh p;have D:=zh q;have M:=zh A;have HR:=zh v
  have aT:k.length<=256:=by
   have y:=v.1;have h2:=v.2.1;have:k.length<=a*k.length:=qk _ F;omega
  obtain⟨n,hn⟩:=Af k.length;rw[hn]at W D M U aT;clear f p q A v;simp only[nM,jY,kE]
  gi_wp2_with (gi_at_builtin;refine wpListIn_append_own_at _ rfl _ _ 403 rfl w.heap.size 251 i0 (Ax A3 0 0) 1 24 Tryz.underlying403 hi aH aI aJ rfl Ξ _ _ _ rfl (D.o.alloc _) ⟨X.heap.size,0,A3⟩ 1 1 [Ax (A5 ⟨g,o+x.i*2,A3⟩) x.n x.n] rfl rfl (cell_one_new _ _ _) (by simp[Value.oneCell']) (by unfold CV;omega) Ω (by have:=B.o.st.aQ;simp;omega) ?_;intro v' w7 y h2 _ P;obtain⟨a7,c7,rfl⟩:=(Ag.ai y).slice;obtain⟨b7,c8,s7,b8,o8,k8⟩:=Su (K:=198) (AD.u B.o.st.new (BX X _ A3)) (W.o.u (BX X _ A3) Δ) (D.o.alloc _) Ξ B.o.h5 (λb z=>M.o b z) h2 y P;have z0:=b7.m 0;have f0:=b7.v 0)
  clear z0 f0 U;have r:Ad (λj=>j=198) X u (w7.setCell ⟨w.heap.size,0,A3⟩ (Ax a7 (n+1) c7)) c8:=(Ad.u B.o.st.new (BX X _ A3)).trans s7;generalize w7.setCell ⟨w.heap.size,0,A3⟩ (Ax a7 (n+1) c7)=w8 at*;have d:=B.o;refine⟨c8,(),r,d.st.trans (r.mono (λj e=>Ω)),r.y d.ks (by rw[d.hs];omega),by rw[r.ak _ d.ks.lt];exact d.hs,r.y d.kn (by rw[d.hn];omega),by rw[r.ak _ d.kn.lt];exact d.hn,by rw[r.ak _ W.o.lt];exact d.h5,⟨_,b8,?_,k8⟩,?_⟩
  ·rw[jI,lr,hn,oX];exact o8
  ·have hr:=HR.o
   have e1:x=Gv a N k.length:=by
    obtain⟨xi,xn⟩:=x;obtain⟨y,_,P⟩:=hr;simp only at y P;unfold Gv;rw[P,y]
   rw[jI,lr,It,KS, <-e1]
   congr 1
   exact d.dt
 case done=>
  intro E m' u xs X hS f L ay;obtain⟨ov,p,q,A⟩:=f.o;have az:=Yi F hS;obtain⟨va,vc,rfl⟩:=(Ag.ai q).slice;have U:=p.m 0;have D:=zh q;have M:=zh A;have Z:=zh f;have HK:=zh (J L ay);have HN:=zh az;clear f p q A L ay hS az T
  gi_wp2
  refine⟨Δ,CX ⟨_,_,rfl,run_takeDeferred HK.o.1,?_⟩⟩;have t3:=Hg X E (.deferred A3);have s3:Ad (λj=>j=199) X u (X.putObj E (.deferred A3)) u:=AL Z.o.st.new t3 (λj e=>by rw[e];exact HK.o.2);have o3:=t3.aT D.o (λb z e=>by have:=M.o b z;rw[e,HK.o.2]at this;omega);generalize X.putObj E (.deferred A3)=X3 at*;have aC:=Z.o.dt;rw[HN.o]at o3 aC;rw[aC]at o3;rw[HN.o];exact⟨_,Bx rfl _ _ _,va,vc,rfl,o3,Ot (Z.o.st.trans (s3.mono (λj e=>Ω))) Ω⟩
end
section
open Go Go.RowKit
attribute [local go_sem ↓] Go.wp_at_zero Go.wp_at_succ
theorem Yg(L:List Ai)(a n j:Nat)(h:(Bb ((L.drop a).take n))[j]?=A5 x)(b:a<=L.length):(Bb L)[a*2+j]?=A5 x:=by
 have c:Bb L=Bb (L.take a)++(Bb ((L.drop a).take n)++Bb ((L.drop a).drop n)):=by rw[<-Oo,kF, <-Oo,kF]
 have d:(Bb (L.take a)).length=a*2:=by rw[F0,jW,nf b]
 rw[c,kQ Ω,d,Nat.add_sub_cancel_left,kL (jL.1 h).1];exact h
theorem eO{per i:Nat}(a:Ag E 2 (Ax (A5 ⟨h,d,A3⟩) Z.length e) Z.length (Bb Z))(f:i*per<=Z.length):Ag E 2 (Kc h d (Gv per Z.length i)) (Gv per Z.length i).n (Bb (A8 per Z i)):=by
 obtain⟨m,n,g⟩:=a
 have c:(A8 per Z i).length=(Gv per Z.length i).n:=by rw[JM];show _=min per (Z.length - per*i);rw[lp]
 refine⟨by rw[F0,c],?_,?_⟩
 ·rw[<-c,JM];omega
 ·rcases g with⟨a,_⟩|⟨o,p,a,_,k⟩
  ·cases a
  ·injection a with b _ _;injection b with b;subst b;refine B8 ⟨⟨h,d+(per*i)*2,A3⟩,(Gv per Z.length i).n,rfl,λ_=>rfl,λj u l=>?_⟩;have:=k _ _ (Yg Z (i*per) per j l f);rw[lp i per, <-kO]at this;exact this
theorem CS.gw{R:List Ai}{c c':Nat->List Ai}(h:CS b a R Z c)(e:∀j,j<Z.length->c' j=c j):CS b a R Z c':=
 ⟨h.rt,λi t d=>by rw[e i (jL.1 d).1];exact h.tp i t d,h.nd⟩
def lc(a:Nat)(b L:List Ai)(k:Nat)(j:Nat):List Ai:=if j<k then A8 a L j else A8 a b j
structure FQ(w:A4)(j:Ae)(D s d a l m:Nat)(f:Ai)(P:Pl)(q n:Nat)(o:As)(p:Int->List Nat)(T r L:List Ai)(t:Nat)(ga oa ca gk ck:Nat)(e:List Ai)(g:As)(h:Int->List Nat)(c:Ae)(k:Nat)(v:CE)(X:A4):Prop where
 i:CO X c D s a l m f
 sd:SD X c s d P (q+3*k) n g h
 on:AR P p h
 dc:CS g f T e (lc a r L k)
 fr:Fr (AH f T) (AH f e) o g
 sp:Cq g (t+k)
 tl:e.length=max T.length k
 st:Ad (EJ 200) w j X c
 aI:X.ownsRow 0 165 2 v e.length (Bb e)
 hr:∀b,v.ownBlock=A5 b->c b=140
 al:Ag X 2 (Ax (A5 ⟨ga,oa,A3⟩) L.length ca) L.length (Bb L)
 ha:c ga=141
 ck:X.ownsRow w.heap.size 251 1 (Ax (A5 ⟨gk,0,A3⟩) (By a L.length) ck) (By a L.length) ((It a L.length (By a L.length)).map (Kc ga oa))
 hk:c gk=0
theorem FQ.lt{m:List Ai}{q r u gk v:Nat}{y:List Ai}{z:As}{A:Nat}
  (B:FQ o Y d e g i j k a c n t b f p m Z q h r u gk v y z w s A x E)(C:Z≠[]):h<E.heap.size:=B.al.lt (λD=>C (by cases Z with
  |nil=>rfl
  |cons F l=>simp[Bb,IP]at D)) h rfl
theorem FQ.ao{C:Nat->Prop}{r:List Ai}{u v y z gk A:Nat}{B:List Ai}{D:As}{F:Ae}{G:Nat}{H:A4}
  (h:FQ E Y d e g i j k a c n t b f p r Z u v y z gk A B D w s G x o)(K:Z≠[])(l:Ad C o s H F)(I:¬C 0)(L:¬C 1)(M:¬C 2)(N:¬C 3)(O:¬C 6)(P:¬C 140)(Q:¬C 141)(R:∀J,C J->EJ 200 J):
  FQ E Y d e g i j k a c n t b f p r Z u v y z gk A B D w F G x H:=
 ⟨h.i.ag l O,h.sd.ag l N M L I,h.on,h.dc,h.fr,h.sp,h.tl,h.st.trans (l.mono R),l.au.aT h.aI (λq m=>by rw[h.hr q m];exact P),λq m=>by rw[l.ak _ (h.aI.lt q m).2];exact h.hr q m,
  l.aN h.al (λq m=>by cases m;rw[h.ha];exact Q),by rw[l.ak _ (h.lt K)];exact h.ha,l.au.aT h.ck (λq m=>by cases m;rw[h.hk];exact I),by rw[l.ak _ (h.ck.lt gk rfl).2];exact h.hk⟩
theorem Uk(a:Nat)(b L:List Ai)(i:Nat):lc a b L (i+1) i=A8 a L i:=jP Ω
theorem TI(a:Nat)(b L:List Ai){i:Nat}(d:h≠i):lc a b L (i+1) h=lc a b L i h:=by
 unfold lc
 by_cases c:h<i
 ·rw[jP c,jP Ω]
 ·rw[jN c,jN Ω]
theorem FQ.bj{A C:Nat}{D:Ai}{F:As}{T G:List Ai}{H I J K gk L:Nat}{M:As}{N:Int->List Nat}{P:Ae}{i Q:Nat}{X:A4}
  (k:FQ o s n e g A t C D c d j F w T G p H I J K gk L Z M N P i (Ax (A5 ⟨h,0,A3⟩) Z.length Q) X)(hL:p≠[])(m:Ad (SS 106) X P E Y)(sd:SD E Y e g c (d+3*i+3) j b f)(on:AR c N f){t':Ai}(y:Z[i]?=A5 a)(B:Fr [a.1] [t'.1] M b)
  (hn:b t'.1=A5 (t'.2,AT (A8 A p i)))(am:i<T.length):
  (∃u0 u1,E.cell? ⟨h,i*2,A3⟩=A5 u0/\E.cell? ⟨h,i*2+1,A3⟩=A5 u1)/\(∀l,E.frozen? ⟨h,l,A3⟩=Bd)/\∃v,((E.setCell ⟨h,i*2,A3⟩ (O V (t'.1:Nat))).setCell ⟨h,i*2+1,A3⟩ (O V (t'.2:Nat)))=v/\
   FQ o s n e g A t C D c d j F w T G p H I J K gk L (Z.set i t') b f Y (i+1) (Ax (A5 ⟨h,0,A3⟩) (Z.set i t').length Q) v:=by
 have z:∀l,l=0\/l=6\/106<=l->¬SS 106 l:=λl R=>by rintro(k|k)<;>omega
 have ae:=k.aI.lt h rfl;have af:=m.au.aT k.aI (λr q=>by rw[k.hr r q];exact z _ Ω)
 have S:Y h=140:=by rw[m.ak _ ae.2];exact k.hr h rfl
 have ag:i<Z.length:=(jL.1 y).1;obtain⟨hu,hz,v,hZ,ak,al⟩:=Pj af ag t';have x:Ad (λl=>l=140) E Y v Y:=AL m.new al (λl u=>by rw[u];exact S);have U:=k.lt hL;have W:=k.ck.lt gk rfl;refine⟨hu,hz,v,hZ,?_⟩
 refine⟨(k.i.ag m (z _ Ω)).ag x Ω,?_,k.on.trans on,k.dc.g9 y B (by rw[Uk];exact hn) (λl _ R=>TI _ _ _ R),k.fr.trans (Uw k.dc.nd y B),((k.sp.fk (by rw[k.dc.tp i a y];simp) B).mono Ω),by rw[kG,k.tl];omega,(k.st.trans (m.mono (λl u=>u.elim (λu=>CX Ω) (λu=>B8 Ω)))).trans (x.mono (λl u=>B8 Ω)),?_,λr q=>by cases q;exact S,
  x.aN (m.aN k.al (λr q=>by cases q;rw[k.ha];exact z _ Ω)) (λr q=>by cases q;rw[m.ak _ U,k.ha];omega),by rw[m.ak _ U];exact k.ha,x.au.aT (m.au.aT k.ck (λr q=>by cases q;rw[k.hk];exact z _ Ω)) (λr q=>by cases q;rw[m.ak _ W.2,k.hk];omega),by rw[m.ak _ W.2];exact k.hk⟩
 ·have:=sd.ag x Ω Ω Ω Ω;rw[show d+3*(i+1)=d+3*i+3 by omega];exact this
 ·rw[kG];exact ak
theorem FQ.it{F:A4}{G:Ae}{y:Nat}{H:As}{T z:List Ai}{I J K L gk M:Nat}{N:As}{O:Int->List Nat}{A:Ae}{i:Nat}{v':CE}{C:A4}
  (l:FQ F G k d e h n t a c g y H w T z Z I J K L gk M p N O A i x E)(W:Z≠[])(m:Ad (λj=>SS 103 j\/j=142) E A o Y)(X:SD o Y d e c (g+3*i+2) y b f)(on:AR c O f){t':Ai}(P:Fr [] [t'.1] N b)
  (hn:b t'.1=A5 (t'.2,AT (A8 h Z i)))(ai:T.length<=i)(u:Ad (λj=>j=140) o Y C s)(ac:C.ownsRow 0 165 2 v' (p++[t']).length (Bb (p++[t'])))(ad:∀v,v'.ownBlock=A5 v->s v=140):
  FQ F G k d e h n t a c g y H w T z Z I J K L gk M (p++[t']) b f s (i+1) v' C:=by
 have D:∀j,j=0\/j=6\/j=140\/j=141->¬(SS 103 j\/j=142):=λj hj=>by rintro((l|l)|l)<;>omega
 have Q:=l.lt W;have R:=l.ck.lt gk rfl
 have S:p.length=i:=by rw[l.tl];omega
 have af:=l.dc.gw (c':=lc h z Z (i+1)) (λj hj=>TI _ _ _ Ω);obtain⟨d1,d2⟩:=af.dD P (by rw[S,Uk];exact hn)
 have U:∀{B:Nat},B<E.heap.size->s B=A B:=λV=>(u.ak _ (jJ V m.aQ)).trans (m.ak _ V)
 refine⟨(l.i.ag m (D _ Ω)).ag u Ω,?_,l.on.trans on,d1,l.fr.trans d2,by rw[<-kO];exact l.sp.new P,by rw[jI,lr,S];omega,(l.st.trans (m.mono (λj q=>q.elim (λq=>q.elim (λq=>CX Ω) (λq=>B8 Ω)) (λq=>B8 Ω)))).trans (u.mono (λj q=>B8 Ω)),ac,ad,
  u.aN (m.aN l.al (λv r=>by cases r;rw[l.ha];exact D _ Ω)) (λv r=>by cases r;rw[m.ak _ Q,l.ha];omega),by rw[U Q];exact l.ha,u.au.aT (m.au.aT l.ck (λv r=>by cases r;rw[l.hk];exact D _ Ω)) (λv r=>by cases r;rw[m.ak _ R.2,l.hk];omega),by rw[U R.2];exact l.hk⟩
 exact(X.ag u Ω Ω Ω Ω).mono Ω
def gj(w:A4)(i:Ae)(D s d j k l:Nat)(m:Ai)(P:Pl)(q n:Nat)(o:As)(p:Int->List Nat)(T r:List Ai)(e:Ending)(a:A4):Prop:=
 e=Bk (O V 0)/\∃b c f g h,Ad (EJ 200) w i a b/\DD a b D s d j k l g P (q+1100) n c f h r/\AR P p f/\Fr (AH m T) (AH g h) o c
theorem cj{w:A4}{col:Ae}{D s d per dp dep:Nat}{root:Ai}{P:Pl}{q gen:Nat}{pg:As}{ct:Int->List Nat}{T L0 L:List Ai}(hi:CO w col D s per dp dep root)(hn:Kg per dep)(hs:SD w col s d P q gen pg ct)(hc:CS pg root T T (A8 per L0))(bK:1<=T.length)(hT:T.length<=By per (2^dep))(hL:L.length=2^dep)(bL:∀r∈L,DM r)
  (hq:q<=1073740000)(n0:Nat)(bN:Cq pg n0)(cG:n0+By per (2^dep)<=P.bz+3)(bO:per=P.bv)(bP:dep<=P.dp)
  (ta:Option BZ)(tc S oa ca:Nat)(aK:w.ownsRow 0 165 2 (Ax ta T.length tc) T.length (Bb T))(bQ:∀b,(Ax ta T.length tc).ownBlock=A5 b->col b=140)(bR:Ag w 2 (Ax (A5 ⟨S,oa,A3⟩) L.length ca) L.length (Bb L))(bS:col S=141)(bT:L.length<=ca):
  B2 Bn 273 #[A6 (A5 ⟨D,0,A3⟩),Ax ta T.length tc,Ax (A5 ⟨S,oa,A3⟩) L.length ca] w (gj w col D s d per dp dep root P q gen pg ct T L):=by
 have bf:=GY hn.d1
 have bU:L≠[]:=λe=>by rw[e]at hL;simp at hL;omega
 obtain⟨K,a⟩:=Af (By per (2^dep))
 have bV:K<=256:=by rw[<-a];exact jM (NO hn.p0 bf.1) bf.2
 obtain⟨N,hN⟩:=Af L.length
 have bh:By per N=K:=by rw[<-hN,hL];exact a
 have bi:=Wm S oa per N ca hn.p0 (Ψ hn.p1) Ω Ω Ω w;rw[bh]at bi;have bW:=zh bi;have HI:=zh hi;have HN:=zh hn;have HS:=zh hs;have HC:=zh hc;have HT:=zh (show 1<=T.length/\T.length<=K from⟨bK,Ω⟩);have u:=zh (J hL (J bL (J bU (J hN bh))));have HQ:=zh hq;have a2:=zh (show Cq pg n0/\n0+K<=P.bz+3 from⟨bN,Ω⟩);have HP:=zh (J bO bP);have HB:=zh (J bV (show N<=256 by omega));have bj:=zh (J aK bQ);have bZ:=zh (J bR (J bS bT));obtain⟨_,x1,_⟩:=hi.cells;obtain⟨TN,bk⟩:=Af T.length;rw[hN];clear bf bU bV bh bi hi hn hs hc bK hT hL bL hq bN cG bO bP aK bQ bR bS bT a
 go_enter Tryz.func273,Tryz.ntmps273
 go_wp2_with fail;refine bW.o.mono ?_;rintro e w1 ⟨a1,c1,rfl,o1,g1⟩
 obtain⟨kb,rfl⟩:∃kb,a1=A5 ⟨kb,0,A3⟩:=by
  rcases o1.2 with⟨_,h0⟩|⟨kb,_,_,h,_⟩
  ·have:=HT.o;omega
  ·injection h with B _ _;exact⟨kb,B⟩
 have J1:FQ w col D s d per dp dep root P q gen pg ct T L0 L n0 S oa ca kb c1 T pg ct col 0 (Ax ta T.length tc) w1:={
  i:=HI.o.u g1
  sd:=HS.o.u g1
  on:=AR.refl _ _
  dc:=HC.o.gw (λj _=>jN Ω)
  fr:=Fr.refl _ _
  sp:=a2.o.1
  tl:=Ω
  st:=Ad.u HS.o.cl g1
  aI:=AV bj.o.1 g1
  hr:=bj.o.2
  al:=bZ.o.1.u g1 Δ
  ha:=bZ.o.2.1
  ck:=by rw[u.o.2.2.2.1,u.o.2.2.2.2];exact o1
  hk:=HS.o.cl kb (o1.lt kb rfl).1}
 have b3:=zh J1;have dd:=g1;have x1:=g1.cell x1 Δ;clear J1 o1 g1 bW bj HC HS;go_wp2_with fail
 go_loopg [19,1] K (λk i v wr=>i=O V (K - k:Nat)/\k<=K/\∃x b4 b5 c av cv,v=Ax av x.length cv/\FQ w col D s d per dp dep root P q gen pg ct T L0 L n0 S oa ca kb c1 x b4 b5 c (K - k) (Ax av x.length cv) wr)
 case atStart=>exact⟨Δ,jF _,T,pg,ct,col,ta,tc,by rw[bk],by rw[lJ];exact b3.o⟩
 case round=>
  obtain⟨rfl,hk,x,b4,b5,c,av,cv,rfl,E⟩:=hrel;have l:=zh E;clear E b3
  by_cases h0:gk=0
  ·subst h0;rw[lW]at l⊢;have hd:BR ((K:Int)<(K:Int))=Bd:=Δ
   have F:x.length=K:=by rw[l.o.tl];have:=HT.o;omega
   have a6:=zh F;rw[F]
   have b6:Hd ((AT x).length<=P.n - 19/\∀y∈x,DM y):=zh (by
    refine⟨?_,λy hy=>?_⟩
    ·have h0:¬per<By per (2^dep):=λhc=>by
      have B:=(GH HN.o.p0).1 hc;have M:2^dep<=P.cM:=kR Ω HP.o.2;have h3:=l.o.sd.a2.sq;rw[<-HP.o.1]at h3;omega
     have h4:12*P.bv<=P.n - 19:=nN _ _;rw[<-u.o.1,u.o.2.2.2.1,u.o.2.2.2.2]at h0;rw[GI,F];rw[<-HP.o.1]at h4;omega
    ·obtain⟨j,E⟩:=mm hy
     exact l.o.sd.e3 (by have B:=HQ.o;have M:=HB.o.1;omega) (l.o.dc.tp j y E))
   obtain⟨U,_,_,_,r0,r1⟩:=l.o.i.cells;clear hk F;go_wp2_with fail;refine Dc (λW=>W.cell? ⟨D,0,A3⟩=A5 (A6 (A5 ⟨s,0,A3⟩))/\W.cell? ⟨D,4,A3⟩=A5 (O V (root.1:Nat))/\W.cell? ⟨D,5,A3⟩=A5 (O V (root.2:Nat))) [([0,1,2,3,4,5,6,7,8,9],10,BL),([],11,BL),([12,13,14,15,16],17,Bd),([],18,Bd)] Φ Φ ?_;obtain⟨w9,aj,f⟩:=AP wr;rw[aj];refine Cc ⟨f.cell U Δ,f.cell r0 Δ,f.cell r1 Δ⟩ ?_;clear aj
   repeat(apply AC rfl Θ;(· intro wS g;(try have g:=g rfl);(try dsimp only at g);(try have k0:=g.1);(try have k1:=g.2.1);(try have k2:=g.2.2);go_simp;(try with_reducible rfl));refine Al ?_)
   refine Aj ?_;refine AE rfl (λp a=>?_);go_simp;have X:=I5 x av cv w9 ((Ag.ai l.o.aI).u f Δ) (by rw[a6.o];exact HB.o.1) b6.o.2;rw[a6.o]at X;refine X.mono ?_;clear X;rintro e wB ⟨aB,cB,rfl,oB,A⟩;dsimp only;have sB:Ad (λj=>j=300) wr c wB c:=Ad.u l.o.st.new (Ab f A);have o:=zh (l.o.ao u.o.2.2.1 (C:=λ_=>False) (Ad.u l.o.st.new (Ab f A)) (λh=>h) (λh=>h) (λh=>h) (λh=>h) (λh=>h) (λh=>h) (λh=>h) (λ_ h=>h.elim));have PB:=zh (IZ o.o.st.new oB l.o.st.new f.size);refine a _ _ ⟨λ_=>⟨A.cell (f.cell U Δ) Δ,A.cell (f.cell r0 Δ) Δ,A.cell (f.cell r1 Δ) Δ⟩,?_⟩;clear a p U r0 r1 oB f A sB;refine Al ?_;refine Bt ?_;refine AE rfl (λp a=>?_);go_simp;have bn:=o.o.dc.rt;refine(JL o.o.sd (by have B:=HQ.o;have M:=HB.o.1;omega) (o.o.sp.mono (Ψ a2.o.2)) root.1 root.2 (by rw[bn];simp) aB cB (AT x) b6.o.1 PB.o).mono ?_;rintro e wC ⟨Q,rfl,b7,ad,aQ,bo,z,G,H,an,ap⟩;dsimp only
   have Y:∀j,j=0\/j=6\/106<=j->¬SS 106 j:=λj E=>by rintro(h|h)<;>omega
   have iC:=o.o.i.ag z (Y _ Ω);have ah:=zh (J iC.cells.1 (J iC.cells.2.2.2.2.1 iC.cells.2.2.2.2.2));refine a _ _ ⟨λ_=>ah.o,?_⟩;have IC:=zh iC;have SC:=zh z;have FC:=zh (J G (J H (J an ap)));clear a p z G H an ap iC Y PB;refine Al ?_;refine Cc ah.o ?_
   repeat(apply AC rfl Θ;(· intro wS g;(try have g:=g rfl);(try dsimp only at g);go_simp;(try with_reducible rfl));refine Al ?_)
   refine Aj ?_;refine AE rfl (λp a=>?_);obtain⟨wD,bq,bD,tD⟩:=ON IC.o.y (O V Q) (O V gen);have f4:=IC.o.y.v 4;have f5:=IC.o.y.v 5;have y4:=IC.o.y.m 4;have y5:=IC.o.y.m 5;have HD:=zh (J bD tD);clear bD tD;go_simp;refine a _ _ ⟨λhf=>(by cases hf),?_⟩;clear a p f4 f5 y4 y5 bq ah;refine Al ?_;refine Bt ?_;refine AE rfl (λp a=>?_);go_simp;refine a _ _ ⟨λhf=>(by cases hf),?_⟩;clear a p;refine Al ?_;refine De (A7 ?_);have sD:Ad (λj=>j=6) wC ad wD ad:=AL SC.o.new HD.o.2 (λj e=>by rw[e];exact IC.o.c0);have b8:=zh sD;clear sD;go_wp2_with fail;obtain⟨G,H,an,ap⟩:=FC.o;have aU:=o.o;have aV:Hd (∀j,j<x.length->A8 per L j=lc per L0 L K j):=zh (λj E=>by unfold lc;rw[jP (by rw[a6.o]at E;exact E)]);refine Bs (Bx rfl _ _ _) rfl ⟨rfl,ad,bo,aQ,(Q,gen),x,?_,⟨⟨HD.o.1,IC.o.c0⟩,HN.o,⟨u.o.1,?_,(aU.dc.gw (λj E=>aV.o j E)).dF an ap⟩,?_,u.o.2.1⟩,aU.on.trans H,aU.fr.trans (Um aU.dc.nd an)⟩
   ·exact(aU.st.trans (SC.o.mono (λj e=>e.elim (λe=>CX Ω) (λe=>B8 Ω)))).trans (b8.o.mono Lv)
   ·rw[a6.o, <-u.o.1,u.o.2.2.2.1,u.o.2.2.2.2]
   ·exact(G.ag b8.o Ω Ω Ω Ω).mono (Ψ HB.o.1)
  ·obtain⟨i,hi⟩:=Af (K - gk);rw[hi]at l⊢;have br:i<K:=Ω;have hd:BR ((i:Int)<(K:Int))=BL:=jG Ω;obtain⟨pn,aW⟩:=Af ((Gv per N i).n)
   have cW:i*per<N:=by rw[<-GH HN.o.p0,u.o.2.2.2.2];exact br
   have aE:=eO (per:=per) (i:=i) l.o.al (by rw[u.o.2.2.2.1];omega);unfold Kc at aE;rw[u.o.2.2.2.1,aW]at aE
   replace aE:Ag wr 2 (Ax (A5 ⟨S,oa+per*i*2,A3⟩) pn pn) pn (Bb (A8 per L i)):=aE
   have bs:(A8 per L i).length=pn:=by rw[JM,u.o.2.2.2.1, <-aW];show _=min per (N - per*i);rw[lp]
   have y0:wr.cell? ⟨kb,i,A3⟩=A5 (Ax (A5 ⟨S,oa+per*i*2,A3⟩) pn pn):=by
    have b9:=l.o.ck;rw[u.o.2.2.2.1,u.o.2.2.2.2]at b9;obtain⟨sp,I,_⟩:=MW b9
    have hl:((It per N K).map (Kc S oa)).length=K:=by rw[mx,It,EU]
    rw[I.cell?,kL (by rw[hl];exact br),lh,show(It per N K)[i]?=A5 (Gv per N i) by simp[It,BU,br]];show A5 (Ax _ (Gv per N i).n (Gv per N i).n)=_;rw[aW];rfl
   have cb:∀y∈A8 per L i,DM y:=MP u.o.2.1;have af:=zh (J aE (J bs cb))
   have cY:pn<=per:=by rw[<-aW];exact oh _ _
   have cc:(AT (A8 per L i)).length<=P.n - 19:=by
    rw[GI,bs];have M:12*P.bv<=P.n - 19:=nN _ _;rw[<-HP.o.1]at M;omega
   have a9:=zh (show(AT (A8 per L i)).length<=P.n - 19/\pn<=256 from⟨cc,Ψ HN.o.p1⟩);have R:Hd (i+1=K - (gk - 1)/\gk - 1<=K/\gk - 1<gk/\i<256):=zh (Ψ HB.o);have cd:Hd (wrap64 ((i:Int)+1)=((i+1:Nat):Int)):=zh (Dm rfl (Ψ R.o.2.2.2));have U:=l.o.i.cells.1;clear aE bs cb cY cc hi hk h0 aW cW
   by_cases bt:i<TN
   ·have F:x.length=TN:=by rw[l.o.tl];omega
    obtain⟨t,ht⟩:∃t,x[i]?=A5 t:=⟨_,jK (by rw[F];exact bt)⟩
    obtain⟨gt,rfl⟩:∃gt,av=A5 ⟨gt,0,A3⟩:=by
     rcases l.o.aI.2 with⟨_,h0⟩|⟨gt,_,_,h,_⟩
     ·omega
     ·injection h with B _ _;exact⟨gt,B⟩
    obtain⟨z0,z1⟩:=MT l.o.aI ht;have d2:BR ((i:Int)<(TN:Int))=BL:=jG Ω;have df:BR (i<TN)=BL:=jG bt;have ab:=zh (J F ht);rw[F];clear F ht;go_wp2_with fail;refine Dc (λW=>W.cell? ⟨D,0,A3⟩=A5 (A6 (A5 ⟨s,0,A3⟩))/\W.cell? ⟨gt,i*2,A3⟩=A5 (O V (t.1:Nat))/\W.cell? ⟨gt,i*2+1,A3⟩=A5 (O V (t.2:Nat))) [([0,1,2,3,4,5,6,7,8,9,10],11,BL),([],12,BL),([13,14,15,16],17,Bd),([],18,Bd)] Φ Φ ?_;obtain⟨w9,aj,f⟩:=AP wr;rw[aj];refine Cc ⟨f.cell U Δ,f.cell z0 Δ,f.cell z1 Δ⟩ ?_;clear aj
    repeat(apply AC rfl Θ;(· intro wS g;(try have g:=g rfl);(try dsimp only at g);(try have k0:=g.1);(try have k1:=g.2.1);(try have k2:=g.2.2);go_simp;(try with_reducible rfl));refine Al ?_)
    refine Aj ?_;refine AE rfl (λp a=>?_);go_simp;have X:=I5 (A8 per L i) (A5 ⟨S,oa+per*i*2,A3⟩) pn w9 (by rw[af.o.2.1];exact af.o.1.u f Δ) (by rw[af.o.2.1];exact a9.o.2) af.o.2.2;rw[af.o.2.1]at X;refine X.mono ?_;clear X;rintro e wB ⟨aB,cB,rfl,oB,A⟩;dsimp only;have o:=zh (l.o.ao u.o.2.2.1 (C:=λ_=>False) (Ad.u l.o.st.new (Ab f A)) (λh=>h) (λh=>h) (λh=>h) (λh=>h) (λh=>h) (λh=>h) (λh=>h) (λ_ h=>h.elim));have PB:=zh (IZ o.o.st.new oB l.o.st.new f.size);refine a _ _ ⟨λ_=>⟨A.cell (f.cell U Δ) Δ,A.cell (f.cell z0 Δ) Δ,A.cell (f.cell z1 Δ) Δ⟩,?_⟩;clear a p U z0 z1 oB f A;refine Al ?_;refine Bt ?_;refine AE rfl (λp a=>?_);go_simp;have bn:=o.o.dc.tp i t ab.o.2;refine(JL o.o.sd (by have B:=HQ.o;have M:=R.o.2.2.2;omega) (o.o.sp.mono (Ψ a2.o.2)) t.1 t.2 (by rw[bn];simp) aB cB (AT (A8 per L i)) a9.o.1 PB.o).mono ?_;rintro e wC ⟨Q,rfl,b7,ad,aQ,bo,z,G,H,an,ap⟩;dsimp only;have hC:=o.o.bj u.o.2.2.1 z G H (t':=(Q,gen)) ab.o.2 an ap (by rw[bk];exact bt)
    have Y:∀j,j=0\/j=6\/106<=j->¬SS 106 j:=λj E=>by rintro(h|h)<;>omega
    have aK:=z.au.aT o.o.aI (λb I=>by rw[o.o.hr b I];exact Y _ Ω);obtain⟨x5,x6⟩:=MT aK ab.o.2;have ah:=zh (J (o.o.i.ag z (Y _ Ω)).cells.1 (J x5 x6));refine a _ _ ⟨λ_=>ah.o,?_⟩;clear a p z G H an ap Y PB aK x5 x6;refine Al ?_;refine Cc ah.o ?_
    repeat(apply AC rfl Θ;(· intro wS g;(try have g:=g rfl);(try dsimp only at g);go_simp;(try with_reducible rfl));refine Al ?_)
    refine Aj ?_;refine AE rfl (λp a=>?_);obtain⟨⟨u0,u1,c2,c3⟩,fz,Z,hZ,jZ⟩:=hC;have f0:=fz (i*2);have f1:=fz (i*2+1);have HZ:=zh jZ;clear jZ fz;go_simp;refine a _ _ ⟨λhf=>(by cases hf),?_⟩;clear a p f0 f1 c2 c3 hZ;refine Al ?_;refine Bt ?_;refine AE rfl (λp a=>?_);go_simp;refine a _ _ ⟨λhf=>(by cases hf),?_⟩;clear a p;refine Al ?_;refine De (A7 ?_);go_wp2_with fail
    go_roundg (gk - 1)
    case measure=>exact R.o.2.2.1
    exact⟨by rw[<-R.o.1,cd.o],R.o.2.1,x.set i (Q,gen),bo,aQ,ad,A5 ⟨gt,0,A3⟩,cv,by rw[kG,ab.o.1],by rw[<-R.o.1];exact HZ.o⟩
   ·have F:x.length=i:=by rw[l.o.tl];omega
    have d2:BR ((i:Int)<(i:Int))=Bd:=Δ;obtain⟨wa,dg,bA,ba⟩:=An wr 165 [O V 0,O V 0];have U:=((l.o.i).u bA).cells.1;have BA:=zh ba;have GA:=zh bA;have ab:=zh F;rw[F];clear F ba bA;go_wp2_with fail;refine Dc (λW=>W.cell? ⟨D,0,A3⟩=A5 (A6 (A5 ⟨s,0,A3⟩))) [([0,1,2,3,4],5,BL),([],6,BL),([7,8,9],10,Bd),([],11,Bd)] Φ Φ ?_;obtain⟨w9,aj,f⟩:=AP wa;rw[aj];refine Cc (f.cell U Δ) ?_;clear aj
    repeat(apply AC rfl Θ;(· intro wS g;(try have g:=g rfl);(try dsimp only at g);go_simp;(try with_reducible rfl));refine Al ?_)
    refine Aj ?_;refine AE rfl (λp a=>?_);go_simp;have X:=I5 (A8 per L i) (A5 ⟨S,oa+per*i*2,A3⟩) pn w9 (by rw[af.o.2.1];exact(af.o.1.u GA.o Δ).u f Δ) (by rw[af.o.2.1];exact a9.o.2) af.o.2.2;rw[af.o.2.1]at X;refine X.mono ?_;clear X;rintro e wB ⟨aB,cB,rfl,oB,A⟩;dsimp only;obtain⟨cp,bc⟩:=Af (AN c wr.heap.size 142)
    have sp:Ad (λj=>j=142) wr c wB cp:=by
     rw[<-bc];exact Cl l.o.st.new (Ab (Ab GA.o f) A) (jF _) (jJ BA.o.lt (Ab f A).size) rfl
    have cl:cp wr.heap.size=142:=by rw[<-bc];exact A0 _ _ _
    have o:=zh (l.o.ao u.o.2.2.1 sp Ω Ω Ω Ω Ω Ω Ω (λj e=>B8 Ω))
    have cm:AD wa cp:=λj E=>by have:=BA.o.lt;rw[<-bc,Bz _ _ Ω];exact l.o.st.new j (jM GA.o.size E)
    have PB:=zh (IZ o.o.st.new oB cm f.size);have BB:=zh (BA.o.u (Ab f A) Δ);have CB:=zh cl;refine a _ _ ⟨λ_=>A.cell (f.cell U Δ) Δ,?_⟩;clear a p U oB f A sp bc cl cm;refine Al ?_;refine Bt ?_;refine AE rfl (λp a=>?_);go_simp;refine(JQ o.o.sd (by have B:=HQ.o;have M:=R.o.2.2.2;omega) (o.o.sp.mono (Ψ a2.o.2)) aB cB (AT (A8 per L i)) a9.o.1 PB.o).mono ?_;rintro e wC ⟨Q,rfl,aX,b7,ad,aQ,z,G,H⟩;dsimp only
    have Y:∀j,j=0\/j=6\/103<=j->¬SS 103 j:=λj E=>by rintro(h|h)<;>omega
    have ah:=zh (o.o.i.ag z (Y _ Ω)).cells.1;refine a _ _ ⟨λ_=>ah.o,?_⟩;have bC:=z.y BB.o (by rw[CB.o];exact Y _ Ω)
    have cC:ad wr.heap.size=142:=by rw[z.ak _ BB.o.lt];exact CB.o
    have cq:=z.au.aT o.o.aI (λb I=>by rw[o.o.hr b I];exact Y _ Ω)
    have cr:∀b,(Ax av x.length cv).ownBlock=A5 b->ad b=140:=λb I=>by rw[z.ak _ (o.o.aI.lt b I).2];exact o.o.hr b I
    have BC:=zh (J bC cC);have RC:=zh (J cq cr);have SC:=zh (J z (J G (J H aX)));clear a p z G H aX Y PB BB CB bC cC cq cr;refine Al ?_;refine Cc ah.o ?_
    repeat(apply AC rfl Θ;(· intro wS g;(try have g:=g rfl);(try dsimp only at g);go_simp;(try with_reducible rfl));refine Al ?_)
    refine Aj ?_;refine AE rfl (λp a=>?_);obtain⟨wD,bq,bD,tD⟩:=En BC.o.1 (O V Q) (O V gen);have f0:=BC.o.1.v 0;have f1:=BC.o.1.v 1;have c5:=BC.o.1.m 0;have c6:=BC.o.1.m 1;have HD:=zh (J bD tD);clear bD tD;go_simp;refine a _ _ ⟨λhf=>(by cases hf),?_⟩;clear a p f0 f1 c5 c6 bq;refine Al ?_;refine Bt ?_;refine AE rfl (λp a=>?_);go_simp;refine a _ _ ⟨λhf=>(by cases hf),?_⟩;clear a p;refine Al ?_;refine De (A7 ?_);obtain⟨wE,dh,gE,bE⟩:=An wD 165 [O V Q,O V gen];have z0:=HD.o.1.m 0;have z1:=HD.o.1.m 1;have sD:Ad (λj=>j=142) wC ad wE ad:=(AL SC.o.1.new HD.o.2 (λj e=>by rw[e];exact BC.o.2)).trans (Ad.u (AD.au SC.o.1.new HD.o.2) gE);have cw:=sD.au.aT RC.o.1 (λb I=>by rw[RC.o.2 b I];omega);have RE:=zh cw;have SE:=zh sD;have BE:=zh bE;clear sD cw gE bE;go_wp2_with (at_builtin;refine LY rfl _ _ rfl 0 (n:=i) (xs:=x) ab.o rfl (by rw[<-ab.o];exact RE.o) (m:=1) (ys:=[(Q,gen)]) rfl rfl (Ag.bq BE.o rfl (by unfold CV;omega)) (Ψ R.o.2.2.2) (ke _) ?_;intro a8 c8 w8 B M h3;have H8:=zh (J B (J M h3));clear B M h3);obtain⟨B,M,h3⟩:=H8.o;obtain⟨z,G,H,aX⟩:=SC.o;have bH:=RE.o;rw[ab.o]at bH;have aV:=RC.o.1.lt;have bI:=RC.o.2;rw[ab.o]at aV bI;obtain⟨c9,s9,k9⟩:=Pm (K:=140) SE.o.new bH (λb I=>by rw[SE.o.ak _ (aV b I).2];exact bI b I) M B h3;have HZ:=zh (o.o.it u.o.2.2.1 ((z.mono (λ_ e=>CX e)).trans (SE.o.mono (λ_ e=>B8 e))) (G.ag SE.o Ω Ω Ω Ω) H (t':=(Q,gen)) (Fr.new _ aX) (EV _ _ _) (by rw[bk];omega) s9 (v':=Ax a8 (i+1) c8) (by rw[jI,lr,ab.o];exact B) k9);clear B M h3 z G H aX bH aV bI s9 k9
    go_roundg (gk - 1)
    case measure=>exact R.o.2.2.1
    have cE:(x++[((Q,gen):Ai)]).length=i+1:=by rw[jI,lr,ab.o]
    exact⟨by rw[<-R.o.1,cd.o],R.o.2.1,x++[(Q,gen)],_,aQ,c9,a8,c8,by rw[cE],by rw[<-R.o.1,cE];exact HZ.o⟩
theorem NQ{per:Nat}(a:h<=d):By per h<=By per d:=Nat.div_le_div_right Ω
theorem cT(L:List Ai)(i:Nat)(r:Ai)(h:L[i]?=A5 r):Da (L.take i)++[r,r]=Da (L.take (i+1)):=by
 obtain⟨a,rfl⟩:=jL.1 h;unfold Da;rw[lV a,mu];rfl
theorem gM{w:A4}(T:TypeId)(r:Ai):∃a,w.alloc (.cells #[O V (r.1:Nat),O V (r.2:Nat),O V (r.1:Nat),O V (r.2:Nat)] T)=a/\w.grownBy a A3/\Aa a w.heap.size T (Bb [r,r]):=An w T (Bb [r,r])
theorem cJ{per dep:Nat}(d:c.aY)(e:per=c.bv)(g:dep<c.dp):1+By per (2^dep)+2^dep+By per (2^(dep+1))<=c.bz+3:=by
 have h:=d.f5;have i:By per (2^dep)<=2^dep:=NO Ω mF;have f:2^(dep+1)<=c.cM:=kR Ω Ω;have j:=NQ (per:=per) f
 have k:c.bz=1+By per c.cM+c.cM:=by rw[e];rfl
 have l:2^(dep+1)=2^dep*2:=mg ..;generalize By per (2^dep)=a at*;generalize By per (2^(dep+1))=b at*;generalize By per c.cM=m at*;omega
theorem Wt{q am:Nat}(t:DD E Y g j k d e h a c q am b f p Z)(hq:q<=1073730000)(aZ:Cq b (1+By d (2^h)+2^h))(an:d=c.bv)(a0:e=c.dp)(a2:h<e):
  B2 Bn 239 #[A6 (A5 ⟨g,0,A3⟩)] E λA w'=>A=Bk (O V 0)/\∃a4 a5 a6 a7 T',Ad (EJ 200) E Y w' a4/\DD w' a4 g j k d e (h+1) a7 c (q+2000) am a5 a6 T' (Da Z)/\AR c f a6/\Fr (AH a p) (AH a7 T') b a5:=by
 have ba:=cJ (per:=d) (dep:=h) t.s.a2 an Ω
 have h8:h+1<=8:=by have:=t.s.a2.e2;omega
 have bc:2^(h+1)=2^h*2:=mg ..;have bd:=(GY h8).2
 have be:1<=p.length:=by
  have S:0<p.length:=by rw[t.l.dq,GH t.n.p0,nO];exact mM _
  exact S
 have bf:p.length<=By d (2^(h+1)):=by rw[t.l.dq];exact NQ Ω
 have H:=zh t;have HQ:=zh hq;have bS:=zh aZ;have HR:=zh ba;have HP:=zh (J an a0);have HT:=zh (J be bf);have H8:=zh (J h8 (J bc bd));have d0:BR ((e:Int)<=(h:Int))=Bd:=jH Ω;have bV:BR (e<=h)=Bd:=jH Ω;have bW:=zh a2;obtain⟨N,hN⟩:=Af Z.length
 have au:N=2^h:=by rw[<-hN];exact t.l.aC
 have F:=zh (J hN au);have av:=zh (show 1<=N/\N<=128 from⟨by rw[au];exact mF,Ω⟩);obtain⟨_,_,x2,x3,_⟩:=t.i.cells;have e2:=AJ x2;have e3:=AJ x3;clear t hq aZ ba h8 bc bd be bf an a0 a2 hN au
 go_enter Tryz.func239,Tryz.ntmps239
 go_wp2_with fail;refine Cb Φ Φ ?_
 repeat(go_big_quiet_step (fail))
 refine CA ?_;rintro _ ⟨gg,rfl⟩;have g0:=Bu gg;generalize gw gg=w0 at*;clear e2 e3 x2 x3 gg;have H0:=zh (H.o.ag (C:=λ_=>False) (Ad.u H.o.s.cl g0) (λt=>t) (H.o.s.u g0));have G0:=zh g0;clear g0;go_wp2_with fail;refine(H0.o.dF (Ψ HQ.o) 140 Ω).mono ?_;rintro A w1 ⟨a1,c1,rfl,o1,cr,cs,s1,bm,bn,z1⟩;have F1:=zh (H0.o.ag s1 (by rintro(t|t)<;>omega) bm);have T:=zh (J o1 z1);have S1:=zh ((Ad.u (C:=EJ 200) H.o.s.cl G0.o).trans (s1.mono (No Ω)));have N1:=zh bn;clear o1 z1 s1 bm bn d0 bV;go_wp2_with fail;refine(bg F1.o (Ψ HQ.o) 131 Ω).mono ?_;rintro A w2 ⟨ct,c2,rfl,o2,ai,b1,U,bs,bt,z2⟩
 have aC:∀u,u=0\/u=6\/132<=u->¬SS (131+1) u:=λu hj=>by rintro(t|t)<;>omega
 have F2:=zh (F1.o.ag U (aC _ Ω) bs);have G:=zh (show w2.ownsRow w0.heap.size 165 2 (Ax a1 p.length c1) p.length (Bb p)/\∀l,(Ax a1 p.length c1).ownBlock=A5 l->ai l=140 from⟨U.au.aT T.o.1 (λl s=>by rw[T.o.2 l s];exact aC _ Ω),λl s=>by rw[U.ak _ (T.o.1.lt l s).2];exact T.o.2 l s⟩);have A2:=zh (J o2 z2);have S2:=zh (S1.o.trans (U.mono (No Ω)));have N2:=zh (N1.o.trans bt);clear aC U bs bt o2 z2 F1 T S1 N1;rw[F.o.1]at A2⊢;obtain⟨TN,aF⟩:=Af p.length;have aG:=zh aF;rw[aF]at G⊢;clear aF;go_wp2_with fail
 go_loopg [40,6] N (λI i v wr=>i=O V (N - I:Nat)/\I<=N/\∃X W cv B,v=Ax W X cv/\X=2*(N - I)/\Ad (λu=>u=141) w2 ai wr B/\wr.ownsRow E.heap.size 165 2 (Ax W X cv) X (Bb (Da (Z.take (N - I))))/\∀l,(Ax W X cv).ownBlock=A5 l->B l=141)
 case atStart=>exact⟨Δ,jF _,0,A3,0,ai,rfl,Δ,Ad.refl F2.o.s.cl,by rw[lJ];exact CL _ _ _ _,λl s=>by simp[CR]at s⟩
 case round=>
  obtain⟨rfl,hk,X,W,cv,B,rfl,P,aH,aI,hc⟩:=hrel;have w:=zh aH;have L:=zh aI;have HC:=zh hc
  by_cases S:gk=0
  ·subst S;rw[lW]at P L⊢;rw[lf (by rw[F.o.1];exact jF _)]at L;have hd:BR ((N:Int)<(N:Int))=Bd:=Δ;have iW:=F2.o.i.ag w.o Ω;have x3:=iW.cells.2.2.2.1;have f3:=iW.y.v 3;have HI:=zh iW;have HX:=zh P;have b5:wrap64 ((h:Int)+1)=((h+1:Nat):Int):=Dm rfl (Ψ H8.o.1);obtain⟨wE,aM⟩:=Af (wr.setCell ⟨g,3,A3⟩ (O V ((h:Int)+1)));have bE:=iW.y.setCell 3 (O V ((h:Int)+1));rw[aM]at bE;simp only[jY,kE]at bE;rw[show(h:Int)+1=((h+1:Nat):Int) by omega]at bE
   have tE:Ac (λI=>I=g) wr wE:=by rw[<-aM];exact Ay _ _ _ _
   have BE:=zh bE;have TE:=zh tE;clear hk P aH aI hc iW bE tE;go_wp2_with fail;have sE:Ad (λu=>u=6) wr B wE B:=AL w.o.new TE.o (λI A=>by rw[A];exact HI.o.c0)
   have aj:(Da Z).length=X:=by rw[Na,F.o.1,HX.o];omega
   obtain⟨x,rfl⟩:∃x,W=A5 ⟨x,0,A3⟩:=by
    rcases L.o.2 with⟨_,S⟩|⟨x,_,_,t,_⟩
    ·have z:=av.o.1;have Q:=HX.o;omega
    ·injection t with z _ _;exact⟨x,z⟩
   obtain⟨_,_,_,bB,_⟩:=MW L.o;have bC:=sE.au.aT L.o (λl s=>by rw[HC.o l s];omega);have bD:B x=141:=HC.o x rfl;have bF:=sE.au.aT (w.o.au.aT G.o.1 (λl s=>by rw[G.o.2 l s];omega)) (λl s=>by rw[w.o.ak _ (G.o.1.lt l s).2,G.o.2 l s];omega)
   have aN:=cj (w:=wE) (col:=B) (T:=p) (L0:=Z) (L:=Da Z) (dep:=h+1) (ct:=b1) (pg:=b) (q:=q+1+300) (gen:=am) (P:=c) (s:=j) (d:=k) (D:=g) (per:=d) (dp:=e) (root:=a) ⟨BE.o,HI.o.c0⟩ ⟨H.o.n.p0,H.o.n.p1,H8.o.1⟩ ((F2.o.s.ag w.o Ω Ω Ω Ω).ag sE Ω Ω Ω Ω) H.o.l.c HT.o.1 HT.o.2 (by rw[Na,F.o.1,F.o.2,H8.o.2.1]) (λy hy=>by
     obtain⟨r,hr,hy⟩:=ny.1 hy
     have:y=r:=by simpa using hy
     rw[this]
     exact H.o.ok r hr) (Ψ HQ.o) (1+By d (2^h)+2^h) bS.o HR.o HP.o.1 (by rw[<-HP.o.2];exact bW.o) a1 c1 x 0 cv (by rw[aG.o];exact Cf bF (ke _)) (λl s=>by rw[aG.o]at s;rw[w.o.ak _ (G.o.1.lt l s).2];exact G.o.2 l s) (by rw[aj];exact Ag.ai bC) bD (by rw[aj];exact bB)
   rw[aG.o,aj]at aN;refine aN.mono ?_;rintro A w9 ⟨rfl,b9,ca,cb,cc,T9,M,D,ak,al⟩;have F9:=zh (J M (J D (J ak al)));have SE:=zh (((S2.o.trans (w.o.mono (λu A=>B8 Ω))).trans (sE.mono Lv)).trans M);clear aN M D ak al sE bC bF bD bB aj aM x3 f3 b5;go_wp2_with fail;obtain⟨M,D,ak,al⟩:=F9.o;exact Bs (Bx rfl _ _ _) rfl ⟨rfl,b9,ca,cb,cc,T9,SE.o,⟨D.i,D.n,D.l,D.s.mono Ω,D.ok⟩,N2.o.trans ak,al⟩
  ·obtain⟨i,hi⟩:=Af (N - gk);rw[hi]at P L⊢;have cg:i<N:=Ω;have hd:BR ((i:Int)<(N:Int))=BL:=jG Ω;obtain⟨r,aP⟩:∃r,Z[i]?=A5 r:=⟨_,jK (by rw[F.o.1];exact cg)⟩;have bH:=w.o.aN (Ag.ai A2.o.1) (λl s=>by rw[A2.o.2 l s];omega);obtain⟨l,o,rfl,aQ⟩:=bH.bA Ω;obtain⟨e0,e1⟩:=KX aP;have y0:=aQ _ _ e0;have y1:=aQ _ _ e1;simp only[<-kO]at y1;obtain⟨wa,cB,x,R⟩:=An wr 165 [O V 0,O V 0];obtain⟨wb,cC,bb,tb⟩:=En R (O V r.1) (O V r.2);have f0:=R.v 0;have f1:=R.v 1;have v0:=R.m 0;have v1:=R.m 1;have x0:=bb.m 0;have x1:=bb.m 1;have gb:=Ac.u x tb (λu A=>by rw[A];exact jF _);obtain⟨wd,cK,gd,bN⟩:=gM (w:=wb) 165 r;have GD:=zh (Ab gb gd);have BD:=zh bN;have ae:Hd (i+1=N - (gk - 1)/\gk - 1<=N/\gk - 1<gk/\i<128):=zh (Ψ av.o);have cm:Hd (wrap64 ((i:Int)+1)=((i+1:Nat):Int)):=zh (Dm rfl (Ψ ae.o.2.2.2));have bO:=zh (AV L.o GD.o);have cn:=zh (cT Z i r aP)
   have bP:(Da (Z.take i)).length=X:=by rw[Na,jW,F.o.1,nf Ω];omega
   have aT:=zh (show(Da (Z.take i)).length=X/\X=2*i/\X<=256 from⟨bP,P,Ψ av.o⟩);clear aH aI hc hi hk S P aQ bH e0 e1 aP x gb gd R bb bN tb bP;go_wp2_with (at_builtin;refine LY rfl _ _ rfl E.heap.size (n:=X) (xs:=Da (Z.take i)) aT.o.1 rfl bO.o (m:=2) (ys:=[r,r]) rfl rfl (Ag.bq BD.o rfl (by unfold CV;omega)) (Ψ aT.o.2.2) (jM S2.o.aQ (jM w.o.aQ GD.o.size)) ?_;intro a8 c8 w8 z Q h3;have co:=zh (J z (J Q h3));clear z Q h3);obtain⟨z,Q,h3⟩:=co.o;have sg:Ad (λu=>u=141) wr B wd B:=Ad.u w.o.new GD.o;obtain⟨c9,M,k9⟩:=Pm (K:=141) sg.new bO.o (λl s=>HC.o l s) Q z h3;rw[cn.o]at z
   have HZ:=zh (show X+2=2*(i+1)/\Ad (λu=>u=141) w2 ai w8 c9/\w8.ownsRow E.heap.size 165 2 (Ax a8 (X+2) c8) (X+2) (Bb (Da (Z.take (i+1))))/\∀l,(Ax a8 (X+2) c8).ownBlock=A5 l->c9 l=141 from
    ⟨Ψ aT.o.2.1,(w.o.trans sg).trans M,z,k9⟩)
   clear z Q h3 sg M k9
   go_roundg (gk - 1)
   case measure=>exact ae.o.2.2.1
   exact⟨by rw[<-ae.o.1,cm.o],ae.o.2.1,X+2,a8,c8,c9,rfl,by rw[<-ae.o.1];exact HZ.o⟩
structure Fc(w:A4)(a:Ae)(X D s b c d:Nat):Prop where
 y:Aa w X 163 [A6 (A5 ⟨s,0,A3⟩),A6 (A5 ⟨D,0,A3⟩),O V b,O V c,O V d]
 c0:a X=7
theorem Fc.u(a:Fc E Y h d e g i j)(b:E.grownBy o A3):Fc o Y h d e g i j:=⟨a.y.u b Δ,a.c0⟩
theorem Fc.ag{C:Nat->Prop}(a:Fc E Y h d e g i j)(k:Ad C E Y o s)(b:¬C 7):Fc o s h d e g i j:=⟨k.y a.y (by rw[a.c0];exact b),by rw[k.ak _ a.y.lt];exact a.c0⟩
theorem Fc.cells(a:Fc E Y h d e g i j):
  E.cell? ⟨h,0,A3⟩=A5 (A6 (A5 ⟨e,0,A3⟩))/\E.cell? ⟨h,1,A3⟩=A5 (A6 (A5 ⟨d,0,A3⟩))/\E.cell? ⟨h,2,A3⟩=A5 (O V g)/\E.cell? ⟨h,3,A3⟩=A5 (O V i)/\E.cell? ⟨h,4,A3⟩=A5 (O V j):=
 ⟨a.y.m 0,a.y.m 1,a.y.m 2,a.y.m 3,a.y.m 4⟩
def Fa(w:A4)(e:Ae)(a:Option BZ)(c:Nat)(d:List Ah):Prop:=Ag w 4 (Ax a d.length c) d.length (Aw d)/\∀b,(Ax a d.length c).ownBlock=A5 b->e b=0/\b<w.heap.size
theorem Fa.ag{C:Nat->Prop}(a:Fa E Y l h r)(k:Ad C E Y o s)(d:¬C 0):Fa o s l h r:=
 ⟨k.aN a.1 (λb c=>by rw[(a.2 b c).1];exact d),λb c=>⟨by rw[k.ak _ (a.2 b c).2];exact(a.2 b c).1,jJ (a.2 b c).2 k.aQ⟩⟩
theorem Fa.u(a:Fa E Y l h r)(g:E.grownBy o A3):Fa o Y l h r:=
 ⟨a.1.u g Δ,λb c=>⟨(a.2 b c).1,jJ (a.2 b c).2 g.size⟩⟩
abbrev U2(b:Au)(a:Option BZ)(c:Nat):CE:=.agg #[O V b.d,O V b.p,Ax a b.es.length c]
abbrev Nl(r:Ai)(b:Au)(a:Option BZ)(c:Nat):CE:=.agg #[O V r.1,O V r.2,O V b.d,O V b.p,Ax a b.es.length c]
theorem Au.ok.bT(b:z.ok h):uD z.ld h=z.d/\uP z.ld h=z.p/\uE z.ld h=z.es/\LJ z.ld h=0:=by
 obtain⟨a,c,d,e⟩:=OF b;unfold uD uP uE LJ;refine⟨(jP a).trans c,(jP a).trans d,(jP a).trans e,jP a⟩
abbrev DO(n:Nat):Nat->Prop:=Sc (λj=>j=1\/j=2\/j=3\/j=6\/j=7) n
theorem Jn(a:h<=d):∀j,SS h j->DO d j:=Sc.mono (λj e=>Ω) a
theorem PE(a:h<=d):∀j,EJ h j->DO d j:=Sc.mono (λj e=>Ω) a
theorem Rl(b:Fc E Y h d e i j k)(c:CO E Y d e n t g a):
  B2 Bn 46 #[A6 (A5 ⟨h,0,A3⟩)] E λf l=>f=Bk (O V g)/\E=l:=by
 obtain⟨_,o,_⟩:=b.cells;have m:=zh c;clear b c
 go_enter Tryz.func46,Tryz.ntmps46
 go_wp2_with fail;refine(KD m.o).mono ?_;rintro f p ⟨rfl,rfl⟩;go_wp2_with fail;go_ret;exact⟨rfl,rfl⟩
theorem Wy(a:Fc E Y h e g i j d):
  B2 Bn 51 #[A6 (A5 ⟨h,0,A3⟩)] E λb c=>b=Bk (O V d)/\E=c:=by
 obtain⟨_,_,_,_,f⟩:=a.cells;clear a
 go_enter Tryz.func51,Tryz.ntmps51
 go_wp2_with fail;go_ret;exact⟨rfl,rfl⟩
theorem aM(m:Fc E Y h d e g i j)(o:CO E Y d e k n t a):
  B2 Bn 155 #[A6 (A5 ⟨h,0,A3⟩)] E λc r=>c=Bk (IR a)/\E.grownBy r A3:=by
 obtain⟨B,C,f,q⟩:=An E 165 [O V 0,O V 0];obtain⟨_,D,_⟩:=(m.u f).cells;have s:=zh (o.u f);have u:=zh q;have v:=zh f;clear m o q f
 go_enter Tryz.func155,Tryz.ntmps155
 go_wp2_with fail;refine(YJ s.o).mono ?_;rintro c F ⟨rfl,l⟩;have b:=u.o.u l Δ;have G:=b.m 0;have H:=b.m 1;have I:=b.v 0;have J:=b.v 1;have w:=zh (Ab v.o l);have x:=zh b;clear l b;go_wp2_with fail;obtain⟨K,y,z,A⟩:=En x.o (O V a.1) (O V a.2);rw[y];exact Bs (results_cell_row (p:=2) (ty:=165) rfl _ _ E.heap.size _ _ _ _ rfl z mW rfl rfl) rfl ⟨rfl,Ac.u w.o A (λL c=>by rw[c];exact jF _)⟩
theorem Zp(hx:Fc E Y d j h c.bg k n)(C:SD E Y h g c e i b f)(hq:e<=1073741700)(r:Ai)(m:Au)(hb:m.ok c.bg)(hp:b r.1=A5 (r.2,m.ld)):
  B2 Bn 167 #[A6 (A5 ⟨d,0,A3⟩),IR r] E λo Q=>∃a ao,o=Bk (.tuple #[Nl r m a ao,O V 0])/\∃R ap,Ad (SS 111) E Y Q R/\SD Q R h g c (e+1) i b ap/\AR c f ap/\Fa Q R a ao m.es:=by
 obtain⟨w,aU,g0,S⟩:=An E 165 [O V r.1,O V r.2];obtain⟨w1,aW,T,b1⟩:=An w 209 [O V 0,O V 0,O V 0,O V 0,Ax A3 0 0];have z:=zh (J (S.u T Δ) b1);have au:=zh S.lt;have G1:=zh (Ab g0 T);have HX:=zh hx;have H:=zh C;have HQ:=zh hq;have aw:=zh hb;have HP:=zh hp;clear hx C hq hb hp g0 T S b1
 go_enter Tryz.func167,Tryz.ntmps167
 go_wp2_with fail;clear aU;refine Dc (λW=>W.cell? ⟨d,0,A3⟩=A5 (A6 (A5 ⟨h,0,A3⟩))/\W.cell? ⟨E.heap.size,0,A3⟩=A5 (O V (r.1:Nat))/\W.cell? ⟨E.heap.size,1,A3⟩=A5 (O V (r.2:Nat))) [([0,1,2,3,4],5,Bd),([6,7,8,9],10,Bd)] Φ Φ ?_;obtain⟨w2,ax,t⟩:=AP w1;rw[ax];have U:=Ab G1.o t;refine Cc ⟨(HX.o.u U).cells.1,(z.o.1.u t Δ).m 0,(z.o.1.u t Δ).m 1⟩ ?_;obtain⟨X,D⟩:=Af (AN Y w.heap.size 110);have ay:E.heap.size<=w.heap.size:=nh au.o
 have Z:Ad (λl=>l=110) E Y w2 X:=by
  rw[<-D];exact Cl H.o.cl U ay (jJ z.o.2.lt t.size) rfl
 have S2:=zh Z;have F:Hd (X w.heap.size=110/\X E.heap.size=0):=zh ⟨by rw[<-D];exact A0 _ _ _,by rw[<-D,Bz _ _ (mq au.o)];exact H.o.cl _ (jF _)⟩;have H2:=zh (H.o.ag Z Ω Ω Ω Ω);have G:=zh (J (z.o.1.u t Δ) (z.o.2.u t Δ));clear ax aW U t Z D ay
 repeat(apply AC rfl Θ;(· intro wS u;(try have u:=u rfl);(try dsimp only at u);(try have k0:=u.1);(try have k1:=u.2.1);(try have k2:=u.2.2);go_simp;(try with_reducible rfl));refine Al ?_)
 refine Aj ?_;refine AE rfl (λK' A=>?_);go_simp;refine(Oj H2.o (Ψ HQ.o) r.1 r.2 m.ld HP.o).mono ?_;rintro o w3 ⟨a3,c3,rfl,v,a7,x,aB,aC,p3⟩;dsimp only;refine A _ _ ⟨λhf=>(by cases hf),?_⟩;clear A K'
 have I:∀l,l=0\/l=7\/107<=l->¬SS 107 l:=λl hj=>by rintro(C|C)<;>omega
 have y:=zh aB;have N3:=zh aC;have P3:=zh p3;have S3:=zh ((S2.o.mono (λl o=>show SS 111 l from B8 Ω)).trans (x.mono (EK Ω)));have ba:=zh ((HX.o.ag S2.o Ω).ag x (I _ Ω));have aF:=zh (J (x.y G.o.1 (by rw[F.o.2];exact I _ Ω)) (x.y G.o.2 (by rw[F.o.1];exact I _ Ω)));have C3:Hd (v w.heap.size=110):=zh (by rw[x.ak _ G.o.2.lt];exact F.o.1);clear x aB aC p3 I G S2 F H2;refine Al ?_;refine Mg Θ ?_
 repeat(apply AC rfl Θ;(· intro wS u;go_simp;(try with_reducible rfl));refine Al ?_)
 refine Aj ?_;refine AE rfl (λK' A=>?_);go_simp;refine A _ _ ⟨λhf=>(by cases hf),?_⟩;clear A K';refine Al ?_;refine De (A7 ?_);have x2:=ba.o.cells.2.2.1
 have aH:m.ld.length<=700:=by have:=aw.o.bC;have:=y.o.a2.gu;rw[m.eW];omega
 have aI:=Wv m.ld (c.bg:Nat) a3 c3 w3 aH P3.o.2.2 P3.o.1;have aJ:=zh aI;clear aI aH;go_wp2_with fail;refine aJ.o.mono ?_;rintro o w4 ⟨K,L,rfl,r4,g4,M⟩;obtain⟨e1,e2,e3,e4⟩:=aw.o.bT;rw[e1,e2,e3,e4];rw[e3]at r4 M;have ES:=zh (show Fa w4 v K L m.es from⟨r4,λB hk=>⟨y.o.cl B (M B hk).1,(M B hk).2⟩⟩);obtain⟨w5,bi,g5,s⟩:=An w4 160 [O V 0,O V 0,Ax A3 0 0];obtain⟨w6,bj,N,t6⟩:=Bq s (O V m.d) (O V m.p) (Ax K m.es.length L);have P:=Ab g4 (Ac.u g5 t6 (λl o=>by rw[o];exact jF _));have f0:=s.v 0;have f1:=s.v 1;have f2:=s.v 2;have v0:=s.m 0;have v1:=s.m 1;have v2:=s.m 2;have x0:=N.m 0;have x1:=N.m 1;have bt:=N.m 2;have br:=aF.o.1.u P Δ;have q:=aF.o.2.u P Δ;have y0:=br.m 0;have y1:=br.m 1;have z0:=q.m 0;have z1:=q.m 1;have z2:=q.m 2;have z3:=q.m 3;have z4:=q.m 4;have k0:=q.v 0;have k1:=q.v 1;have k2:=q.v 2;have k3:=q.v 3;have k4:=q.v 4;obtain⟨w7,bE,b7,t7⟩:=FM q (O V r.1) (O V r.2) (O V m.d) (O V m.p) (Ax K m.es.length L);have B7:=zh (J b7 t7);have G6:=zh P;have be:=zh (ES.o.u (Ac.u g5 t6 (λl o=>by rw[o];exact jF _)));clear r4 g4 M e1 e2 e3 e4 g5 s N t6 P br q b7 t7 x2 aJ;go_wp2_with fail;have s7:Ad (λl=>l=110) w3 v w7 v:=(Ad.u y.o.cl G6.o).trans (AL (AD.u y.o.cl G6.o) B7.o.2 (λB o=>by rw[o];exact C3.o));have s8:Ad (λl=>l=110) w6 v w7 v:=AL (AD.u y.o.cl G6.o) B7.o.2 (λB o=>by rw[o];exact C3.o);exact Bs (BQ (p:=4) (ty:=209) rfl _ _ w.heap.size _ _ _ _ rfl B7.o.1 CK rfl rfl) rfl ⟨K,L,rfl,v,a7,S3.o.trans (s7.mono (λl o=>B8 Ω)),y.o.ag s7 Ω Ω Ω Ω,N3.o,be.o.ag s8 Ω⟩
structure XS(w:A4)(a:Ae)(X D s d:Nat)(P:Pl)(b:Nat)(c:Ai)(q e:Nat)(f:As)(g:Int->List Nat)(T L:List Ai)(h:Nat):Prop where
 x:Fc w a X D s P.bg P.dp h
 d:DD w a D s d P.bv P.dp b c P q e f g T L
 dd:b<=P.dp
theorem XS.ag{C:Nat->Prop}(l:XS o s g i h d c j a t e b w Z p n)(m:Ad C o s E Y)(q:¬C 7)(r:¬C 6)(u:SD E Y h d c k e b f):XS E Y g i h d c j a k e b f Z p n:=
 ⟨l.x.ag m q,l.d.ag m r u,l.dd⟩
theorem XS.u(l:XS E Y h d e g c i a j k b f Z p n)(m:E.grownBy o A3):XS o Y h d e g c i a j k b f Z p n:=
 l.ag (C:=λ_=>False) (Ad.u l.d.s.cl m) (λl=>l) (λl=>l) (l.d.s.u m)
theorem XS.mono(l:XS E Y h d e g c i a j n b f Z p t)(m:j<=k):XS E Y h d e g c i a k n b f Z p t:=
 ⟨l.x,⟨l.d.i,l.d.n,l.d.l,l.d.s.mono m,l.d.ok⟩,l.dd⟩
structure EN(w:A4)(e:Ae)(X D s d:Nat)(P:Pl)(f:Nat)(g:Ai)(q h:Nat)(i:As)(j:Int->List Nat)(T L:List Ai)(k:Nat)(a:Int->List Nat)(c:Ae)(W:A4):Prop where
 s:XS W c X D s d P f g q h i a T L k
 st:Ad (SS 123) w e W c
 on:AR P j a
 b:Aa W w.heap.size 209 [O V 0,O V 0,O V 0,O V 0,Ax A3 0 0]
 cb:c w.heap.size=120
theorem EN.ap(l:EN o Y h d e g c i a j k b f Z p n w s E):E.cell? ⟨h,1,A3⟩=A5 (A6 (A5 ⟨d,0,A3⟩)):=l.s.x.cells.2.1
theorem EN.ag{C:Nat->Prop}{q:Int->List Nat}{r:Ae}{W:A4}(l:EN o s g i h d c j a t e b w Z p n q r W)(m:Ad C W r E Y)(v:¬C 7)(x:¬C 6)(y:¬C 120)(z:∀u,C u->SS 123 u)(A:SD E Y h d c k e b f)(B:AR c q f):
  EN o s g i h d c j a k e b w Z p n f Y E:=
 ⟨l.s.ag m v x A,l.st.trans (m.mono z),l.on.trans B,m.y l.b (by rw[l.cb];exact y),by rw[m.ak _ l.b.lt];exact l.cb⟩
theorem EN.cC{m:A4}(l:EN m s h d e g c i a j k b f Z p n w Y E)(u:E.grownBy o A3)(v:E.heap.size<o.heap.size):
  ∃q,EN m s h d e g c i a j k b f Z p n w q o/\q E.heap.size=121:=
 have r:Ad (λt=>t=121) E Y o (AN Y E.heap.size 121):=Cl l.st.new u (jF _) v rfl
 ⟨_,l.ag r Ω Ω Ω (λt x=>B8 Ω) (l.s.d.s.ag r Ω Ω Ω Ω) (AR.refl _ _),A0 _ _ _⟩
theorem EN.gc{m:Int->List Nat}{q:Ae}{W:A4}(l:EN o s i j h d c k a e g b w Z p n m q W)(r:Ad (SS 111) W q E Y)(t:SD E Y h d c (e+2) g b f)(u:AR c m f):
  EN o s i j h d c k a (e+2) g b w Z p n f Y E:=
 l.ag r (by rintro(l|l)<;>omega) (by rintro(l|l)<;>omega) (by rintro(l|l)<;>omega) (EK Ω) t u
theorem EN.bj{q:A4}(m:EN q s h d e g c i a j k b f Z p n w Y E)(v:Y t=121)(x:Ac (λl=>l=t) E o):
  EN q s h d e g c i a j k b f Z p n w Y o:=
 have r:Ad (λl=>l=121) E Y o Y:=AL m.st.new x (λl u=>by rw[u];exact v)
 m.ag r Ω Ω Ω (λl u=>B8 Ω) (m.s.d.s.ag r Ω Ω Ω Ω) (AR.refl _ _)
theorem Pb{T:List Ai}(m:XS E Y d g i j c h a e k b f T Z n)(hx:Cu b c.bg h Z q)(hq:e<=1073741600)(x:BitVec 64)(r:Ai)(hr:Z[AB x h]?=A5 r):
  B2 Bn 109 #[A6 (A5 ⟨d,0,A3⟩),O .u64 (U x)] E λw X=>∃aL aM,w=Bk (.tuple #[Nl r (q (AB x h)) aL aM,O V 0])/\∃ay aN,Ad (SS 123) E Y X ay/\SD X ay i j c (e+3) k b aN/\AR c f aN/\Fa X ay aL aM (q (AB x h)).es:=by
 have h8:h<=8:=m.d.n.d1;have az:=zh (KU x h Ω);have hi:AB x h<2^h:=J0 x h Ω;have aP:=zh (J (hx.ok _ hi) (hx.dh _ r hr));obtain⟨w0,a1,g0,b0⟩:=An E 209 [O V 0,O V 0,O V 0,O V 0,Ax A3 0 0];obtain⟨c0,aC⟩:=Af (AN Y E.heap.size 120)
 have s0:Ad (λR=>R=120) E Y w0 c0:=by rw[<-aC];exact Cl m.d.s.cl g0 (jF _) b0.lt rfl
 have M0:=zh (show EN E Y d g i j c h a e k b f T Z n f c0 w0 from
  ⟨m.ag s0 Ω Ω (m.d.s.ag s0 Ω Ω Ω Ω),s0.mono (λR w=>B8 Ω),AR.refl _ _,b0,by rw[<-aC];exact A0 _ _ _⟩)
 have HQ:=zh hq;have HR:=zh hr;clear m hx hq hr h8 hi g0 b0 s0 aC
 go_enter Tryz.func109,Tryz.ntmps109
 go_upto_region 1 with fail
 go_cut [6,7] (λs6 S wx=>∃u cx aU,s6=A6 (A5 ⟨u,0,A3⟩)/\S=O V 0/\EN E Y d g i j c h a (e+2) k b f T Z n aU cx wx/\Aa wx u 165 [O V (r.1:Nat),O V (r.2:Nat)])
 case first=>
  clear a1;refine AS (λW=>W.cell? ⟨d,1,A3⟩=A5 (A6 (A5 ⟨g,0,A3⟩))) (.bN [0,1,2,3,4,5,6,7,8] 9 BL (.bN [] 10 BL (.bN [] 11 Bd (.am [] [12,13,14] 15 BL (.am [] [] 16 Bd (.am [] [] 17 Bd (.nil)))) 15 BL (.am [] [] 11 Bd (.am [] [12,13,14] 16 Bd (.am [] [] 17 Bd (.nil))))) 15 BL (.am [] [] 10 BL (.am [] [] 11 Bd (.am [] [12,13,14] 16 Bd (.am [] [] 17 Bd (.nil)))))) 15 BL (.am [] [] 9 BL (.am [] [] 10 BL (.am [] [] 11 Bd (.am [] [12,13,14] 16 Bd (.am [] [] 17 Bd (.nil))))))) Φ Φ ?_;obtain⟨w2,aV,g2⟩:=AP w0;rw[aV];have D:=zh (M0.o.ag (C:=λ_=>False) (Ad.u M0.o.st.new g2) (λm=>m) (λm=>m) (λm=>m) (λ_ m=>m.elim) (M0.o.s.d.s.u g2) (AR.refl _ _));clear aV g2 M0;refine DK D.o.ap ?_
  iterate 9 ((apply AC rfl Θ;(· intro wS an;(try have an:=an rfl);(try dsimp only at an);(try(have k0:=an));go_simp;(try with_reducible rfl)));refine Al ?_)
  refine Aj ⟨?_,?_⟩
  ·refine Am ?_;intro K l;refine(KD D.o.s.d.i).mono ?_;rintro w X ⟨rfl,rfl⟩;dsimp only;refine l _ _ ⟨_,λ_ m=>m,λ_=>D.o.ap,?_⟩;clear l K;refine Al ?_;refine DK D.o.ap ?_;refine Aj ⟨?_,?_⟩
   ·refine Am ?_;intro K l;refine(KC x (h:Nat) _).mono ?_;rintro w X ⟨rfl,rfl⟩;rw[az.o];dsimp only;refine l _ _ ⟨_,λ_ m=>m,λ_=>D.o.ap,?_⟩;clear l K;refine Al ?_;refine DK D.o.ap ?_;refine Aj ⟨?_,?_⟩
    ·refine Am ?_;intro K l;refine(MN D.o.s.d (Ψ HQ.o) (AB x h) r HR.o).mono ?_;rintro w w4 ⟨rfl,c4,aE,v,G,H⟩;dsimp only;have M4:=zh (D.o.gc v G H);clear v G H;refine Aq l ?_;clear l K;refine Ap ?_
     iterate 3 refine Av ?_
     refine Aj ?_;refine Am ?_;intro K l;obtain⟨w3,I,L,y⟩:=An w4 165 [O V 0,O V 0];rw[I];obtain⟨c3,M,z⟩:=M4.o.cC L y.lt;have t:=zh M;have o:=zh (J y z);clear I L y M z;generalize w4.heap.size=u at*;refine l _ _ ⟨_,λ_ m=>m,λ_=>t.o.ap,?_⟩;clear l K;refine Al ?_;refine Ap ?_;refine Aj ?_;obtain⟨w6,aI,N,P⟩:=En o.o.1 (O V r.1) (O V r.2);have f0:=o.o.1.v 0;have f1:=o.o.1.v 1;have y0:=o.o.1.m 0;have y1:=o.o.1.m 1;have A:=zh (t.o.bj o.o.2 P);have Q:=zh N;clear N P;refine Am ?_;intro K l;clear f0 f1 y0 y1;refine Aq l ?_;clear l K;refine Ap ?_;refine Aj ?_;refine Am ?_;intro K l;refine Aq l ?_;clear l K;refine AG (A7 ?_);go_wp2_with fail
     go_meet
     exact⟨u,_,_,rfl,rfl,A.o,Q.o⟩
    ·refine Am ?_;intro K l;obtain⟨w3,I,L,y⟩:=An w2 165 [O V 0,O V 0];rw[I];obtain⟨c3,M,z⟩:=D.o.cC L y.lt;have t:=zh M;have o:=zh (J y z);clear I L y M z;generalize w2.heap.size=u at*;refine l _ _ ⟨_,λ_ m=>m,λ_=>t.o.ap,?_⟩;clear l K;refine Al ?_;refine Ap ?_;refine Aj ?_;refine Am ?_;intro K l;refine(MN t.o.s.d (Ψ HQ.o) (AB x h) r HR.o).mono ?_;rintro w w4 ⟨rfl,c4,aE,v,G,H⟩;dsimp only;have s:=zh (show Aa w4 u 165 [O V 0,O V 0]/\c4 u=121 from⟨v.y o.o.1 (by rw[o.o.2];rintro(m|m)<;>omega),by rw[v.ak _ o.o.1.lt];exact o.o.2⟩);have M4:=zh (t.o.gc v G H);clear v G H;refine Aq l ?_;clear l K;refine Ap ?_
     iterate 3 refine Av ?_
     refine Aj ?_;obtain⟨w6,aI,N,P⟩:=En s.o.1 (O V r.1) (O V r.2);have f0:=s.o.1.v 0;have f1:=s.o.1.v 1;have y0:=s.o.1.m 0;have y1:=s.o.1.m 1;have A:=zh (M4.o.bj s.o.2 P);have Q:=zh N;clear N P;refine Am ?_;intro K l;clear f0 f1 y0 y1;refine Aq l ?_;clear l K;refine Ap ?_;refine Aj ?_;refine Am ?_;intro K l;refine Aq l ?_;clear l K;refine AG (A7 ?_);go_wp2_with fail
     go_meet
     exact⟨u,_,_,rfl,rfl,A.o,Q.o⟩
   ·refine Am ?_;intro K l;obtain⟨w3,I,L,y⟩:=An w2 165 [O V 0,O V 0];rw[I];obtain⟨c3,M,z⟩:=D.o.cC L y.lt;have t:=zh M;have o:=zh (J y z);clear I L y M z;generalize w2.heap.size=u at*;refine l _ _ ⟨_,λ_ m=>m,λ_=>t.o.ap,?_⟩;clear l K;refine Al ?_;refine Ap ?_;refine Aj ?_;refine Am ?_;intro K l;refine(KC x (h:Nat) _).mono ?_;rintro w X ⟨rfl,rfl⟩;rw[az.o];dsimp only;refine l _ _ ⟨_,λ_ m=>m,λ_=>t.o.ap,?_⟩;clear l K;refine Al ?_;refine Ap ?_;refine Aj ?_;refine Am ?_;intro K l;refine(MN t.o.s.d (Ψ HQ.o) (AB x h) r HR.o).mono ?_;rintro w w4 ⟨rfl,c4,aE,v,G,H⟩;dsimp only;have s:=zh (show Aa w4 u 165 [O V 0,O V 0]/\c4 u=121 from⟨v.y o.o.1 (by rw[o.o.2];rintro(m|m)<;>omega),by rw[v.ak _ o.o.1.lt];exact o.o.2⟩);have M4:=zh (t.o.gc v G H);clear v G H;refine Aq l ?_;clear l K;refine Ap ?_
    iterate 3 refine Av ?_
    refine Aj ?_;obtain⟨w6,aI,N,P⟩:=En s.o.1 (O V r.1) (O V r.2);have f0:=s.o.1.v 0;have f1:=s.o.1.v 1;have y0:=s.o.1.m 0;have y1:=s.o.1.m 1;have A:=zh (M4.o.bj s.o.2 P);have Q:=zh N;clear N P;refine Am ?_;intro K l;clear f0 f1 y0 y1;refine Aq l ?_;clear l K;refine Ap ?_;refine Aj ?_;refine Am ?_;intro K l;refine Aq l ?_;clear l K;refine AG (A7 ?_);go_wp2_with fail
    go_meet
    exact⟨u,_,_,rfl,rfl,A.o,Q.o⟩
  ·refine Am ?_;intro K l;obtain⟨w3,I,L,y⟩:=An w2 165 [O V 0,O V 0];rw[I];obtain⟨c3,M,z⟩:=D.o.cC L y.lt;have t:=zh M;have o:=zh (J y z);clear I L y M z;generalize w2.heap.size=u at*;refine l _ _ ⟨_,λ_ m=>m,λ_=>t.o.ap,?_⟩;clear l K;refine Al ?_;refine Ap ?_;refine Aj ?_;refine Am ?_;intro K l;refine(KD t.o.s.d.i).mono ?_;rintro w X ⟨rfl,rfl⟩;dsimp only;refine l _ _ ⟨_,λ_ m=>m,λ_=>t.o.ap,?_⟩;clear l K;refine Al ?_;refine Ap ?_;refine Aj ?_;refine Am ?_;intro K l;refine(KC x (h:Nat) _).mono ?_;rintro w X ⟨rfl,rfl⟩;rw[az.o];dsimp only;refine l _ _ ⟨_,λ_ m=>m,λ_=>t.o.ap,?_⟩;clear l K;refine Al ?_;refine Ap ?_;refine Aj ?_;refine Am ?_;intro K l;refine(MN t.o.s.d (Ψ HQ.o) (AB x h) r HR.o).mono ?_;rintro w w4 ⟨rfl,c4,aE,v,G,H⟩;dsimp only;have s:=zh (show Aa w4 u 165 [O V 0,O V 0]/\c4 u=121 from⟨v.y o.o.1 (by rw[o.o.2];rintro(m|m)<;>omega),by rw[v.ak _ o.o.1.lt];exact o.o.2⟩);have M4:=zh (t.o.gc v G H);clear v G H;refine Aq l ?_;clear l K;refine Ap ?_
   iterate 3 refine Av ?_
   refine Aj ?_;obtain⟨w6,aI,N,P⟩:=En s.o.1 (O V r.1) (O V r.2);have f0:=s.o.1.v 0;have f1:=s.o.1.v 1;have y0:=s.o.1.m 0;have y1:=s.o.1.m 1;have A:=zh (M4.o.bj s.o.2 P);have Q:=zh N;clear N P;refine Am ?_;intro K l;clear f0 f1 y0 y1;refine Aq l ?_;clear l K;refine Ap ?_;refine Aj ?_;refine Am ?_;intro K l;refine Aq l ?_;clear l K;refine AG (A7 ?_);go_wp2_with fail
   go_meet
   exact⟨u,_,_,rfl,rfl,A.o,Q.o⟩
 case rest=>
 obtain⟨u,cx,aU,rfl,rfl,A,Q⟩:=hcut;have HM:=zh A;have x0:=Q.m 0;have x1:=Q.m 1;have aW:=Zp A.s.x A.s.d.s (Ψ HQ.o) r (q (AB x h)) aP.o.1 aP.o.2;have a4:=zh aW;clear A Q aW;go_wp2_with fail;refine a4.o.mono ?_;rintro w w7 ⟨a7,c7,rfl,ao,a6,S,ap,aq,ar⟩
 have ns:∀R,R=0\/111<=R->¬SS 111 R:=λR hj=>by rintro(m|m)<;>omega
 have B:=S.y HM.o.b (by rw[HM.o.cb];exact ns _ Ω)
 have f:ao E.heap.size=120:=by rw[S.ak _ HM.o.b.lt];exact HM.o.cb
 have z0:=B.m 0;have z1:=B.m 1;have z2:=B.m 2;have z3:=B.m 3;have z4:=B.m 4;have k0:=B.v 0;have k1:=B.v 1;have k2:=B.v 2;have z:=B.v 3;have k4:=B.v 4;obtain⟨w8,bl,b8,t8⟩:=FM B (O V r.1) (O V r.2) (O V ((q (AB x h)).d:Nat)) (O V ((q (AB x h)).p:Nat)) (Ax a7 (q (AB x h)).es.length c7);have F:=zh (J S (J ap (J aq (J ar (J f (J b8 t8))))));clear S ap aq ar ns B b8 t8 f;go_wp2_with fail;obtain⟨S,ap,aq,ar,f,b8,t8⟩:=F.o;have s8:Ad (λR=>R=120) w7 ao w8 ao:=AL S.new t8 (λbm w=>by rw[w];exact f);exact Bs (BQ (p:=4) (ty:=209) rfl _ _ E.heap.size _ _ _ _ rfl b8 CK rfl rfl) rfl ⟨a7,c7,rfl,ao,a6,(HM.o.st.trans (S.mono (EK Ω))).trans (s8.mono (λR w=>B8 Ω)),ap.ag s8 Ω Ω Ω Ω,HM.o.on.trans aq,ar.ag s8 Ω⟩
theorem aW(f:h<=d)(g:d<=8)(b:e<2^h):Lq (e:Int) (h:Int) (d:Int)=EM (e*2^(d - h)) (2^(d - h)):=by
 have a:((d:Int) - (h:Int)).toNat=d - h:=Ω;have c:Lf (e:Int) (h:Int) (d:Int):=⟨Ω,Ω,Ω,Ω,by rw[jS];exact_mod_cast b⟩;unfold Lq EM BU;rw[jP c,a];refine List.map_congr_left (λi _=>?_);unfold IH;rw[a]
 push_cast
 rfl
def RP(w:A4)(i:Ae)(X D s d:Nat)(P:Pl)(j:Nat)(k:Ai)(q l:Nat)(m:As)(n:Int->List Nat)(T o:List Ai)(p:Nat)(e:Ending)(a:A4):Prop:=
 e=Bk (O V 0)/\∃b c f g h,Ad (DO 200) w i a b/\XS a b X D s d P j g (q+1100) l c f h o p/\AR P n f/\Fr (AH k T) (AH g h) m c
theorem Rs(u:XS E Y d e i j c h a g k b f Z p n)(T:g<=1073730000)(U:Cq b (c.bz+3))(o q:Nat)(X:CE)(aC:∃aD aE aF,X=Ax aD aE aF)(C:o<=h)(D:q<2^o)(r:Ai)(aa:DM r):
  B2 Bn 173 #[A6 (A5 ⟨d,0,A3⟩),.agg #[O V o,O V q,X],IR r] E (RP E Y d e i j c h a g k b f Z (CF h o q p r) n):=by
 obtain⟨ba,bn,bc,rfl⟩:=aC;have h8:=u.d.n.d1;have K:=aW C h8 D;have L:=OJ C D;have M:=fk u.d.l.aC C D r;obtain⟨lo,af⟩:=Af (q*2^(h - o));obtain⟨m,N⟩:=Af (2^(h - o))
 have ag:1<=m:=by rw[<-N];exact mF
 rw[af,N]at K L M;have G:=zh (J K (J L (J M ag)));have H:=zh u;have HQ:=zh T;have aI:=zh U;have aJ:=zh aa;obtain⟨w0,aK,g0,b0⟩:=An E 160 [O V o,O V q,Ax ba bn bc];obtain⟨w1,aM,P,b1⟩:=An w0 165 [O V r.1,O V r.2];have HB:=zh (J (b0.u P Δ) b1);have G1:=zh (Ab g0 P);clear u T U aa h8 K L M af N ag C D g0 P b0 b1
 go_enter Tryz.func173,Tryz.ntmps173
 go_wp2_with fail;clear aK aM;refine Dc (λW=>W.cell? ⟨d,1,A3⟩=A5 (A6 (A5 ⟨e,0,A3⟩))/\Aa W E.heap.size 160 [O V o,O V q,Ax ba bn bc]/\Aa W w0.heap.size 165 [O V (r.1:Nat),O V (r.2:Nat)]) [([0,1,2,3,4,5,6,7,14,8,9,10,11],12,BL),([],13,BL),([],15,Bd),([],16,Bd)] Φ Φ ?_;obtain⟨w2,an,w⟩:=AP w1;rw[an];have x:=zh (H.o.u (Ab G1.o w));have I:=zh (J (HB.o.1.u w Δ) (HB.o.2.u w Δ));have G2:=zh (Ab G1.o w);clear an w;refine Cc ⟨x.o.x.cells.2.1,I.o⟩ ?_
 repeat(apply AC rfl Θ;(· intro wS s;(try have s:=s rfl);(try dsimp only at s);(try have k0:=s.1);(try have x0:=s.2.1.m 0);(try have x1:=s.2.1.m 1);(try have y0:=s.2.2.m 0);(try have y1:=s.2.2.m 1);go_simp;(try with_reducible rfl));refine Al ?_)
 refine Aj ?_;refine AE rfl (λt l=>?_);go_simp;refine(KD x.o.d.i).mono ?_;rintro ao w' ⟨rfl,rfl⟩;dsimp only;refine l _ _ ⟨λ_=>⟨x.o.x.cells.2.1,I.o⟩,?_⟩;clear l t;refine Al ?_;refine Bt ?_;refine AE rfl (λt l=>?_);go_simp;refine(ZL (q:Nat) (o:Nat) (h:Nat) w2).mono ?_;rintro ao w3 ⟨v,rfl,y,z⟩;dsimp only;rw[G.o.1,Jd]at y;obtain⟨a3,c3,rfl⟩:=(Ag.ai y).slice;have A:=zh (x.o.u z);have O3:=zh (J (Ag.ai y) (show∀B,(Ax a3 m c3).ownBlock=A5 B->Y B=0 from λB hb=>x.o.d.s.cl B (y.lt B hb).1));refine l _ _ ⟨λ_=>⟨A.o.x.cells.2.1,I.o.1.u z Δ,I.o.2.u z Δ⟩,?_⟩;have G3:=zh (Ab G2.o z);clear l t y z;refine Al ?_;refine Bt ?_;refine AE rfl (λt l=>?_);go_simp;refine(ce A.o.d (Ψ HQ.o) aI.o rfl A.o.dd lo m G.o.2.2.2 G.o.2.1 r aJ.o a3 c3 O3.o.1 O3.o.2).mono ?_;rintro ao w4 ⟨rfl,aR,aS,aT,aU,T4,Q,R,av,aw⟩;dsimp only;refine l _ _ ⟨λS=>(by cases S),?_⟩;clear l t;rw[G.o.2.2.1]at R
 have F:=zh (show∃ax ay az aA T',Ad (DO 200) E Y w4 ax/\XS w4 ax d e i j c h aA (g+1100) k ay az T' (CF h o q p r) n/\AR c f az/\Fr (AH a Z) (AH aA T') b ay from
  ⟨aR,aS,aT,aU,T4,((Ad.u H.o.d.s.cl G3.o).trans Q).mono (PE (jF _)),⟨A.o.x.ag Q (by rintro(u|u)<;>omega),R,A.o.dd⟩,av,aw⟩)
 clear Q R av aw;refine Al ?_;refine Bt ?_;refine AE rfl (λt l=>?_);go_simp;refine l _ _ ⟨λS=>(by cases S),?_⟩;clear l t;refine Al ?_;refine De (A7 ?_);go_wp2_with fail;exact Bs (Bx rfl _ _ _) rfl ⟨rfl,F.o⟩
structure FT(w:A4)(g:Ae)(X D s d:Nat)(P:Pl)(h:Nat)(j:Ai)(k:Nat)(l:Int->List Nat)(m:Nat)(r:Ai)(b:Au)(a:Option BZ)(c:Nat)(n:Option BZ)(o:Nat)(q:Nat)(t:As)(f:Int->List Nat)(e:Ae)(W:A4):Prop where
 x:Fc W e X D s P.bg P.dp m
 i:CO W e D s P.bv P.dp h j
 sd:SD W e s d P q k t f
 st:Ad (SS 123) w g W e
 on:AR P l f
 b3:Aa W w.heap.size 209 [O V r.1,O V r.2,O V b.d,O V b.p,Ax a b.es.length c]
 h3:e w.heap.size=0
 p:Bw W e n o b.ld
theorem FT.ag{C:Nat->Prop}{r:Ai}{v:Option BZ}{q x:Nat}{F:As}{y:Int->List Nat}{A:Ae}{W:A4}
  (m:FT o s g i h d c j a e w k r z l n v t q F y A W)(p:Ad C W A E Y)(B:¬C 0)(G:¬C 6)(H:¬C 7)(I:∀D,C D->SS 123 D)(J:SD E Y h d c x e b f)(K:AR c y f):FT o s g i h d c j a e w k r z l n v t x b f Y E:=
 ⟨m.x.ag p H,m.i.ag p G,J,m.st.trans (p.mono I),m.on.trans K,p.y m.b3 (by rw[m.h3];exact B),by rw[p.ak _ m.b3.lt];exact m.h3,⟨p.aN m.p.1 (λz u=>by rw[(m.p.2.1 z u).1];exact B),λz u=>⟨by rw[p.ak _ (m.p.2.1 z u).2];exact(m.p.2.1 z u).1,jJ (m.p.2.1 z u).2 p.aQ⟩,m.p.2.2⟩⟩
theorem FT.cC{p:A4}{r:Ai}{u:Option BZ}{q:Nat}
  (m:FT p s h d e g c i a j f k r z l n u t q b w Y E)(A:E.grownBy o A3)(B:E.heap.size<o.heap.size):∃v,FT p s h d e g c i a j f k r z l n u t q b w v o/\v E.heap.size=121:=
 have x:Ad (λy=>y=121) E Y o (AN Y E.heap.size 121):=Cl m.st.new A (jF _) B rfl
 ⟨_,m.ag x Ω Ω Ω (λy C=>B8 Ω) (m.sd.ag x Ω Ω Ω Ω) (AR.refl _ _),A0 _ _ _⟩
theorem FT.bj{u:A4}{r:Ai}{v:Option BZ}{q:Nat}{x:Nat}
  (p:FT u s h d e g c i a j f k r z l n v t q b w Y E)(B:Y x=121)(C:Ac (λm=>m=x) E o):FT u s h d e g c i a j f k r z l n v t q b w Y o:=
 have y:Ad (λm=>m=121) E Y o Y:=AL p.st.new C (λm A=>by rw[A];exact B)
 p.ag y Ω Ω Ω (λm A=>B8 Ω) (p.sd.ag y Ω Ω Ω Ω) (AR.refl _ _)
theorem FT.ap{p:Ai}{r:Option BZ}{q:Nat}
  (m:FT o Y h e d g c i p j f k a z l n r t q b w s E):E.cell? ⟨h,0,A3⟩=A5 (A6 (A5 ⟨d,0,A3⟩))/\E.cell? ⟨o.heap.size,0,A3⟩=A5 (O V a.1)/\E.cell? ⟨o.heap.size,1,A3⟩=A5 (O V a.2):=⟨m.x.cells.1,m.b3.m 0,m.b3.m 1⟩
def Oy(w:A4)(l:Ae)(X D s d:Nat)(P:Pl)(f:Nat)(m:Ai)(q n:Nat)(o:As)(p:Int->List Nat)(T L:List Ai)(t:Nat)(r:Ai)(b:Au)(e:Ending)(g:A4):Prop:=
 e=Bk (O V 0)/\∃h c i j k a,Ad (DO 200) w l g h/\XS g h X D s d P f j (q+1200) n c i k (CF f b.d b.p L a) t/\AR P p i/\Fr (r.1::AH m T) (a.1::AH j k) o c/\c a.1=A5 (a.2,b.ld)
theorem KK(m:XS E Y e j g k c d a i h b f Z p n)(hq:i<=1073720000)(aY:Cq b (c.bz+3))(r:Ai)(N:b r.1≠A3)(aZ:r.1∉AH a Z)(l:Au)(hb:l.ok c.bg)(hd:l.d<=d)(a1:CF d l.d l.p p r=p)(z:Option BZ)(A:Nat)(he:Ag E 4 (Ax z l.es.length A) l.es.length (Aw l.es)):
  B2 Bn 111 #[A6 (A5 ⟨e,0,A3⟩),Nl r l z A] E (Oy E Y e j g k c d a i h b f Z p n r l):=by
 have H:=zh m;have HQ:=zh hq;have aF:=zh aY;have aq:=zh (J N aZ);have ar:=zh (J hb (J hd a1))
 have a2:l.ld.length<=c.n - 19:=by
  have h1:=hb.bC;have h2:20*c.bg<=c.n - 29:=nN _ _;have h3:=m.d.s.a2.n0;rw[l.eW];omega
 have a3:=zh a2;obtain⟨w0,bm,g0,b0⟩:=An E 209 [O V r.1,O V r.2,O V l.d,O V l.p,Ax z l.es.length A];have B0:=zh b0;have G0:=zh g0;have HE:=zh he;clear m hq aY N aZ hb hd a1 a2 g0 b0 he
 go_enter Tryz.func111,Tryz.ntmps111
 go_wp2_with fail;clear bm;refine Dc (λW=>W.cell? ⟨e,2,A3⟩=A5 (O V c.bg)/\Aa W E.heap.size 209 [O V (r.1:Nat),O V (r.2:Nat),O V l.d,O V l.p,Ax z l.es.length A]) [([0,1,2,3,4,5],6,Bd),([7,8,9,10],11,Bd)] Φ Φ ?_;obtain⟨w1,a6,g1⟩:=AP w0;rw[a6];have G1:=zh (Ab G0.o g1);have B1:=zh (B0.o.u g1 Δ);clear a6 g1;refine Cc ⟨(H.o.x.u G1.o).cells.2.2.1,B1.o⟩ ?_
 repeat(apply AC rfl Θ;(· intro wS t;(try have t:=t rfl);(try dsimp only at t);(try have k0:=t.1);(try have x2:=t.2.m 2);(try have x3:=t.2.m 3);(try have x4:=t.2.m 4);go_simp;(try with_reducible rfl));refine Al ?_)
 refine Aj ?_;refine AE rfl (λK' o=>?_);go_simp;have N:=Ov (l.d:Nat) (l.p:Nat) (c.bg:Nat) l.es z A w1 (HE.o.u G1.o Δ) ar.o.1;rw[show Ct (l.d:Nat) (l.p:Nat) l.es=l.ld from rfl]at N;refine N.mono ?_;clear N;rintro u w2 ⟨aB,cB,rfl,oB,gB⟩;dsimp only;refine o _ _ ⟨λhf=>(by cases hf),?_⟩;clear o K';have S:=Ab G1.o gB;have M2:Hd (FT E Y e j g k c d a h f n r l z A aB cB i b f Y w2):=zh ⟨H.o.x.u S,H.o.d.i.u S,H.o.d.s.u S,Ad.u H.o.d.s.cl S,AR.refl _ _,B1.o.u gB Δ,H.o.d.s.cl _ (jF _),⟨Ag.ai oB,λaK hk=>⟨H.o.d.s.cl aK (jM G1.o.size (oB.lt aK hk).1),(oB.lt aK hk).2⟩,NU _ _ _⟩⟩;clear oB gB S;refine Al ?_;refine Mg Θ ?_
 repeat(apply AC rfl Θ;(· intro wS t;go_simp;(try with_reducible rfl));refine Al ?_)
 refine Aj ?_;refine AE rfl (λK' o=>?_);go_simp;refine o _ _ ⟨λhf=>(by cases hf),?_⟩;clear o K';refine Al ?_;refine De (A7 ?_)
 go_upto_region 4 with fail
 go_cut [7,6] (λs7 s6 wx=>∃w T U y q,s7=A6 (A5 ⟨w,0,A3⟩)/\s6=O V 0/\FT E Y e j g k c d a h f n r l z A aB cB (i+3) y U T wx/\Aa wx w 165 [O V (q:Nat),O V h]/\Fr [r.1] [q] b y/\y q=A5 (h,l.ld)/\q<c.a4)
 case first=>
  refine AS (λW=>W.cell? ⟨e,0,A3⟩=A5 (A6 (A5 ⟨g,0,A3⟩))/\W.cell? ⟨E.heap.size,0,A3⟩=A5 (O V (r.1:Nat))/\W.cell? ⟨E.heap.size,1,A3⟩=A5 (O V (r.2:Nat))) (.bN [0,1,2,3,4,5,6] 7 Bd (.am [] [8,9,10] 11 BL (.am [] [] 12 Bd (.am [] [] 13 Bd (.nil)))) 11 BL (.am [] [] 7 Bd (.am [] [8,9,10] 12 Bd (.am [] [] 13 Bd (.nil))))) Φ Φ ?_;obtain⟨w3,bd,g3⟩:=AP w2;rw[bd];have X:=zh (M2.o.ag (C:=λ_=>False) (Ad.u M2.o.st.new g3) (λm=>m) (λm=>m) (λm=>m) (λ_ m=>m.elim) (M2.o.sd.u g3) (AR.refl _ _));clear bd g3 M2;refine DK X.o.ap ?_
  iterate 7 ((apply AC rfl Θ;(· intro wS t;(try have t:=t rfl);(try dsimp only at t);(try(have k0:=t.1;have x0:=t.2.1;have x1:=t.2.2));go_simp;(try with_reducible rfl)));refine Al ?_)
  refine Aj ⟨?_,?_⟩
  ·refine Am ?_;intro K o;refine(JL X.o.sd (Ψ HQ.o) aF.o r.1 r.2 aq.o.1 aB cB l.ld a3.o X.o.p).mono ?_;rintro u w4 ⟨q,rfl,aa,c4,bw,bx,B,ab,ac,ad,ae⟩;dsimp only;have M4:=zh (X.o.ag B (by rintro(m|m)<;>omega) (by rintro(m|m)<;>omega) (by rintro(m|m)<;>omega) (EK Ω) ab ac);have F4:=zh (J ad (J ae aa));clear B ab ac ad ae aa;refine Aq o ?_;clear o K;refine Ap ?_
   iterate 3 refine Av ?_
   refine Aj ?_;refine Am ?_;intro K o;obtain⟨w5,af,g5,D⟩:=An w4 165 [O V 0,O V 0];rw[af];obtain⟨c5,m5,k5⟩:=M4.o.cC g5 D.lt;have G:=zh m5;have v:=zh (J D k5);clear af g5 D m5 k5;generalize w4.heap.size=w at*;refine o _ _ ⟨_,λ_ m=>m,λ_=>G.o.ap,?_⟩;clear o K;refine Al ?_;refine Ap ?_;refine Aj ?_;obtain⟨w6,bC,b6,t6⟩:=En v.o.1 (O V q) (O V h);have f0:=v.o.1.v 0;have f1:=v.o.1.v 1;have y0:=v.o.1.m 0;have y1:=v.o.1.m 1;have s:=zh (G.o.bj v.o.2 t6);have I:=zh b6;clear b6 t6;refine Am ?_;intro K o;clear f0 f1 y0 y1;refine Aq o ?_;clear o K;refine Ap ?_;refine Aj ?_;refine Am ?_;intro K o;refine Aq o ?_;clear o K;refine AG (A7 ?_);go_wp2_with fail
   go_meet
   exact⟨w,_,_,_,q,rfl,rfl,s.o,I.o,F4.o⟩
  ·refine Am ?_;intro K o;obtain⟨w5,af,g5,D⟩:=An w3 165 [O V 0,O V 0];rw[af];obtain⟨c5,m5,k5⟩:=X.o.cC g5 D.lt;have G:=zh m5;have v:=zh (J D k5);clear af g5 D m5 k5;generalize w3.heap.size=w at*;refine o _ _ ⟨_,λ_ m=>m,λ_=>G.o.ap,?_⟩;clear o K;refine Al ?_;refine Ap ?_;refine Aj ?_;refine Am ?_;intro K o;refine(JL G.o.sd (Ψ HQ.o) aF.o r.1 r.2 aq.o.1 aB cB l.ld a3.o G.o.p).mono ?_;rintro u w4 ⟨q,rfl,aa,c4,bw,bx,B,ab,ac,ad,ae⟩;dsimp only;have M4:=zh (G.o.ag B (by rintro(m|m)<;>omega) (by rintro(m|m)<;>omega) (by rintro(m|m)<;>omega) (EK Ω) ab ac);have P:=zh (show Aa w4 w 165 [O V 0,O V 0]/\c4 w=121 from⟨B.y v.o.1 (by rw[v.o.2];rintro(m|m)<;>omega),by rw[B.ak _ v.o.1.lt];exact v.o.2⟩);have F4:=zh (J ad (J ae aa));clear B ab ac ad ae aa;refine Aq o ?_;clear o K;refine Ap ?_
   iterate 3 refine Av ?_
   refine Aj ?_;obtain⟨w6,bC,b6,t6⟩:=En P.o.1 (O V q) (O V h);have f0:=P.o.1.v 0;have f1:=P.o.1.v 1;have y0:=P.o.1.m 0;have y1:=P.o.1.m 1;have s:=zh (M4.o.bj P.o.2 t6);have I:=zh b6;clear b6 t6;refine Am ?_;intro K o;clear f0 f1 y0 y1;refine Aq o ?_;clear o K;refine Ap ?_;refine Aj ?_;refine Am ?_;intro K o;refine Aq o ?_;clear o K;refine AG (A7 ?_);go_wp2_with fail
   go_meet
   exact⟨w,_,_,_,q,rfl,rfl,s.o,I.o,F4.o⟩
 case rest=>
 obtain⟨w,T,U,y,q,rfl,rfl,s,I,al,Q,bf⟩:=hcut;have x0:=I.m 0;have x1:=I.m 1;have y0:=s.b3.m 0;have y1:=s.b3.m 1;have y2:=s.b3.m 2;have y3:=s.b3.m 3;have y4:=s.b3.m 4;have M:=zh s;have F:=zh (J al (J Q bf));have aQ:DQ y c.bv d a Z p:=H.o.d.l.fF (λbg x hx hn=>(al.cA hx (λhc=>aq.o.2 (by rw[j8]at hc;rw[<-hc];exact hn))).1);have aD:XS wc T e j g k c d a (i+3) h y U Z p n:=⟨s.x,⟨s.i,H.o.d.n,aQ,s.sd,H.o.d.ok⟩,H.o.dd⟩;have aR:q∉AH a Z:=aQ.cF (b:=l) Q;have bi:DM (q,h):=s.sd.e3 (Ψ HQ.o) (r:=(q,h)) Q;have bZ:=zh aD;have b1:=zh aR;have aS:=zh (Rs aD (Ψ HQ.o) (aF.o.fk aq.o.1 al) l.d l.p (Ax z l.es.length A) ⟨_,_,_,rfl⟩ ar.o.2.1 ar.o.1.fO (q,h) bi);have bj:=zh (show Fr (r.1::AH a Z) (q::AH a Z) b y from al.ho (AH a Z))
 have aT:=zh (show∀u L,RP wc T e j g k c d a (i+3) h y U Z (CF d l.d l.p p (q,h)) n u L->Oy E Y e j g k c d a i h b f Z p n r l u L from λu L ⟨he,bF,bG,bH,bI,T',s',bL,bM,bk⟩=>
  ⟨he,bF,bG,bH,bI,T',(q,h),(s.st.mono (Jn Ω)).trans s',bL.mono Ω,s.on.trans bM,bj.o.trans ((bk.ho [q]).iE (λbg=>by simp[or_comm]) (λbg=>by simp[or_comm])),(bk.cA Q aR).1⟩)
 have aU:=zh (show q=r.1->h=r.2->Oy E Y e j g k c d a i h b f Z p n r l (Bk (O V 0)) wc from λR e2=>
  ⟨rfl,T,y,U,a,Z,(q,h),s.st.mono (Jn Ω),by
   have u:((q,h):Ai)=r:=by rw[R,e2]
   rw[u,ar.o.2.2]
   exact aD.mono Ω,s.on,bj.o,Q⟩)
 clear s I al Q bf aQ aD aR bi
 by_cases R:q=r.1
 ·by_cases e2:h=r.2
  ·have t1:((r.1:Int)==(r.1:Int))=BL:=by simp
   have bN:=zh (aU.o R e2);subst R;subst e2;clear aT aS;go_wp2_with fail;exact Bs (Bx rfl _ _ _) rfl ⟨rfl,bN.o.2⟩
  ·have aV:¬(h:Int)=(r.2:Int):=by omega
   have bO:((h:Int)==(r.2:Int))=Bd:=by rw[kN];exact aV
   have bP:(h==r.2)=Bd:=by simp;exact e2
   subst R;clear aU;go_wp2_with fail;refine aS.o.mono ?_;intro u L hp;have HP:=zh (aT.o u L hp);obtain⟨rfl,_⟩:=hp;go_wp2_with fail;exact Bs (Bx rfl _ _ _) rfl ⟨rfl,HP.o.2⟩
 ·have aV:¬(q:Int)=(r.1:Int):=by omega
  have bO:((q:Int)==(r.1:Int))=Bd:=by rw[kN];exact aV
  have bP:(q==r.1)=Bd:=by simp;exact R
  clear aU;go_wp2_with fail;refine aS.o.mono ?_;intro u L hp;have HP:=zh (aT.o u L hp);obtain⟨rfl,_⟩:=hp;go_wp2_with fail;exact Bs (Bx rfl _ _ _) rfl ⟨rfl,HP.o.2⟩
theorem IX.hZ{l m:As}{c:Ai}{L:List Ai}(o:IX b d g h a p L q)(t:Fr [] [e] b l)(r:Fr (AH a p) (AH c Z) l m)(u:Z.length=By d (2^h)):Cq m (1+By d (2^h)+2^h+1):=by
 refine⟨e::(AH c Z++L.map Prod.fst),?_,λn f=>?_⟩
 ·rw[jT,jI,mx,AH,jT,mx,u,o.x.aC];omega
 ·by_cases i:n∈AH c Z
  ·exact kT _ (lK _ i)
  by_cases s:n=e
  ·rw[s];exact mh
  refine kT _ (lG _ ?_)
  by_cases k:n∈AH a p
  ·exact absurd (r.d2 n k i) f
  rw[r.cs n k i,t.cs n Δ (by simp[s])]at f
  rcases o.t n f with v|⟨j,w,x,y⟩
  ·exact absurd v k
  ·exact lB.2 ⟨w,kp x,y⟩
theorem Mq(_:c.aY)(a:h<=c.dp):1+By c.bv (2^h)+2^h<=c.bz:=by
 have b:2^h<=c.cM:=kR Ω a;have e:=NQ (per:=c.bv) b;have f:c.bz=1+By c.bv c.cM+c.cM:=rfl;omega
theorem Zw(y:Au)(k:y.ok h)(a:Option BZ)(c:Nat)(w:A4)(l:Ag w 4 (Ax a y.es.length c) y.es.length (Aw y.es)):
  B2 Bn 240 #[U2 y a c] w λe b=>∃d f i j,e=Bk (.agg #[O V ((AU y).d:Nat),O V ((AU y).p:Nat),Ax d (AU y).es.length f,O V ((AW y).d:Nat),O V ((AW y).p:Nat),Ax i (AW y).es.length j])/\
   b.ownsRow w.heap.size 237 4 (Ax d (AU y).es.length f) (AU y).es.length (Aw (AU y).es)/\b.ownsRow w.heap.size 237 4 (Ax i (AW y).es.length j) (AW y).es.length (Aw (AW y).es)/\w.grownBy b A3:=by
 have s:=k.bC;refine(Z5 (y.d:Nat) (y.p:Nat) Ω Ω Ω Ω y.es a c w Ω l).mono ?_;rintro e b ⟨d,f,i,j,rfl,m,n,g⟩;refine⟨d,f,i,j,?_,m,n,g⟩
 have o:((AU y).d:Int)=(y.d:Int)+1:=by simp[AU]
 have p:((AU y).p:Int)=2*(y.p:Int):=by simp[AU]
 have q:((AW y).d:Int)=(y.d:Int)+1:=by simp[AW]
 have r:((AW y).p:Int)=2*(y.p:Int)+1:=by simp[AW]
 rw[o,p,q,r];rfl
theorem jb{T:TypeId}{i j l m n:CE}(o:Aa E h T [x,i,j,l,m,n])(b c d e f g:CE):∃a,((((((E.setCell ⟨h,0,A3⟩ b).setCell ⟨h,1,A3⟩ c).setCell ⟨h,2,A3⟩ d).setCell ⟨h,3,A3⟩ e).setCell ⟨h,4,A3⟩ f).setCell ⟨h,5,A3⟩ g)=a/\Aa a h T [b,c,d,e,f,g]/\Ac (λk=>k=h) E a:=
 ⟨_,rfl,(((((o.setCell 0 _).setCell 1 _).setCell 2 _).setCell 3 _).setCell 4 _).setCell 5 _,(((((Ay _ _ _ _).trans (Ay _ _ _ _)).trans (Ay _ _ _ _)).trans (Ay _ _ _ _)).trans (Ay _ _ _ _)).trans (Ay _ _ _ _)⟩
theorem Yd(b:z.d<h)(e:h<=20)(x:BitVec 64)(f:AB x z.d=z.p):(CQ h (CQ h q (AW z)) (AU z) (AB x h)).d=z.d+1:=by
 have g:=(KF b).1 ((JS x z.p (nh b) e).2 f);unfold CQ
 by_cases a:A9 h (AB x h) (AU z).d (AU z).p
 ·rw[jP a];rfl
 ·rw[jN a]
  by_cases d:A9 h (AB x h) (AW z).d (AW z).p
  ·rw[jP d];rfl
  ·exact absurd g (λc=>c.elim a d)
structure XF(w:A4)(e:Ae)(X D s d:Nat)(P:Pl)(a:Nat)(b:Ai)(q f:Nat)(c:As)(g:Int->List Nat)(T L:List Ai)(h:Nat)(B:Nat->Au):Prop where
 s:XS w e X D s d P a b q f c g T L h
 x:IX c P.bv P.bg a b T L B
theorem XF.d0(l:XF E Y h d e g c i a j k b f Z p n q):Cq b c.bz:=l.x.d0.mono (Mq l.s.d.s.a2 l.s.dd)
structure UX(b:Nat)(L:List Ai)(B:Nat->Au)(a:Nat)(i:Nat)(r:Ai)(y:Au):Prop where
 hi:L[i]?=A5 r
 ok:y.ok a
 d:y.d=(B i).d
 p:y.p=(B i).p
def Qg(w:A4)(k:Ae)(X D s d:Nat)(P:Pl)(l:Nat)(q m:Nat)(n:Int->List Nat)(o:Nat)(B:Nat->Au)(r:Ai)(y:Au)(a:Option BZ)(c:Nat)(b:A4):Prop:=
 ∃e f p t h u j g i,XF b e X D s d P f p (q+2000) m t h u j o g/\y.d<f/\UX f j g P.bg i r y/\Ad (DO 200) w k b e/\AR P n h/\(∀x,Bh f g x=Bh l B x)/\Fa b e a c y.es/\
  Aa b w.heap.size 209 [O V r.1,O V r.2,O V y.d,O V y.p,Ax a y.es.length c]/\e w.heap.size=0
theorem W9{D:Nat}(z:XF E Y g j k n c h a D d b f p Z e q)(hq:D<=1073700000)(bE:e<=1073741824)(i:Nat)(r:Ai)(y:Au)(ha:UX h Z q c.bg i r y)(bF:y.d<c.dp)(Q:Option BZ)(R:Nat)(he:Fa E Y Q R y.es):
  B2 Bn 193 #[A6 (A5 ⟨g,0,A3⟩),Nl r y Q R] E λt w'=>t=Bk (O V 0)/\∃aj S aR aS ak T' L' T,Ad (DO 200) E Y w' aj/\XF w' aj g j k n c S aR (D+6000) d aS ak T' L' (e+1) T/\AR c f ak/\(∀x,Bh S T x=if AB x y.d=y.p then Bg y.es x else Bh h q x)/\∀x,AB x y.d=y.p->(T (AB x S)).d=y.d+1:=by
 have aV:i<2^h:=z.x.x.lt ha.hi
 have al:y.d<=h:=by rw[ha.d];exact z.x.x.dl i aV
 obtain⟨w0,cK,g0,A⟩:=An E 209 [O V r.1,O V r.2,O V y.d,O V y.p,Ax Q y.es.length R];have H:=zh z;have HQ:=zh hq;have cL:=zh bE;have HA:=zh ha;have aE:=zh (J bF (J al aV));have HE:=zh he;have B0:=zh A;have G0:=zh g0;have x2:=A.m 2;have e2:=AJ x2;have x1:=(z.s.x.u g0).cells.2.1;have e1:=AJ x1;have bJ:=zh (λ(W:A4) (hW:w0.grownBy W A3)=>KD ((z.s.d.i.u g0).u hW));clear z hq bE ha bF al aV he A g0 x1 x2
 go_enter Tryz.func193,Tryz.ntmps193
 go_wp2_with fail;clear cK;refine Cb Φ Φ ?_
 repeat(go_big_quiet_step ((go_at_call 97;exact Hi bJ.o _)))
 refine CA ?_;rintro _ ⟨gg,rfl⟩;have g1:=Bu gg;generalize gw gg=w1 at*;clear e1 e2 gg bJ;have G1:=zh (Ab G0.o g1);have B1:=zh (B0.o.u g1 Δ);have H1:=zh (H.o.s.u G1.o);have E1:=zh (HE.o.u G1.o);clear g1
 go_upto_if 19 with fail
 go_cut [5] (λs5 wx=>Qg E Y g j k n c h D d f e q r y Q R wx)
 case first=>
  by_cases al:y.d=h
  ·have t1:((y.d:Int)==(h:Int))=BL:=by simp[al]
   have t2:BR ((y.d:Int)=(h:Int))=BL:=by simp[al]
   have x1:=H1.o.x.cells.2.1;have bL:=Wt H1.o.d (Ψ HQ.o) H.o.x.d0 rfl rfl (Ψ aE.o);have cX:=zh bL;clear bL;go_wp2_with fail;refine cX.o.mono ?_;rintro t U ⟨rfl,c2,cZ,c0,c3,T2,X,f2,bM,bN⟩
   have u:∀s,s=0\/s=7->¬EJ 200 s:=λs hj=>by rintro(z|z)<;>omega
   have aq:=H.o.x.gf bN f2.l;have aa:Y E.heap.size=0:=H.o.s.d.s.cl _ (jF _)
   have HR:=zh (show Qg E Y g j k n c h D d f e q r y Q R U from
    ⟨c2,h+1,c3,cZ,c0,T2,Da Z,λs=>q (s/2),2*i,⟨⟨H1.o.x.ag X (u _ Ω),f2,Ψ aE.o⟩,aq⟩,Ω,
     ⟨by rw[La,show 2*i/2=i by omega];exact HA.o.hi,HA.o.ok,by show y.d=(q (2*i/2)).d;rw[show 2*i/2=i by omega];exact HA.o.d,by show y.p=(q (2*i/2)).p;rw[show 2*i/2=i by omega];exact HA.o.p⟩,
     ((Ad.u H.o.s.d.s.cl G1.o).trans X).mono (PE (jF _)),bM,λx=>dS h q (Ψ H.o.s.d.n.d1) x,E1.o.ag X (u _ Ω),X.y B1.o (by rw[aa];exact u _ Ω),by rw[X.ak _ B1.o.lt];exact aa⟩)
   clear X f2 bM bN aq u aa;go_wp2_with fail
   go_meet
   exact HR.o
  ·have t1:((y.d:Int)==(h:Int))=Bd:=by rw[kN];omega
   have t2:BR ((y.d:Int)=(h:Int))=Bd:=jH Ω;have t3:¬(y.d:Int)=(h:Int):=Ω;have aa:Y E.heap.size=0:=H.o.s.d.s.cl _ (jF _)
   have HR:=zh (show Qg E Y g j k n c h D d f e q r y Q R w1 from
    ⟨Y,h,a,b,f,p,Z,q,i,⟨H1.o.mono Ω,H.o.x⟩,Ψ aE.o,HA.o,Ad.u H.o.s.d.s.cl G1.o,AR.refl _ _,λ_=>rfl,E1.o,B1.o,aa⟩)
   clear aa;go_wp2_with fail
   go_meet
   exact HR.o
 case rest=>
 obtain⟨c1,N,aH,ar,c8,T1,L1,c9,i1,B,bP,a2,s1,bR,bS,bT,bU,a3⟩:=hcut;have b7:=B.s.x.y.setCell 4 (O V ((e:Int)+1));obtain⟨wA,a4⟩:=Af (wc.setCell ⟨g,4,A3⟩ (O V ((e:Int)+1)));rw[a4]at b7;simp only[jY,kE]at b7;rw[show(e:Int)+1=((e+1:Nat):Int) by omega]at b7;have sA:Ad (λs=>s=7) wc c1 wA c1:=AL B.s.d.s.cl (show Ac (λs=>s=g) wc wA by rw[<-a4];exact Ay _ _ _ _) (λs t=>by rw[t];exact B.s.x.c0);have da:wrap64 ((e:Int)+1)=(e:Int)+1:=IntWalk.wrap64_in _ (Ψ cL.o);have v:=zh (show XS wA c1 g j k n c N aH (D+2000) d ar c8 T1 L1 (e+1)from⟨⟨b7,B.s.x.c0⟩,B.s.d.ag sA Ω (B.s.d.s.ag sA Ω Ω Ω Ω),B.s.dd⟩);have F:=zh B.x;have BA:=zh (J (sA.y bU (by rw[a3];omega)) a3);have EA:=zh (bT.ag sA Ω);have dc:=zh (s1.trans (sA.mono (λs t=>CX Ω)));have m:=zh (J bP (J a2 (J bR bS)));have x4:=B.s.x.cells.2.2.2.2;have f4:=B.s.x.y.v 4;have y2:=BA.o.1.m 2;have y3:=BA.o.1.m 3;have y4:=BA.o.1.m 4;have bV:=zh (Zw y a2.ok Q R wA EA.o.1);clear b7 sA B bP a2 s1 bR bS bT bU a3;go_wp2_with fail;refine bV.o.mono ?_;rintro t U ⟨a0,k0,a1,k1,rfl,o0,o1,g2⟩;clear x4 f4 y2 y3 y4 a4 da bV
 have a7:∀{bZ:Option BZ} {kk:Nat} {es:List Ah},U.ownsRow wA.heap.size 237 4 (Ax bZ es.length kk) es.length (Aw es)->Fa U c1 bZ kk es:=λo=>⟨Ag.ai o,λa8 hb=>⟨v.o.d.s.cl a8 (o.lt a8 hb).1,(o.lt a8 hb).2⟩⟩
 have E0:=zh (a7 o0);have ba:=zh (a7 o1);obtain⟨b2,b3⟩:=MD m.o.2.1.ok (by have:=aE.o;have:=H.o.s.d.s.a2.e2;omega);have K:=zh (J b2 b3);obtain⟨A,bb⟩:=Af (AU y);obtain⟨l,bc⟩:=Af (AW y);have aw:=zh (J bb bc);rw[bb]at K E0⊢;rw[bc]at K ba⊢;clear a7 o0 o1 b2 b3 bb bc;obtain⟨w3,dh,g3,w⟩:=An U 354 [O V 0,O V 0,Ax A3 0 0,O V 0,O V 0,Ax A3 0 0];obtain⟨w4,dj,c4,t4⟩:=jb w (O V A.d) (O V A.p) (Ax a0 A.es.length k0) (O V l.d) (O V l.p) (Ax a1 l.es.length k1);have f0:=w.v 0;have f1:=w.v 1;have f2:=w.v 2;have f3:=w.v 3;have f4:=w.v 4;have f5:=w.v 5;have v0:=w.m 0;have v1:=w.m 1;have v2:=w.m 2;have v3:=w.m 3;have v4:=w.m 4;have v5:=w.m 5;have g4:=Ac.u g3 t4 (λs t=>by rw[t];exact jF _);have G:=zh (J g2 g4);have C4:=zh c4;clear g2 g3 g4 w c4 t4;go_wp2_with fail;clear f0 f1 f2 f3 f4 f5 v0 v1 v2 v3 v4 v5 dh dj;have b9:Hd (c1 U.heap.size=0):=zh (v.o.d.s.cl _ G.o.1.size);generalize U.heap.size=ca at*;have S4:=zh (v.o.u (Ab G.o.1 G.o.2));refine Dc (λW=>W.cell? ⟨g,2,A3⟩=A5 (O V c.bg)/\Aa W ca 354 [O V A.d,O V A.p,Ax a0 A.es.length k0,O V l.d,O V l.p,Ax a1 l.es.length k1]) [([0,1,2,3,4,5],6,Bd),([7,8,9,10],11,Bd)] Φ Φ ?_;obtain⟨w5,cb,I⟩:=AP w4;rw[cb];refine Cc ⟨(S4.o.u I).x.cells.2.2.1,C4.o.u I Δ⟩ ?_;have S5:=zh (S4.o.u I);have C5:=zh (C4.o.u I Δ);have E5:=zh (J ((E0.o.u G.o.2).u I) ((ba.o.u G.o.2).u I));have B5:=zh ((BA.o.1.u (Ab G.o.1 G.o.2) Δ).u I Δ);clear cb S4 C4
 repeat(apply AC rfl Θ;(· intro wS P;(try have P:=P rfl);(try dsimp only at P);(try have k0:=P.1);(try have z3:=P.2.m 3);(try have z4:=P.2.m 4);(try have z5:=P.2.m 5);go_simp;(try with_reducible rfl));refine Al ?_)
 refine Aj ?_;refine AE rfl (λK' hK=>?_);go_simp;have bm:=Ov (l.d:Nat) (l.p:Nat) (c.bg:Nat) l.es a1 k1 w5 E5.o.2.1 K.o.2;rw[show Ct (l.d:Nat) (l.p:Nat) l.es=l.ld from rfl]at bm;refine bm.mono ?_;clear bm;rintro t w6 ⟨ch,cP,rfl,oP,gP⟩;dsimp only;refine hK _ _ ⟨λhf=>(by cases hf),?_⟩;clear hK K';have L:=zh (S5.o.u gP);have C6:=zh (C5.o.u gP Δ);have E6:=zh (E5.o.1.u gP);have B6:=zh (B5.o.u gP Δ);have P6:=zh (show Bw w6 c1 ch cP l.ld from⟨Ag.ai oP,λbq hk=>⟨S5.o.d.s.cl bq (oP.lt bq hk).1,(oP.lt bq hk).2⟩,NU _ _ _⟩);have G6:=zh (Ab (Ab (Ab G.o.1 G.o.2) I) gP);clear oP gP I S5 C5 E5 B5 E0 ba;refine Al ?_;refine Mg Θ ?_
 repeat(apply AC rfl Θ;(· intro wS P;go_simp;(try with_reducible rfl));refine Al ?_)
 refine Aj ?_;refine AE rfl (λK' hK=>?_);go_simp;refine hK _ _ ⟨λhf=>(by cases hf),?_⟩;clear hK K';refine Al ?_;refine De (A7 ?_);have cm:Cq ar (c.bz+3):=(F.o.d0.mono (Mq v.o.d.s.a2 v.o.dd)).mono Ω
 have cn:l.ld.length<=c.n - 19:=by
  have h1:=(K.o.2).bC;have h2:20*c.bg<=c.n - 29:=nN _ _;have h3:=v.o.d.s.a2.n0;rw[l.eW];omega
 have x0:=L.o.x.cells.1;have co:=zh (JQ L.o.d.s (Ψ HQ.o) cm ch cP l.ld cn P6.o);clear cm cn;go_wp2_with fail;refine co.o.mono ?_;rintro t w7 ⟨M,rfl,aO,dU,c7,dv,C,bt,cq⟩;clear x0 co
 have u:∀s,s=0\/s=6\/s=7->¬SS 103 s:=λs hj=>by rintro(z|z)<;>omega
 have cr:DQ (Ex ar M (d,l.ld)) c.bv N aH T1 L1:=L.o.d.l.fF (λdV x hx _=>by rw[Et _ _ (λt=>by rw[t,aO]at hx;cases hx)];exact hx);have cs:XS w7 c7 g j k n c N aH (D+2000+2) d (Ex ar M (d,l.ld)) dv T1 L1 (e+1):=⟨L.o.x.ag C (u _ Ω),⟨L.o.d.i.ag C (u _ Ω),L.o.d.n,cr,bt,L.o.d.ok⟩,L.o.dd⟩;have bu:DM (M,d):=bt.e3 (Ψ HQ.o) (r:=(M,d)) (EV _ _ _);obtain⟨w8,dw,g8,d8⟩:=An w7 165 [O V 0,O V 0];obtain⟨w9,dx,d9,t9⟩:=En d8 (O V M) (O V d);have f0:=d8.v 0;have f1:=d8.v 1;have v0:=d8.m 0;have v1:=d8.m 1;have g9:=Ac.u g8 t9 (λs t=>by rw[t];exact jF _);have x0:=d9.m 0;have x1:=d9.m 1;have C9:=zh (J ((C.y C6.o (by rw[b9.o];exact u _ Ω)).u g9 Δ) (show c7 ca=0 by rw[C.ak _ C6.o.lt];exact b9.o));have B9:=zh (J ((C.y B6.o (by rw[BA.o.2];exact u _ Ω)).u g9 Δ) (show c7 E.heap.size=0 by rw[C.ak _ B6.o.lt];exact BA.o.2));have E9:=zh ((E6.o.ag C (u _ Ω)).u g9);have S9:=zh (cs.u g9);have dA:=zh ((dc.o.trans ((Ad.u v.o.d.s.cl G6.o).trans (C.mono (Jn Ω)))).trans (Ad.u C.new g9));have N9:=zh (J aO (J bu (m.o.2.2.1.trans cq)));have z3:=C9.o.1.m 3;have z4:=C9.o.1.m 4;have z5:=C9.o.1.m 5;have ai:=F.o.x.dh i1 r m.o.2.1.hi;have cw:=F.o.x.lt m.o.2.1.hi;have cx:Cq (Ex ar M (d,l.ld)) (c.bz+3):=((F.o.d0.new (Fr.new _ aO)).mono (oW (Mq v.o.d.s.a2 v.o.dd) 1)).mono Ω
 have aA:l.d<=N:=by rw[<-aw.o.2];show y.d+1<=N;exact m.o.1
 have cy:=zh (Rs S9.o (Ψ HQ.o) cx l.d l.p (Ax a1 l.es.length k1) ⟨_,_,_,rfl⟩ aA K.o.2.fO (M,d) bu);have cz:=zh (J ai cw);clear u cr cs bu C bt cq aO g8 d8 g9 d9 t9 C6 B6 E6 L P6 cx aA ai cw;go_wp2_with fail;refine cy.o.mono ?_;rintro t dY ⟨rfl,dZ,d0,d1,d2,d3,aB,bw,cA,aP⟩;clear f0 f1 v0 v1 x0 x1 z3 z4 z5 dw dx cy
 have u:¬DO 200 0:=by rintro(z|z)<;>omega
 have aQ:=aB.y C9.o.1 (by rw[C9.o.2];exact u);have bx:=aB.y B9.o.1 (by rw[B9.o.2];exact u);have y0:=bx.m 0;have y1:=bx.m 1;have z0:=aQ.m 0;have z1:=aQ.m 1;have z2:=aQ.m 2;have ai:=cz.o.1;have cB:r.1∉AH aH T1:=F.o.cF m.o.2.1.hi;have bz:=aP.cA (n:=r.1) (x:=(r.2,(c9 i1).ld)) (by rw[Et _ _ (λt=>by rw[<-t,ai]at N9;exact absurd N9.o.1 Δ)];exact ai) cB;have bA:=F.o.x.hW (r1:=(M,d)) m.o.2.1.hi m.o.2.1.d m.o.2.1.p m.o.1;rw[aw.o.1,aw.o.2]at bA
 have aA:A.d<=N:=by rw[<-aw.o.1];show y.d+1<=N;exact m.o.1
 have cC:=zh (KK bw (Ψ HQ.o) (((F.o.hZ (Fr.new _ N9.o.1) aP bw.d.l.dq).mono (oW (Mq v.o.d.s.a2 v.o.dd) 1)).mono Ω) r (by rw[bz.1];simp) bz.2 A K.o.1 aA bA a0 k0 (E9.o.ag aB u).1);have bB:=zh (J aP (J cA aB));clear aP cA aB bw aQ bx bz bA aA ai cB u;go_wp2_with fail;refine cC.o.mono ?_;rintro t cD ⟨rfl,dG,dH,dI,dJ,dK,dL,cE,bC,cF,cG,cH⟩;obtain⟨rfl,rfl⟩:=aw.o;have aq:=F.o.fY m.o.2.1.hi m.o.2.1.ok m.o.2.1.d m.o.2.1.p m.o.1 v.o.d.n.d1 (r1:=(M,d)) (r0:=dL) (Fr.new _ N9.o.1) N9.o.1 (EV _ _ _) bB.o.1 cG bC.d.l cH
 have cI:=λx=>(Yn F.o.x cz.o.2 m.o.2.1.ok m.o.2.1.d m.o.2.1.p m.o.1 v.o.d.n.d1 x).trans (by rw[m.o.2.2.2 x])
 have dM:=zh (show∃aj S aR aS ak T' L' T,Ad (DO 200) E Y cD aj/\XF cD aj g j k n c S aR (D+6000) d aS ak T' L' (e+1) T/\AR c f ak/\(∀x,Bh S T x=if AB x y.d=y.p then Bg y.es x else Bh h q x)/\∀x,AB x y.d=y.p->(T (AB x S)).d=y.d+1 from
  ⟨dG,N,dJ,dH,dI,dK,_,_,(dA.o.trans bB.o.2.2).trans cE,⟨bC.mono Ω,aq⟩,(N9.o.2.2.trans bB.o.2.1).trans cF,cI,λx hx=>Yd m.o.1 (Ψ v.o.d.n.d1) x hx⟩)
 clear cE bC cF cG cH aq cI y0 y1 z0 z1 z2 cC;go_wp2_with fail;exact Bs (Bx rfl _ _ _) rfl ⟨rfl,dM.o⟩
end
section
open Go Go.RowKit
attribute [local go_sem ↓] Go.wp_at_zero Go.wp_at_succ
theorem Pa(b:Cz r){i:Nat}(g:Eo r (U A) i):Bg r A=if A1 r (U A) i=BL then A5 (r.getD i Ah.af)else A3:=by
 obtain⟨j,d,n⟩:=OC b g
 by_cases c:A1 r (U A) i=BL
 ·rw[jP c];have a:=c;unfold A1 at a;rw[jQ]at a;have o:=j7 a.1;have k:=j7 a.2;exact(Je b A _).2 ⟨PC Ω,PG k⟩
 ·rw[jN c]at d⊢;rw[JR b];intro y l e
  by_cases f:y∈r.take i
  ·have:=j y f;rw[e]at this;omega
  ·have m:y∈r.drop i:=by
    have:=kF i r▸l
    rcases kI.1 this with h|h
    ·exact absurd h f
    ·exact h
   have:=d y m;rw[e]at this;omega
theorem Mo(a:Cz r){i:Nat}(b:Eo r (U A) i):A1 r (U A) i=(Bg r A).isSome:=by
 rw[Pa a b]
 cases A1 r (U A) i<;>rfl
theorem Qy(a:Cz r){i:Nat}(b:Eo r (U A) i):(if A1 r (U A) i=BL then r.getD i Ah.af else Ah.af)=(Bg r A).getD Ah.af:=by
 rw[Pa a b]
 cases A1 r (U A) i<;>rfl
def Gc(b:Nat)(a:List Ah)(x:BitVec 64):Bool:=(Bg a x).isSome||BR (a.length<b)
theorem YA(x:Ah)(w:A4):B2 Bn 190 #[x.val] w λe j=>e=Bk (.bool (Cm 0 0 1 [x]))/\w.grownBy j A3:=by
 obtain⟨b,c,d,a⟩:=An w 237 x.cells;obtain⟨k,f,g,h⟩:=An b 237 x.cells;have l:=a.m 0;have m:=a.m 1;have n:=a.m 2;have o:=a.m 3;have p:=zh h;have G:=zh (Ab d g);unfold Ah.cells at c f;unfold Ah.val;clear a h d g
 go_enter Tryz.func190,Tryz.ntmps190
 go_wp2_with fail;refine(Oe 0 0 1 [x] (A5 ⟨b.heap.size,0,A3⟩) 1 k (Ag.bq p.o rfl (by unfold CV;simp))).mono ?_;rintro e r ⟨rfl,i⟩;have q:=zh (Ab G.o i);clear i l m n o c f;go_wp2_with fail;go_ret;exact⟨rfl,q.o⟩
end
section
open Go Go.RowKit
attribute [local go_sem ↓] Go.wp_at_zero Go.wp_at_succ
theorem Ok{dp:Nat}(w:Fc E Y d e g h dp j)(b:Au)(n:b.ok k)(a:Option BZ)(c:Nat)(z:Ag E 4 (Ax a b.es.length c) b.es.length (Aw b.es))(x:BitVec 64):
  B2 Bn 191 #[A6 (A5 ⟨d,0,A3⟩),U2 b a c,O .u64 (U x)] E λo w'=>o=Bk (.bool (Gc h b.es x))/\E.grownBy w' A3:=by
 have hf:=n.bC;obtain⟨w0,ae,p,m⟩:=An E 160 [O V b.d,O V b.p,Ax a b.es.length c];have x0:=m.m 0;have x1:=m.m 1;have x2:=m.m 2;have A:=zh (SL (b.d:Nat) (b.p:Nat) b.es (U x) a c w0 Ω n.bW (z.u p Δ));have HX:=zh (w.u p);have B0:=zh m;have G0:=zh p;have B:=zh n.bW;clear w n z p m hf
 go_enter Tryz.func191,Tryz.ntmps191
 go_wp2_with fail;refine A.o.mono ?_;rintro o w1 ⟨i,r,rfl,C⟩;rw[Qy B.o r,Mo B.o r];obtain⟨y,D⟩:=Af ((Bg b.es x).getD Ah.af);obtain⟨is,s⟩:=Af ((Bg b.es x).isSome);rw[D,s];have F:=zh s;unfold LH;obtain⟨w2,G,H,f⟩:=An w1 128 [O V 0,O V 0,O V 0];obtain⟨w3,I,b3,J⟩:=Bq f (O V y.r) (O V y.a) (O V y.s);have K:=f.v 0;have L:=f.v 1;have M:=f.v 2;have N:=f.m 0;have P:=f.m 1;have Q:=f.m 2;have q:=Ab C (Ac.u H J (λar o=>by rw[o];exact jF _));have R:=zh (Ab G0.o q);have S:=(B0.o.u q Δ).m 2;have T:=(HX.o.u q).cells.2.2.1;have W:=AJ S;have X:=AJ T;clear x0 x1 x2 C H q f b3 J r D s ae A S T
 cases is with
 |true=>
  go_wp2_with fail;clear K L M N P Q G I;refine Cb Φ Φ ?_
  repeat(go_big_quiet_step (fail))
  refine CA ?_;rintro _ ⟨l,rfl⟩;have u:=Ab R.o (Bu l);generalize gw l=w4 at*;clear W X l
  have Z:Gc h b.es x=BL:=by unfold Gc;rw[F.o];rfl
  have v:=zh Z;clear Z;go_wp2_with fail;go_ret;exact⟨(kM (λt=>Bk (.bool t)) v.o).symm,u⟩
 |false=>
  have v:Hd (Gc h b.es x=BR (b.es.length<h)):=zh (by unfold Gc;rw[F.o];rfl);go_wp2_with fail;clear K L M N P Q G I;refine Cb Φ Φ ?_
  repeat(go_big_quiet_step (fail))
  refine CA ?_;rintro _ ⟨l,rfl⟩;have u:=Ab R.o (Bu l);generalize gw l=w4 at*;clear W X l;go_wp2_with fail;go_ret;exact⟨(kM (λt=>Bk (.bool t)) v.o).symm,u⟩
end
