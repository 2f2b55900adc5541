/- Lemmas. -/
import Derived.Test.YtcedibmdelehdaaGreatDoorH41
import Derived.Maps.OwnIn
namespace Go.Proofs.YtcedibmdelehdaaGreatDoor
set_option maxRecDepth 100000
set_option maxHeartbeats 32000000
open And renaming intro->J
open Go.Value renaming int->O,slice->Ax,pointer->Bk,ownBlock->C7
open Go.IntKind renaming i64->V
open Option renaming none->A3,some->Bd
open Go renaming World->A4,bodyPost_ret->BR,results_tmp->BX,Addr->CE,Calls->CL,wpQuiet_nil->CV,Value->CX,maxLen->C8
open Go.NoPanic renaming normal->Bn
open Bool renaming false->Bs,true->B2
open Go.Ending renaming returned->Bx
open Go.Proofs.Tryz renaming prog->BL,underlying209->C0
open Decidable renaming decide->B8
open Go.World renaming grownBy_alloc->CA,ownsRow_nil->C1
open Or renaming inr->CR,inl->DA
variable{h w:Int->List Nat}{E e f g i j k n t:Nat}{Y o:A4}{Z s:Ad}{a p:List Ah}{b:Ah}{c:Ap}{d:Pl}{l:Option CE}{q:Nat->Au}{r:List Af}{x:CX}{y:Au}{z:BitVec 64}
section
open Go Go.RowKit Go.Shelf
attribute [local go_sem] Oper.semAt_some
theorem bI:(BL.info? 251).map (λi=>(i.zero,i.size,i.bytes))=Bd (Bd (Ax A3 0 0),1,24):=Φ
theorem Mf{C:Nat->Prop}(h:Ab C Y (λ_=>0) o Z)(a:¬C 0):Y.grownBy o A3:=⟨h.ak.os,h.ak.fL,h.ak.fH,h.ak.size,λk b _=>h.ak.bK k b a⟩
def JU(g o:Nat)(x:Gs):CX:=Ax (Bd ⟨g,o+x.i*2,A3⟩) x.n x.n
def Gj(a N:Nat)(j:Nat):Gs:=⟨a*j,min a (N - a*j)⟩
def Ic(a N K:Nat):List Gs:=Cx (Gj a N) K
theorem XY{N:Nat}(a:1<=E)(h:N<=E*e/\E*e<N+E):e=Bl E N:=by
 unfold Bl;refine(Nat.div_eq_of_lt_le ?_ ?_).symm
 ·rw[lM];omega
 ·rw[mS,lM e E];omega
structure Lp(w:A4)(g o per N c:Nat)(f h i:Nat)(a:Ad)(d:List Gs)(X:A4):Prop where
 st:Ab (λj=>190<=j/\j<200) w (λ_=>0) X a
 ks:Aa X h 251 [Ax (Bd ⟨g,o,A3⟩) N c]
 hs:a h=0
 kn:Aa X i 3 [O V per]
 hn:a i=0
 h5:a f=198
 o:∃e,Aa X f 403 [e]/\X.ownsRow w.heap.size 251 1 e d.length (d.map (JU g o))/\∀b,e.ownBlock=Bd b->a b=198
 dt:d=Ic per N d.length
theorem Lp.am{C:Nat->Prop}{N:Nat}{l:List Gs}{m:A4}(h:Lp Y E e f N g i j k Z l o)(a:Ab C o Z m s)(n:¬C 0)(p:¬C 198)(u:∀d,C d->190<=d/\d<200):Lp Y E e f N g i j k s l m:=by
 obtain⟨v,q,r,t⟩:=h.o;exact⟨h.st.trans (a.mono u),a.u h.ks (by rw[h.hs];exact n),by rw[a.ah _ h.ks.lt];exact h.hs,a.u h.kn (by rw[h.hn];exact n),by rw[a.ah _ h.kn.lt];exact h.hn,by rw[a.ah _ q.lt];exact h.h5,⟨v,a.u q (by rw[h.h5];exact p),a.ak.aL r (λb c=>by rw[t b c];exact p),λb c=>by rw[a.ah _ (r.lt b c).2];exact t b c⟩,h.dt⟩
theorem Wf(g o a N c:Nat)(F:1<=a)(aD:a<=1000)(hN:1<=N)(a4:N<=256)(hc:N<=c)(w:A4):
  CL BL 289 #[Ax (Bd ⟨g,o,A3⟩) N c,O V a] w λe w'=>∃t G,e=Bx (Ax t (Bl a N) G)/\w'.ownsRow w.heap.size 251 1 (Ax t (Bl a N) G) (Bl a N) ((Ic a N (Bl a N)).map (JU g o))/\w.grownBy w' A3:=by
 obtain⟨i0,hi,aH,aI,aJ⟩:=info_parts bI;have ad:Fence.wide.round=A3:=rfl;refine(callsIn_wide (n:=20)).1 ?_;refine callsIn_of_wp_marks Tryz.func289 rfl kI ?_ ad;simp only[Tryz.ntmps289,kR,kj,kP,Nat.reduceAdd,Nat.reduceSub,kF,kG,kU,kJ,kv,kO];obtain⟨i,aK,g1,Q⟩:=Aq w 403 [Ax A3 0 0]
 gi_wp2_with (refine⟨kI,?_⟩;gi_at_call 294;refine(callsIn_wide.2 (Wg _ N c a F i)).mono ?_;rintro e w2 ⟨rfl,H,aL,bL,bB⟩)
 obtain⟨R,I⟩:=Ag (AL (λ_=>0) w.heap.size 198);have aM:=Q.lt;have hG:=Ae g1 H
 have aj:Ab (λj=>190<=j/\j<200) w (λ_=>0) w2 R:=by
  rw[<-I];exact(Ab.grown (λ_ _=>rfl) hG).bC (jS _) (jY aM H.size) ⟨Ω,Ω⟩
 have S:∀j,j≠w.heap.size->R j=0:=λj d=>by rw[<-I,Bg _ _ d]
 have f:Lp w g o a N c w.heap.size i.heap.size (i.heap.size+1) R [] w2:=⟨aj,bL,S _ Ω,bB,S _ Ω,by rw[<-I];exact AY _ _ _,⟨Ax A3 0 0,Q.grown H Δ,C1 _ _ _ _,λb z=>by simp[C7]at z⟩,rfl⟩;have T:=zh f;clear f bB bL hG aj aL I S g1 H Q aK
 refine IJ T.o.st.new ad Ω (gf:=307) (lb:=#[Bk (Bd ⟨i.heap.size,0,A3⟩),Bk (Bd ⟨i.heap.size+1,0,A3⟩)]) rfl kI (enters_of Tryz.func307 Φ rfl)
  (C:=λj=>j=198\/j=199) (CR rfl) (X6 19 i.heap.size (i.heap.size+1) g o a N c Ω F aD Ω hc _) (λ_ _ _ _=>kI) (λ_=>rfl)
  (λ_=>Lp w g o a N c w.heap.size i.heap.size (i.heap.size+1)) (λ_ _ _=>False)
  (λa0 x t X c=>t={tmps:=(a0.tmps.setIfInBounds 10 (Ax (Bd ⟨g,o+x.i*2,A3⟩) x.n x.n)).setIfInBounds 6 (Ax (Bd ⟨g,o+x.i*2,A3⟩) x.n x.n),defers:=[]})
  ()
  (λm c G k X Y h s=>h.am s Ω Ω (λj e=>Ω))
  (λ_ _ _ _ _ h _=>h)
  (λm c k X h=>⟨⟨h.ks.m 0,h.kn.m 0⟩,h.st.new⟩)
  (λ_ _ _ _ _ _ _ h _=>h)
  (λc G x t X Y h s=>h)
  T.o (λj=>j=198) (λj h=>DA h) Ω Ω
  ?assign ?body ?done (λ_ _ _ _ h=>h.elim)
 case assign=>
  intro l m' u k x X K f aO v L;have aP:=zh f.st.new
  gi_wp2
  exact L _ _ u (Ab.refl aP.o) f v rfl
 case body=>
  intro l m' u k x t X f aO v aQ;subst aQ;obtain⟨ov,p,q,A⟩:=f.o;obtain⟨va,vc,rfl⟩:=(Ai.aj q).slice;have U:=p.m 0;have f0:=p.v 0;have B:=zh f;have W:=zh p;have D:=zh q;have M:=zh A;have HR:=zh v
  have aT:k.length<=256:=by
   have y:=v.1;have h2:=v.2.1;have:k.length<=a*k.length:=qO _ F;omega
  obtain⟨n,hn⟩:=Ag k.length;rw[hn]at W D M U aT;clear f p q A v;simp only[mG,ku,kM]
  gi_wp2_with (gi_at_builtin;refine wpListIn_append_own_at _ rfl _ _ 403 rfl w.heap.size 251 i0 (Ax A3 0 0) 1 24 Tryz.underlying403 hi aH aI aJ rfl Ξ _ _ _ rfl (D.o.alloc _) ⟨X.heap.size,0,A3⟩ 1 1 [Ax (Bd ⟨g,o+x.i*2,A3⟩) x.n x.n] rfl rfl (cell_one_new _ _ _) (by simp[Value.oneCell']) (by unfold C8;omega) Ω (by have:=B.o.st.size;simp;omega) ?_;intro v' w7 y h2 _ P;obtain⟨a7,c7,rfl⟩:=(Ai.aj y).slice;obtain⟨b7,c8,s7,b8,o8,k8⟩:=Oj (K:=198) (Aw.grown B.o.st.new (CA X _ A3)) (W.o.grown (CA X _ A3) Δ) (D.o.alloc _) Ξ B.o.h5 (λb z=>M.o b z) h2 y P;have z0:=b7.m 0;have f0:=b7.v 0)
  clear z0 f0 U;have r:Ab (λj=>j=198) X u (w7.setCell ⟨w.heap.size,0,A3⟩ (Ax a7 (n+1) c7)) c8:=(Ab.grown B.o.st.new (CA X _ A3)).trans s7;generalize w7.setCell ⟨w.heap.size,0,A3⟩ (Ax a7 (n+1) c7)=w8 at*;have d:=B.o;refine⟨c8,(),r,d.st.trans (r.mono (λj e=>Ω)),r.u d.ks (by rw[d.hs];omega),by rw[r.ah _ d.ks.lt];exact d.hs,r.u d.kn (by rw[d.hn];omega),by rw[r.ah _ d.kn.lt];exact d.hn,by rw[r.ah _ W.o.lt];exact d.h5,⟨_,b8,?_,k8⟩,?_⟩
  ·rw[jU,lr,hn,oX];exact o8
  ·have hr:=HR.o
   have e1:x=Gj a N k.length:=by
    obtain⟨xi,xn⟩:=x;obtain⟨y,_,P⟩:=hr;simp only at y P;unfold Gj;rw[P,y]
   rw[jU,lr,Ic,Kv, <-e1]
   congr 1
   exact d.dt
 case done=>
  intro E m' u xs X hS f L ay;obtain⟨ov,p,q,A⟩:=f.o;have az:=XY F hS;obtain⟨va,vc,rfl⟩:=(Ai.aj q).slice;have U:=p.m 0;have D:=zh q;have M:=zh A;have Z:=zh f;have HK:=zh (J L ay);have HN:=zh az;clear f p q A L ay hS az T
  gi_wp2
  refine⟨Δ,DA ⟨_,_,rfl,run_takeDeferred HK.o.1,?_⟩⟩;have t3:=F5 X E (.deferred A3);have s3:Ab (λj=>j=199) X u (X.putObj E (.deferred A3)) u:=AG Z.o.st.new t3 (λj e=>by rw[e];exact HK.o.2);have o3:=t3.aL D.o (λb z e=>by have:=M.o b z;rw[e,HK.o.2]at this;omega);generalize X.putObj E (.deferred A3)=X3 at*;have aC:=Z.o.dt;rw[HN.o]at o3 aC;rw[aC]at o3;rw[HN.o];exact⟨_,BX rfl _ _ _,va,vc,rfl,o3,Mf (Z.o.st.trans (s3.mono (λj e=>Ω))) Ω⟩
end
section
open Go Go.RowKit
attribute [local go_sem ↓] Go.wp_at_zero Go.wp_at_succ
theorem XV(L:List Ah)(a n j:Nat)(h:(A5 ((L.drop a).take n))[j]?=Bd x)(b:a<=L.length):(A5 L)[a*2+j]?=Bd x:=by
 have c:A5 L=A5 (L.take a)++(A5 ((L.drop a).take n)++A5 ((L.drop a).drop n)):=by rw[<-Oc,lh, <-Oc,lh]
 have d:(A5 (L.take a)).length=a*2:=by rw[FT,kA,nJ b]
 rw[c,lf Ω,d,Nat.add_sub_cancel_left,lj (jX.1 h).1];exact h
theorem eO{per i:Nat}(h:Ai Y 2 (Ax (Bd ⟨E,e,A3⟩) a.length f) a.length (A5 a))(d:i*per<=a.length):Ai Y 2 (JU E e (Gj per a.length i)) (Gj per a.length i).n (A5 (A0 per a i)):=by
 obtain⟨m,n,g⟩:=h
 have c:(A0 per a i).length=(Gj per a.length i).n:=by rw[Jv];show _=min per (a.length - per*i);rw[lM]
 refine⟨by rw[FT,c],?_,?_⟩
 ·rw[<-c,Jv];omega
 ·rcases g with⟨h,_⟩|⟨o,p,h,_,k⟩
  ·cases h
  ·injection h with b _ _;injection b with b;subst b;refine CR ⟨⟨E,e+(per*i)*2,A3⟩,(Gj per a.length i).n,rfl,λ_=>rfl,λj u l=>?_⟩;have:=k _ _ (XV a (i*per) per j l d);rw[lM i per, <-lw]at this;exact this
theorem Cz.gE{R:List Ah}{d c':Nat->List Ah}(h:Cz c b R a d)(e:∀j,j<a.length->c' j=d j):Cz c b R a c':=
 ⟨h.rt,λi t f=>by rw[e i (jX.1 f).1];exact h.tp i t f,h.nd⟩
def lc(a:Nat)(b L:List Ah)(k:Nat)(j:Nat):List Ah:=if j<k then A0 a L j else A0 a b j
structure FM(w:A4)(j:Ad)(D s d a l m:Nat)(f:Ah)(P:Pl)(q n:Nat)(o:Ap)(p:Int->List Nat)(T r L:List Ah)(t:Nat)(ga oa ca gk ck:Nat)(e:List Ah)(g:Ap)(h:Int->List Nat)(c:Ad)(k:Nat)(v:CX)(X:A4):Prop where
 i:Cw X c D s a l m f
 sd:SD X c s d P (q+3*k) n g h
 on:AN P p h
 dc:Cz g f T e (lc a r L k)
 fr:Fr (AE f T) (AE f e) o g
 sp:Ce g (t+k)
 tl:e.length=max T.length k
 st:Ab (EF 200) w j X c
 aB:X.ownsRow 0 165 2 v e.length (A5 e)
 hr:∀b,v.ownBlock=Bd b->c b=140
 al:Ai X 2 (Ax (Bd ⟨ga,oa,A3⟩) L.length ca) L.length (A5 L)
 ha:c ga=141
 ck:X.ownsRow w.heap.size 251 1 (Ax (Bd ⟨gk,0,A3⟩) (Bl a L.length) ck) (Bl a L.length) ((Ic a L.length (Bl a L.length)).map (JU ga oa))
 hk:c gk=0
theorem FM.lt{m:List Ah}{q r u gk v:Nat}{y:List Ah}{z:Ap}{A:Nat}
  (B:FM o Z e f g i j k b d n t c h p m a q E r u gk v y z w s A x Y)(C:a≠[]):E<Y.heap.size:=B.al.lt (λD=>C (by cases a with
  |nil=>rfl
  |cons F l=>simp[A5,Iw]at D)) E rfl
theorem FM.am{C:Nat->Prop}{u:List Ah}{v y z A gk B:Nat}{D:List Ah}{E:Ap}{F:Ad}{G:Nat}{H:A4}
  (l:FM Y Z e f g i j k b d n t c h p u a v y z A gk B D E w s G x o)(K:a≠[])(m:Ab C o s H F)(I:¬C 0)(L:¬C 1)(M:¬C 2)(N:¬C 3)(O:¬C 6)(P:¬C 140)(Q:¬C 141)(R:∀J,C J->EF 200 J):
  FM Y Z e f g i j k b d n t c h p u a v y z A gk B D E w F G x H:=
 ⟨l.i.ae m O,l.sd.ae m N M L I,l.on,l.dc,l.fr,l.sp,l.tl,l.st.trans (m.mono R),m.ak.aL l.aB (λr q=>by rw[l.hr r q];exact P),λr q=>by rw[m.ah _ (l.aB.lt r q).2];exact l.hr r q,
  m.aP l.al (λr q=>by cases q;rw[l.ha];exact Q),by rw[m.ah _ (l.lt K)];exact l.ha,m.ak.aL l.ck (λr q=>by cases q;rw[l.hk];exact I),by rw[m.ah _ (l.ck.lt gk rfl).2];exact l.hk⟩
theorem TX(a:Nat)(b L:List Ah)(i:Nat):lc a b L (i+1) i=A0 a L i:=ke Ω
theorem Tw(a:Nat)(b L:List Ah){i:Nat}(h:E≠i):lc a b L (i+1) E=lc a b L i E:=by
 unfold lc
 by_cases c:E<i
 ·rw[ke c,ke Ω]
 ·rw[j7 c,j7 Ω]
theorem FM.bT{A C:Nat}{D:Ah}{F:Ap}{T G:List Ah}{H I J K gk L:Nat}{M:Ap}{N:Int->List Nat}{P:Ad}{i Q:Nat}{X:A4}
  (k:FM o s n f g A t C D d e j F w T G p H I J K gk L a M N P i (Ax (Bd ⟨E,0,A3⟩) a.length Q) X)(hL:p≠[])(m:Ab (SS 106) X P Y Z)(sd:SD Y Z f g d (e+3*i+3) j c h)(on:AN d N h){t':Ah}(y:a[i]?=Bd b)(B:Fr [b.1] [t'.1] M c)
  (hn:c t'.1=Bd (t'.2,AQ (A0 A p i)))(am:i<T.length):
  (∃u0 u1,Y.cell? ⟨E,i*2,A3⟩=Bd u0/\Y.cell? ⟨E,i*2+1,A3⟩=Bd u1)/\(∀l,Y.frozen? ⟨E,l,A3⟩=Bs)/\∃v,((Y.setCell ⟨E,i*2,A3⟩ (O V (t'.1:Nat))).setCell ⟨E,i*2+1,A3⟩ (O V (t'.2:Nat)))=v/\
   FM o s n f g A t C D d e j F w T G p H I J K gk L (a.set i t') c h Z (i+1) (Ax (Bd ⟨E,0,A3⟩) (a.set i t').length Q) v:=by
 have z:∀l,l=0\/l=6\/106<=l->¬SS 106 l:=λl R=>by rintro(k|k)<;>omega
 have ae:=k.aB.lt E rfl;have af:=m.ak.aL k.aB (λr q=>by rw[k.hr r q];exact z _ Ω)
 have S:Z E=140:=by rw[m.ah _ ae.2];exact k.hr E rfl
 have ag:i<a.length:=(jX.1 y).1;obtain⟨hu,hz,v,hZ,ak,al⟩:=Pd af ag t';have x:Ab (λl=>l=140) Y Z v Z:=AG m.new al (λl u=>by rw[u];exact S);have U:=k.lt hL;have W:=k.ck.lt gk rfl;refine⟨hu,hz,v,hZ,?_⟩
 refine⟨(k.i.ae m (z _ Ω)).ae x Ω,?_,k.on.trans on,k.dc.hw y B (by rw[TX];exact hn) (λl _ R=>Tw _ _ _ R),k.fr.trans (Ul k.dc.nd y B),((k.sp.ee (by rw[k.dc.tp i b y];simp) B).mono Ω),by rw[lm,k.tl];omega,(k.st.trans (m.mono (λl u=>u.elim (λu=>DA Ω) (λu=>CR Ω)))).trans (x.mono (λl u=>CR Ω)),?_,λr q=>by cases q;exact S,
  x.aP (m.aP k.al (λr q=>by cases q;rw[k.ha];exact z _ Ω)) (λr q=>by cases q;rw[m.ah _ U,k.ha];omega),by rw[m.ah _ U];exact k.ha,x.ak.aL (m.ak.aL k.ck (λr q=>by cases q;rw[k.hk];exact z _ Ω)) (λr q=>by cases q;rw[m.ah _ W.2,k.hk];omega),by rw[m.ah _ W.2];exact k.hk⟩
 ·have:=sd.ae x Ω Ω Ω Ω;rw[show e+3*(i+1)=e+3*i+3 by omega];exact this
 ·rw[lm];exact ak
theorem FM.iI{F:A4}{G:Ad}{y:Nat}{H:Ap}{T z:List Ah}{I J K L gk M:Nat}{N:Ap}{O:Int->List Nat}{A:Ad}{i:Nat}{v':CX}{C:A4}
  (l:FM F G k e f E n t b d g y H w T z a I J K L gk M p N O A i x Y)(W:a≠[])(m:Ab (λj=>SS 103 j\/j=142) Y A o Z)(X:SD o Z e f d (g+3*i+2) y c h)(on:AN d O h){t':Ah}(P:Fr [] [t'.1] N c)
  (hn:c t'.1=Bd (t'.2,AQ (A0 E a i)))(ai:T.length<=i)(u:Ab (λj=>j=140) o Z C s)(ac:C.ownsRow 0 165 2 v' (p++[t']).length (A5 (p++[t'])))(ad:∀v,v'.ownBlock=Bd v->s v=140):
  FM F G k e f E n t b d g y H w T z a I J K L gk M (p++[t']) c h s (i+1) v' C:=by
 have D:∀j,j=0\/j=6\/j=140\/j=141->¬(SS 103 j\/j=142):=λj hj=>by rintro((l|l)|l)<;>omega
 have Q:=l.lt W;have R:=l.ck.lt gk rfl
 have S:p.length=i:=by rw[l.tl];omega
 have af:=l.dc.gE (c':=lc E z a (i+1)) (λj hj=>Tw _ _ _ Ω);obtain⟨d1,d2⟩:=af.dz P (by rw[S,TX];exact hn)
 have U:∀{B:Nat},B<Y.heap.size->s B=A B:=λV=>(u.ah _ (jY V m.size)).trans (m.ah _ V)
 refine⟨(l.i.ae m (D _ Ω)).ae u Ω,?_,l.on.trans on,d1,l.fr.trans d2,by rw[<-lw];exact l.sp.new P,by rw[jU,lr,S];omega,(l.st.trans (m.mono (λj q=>q.elim (λq=>q.elim (λq=>DA Ω) (λq=>CR Ω)) (λq=>CR Ω)))).trans (u.mono (λj q=>CR Ω)),ac,ad,
  u.aP (m.aP l.al (λv r=>by cases r;rw[l.ha];exact D _ Ω)) (λv r=>by cases r;rw[m.ah _ Q,l.ha];omega),by rw[U Q];exact l.ha,u.ak.aL (m.ak.aL l.ck (λv r=>by cases r;rw[l.hk];exact D _ Ω)) (λv r=>by cases r;rw[m.ah _ R.2,l.hk];omega),by rw[U R.2];exact l.hk⟩
 exact(X.ae u Ω Ω Ω Ω).mono Ω
def fZ(w:A4)(i:Ad)(D s d j k l:Nat)(m:Ah)(P:Pl)(q n:Nat)(o:Ap)(p:Int->List Nat)(T r:List Ah)(e:Ending)(a:A4):Prop:=
 e=Bx (O V 0)/\∃b c f g h,Ab (EF 200) w i a b/\Dl a b D s d j k l g P (q+1100) n c f h r/\AN P p f/\Fr (AE m T) (AE g h) o c
theorem bJ{w:A4}{col:Ad}{D s d per dp dep:Nat}{root:Ah}{P:Pl}{q gen:Nat}{pg:Ap}{ct:Int->List Nat}{T L0 L:List Ah}(hi:Cw w col D s per dp dep root)(hn:JX per dep)(hs:SD w col s d P q gen pg ct)(hc:Cz pg root T T (A0 per L0))(bL:1<=T.length)(hT:T.length<=Bl per (2^dep))(hL:L.length=2^dep)(bM:∀r∈L,Dx r)
  (hq:q<=1073740000)(n0:Nat)(bO:Ce pg n0)(cG:n0+Bl per (2^dep)<=P.bv+3)(bP:per=P.bi)(bQ:dep<=P.dp)
  (ta:Option CE)(tc S oa ca:Nat)(aK:w.ownsRow 0 165 2 (Ax ta T.length tc) T.length (A5 T))(bR:∀b,(Ax ta T.length tc).ownBlock=Bd b->col b=140)(bS:Ai w 2 (Ax (Bd ⟨S,oa,A3⟩) L.length ca) L.length (A5 L))(bT:col S=141)(bU:L.length<=ca):
  CL BL 273 #[Bk (Bd ⟨D,0,A3⟩),Ax ta T.length tc,Ax (Bd ⟨S,oa,A3⟩) L.length ca] w (fZ w col D s d per dp dep root P q gen pg ct T L):=by
 have bf:=GN hn.d1
 have bV:L≠[]:=λe=>by rw[e]at hL;simp at hL;omega
 obtain⟨K,a⟩:=Ag (Bl per (2^dep))
 have bW:K<=256:=by rw[<-a];exact j8 (NE hn.p0 bf.1) bf.2
 obtain⟨N,hN⟩:=Ag L.length
 have bh:Bl per N=K:=by rw[<-hN,hL];exact a
 have bi:=Wf S oa per N ca hn.p0 (Ψ hn.p1) Ω Ω Ω w;rw[bh]at bi;have bX:=zh bi;have HI:=zh hi;have HN:=zh hn;have HS:=zh hs;have HC:=zh hc;have HT:=zh (show 1<=T.length/\T.length<=K from⟨bL,Ω⟩);have u:=zh (J hL (J bM (J bV (J hN bh))));have HQ:=zh hq;have a2:=zh (show Ce pg n0/\n0+K<=P.bv+3 from⟨bO,Ω⟩);have HP:=zh (J bP bQ);have HB:=zh (J bW (show N<=256 by omega));have bj:=zh (J aK bR);have b0:=zh (J bS (J bT bU));obtain⟨_,x1,_⟩:=hi.cells;obtain⟨TN,bk⟩:=Ag T.length;rw[hN];clear bf bV bW bh bi hi hn hs hc bL hT hL bM hq bO cG bP bQ aK bR bS bT bU a
 go_enter Tryz.func273,Tryz.ntmps273
 go_wp2_with fail;refine bX.o.mono ?_;rintro e w1 ⟨a1,c1,rfl,o1,g1⟩
 obtain⟨kb,rfl⟩:∃kb,a1=Bd ⟨kb,0,A3⟩:=by
  rcases o1.2 with⟨_,h0⟩|⟨kb,_,_,h,_⟩
  ·have:=HT.o;omega
  ·injection h with B _ _;exact⟨kb,B⟩
 have J1:FM w col D s d per dp dep root P q gen pg ct T L0 L n0 S oa ca kb c1 T pg ct col 0 (Ax ta T.length tc) w1:={
  i:=HI.o.grown g1
  sd:=HS.o.grown g1
  on:=AN.refl _ _
  dc:=HC.o.gE (λj _=>j7 Ω)
  fr:=Fr.refl _ _
  sp:=a2.o.1
  tl:=Ω
  st:=Ab.grown HS.o.cl g1
  aB:=AP bj.o.1 g1
  hr:=bj.o.2
  al:=b0.o.1.grown g1 Δ
  ha:=b0.o.2.1
  ck:=by rw[u.o.2.2.2.1,u.o.2.2.2.2];exact o1
  hk:=HS.o.cl kb (o1.lt kb rfl).1}
 have b4:=zh J1;have dd:=g1;have x1:=g1.cell x1 Δ;clear J1 o1 g1 bX bj HC HS;go_wp2_with fail
 go_loopg [19,1] K (λk i v wr=>i=O V (K - k:Nat)/\k<=K/\∃x b5 b6 c av cv,v=Ax av x.length cv/\FM w col D s d per dp dep root P q gen pg ct T L0 L n0 S oa ca kb c1 x b5 b6 c (K - k) (Ax av x.length cv) wr)
 case atStart=>exact⟨Δ,jS _,T,pg,ct,col,ta,tc,by rw[bk],by rw[lU];exact b4.o⟩
 case round=>
  obtain⟨rfl,hk,x,b5,b6,c,av,cv,rfl,E⟩:=hrel;have l:=zh E;clear E b4
  by_cases h0:gk=0
  ·subst h0;rw[mA]at l⊢;have hd:B8 ((K:Int)<(K:Int))=Bs:=Δ
   have F:x.length=K:=by rw[l.o.tl];have:=HT.o;omega
   have a6:=zh F;rw[F]
   have b7:Hd ((AQ x).length<=P.n - 19/\∀y∈x,Dx y):=zh (by
    refine⟨?_,λy hy=>?_⟩
    ·have h0:¬per<Bl per (2^dep):=λhc=>by
      have B:=(Gu HN.o.p0).1 hc;have M:2^dep<=P.cK:=lL Ω HP.o.2;have h3:=l.o.sd.a1.sq;rw[<-HP.o.1]at h3;omega
     have h4:12*P.bi<=P.n - 19:=ow _ _;rw[<-u.o.1,u.o.2.2.2.1,u.o.2.2.2.2]at h0;rw[Gv,F];rw[<-HP.o.1]at h4;omega
    ·obtain⟨j,E⟩:=mD hy
     exact l.o.sd.e6 (by have B:=HQ.o;have M:=HB.o.1;omega) (l.o.dc.tp j y E))
   obtain⟨U,_,_,_,r0,r1⟩:=l.o.i.cells;clear hk F;go_wp2_with fail;refine Dg (λW=>W.cell? ⟨D,0,A3⟩=Bd (Bk (Bd ⟨s,0,A3⟩))/\W.cell? ⟨D,4,A3⟩=Bd (O V (root.1:Nat))/\W.cell? ⟨D,5,A3⟩=Bd (O V (root.2:Nat))) [([0,1,2,3,4,5,6,7,8,9],10,B2),([],11,B2),([12,13,14,15,16],17,Bs),([],18,Bs)] Φ Φ ?_;obtain⟨w9,aj,f⟩:=AZ wr;rw[aj];refine BU ⟨f.cell U Δ,f.cell r0 Δ,f.cell r1 Δ⟩ ?_;clear aj
   repeat(apply AB rfl Θ;(· intro wS g;(try have g:=g rfl);(try dsimp only at g);(try have k0:=g.1);(try have k1:=g.2.1);(try have k2:=g.2.2);go_simp;(try with_reducible rfl));refine Ak ?_)
   refine Aj ?_;refine AH rfl (λp a=>?_);go_simp;have X:=IP x av cv w9 ((Ai.aj l.o.aB).grown f Δ) (by rw[a6.o];exact HB.o.1) b7.o.2;rw[a6.o]at X;refine X.mono ?_;clear X;rintro e wB ⟨aO,cB,rfl,oB,A⟩;dsimp only;have sB:Ab (λj=>j=300) wr c wB c:=Ab.grown l.o.st.new (Ae f A);have o:=zh (l.o.am u.o.2.2.1 (C:=λ_=>False) (Ab.grown l.o.st.new (Ae f A)) (λh=>h) (λh=>h) (λh=>h) (λh=>h) (λh=>h) (λh=>h) (λh=>h) (λ_ h=>h.elim));have PB:=zh (IM o.o.st.new oB l.o.st.new f.size);refine a _ _ ⟨λ_=>⟨A.cell (f.cell U Δ) Δ,A.cell (f.cell r0 Δ) Δ,A.cell (f.cell r1 Δ) Δ⟩,?_⟩;clear a p U r0 r1 oB f A sB;refine Ak ?_;refine BG ?_;refine AH rfl (λp a=>?_);go_simp;have bn:=o.o.dc.rt;refine(Ju o.o.sd (by have B:=HQ.o;have M:=HB.o.1;omega) (o.o.sp.mono (Ψ a2.o.2)) root.1 root.2 (by rw[bn];simp) aO cB (AQ x) b7.o.1 PB.o).mono ?_;rintro e wC ⟨Q,rfl,b8,ad,aQ,bo,z,G,H,an,ap⟩;dsimp only
   have Y:∀j,j=0\/j=6\/106<=j->¬SS 106 j:=λj E=>by rintro(h|h)<;>omega
   have iC:=o.o.i.ae z (Y _ Ω);have ah:=zh (J iC.cells.1 (J iC.cells.2.2.2.2.1 iC.cells.2.2.2.2.2));refine a _ _ ⟨λ_=>ah.o,?_⟩;have IC:=zh iC;have SC:=zh z;have FC:=zh (J G (J H (J an ap)));clear a p z G H an ap iC Y PB;refine Ak ?_;refine BU ah.o ?_
   repeat(apply AB rfl Θ;(· intro wS g;(try have g:=g rfl);(try dsimp only at g);go_simp;(try with_reducible rfl));refine Ak ?_)
   refine Aj ?_;refine AH rfl (λp a=>?_);obtain⟨wD,bq,bD,tD⟩:=OF IC.o.u (O V Q) (O V gen);have f4:=IC.o.u.v 4;have f5:=IC.o.u.v 5;have y4:=IC.o.u.m 4;have y5:=IC.o.u.m 5;have HD:=zh (J bD tD);clear bD tD;go_simp;refine a _ _ ⟨λhf=>(by cases hf),?_⟩;clear a p f4 f5 y4 y5 bq ah;refine Ak ?_;refine BG ?_;refine AH rfl (λp a=>?_);go_simp;refine a _ _ ⟨λhf=>(by cases hf),?_⟩;clear a p;refine Ak ?_;refine Di (Bn ?_);have sD:Ab (λj=>j=6) wC ad wD ad:=AG SC.o.new HD.o.2 (λj e=>by rw[e];exact IC.o.c0);have b9:=zh sD;clear sD;go_wp2_with fail;obtain⟨G,H,an,ap⟩:=FC.o;have aU:=o.o;have aV:Hd (∀j,j<x.length->A0 per L j=lc per L0 L K j):=zh (λj E=>by unfold lc;rw[ke (by rw[a6.o]at E;exact E)]);refine BR (BX rfl _ _ _) rfl ⟨rfl,ad,bo,aQ,(Q,gen),x,?_,⟨⟨HD.o.1,IC.o.c0⟩,HN.o,⟨u.o.1,?_,(aU.dc.gE (λj E=>aV.o j E)).dA an ap⟩,?_,u.o.2.1⟩,aU.on.trans H,aU.fr.trans (TZ aU.dc.nd an)⟩
   ·exact(aU.st.trans (SC.o.mono (λj e=>e.elim (λe=>DA Ω) (λe=>CR Ω)))).trans (b9.o.mono KZ)
   ·rw[a6.o, <-u.o.1,u.o.2.2.2.1,u.o.2.2.2.2]
   ·exact(G.ae b9.o Ω Ω Ω Ω).mono (Ψ HB.o.1)
  ·obtain⟨i,hi⟩:=Ag (K - gk);rw[hi]at l⊢;have br:i<K:=Ω;have hd:B8 ((i:Int)<(K:Int))=B2:=jT Ω;obtain⟨pn,aW⟩:=Ag ((Gj per N i).n)
   have cW:i*per<N:=by rw[<-Gu HN.o.p0,u.o.2.2.2.2];exact br
   have aF:=eO (per:=per) (i:=i) l.o.al (by rw[u.o.2.2.2.1];omega);unfold JU at aF;rw[u.o.2.2.2.1,aW]at aF
   replace aF:Ai wr 2 (Ax (Bd ⟨S,oa+per*i*2,A3⟩) pn pn) pn (A5 (A0 per L i)):=aF
   have bs:(A0 per L i).length=pn:=by rw[Jv,u.o.2.2.2.1, <-aW];show _=min per (N - per*i);rw[lM]
   have y0:wr.cell? ⟨kb,i,A3⟩=Bd (Ax (Bd ⟨S,oa+per*i*2,A3⟩) pn pn):=by
    have cb:=l.o.ck;rw[u.o.2.2.2.1,u.o.2.2.2.2]at cb;obtain⟨sp,I,_⟩:=MH cb
    have hl:((Ic per N K).map (JU S oa)).length=K:=by rw[mH,Ic,GU]
    rw[I.cell?,lj (by rw[hl];exact br),lB,show(Ic per N K)[i]?=Bd (Gj per N i) by simp[Ic,Cx,br]];show Bd (Ax _ (Gj per N i).n (Gj per N i).n)=_;rw[aW];rfl
   have cc:∀y∈A0 per L i,Dx y:=Mz u.o.2.1;have af:=zh (J aF (J bs cc))
   have cY:pn<=per:=by rw[<-aW];exact oZ _ _
   have cd:(AQ (A0 per L i)).length<=P.n - 19:=by
    rw[Gv,bs];have M:12*P.bi<=P.n - 19:=ow _ _;rw[<-HP.o.1]at M;omega
   have a9:=zh (show(AQ (A0 per L i)).length<=P.n - 19/\pn<=256 from⟨cd,Ψ HN.o.p1⟩);have R:Hd (i+1=K - (gk - 1)/\gk - 1<=K/\gk - 1<gk/\i<256):=zh (Ψ HB.o);have ce:Hd (wrap64 ((i:Int)+1)=((i+1:Nat):Int)):=zh (De rfl (Ψ R.o.2.2.2));have U:=l.o.i.cells.1;clear aF bs cc cY cd hi hk h0 aW cW
   by_cases bt:i<TN
   ·have F:x.length=TN:=by rw[l.o.tl];omega
    obtain⟨t,ht⟩:∃t,x[i]?=Bd t:=⟨_,jW (by rw[F];exact bt)⟩
    obtain⟨gt,rfl⟩:∃gt,av=Bd ⟨gt,0,A3⟩:=by
     rcases l.o.aB.2 with⟨_,h0⟩|⟨gt,_,_,h,_⟩
     ·omega
     ·injection h with B _ _;exact⟨gt,B⟩
    obtain⟨z0,z1⟩:=MD l.o.aB ht;have d2:B8 ((i:Int)<(TN:Int))=B2:=jT Ω;have df:B8 (i<TN)=B2:=jT bt;have ab:=zh (J F ht);rw[F];clear F ht;go_wp2_with fail;refine Dg (λW=>W.cell? ⟨D,0,A3⟩=Bd (Bk (Bd ⟨s,0,A3⟩))/\W.cell? ⟨gt,i*2,A3⟩=Bd (O V (t.1:Nat))/\W.cell? ⟨gt,i*2+1,A3⟩=Bd (O V (t.2:Nat))) [([0,1,2,3,4,5,6,7,8,9,10],11,B2),([],12,B2),([13,14,15,16],17,Bs),([],18,Bs)] Φ Φ ?_;obtain⟨w9,aj,f⟩:=AZ wr;rw[aj];refine BU ⟨f.cell U Δ,f.cell z0 Δ,f.cell z1 Δ⟩ ?_;clear aj
    repeat(apply AB rfl Θ;(· intro wS g;(try have g:=g rfl);(try dsimp only at g);(try have k0:=g.1);(try have k1:=g.2.1);(try have k2:=g.2.2);go_simp;(try with_reducible rfl));refine Ak ?_)
    refine Aj ?_;refine AH rfl (λp a=>?_);go_simp;have X:=IP (A0 per L i) (Bd ⟨S,oa+per*i*2,A3⟩) pn w9 (by rw[af.o.2.1];exact af.o.1.grown f Δ) (by rw[af.o.2.1];exact a9.o.2) af.o.2.2;rw[af.o.2.1]at X;refine X.mono ?_;clear X;rintro e wB ⟨aO,cB,rfl,oB,A⟩;dsimp only;have o:=zh (l.o.am u.o.2.2.1 (C:=λ_=>False) (Ab.grown l.o.st.new (Ae f A)) (λh=>h) (λh=>h) (λh=>h) (λh=>h) (λh=>h) (λh=>h) (λh=>h) (λ_ h=>h.elim));have PB:=zh (IM o.o.st.new oB l.o.st.new f.size);refine a _ _ ⟨λ_=>⟨A.cell (f.cell U Δ) Δ,A.cell (f.cell z0 Δ) Δ,A.cell (f.cell z1 Δ) Δ⟩,?_⟩;clear a p U z0 z1 oB f A;refine Ak ?_;refine BG ?_;refine AH rfl (λp a=>?_);go_simp;have bn:=o.o.dc.tp i t ab.o.2;refine(Ju o.o.sd (by have B:=HQ.o;have M:=R.o.2.2.2;omega) (o.o.sp.mono (Ψ a2.o.2)) t.1 t.2 (by rw[bn];simp) aO cB (AQ (A0 per L i)) a9.o.1 PB.o).mono ?_;rintro e wC ⟨Q,rfl,b8,ad,aQ,bo,z,G,H,an,ap⟩;dsimp only;have hC:=o.o.bT u.o.2.2.1 z G H (t':=(Q,gen)) ab.o.2 an ap (by rw[bk];exact bt)
    have Y:∀j,j=0\/j=6\/106<=j->¬SS 106 j:=λj E=>by rintro(h|h)<;>omega
    have aK:=z.ak.aL o.o.aB (λb I=>by rw[o.o.hr b I];exact Y _ Ω);obtain⟨x5,x6⟩:=MD aK ab.o.2;have ah:=zh (J (o.o.i.ae z (Y _ Ω)).cells.1 (J x5 x6));refine a _ _ ⟨λ_=>ah.o,?_⟩;clear a p z G H an ap Y PB aK x5 x6;refine Ak ?_;refine BU ah.o ?_
    repeat(apply AB rfl Θ;(· intro wS g;(try have g:=g rfl);(try dsimp only at g);go_simp;(try with_reducible rfl));refine Ak ?_)
    refine Aj ?_;refine AH rfl (λp a=>?_);obtain⟨⟨u0,u1,c2,c3⟩,fz,Z,hZ,jZ⟩:=hC;have f0:=fz (i*2);have f1:=fz (i*2+1);have HZ:=zh jZ;clear jZ fz;go_simp;refine a _ _ ⟨λhf=>(by cases hf),?_⟩;clear a p f0 f1 c2 c3 hZ;refine Ak ?_;refine BG ?_;refine AH rfl (λp a=>?_);go_simp;refine a _ _ ⟨λhf=>(by cases hf),?_⟩;clear a p;refine Ak ?_;refine Di (Bn ?_);go_wp2_with fail
    go_roundg (gk - 1)
    case measure=>exact R.o.2.2.1
    exact⟨by rw[<-R.o.1,ce.o],R.o.2.1,x.set i (Q,gen),bo,aQ,ad,Bd ⟨gt,0,A3⟩,cv,by rw[lm,ab.o.1],by rw[<-R.o.1];exact HZ.o⟩
   ·have F:x.length=i:=by rw[l.o.tl];omega
    have d2:B8 ((i:Int)<(i:Int))=Bs:=Δ;obtain⟨wa,dg,bA,ba⟩:=Aq wr 165 [O V 0,O V 0];have U:=((l.o.i).grown bA).cells.1;have BA:=zh ba;have GA:=zh bA;have ab:=zh F;rw[F];clear F ba bA;go_wp2_with fail;refine Dg (λW=>W.cell? ⟨D,0,A3⟩=Bd (Bk (Bd ⟨s,0,A3⟩))) [([0,1,2,3,4],5,B2),([],6,B2),([7,8,9],10,Bs),([],11,Bs)] Φ Φ ?_;obtain⟨w9,aj,f⟩:=AZ wa;rw[aj];refine BU (f.cell U Δ) ?_;clear aj
    repeat(apply AB rfl Θ;(· intro wS g;(try have g:=g rfl);(try dsimp only at g);go_simp;(try with_reducible rfl));refine Ak ?_)
    refine Aj ?_;refine AH rfl (λp a=>?_);go_simp;have X:=IP (A0 per L i) (Bd ⟨S,oa+per*i*2,A3⟩) pn w9 (by rw[af.o.2.1];exact(af.o.1.grown GA.o Δ).grown f Δ) (by rw[af.o.2.1];exact a9.o.2) af.o.2.2;rw[af.o.2.1]at X;refine X.mono ?_;clear X;rintro e wB ⟨aO,cB,rfl,oB,A⟩;dsimp only;obtain⟨cp,bc⟩:=Ag (AL c wr.heap.size 142)
    have sp:Ab (λj=>j=142) wr c wB cp:=by
     rw[<-bc];exact Cc l.o.st.new (Ae (Ae GA.o f) A) (jS _) (jY BA.o.lt (Ae f A).size) rfl
    have cl:cp wr.heap.size=142:=by rw[<-bc];exact AY _ _ _
    have o:=zh (l.o.am u.o.2.2.1 sp Ω Ω Ω Ω Ω Ω Ω (λj e=>CR Ω))
    have cm:Aw wa cp:=λj E=>by have:=BA.o.lt;rw[<-bc,Bg _ _ Ω];exact l.o.st.new j (j8 GA.o.size E)
    have PB:=zh (IM o.o.st.new oB cm f.size);have BB:=zh (BA.o.grown (Ae f A) Δ);have CB:=zh cl;refine a _ _ ⟨λ_=>A.cell (f.cell U Δ) Δ,?_⟩;clear a p U oB f A sp bc cl cm;refine Ak ?_;refine BG ?_;refine AH rfl (λp a=>?_);go_simp;refine(JD o.o.sd (by have B:=HQ.o;have M:=R.o.2.2.2;omega) (o.o.sp.mono (Ψ a2.o.2)) aO cB (AQ (A0 per L i)) a9.o.1 PB.o).mono ?_;rintro e wC ⟨Q,rfl,aX,b8,ad,aQ,z,G,H⟩;dsimp only
    have Y:∀j,j=0\/j=6\/103<=j->¬SS 103 j:=λj E=>by rintro(h|h)<;>omega
    have ah:=zh (o.o.i.ae z (Y _ Ω)).cells.1;refine a _ _ ⟨λ_=>ah.o,?_⟩;have bC:=z.u BB.o (by rw[CB.o];exact Y _ Ω)
    have cC:ad wr.heap.size=142:=by rw[z.ah _ BB.o.lt];exact CB.o
    have cq:=z.ak.aL o.o.aB (λb I=>by rw[o.o.hr b I];exact Y _ Ω)
    have cr:∀b,(Ax av x.length cv).ownBlock=Bd b->ad b=140:=λb I=>by rw[z.ah _ (o.o.aB.lt b I).2];exact o.o.hr b I
    have BC:=zh (J bC cC);have RC:=zh (J cq cr);have SC:=zh (J z (J G (J H aX)));clear a p z G H aX Y PB BB CB bC cC cq cr;refine Ak ?_;refine BU ah.o ?_
    repeat(apply AB rfl Θ;(· intro wS g;(try have g:=g rfl);(try dsimp only at g);go_simp;(try with_reducible rfl));refine Ak ?_)
    refine Aj ?_;refine AH rfl (λp a=>?_);obtain⟨wD,bq,bD,tD⟩:=Ea BC.o.1 (O V Q) (O V gen);have f0:=BC.o.1.v 0;have f1:=BC.o.1.v 1;have c5:=BC.o.1.m 0;have c6:=BC.o.1.m 1;have HD:=zh (J bD tD);clear bD tD;go_simp;refine a _ _ ⟨λhf=>(by cases hf),?_⟩;clear a p f0 f1 c5 c6 bq;refine Ak ?_;refine BG ?_;refine AH rfl (λp a=>?_);go_simp;refine a _ _ ⟨λhf=>(by cases hf),?_⟩;clear a p;refine Ak ?_;refine Di (Bn ?_);obtain⟨wE,dh,gE,bE⟩:=Aq wD 165 [O V Q,O V gen];have z0:=HD.o.1.m 0;have z1:=HD.o.1.m 1;have sD:Ab (λj=>j=142) wC ad wE ad:=(AG SC.o.1.new HD.o.2 (λj e=>by rw[e];exact BC.o.2)).trans (Ab.grown (Aw.ak SC.o.1.new HD.o.2) gE);have cw:=sD.ak.aL RC.o.1 (λb I=>by rw[RC.o.2 b I];omega);have RE:=zh cw;have SE:=zh sD;have BE:=zh bE;clear sD cw gE bE;go_wp2_with (at_builtin;refine Lz rfl _ _ rfl 0 (n:=i) (xs:=x) ab.o rfl (by rw[<-ab.o];exact RE.o) (m:=1) (ys:=[(Q,gen)]) rfl rfl (Ai.bn BE.o rfl (by unfold C8;omega)) (Ψ R.o.2.2.2) (kN _) ?_;intro a8 c8 w8 B M h3;have H8:=zh (J B (J M h3));clear B M h3);obtain⟨B,M,h3⟩:=H8.o;obtain⟨z,G,H,aX⟩:=SC.o;have bH:=RE.o;rw[ab.o]at bH;have aV:=RC.o.1.lt;have bI:=RC.o.2;rw[ab.o]at aV bI;obtain⟨c9,s9,k9⟩:=MP (K:=140) SE.o.new bH (λb I=>by rw[SE.o.ah _ (aV b I).2];exact bI b I) M B h3;have HZ:=zh (o.o.iI u.o.2.2.1 ((z.mono (λ_ e=>DA e)).trans (SE.o.mono (λ_ e=>CR e))) (G.ae SE.o Ω Ω Ω Ω) H (t':=(Q,gen)) (Fr.new _ aX) (EP _ _ _) (by rw[bk];omega) s9 (v':=Ax a8 (i+1) c8) (by rw[jU,lr,ab.o];exact B) k9);clear B M h3 z G H aX bH aV bI s9 k9
    go_roundg (gk - 1)
    case measure=>exact R.o.2.2.1
    have cE:(x++[((Q,gen):Ah)]).length=i+1:=by rw[jU,lr,ab.o]
    exact⟨by rw[<-R.o.1,ce.o],R.o.2.1,x++[(Q,gen)],_,aQ,c9,a8,c8,by rw[cE],by rw[<-R.o.1,cE];exact HZ.o⟩
theorem NG{per:Nat}(h:E<=e):Bl per E<=Bl per e:=Nat.div_le_div_right Ω
theorem cD(L:List Ah)(i:Nat)(r:Ah)(h:L[i]?=Bd r):CG (L.take i)++[r,r]=CG (L.take (i+1)):=by
 obtain⟨a,rfl⟩:=jX.1 h;unfold CG;rw[mz a,mu];rfl
theorem gM{w:A4}(T:TypeId)(r:Ah):∃a,w.alloc (.cells #[O V (r.1:Nat),O V (r.2:Nat),O V (r.1:Nat),O V (r.2:Nat)] T)=a/\w.grownBy a A3/\Aa a w.heap.size T (A5 [r,r]):=Aq w T (A5 [r,r])
theorem bW{per dep:Nat}(e:d.aU)(f:per=d.bi)(h:dep<d.dp):1+Bl per (2^dep)+2^dep+Bl per (2^(dep+1))<=d.bv+3:=by
 have i:=e.f9;have j:Bl per (2^dep)<=2^dep:=NE Ω nA;have g:2^(dep+1)<=d.cK:=lL Ω Ω;have k:=NG (per:=per) g
 have l:d.bv=1+Bl per d.cK+d.cK:=by rw[f];rfl
 have m:2^(dep+1)=2^dep*2:=mX ..;generalize Bl per (2^dep)=a at*;generalize Bl per (2^(dep+1))=b at*;generalize Bl per d.cK=c at*;omega
theorem Wo{q am:Nat}(t:Dl Y Z g j k e f E b d q am c h p a)(hq:q<=1073730000)(a0:Ce c (1+Bl e (2^E)+2^E))(an:e=d.bi)(a2:f=d.dp)(a3:E<f):
  CL BL 239 #[Bk (Bd ⟨g,0,A3⟩)] Y λA w'=>A=Bx (O V 0)/\∃a5 a6 a7 a9 T',Ab (EF 200) Y Z w' a5/\Dl w' a5 g j k e f (E+1) a9 d (q+2000) am a6 a7 T' (CG a)/\AN d h a7/\Fr (AE b p) (AE a9 T') c a6:=by
 have bc:=bW (per:=e) (dep:=E) t.s.a1 an Ω
 have h8:E+1<=8:=by have:=t.s.a1.e5;omega
 have bd:2^(E+1)=2^E*2:=mX ..;have be:=(GN h8).2
 have bf:1<=p.length:=by
  have S:0<p.length:=by rw[t.l.df,Gu t.n.p0,ox];exact nm _
  exact S
 have bg:p.length<=Bl e (2^(E+1)):=by rw[t.l.df];exact NG Ω
 have H:=zh t;have HQ:=zh hq;have bT:=zh a0;have HR:=zh bc;have HP:=zh (J an a2);have HT:=zh (J bf bg);have H8:=zh (J h8 (J bd be));have d0:B8 ((f:Int)<=(E:Int))=Bs:=jV Ω;have bX:B8 (f<=E)=Bs:=jV Ω;have bY:=zh a3;obtain⟨N,hN⟩:=Ag a.length
 have au:N=2^E:=by rw[<-hN];exact t.l.aF
 have F:=zh (J hN au);have av:=zh (show 1<=N/\N<=128 from⟨by rw[au];exact nA,Ω⟩);obtain⟨_,_,x2,x3,_⟩:=t.i.cells;have e2:=AV x2;have e3:=AV x3;clear t hq a0 bc h8 bd be bf bg an a2 a3 hN au
 go_enter Tryz.func239,Tryz.ntmps239
 go_wp2_with fail;refine CU Φ Φ ?_
 repeat(go_big_quiet_step (fail))
 refine CV ?_;rintro _ ⟨gg,rfl⟩;have g0:=CY gg;generalize gw gg=w0 at*;clear e2 e3 x2 x3 gg;have H0:=zh (H.o.ae (C:=λ_=>False) (Ab.grown H.o.s.cl g0) (λt=>t) (H.o.s.grown g0));have G0:=zh g0;clear g0;go_wp2_with fail;refine(H0.o.dA (Ψ HQ.o) 140 Ω).mono ?_;rintro A w1 ⟨a1,c1,rfl,o1,cs,ct,s1,bm,bn,z1⟩;have F1:=zh (H0.o.ae s1 (by rintro(t|t)<;>omega) bm);have T:=zh (J o1 z1);have S1:=zh ((Ab.grown (C:=EF 200) H.o.s.cl G0.o).trans (s1.mono (Nd Ω)));have N1:=zh bn;clear o1 z1 s1 bm bn d0 bX;go_wp2_with fail;refine(aV F1.o (Ψ HQ.o) 131 Ω).mono ?_;rintro A w2 ⟨cu,c2,rfl,o2,ai,b3,U,bs,bt,z2⟩
 have aC:∀u,u=0\/u=6\/132<=u->¬SS (131+1) u:=λu hj=>by rintro(t|t)<;>omega
 have F2:=zh (F1.o.ae U (aC _ Ω) bs);have G:=zh (show w2.ownsRow w0.heap.size 165 2 (Ax a1 p.length c1) p.length (A5 p)/\∀l,(Ax a1 p.length c1).ownBlock=Bd l->ai l=140 from⟨U.ak.aL T.o.1 (λl s=>by rw[T.o.2 l s];exact aC _ Ω),λl s=>by rw[U.ah _ (T.o.1.lt l s).2];exact T.o.2 l s⟩);have A2:=zh (J o2 z2);have S2:=zh (S1.o.trans (U.mono (Nd Ω)));have N2:=zh (N1.o.trans bt);clear aC U bs bt o2 z2 F1 T S1 N1;rw[F.o.1]at A2⊢;obtain⟨TN,aF⟩:=Ag p.length;have aG:=zh aF;rw[aF]at G⊢;clear aF;go_wp2_with fail
 go_loopg [40,6] N (λI i v wr=>i=O V (N - I:Nat)/\I<=N/\∃X W cv B,v=Ax W X cv/\X=2*(N - I)/\Ab (λu=>u=141) w2 ai wr B/\wr.ownsRow Y.heap.size 165 2 (Ax W X cv) X (A5 (CG (a.take (N - I))))/\∀l,(Ax W X cv).ownBlock=Bd l->B l=141)
 case atStart=>exact⟨Δ,jS _,0,A3,0,ai,rfl,Δ,Ab.refl F2.o.s.cl,by rw[lU];exact C1 _ _ _ _,λl s=>by simp[C7]at s⟩
 case round=>
  obtain⟨rfl,hk,X,W,cv,B,rfl,P,aH,aI,hc⟩:=hrel;have w:=zh aH;have L:=zh aI;have HC:=zh hc
  by_cases S:gk=0
  ·subst S;rw[mA]at P L⊢;rw[lF (by rw[F.o.1];exact jS _)]at L;have hd:B8 ((N:Int)<(N:Int))=Bs:=Δ;have iW:=F2.o.i.ae w.o Ω;have x3:=iW.cells.2.2.2.1;have f3:=iW.u.v 3;have HI:=zh iW;have HX:=zh P;have b7:wrap64 ((E:Int)+1)=((E+1:Nat):Int):=De rfl (Ψ H8.o.1);obtain⟨wE,aM⟩:=Ag (wr.setCell ⟨g,3,A3⟩ (O V ((E:Int)+1)));have bE:=iW.u.setCell 3 (O V ((E:Int)+1));rw[aM]at bE;simp only[ku,kM]at bE;rw[show(E:Int)+1=((E+1:Nat):Int) by omega]at bE
   have tE:Ac (λI=>I=g) wr wE:=by rw[<-aM];exact AF _ _ _ _
   have BE:=zh bE;have TE:=zh tE;clear hk P aH aI hc iW bE tE;go_wp2_with fail;have sE:Ab (λu=>u=6) wr B wE B:=AG w.o.new TE.o (λI A=>by rw[A];exact HI.o.c0)
   have aj:(CG a).length=X:=by rw[ML,F.o.1,HX.o];omega
   obtain⟨x,rfl⟩:∃x,W=Bd ⟨x,0,A3⟩:=by
    rcases L.o.2 with⟨_,S⟩|⟨x,_,_,t,_⟩
    ·have z:=av.o.1;have Q:=HX.o;omega
    ·injection t with z _ _;exact⟨x,z⟩
   obtain⟨_,_,_,bB,_⟩:=MH L.o;have bC:=sE.ak.aL L.o (λl s=>by rw[HC.o l s];omega);have bD:B x=141:=HC.o x rfl;have bF:=sE.ak.aL (w.o.ak.aL G.o.1 (λl s=>by rw[G.o.2 l s];omega)) (λl s=>by rw[w.o.ah _ (G.o.1.lt l s).2,G.o.2 l s];omega)
   have aN:=bJ (w:=wE) (col:=B) (T:=p) (L0:=a) (L:=CG a) (dep:=E+1) (ct:=b3) (pg:=c) (q:=q+1+300) (gen:=am) (P:=d) (s:=j) (d:=k) (D:=g) (per:=e) (dp:=f) (root:=b) ⟨BE.o,HI.o.c0⟩ ⟨H.o.n.p0,H.o.n.p1,H8.o.1⟩ ((F2.o.s.ae w.o Ω Ω Ω Ω).ae sE Ω Ω Ω Ω) H.o.l.c HT.o.1 HT.o.2 (by rw[ML,F.o.1,F.o.2,H8.o.2.1]) (λy hy=>by
     obtain⟨r,hr,hy⟩:=oF.1 hy
     have:y=r:=by simpa using hy
     rw[this]
     exact H.o.ok r hr) (Ψ HQ.o) (1+Bl e (2^E)+2^E) bT.o HR.o HP.o.1 (by rw[<-HP.o.2];exact bY.o) a1 c1 x 0 cv (by rw[aG.o];exact BQ bF (kN _)) (λl s=>by rw[aG.o]at s;rw[w.o.ah _ (G.o.1.lt l s).2];exact G.o.2 l s) (by rw[aj];exact Ai.aj bC) bD (by rw[aj];exact bB)
   rw[aG.o,aj]at aN;refine aN.mono ?_;rintro A w9 ⟨rfl,cb,cc,cd,ce,T9,M,D,ak,al⟩;have F9:=zh (J M (J D (J ak al)));have SE:=zh (((S2.o.trans (w.o.mono (λu A=>CR Ω))).trans (sE.mono KZ)).trans M);clear aN M D ak al sE bC bF bD bB aj aM x3 f3 b7;go_wp2_with fail;obtain⟨M,D,ak,al⟩:=F9.o;exact BR (BX rfl _ _ _) rfl ⟨rfl,cb,cc,cd,ce,T9,SE.o,⟨D.i,D.n,D.l,D.s.mono Ω,D.ok⟩,N2.o.trans ak,al⟩
  ·obtain⟨i,hi⟩:=Ag (N - gk);rw[hi]at P L⊢;have ci:i<N:=Ω;have hd:B8 ((i:Int)<(N:Int))=B2:=jT Ω;obtain⟨r,aP⟩:∃r,a[i]?=Bd r:=⟨_,jW (by rw[F.o.1];exact ci)⟩;have bH:=w.o.aP (Ai.aj A2.o.1) (λl s=>by rw[A2.o.2 l s];omega);obtain⟨l,o,rfl,aQ⟩:=bH.aZ Ω;obtain⟨e0,e1⟩:=KB aP;have y0:=aQ _ _ e0;have y1:=aQ _ _ e1;simp only[<-lw]at y1;obtain⟨wa,cC,x,R⟩:=Aq wr 165 [O V 0,O V 0];obtain⟨wb,cE,bb,tb⟩:=Ea R (O V r.1) (O V r.2);have f0:=R.v 0;have f1:=R.v 1;have v0:=R.m 0;have v1:=R.m 1;have x0:=bb.m 0;have x1:=bb.m 1;have gb:=Ac.grown x tb (λu A=>by rw[A];exact jS _);obtain⟨wd,cL,gd,bO⟩:=gM (w:=wb) 165 r;have GD:=zh (Ae gb gd);have BD:=zh bO;have ae:Hd (i+1=N - (gk - 1)/\gk - 1<=N/\gk - 1<gk/\i<128):=zh (Ψ av.o);have cn:Hd (wrap64 ((i:Int)+1)=((i+1:Nat):Int)):=zh (De rfl (Ψ ae.o.2.2.2));have bP:=zh (AP L.o GD.o);have co:=zh (cD a i r aP)
   have bQ:(CG (a.take i)).length=X:=by rw[ML,kA,F.o.1,nJ Ω];omega
   have aT:=zh (show(CG (a.take i)).length=X/\X=2*i/\X<=256 from⟨bQ,P,Ψ av.o⟩);clear aH aI hc hi hk S P aQ bH e0 e1 aP x gb gd R bb bO tb bQ;go_wp2_with (at_builtin;refine Lz rfl _ _ rfl Y.heap.size (n:=X) (xs:=CG (a.take i)) aT.o.1 rfl bP.o (m:=2) (ys:=[r,r]) rfl rfl (Ai.bn BD.o rfl (by unfold C8;omega)) (Ψ aT.o.2.2) (j8 S2.o.size (j8 w.o.size GD.o.size)) ?_;intro a8 c8 w8 z Q h3;have cp:=zh (J z (J Q h3));clear z Q h3);obtain⟨z,Q,h3⟩:=cp.o;have sg:Ab (λu=>u=141) wr B wd B:=Ab.grown w.o.new GD.o;obtain⟨c9,M,k9⟩:=MP (K:=141) sg.new bP.o (λl s=>HC.o l s) Q z h3;rw[co.o]at z
   have HZ:=zh (show X+2=2*(i+1)/\Ab (λu=>u=141) w2 ai w8 c9/\w8.ownsRow Y.heap.size 165 2 (Ax a8 (X+2) c8) (X+2) (A5 (CG (a.take (i+1))))/\∀l,(Ax a8 (X+2) c8).ownBlock=Bd l->c9 l=141 from
    ⟨Ψ aT.o.2.1,(w.o.trans sg).trans M,z,k9⟩)
   clear z Q h3 sg M k9
   go_roundg (gk - 1)
   case measure=>exact ae.o.2.2.1
   exact⟨by rw[<-ae.o.1,cn.o],ae.o.2.1,X+2,a8,c8,c9,rfl,by rw[<-ae.o.1];exact HZ.o⟩
structure E3(w:A4)(a:Ad)(X D s b c d:Nat):Prop where
 u:Aa w X 163 [Bk (Bd ⟨s,0,A3⟩),Bk (Bd ⟨D,0,A3⟩),O V b,O V c,O V d]
 c0:a X=7
theorem E3.grown(h:E3 Y Z E e f g i j)(a:Y.grownBy o A3):E3 o Z E e f g i j:=⟨h.u.grown a Δ,h.c0⟩
theorem E3.ae{C:Nat->Prop}(h:E3 Y Z E e f g i j)(k:Ab C Y Z o s)(a:¬C 7):E3 o s E e f g i j:=⟨k.u h.u (by rw[h.c0];exact a),by rw[k.ah _ h.u.lt];exact h.c0⟩
theorem E3.cells(h:E3 Y Z E e f g i j):
  Y.cell? ⟨E,0,A3⟩=Bd (Bk (Bd ⟨f,0,A3⟩))/\Y.cell? ⟨E,1,A3⟩=Bd (Bk (Bd ⟨e,0,A3⟩))/\Y.cell? ⟨E,2,A3⟩=Bd (O V g)/\Y.cell? ⟨E,3,A3⟩=Bd (O V i)/\Y.cell? ⟨E,4,A3⟩=Bd (O V j):=
 ⟨h.u.m 0,h.u.m 1,h.u.m 2,h.u.m 3,h.u.m 4⟩
def EY(w:A4)(e:Ad)(a:Option CE)(c:Nat)(d:List Af):Prop:=Ai w 4 (Ax a d.length c) d.length (Av d)/\∀b,(Ax a d.length c).ownBlock=Bd b->e b=0/\b<w.heap.size
theorem EY.ae{C:Nat->Prop}(h:EY Y Z l E r)(k:Ab C Y Z o s)(c:¬C 0):EY o s l E r:=
 ⟨k.aP h.1 (λb a=>by rw[(h.2 b a).1];exact c),λb a=>⟨by rw[k.ah _ (h.2 b a).2];exact(h.2 b a).1,jY (h.2 b a).2 k.size⟩⟩
theorem EY.grown(h:EY Y Z l E r)(g:Y.grownBy o A3):EY o Z l E r:=
 ⟨h.1.grown g Δ,λb a=>⟨(h.2 b a).1,jY (h.2 b a).2 g.size⟩⟩
abbrev UP(b:Au)(a:Option CE)(c:Nat):CX:=.agg #[O V b.d,O V b.p,Ax a b.es.length c]
abbrev MZ(r:Ah)(b:Au)(a:Option CE)(c:Nat):CX:=.agg #[O V r.1,O V r.2,O V b.d,O V b.p,Ax a b.es.length c]
theorem Au.ok.bO(h:y.ok E):uD y.ld E=y.d/\uP y.ld E=y.p/\uE y.ld E=y.es/\Lh y.ld E=0:=by
 obtain⟨a,b,c,d⟩:=Ot h;unfold uD uP uE Lh;refine⟨(ke a).trans b,(ke a).trans c,(ke a).trans d,ke a⟩
abbrev Dz(n:Nat):Nat->Prop:=Sc (λj=>j=1\/j=2\/j=3\/j=6\/j=7) n
theorem Jb(h:E<=e):∀j,SS E j->Dz e j:=Sc.mono (λj a=>Ω) h
theorem Pw(h:E<=e):∀j,EF E j->Dz e j:=Sc.mono (λj a=>Ω) h
theorem Ra(h:E3 Y Z E e f i j k)(a:Cw Y Z e f n t g b):
  CL BL 46 #[Bk (Bd ⟨E,0,A3⟩)] Y λc d=>c=Bx (O V g)/\Y=d:=by
 obtain⟨_,m,_⟩:=h.cells;have l:=zh a;clear h a
 go_enter Tryz.func46,Tryz.ntmps46
 go_wp2_with fail;refine(Ko l.o).mono ?_;rintro c o ⟨rfl,rfl⟩;go_wp2_with fail;go_ret;exact⟨rfl,rfl⟩
theorem Wv(h:E3 Y Z E f g i j e):
  CL BL 51 #[Bk (Bd ⟨E,0,A3⟩)] Y λa b=>a=Bx (O V e)/\Y=b:=by
 obtain⟨_,_,_,_,c⟩:=h.cells;clear h
 go_enter Tryz.func51,Tryz.ntmps51
 go_wp2_with fail;go_ret;exact⟨rfl,rfl⟩
theorem aD(h:E3 Y Z E e f g i j)(m:Cw Y Z e f k n t b):
  CL BL 155 #[Bk (Bd ⟨E,0,A3⟩)] Y λc q=>c=Bx (Iz b)/\Y.grownBy q A3:=by
 obtain⟨A,B,d,o⟩:=Aq Y 165 [O V 0,O V 0];obtain⟨_,C,_⟩:=(h.grown d).cells;have r:=zh (m.grown d);have s:=zh o;have u:=zh d;clear h m o d
 go_enter Tryz.func155,Tryz.ntmps155
 go_wp2_with fail;refine(Yy r.o).mono ?_;rintro c D ⟨rfl,l⟩;have a:=s.o.grown l Δ;have F:=a.m 0;have G:=a.m 1;have H:=a.v 0;have I:=a.v 1;have v:=zh (Ae u.o l);have w:=zh a;clear l a;go_wp2_with fail;obtain⟨J,x,y,z⟩:=Ea w.o (O V b.1) (O V b.2);rw[x];exact BR (results_cell_row (p:=2) (ty:=165) rfl _ _ Y.heap.size _ _ _ _ rfl y nC rfl rfl) rfl ⟨rfl,Ac.grown v.o z (λK c=>by rw[c];exact jS _)⟩
theorem Zc(hx:E3 Y Z e j E d.ba k n)(B:SD Y Z E g d f i c h)(hq:f<=1073741700)(r:Ah)(b:Au)(hb:b.ok d.ba)(hp:c r.1=Bd (r.2,b.ld)):
  CL BL 167 #[Bk (Bd ⟨e,0,A3⟩),Iz r] Y λm P=>∃a ao,m=Bx (.tuple #[MZ r b a ao,O V 0])/\∃Q ap,Ab (SS 111) Y Z P Q/\SD P Q E g d (f+1) i c ap/\AN d h ap/\EY P Q a ao b.es:=by
 obtain⟨v,aU,g0,R⟩:=Aq Y 165 [O V r.1,O V r.2];obtain⟨w1,aW,S,b1⟩:=Aq v 209 [O V 0,O V 0,O V 0,O V 0,Ax A3 0 0];have y:=zh (J (R.grown S Δ) b1);have au:=zh R.lt;have G1:=zh (Ae g0 S);have HX:=zh hx;have H:=zh B;have HQ:=zh hq;have aw:=zh hb;have HP:=zh hp;clear hx B hq hb hp g0 S R b1
 go_enter Tryz.func167,Tryz.ntmps167
 go_wp2_with fail;clear aU;refine Dg (λW=>W.cell? ⟨e,0,A3⟩=Bd (Bk (Bd ⟨E,0,A3⟩))/\W.cell? ⟨Y.heap.size,0,A3⟩=Bd (O V (r.1:Nat))/\W.cell? ⟨Y.heap.size,1,A3⟩=Bd (O V (r.2:Nat))) [([0,1,2,3,4],5,Bs),([6,7,8,9],10,Bs)] Φ Φ ?_;obtain⟨w2,ax,s⟩:=AZ w1;rw[ax];have T:=Ae G1.o s;refine BU ⟨(HX.o.grown T).cells.1,(y.o.1.grown s Δ).m 0,(y.o.1.grown s Δ).m 1⟩ ?_;obtain⟨U,C⟩:=Ag (AL Z v.heap.size 110);have ay:Y.heap.size<=v.heap.size:=nQ au.o
 have X:Ab (λl=>l=110) Y Z w2 U:=by
  rw[<-C];exact Cc H.o.cl T ay (jY y.o.2.lt s.size) rfl
 have S2:=zh X;have D:Hd (U v.heap.size=110/\U Y.heap.size=0):=zh ⟨by rw[<-C];exact AY _ _ _,by rw[<-C,Bg _ _ (nP au.o)];exact H.o.cl _ (jS _)⟩;have H2:=zh (H.o.ae X Ω Ω Ω Ω);have F:=zh (J (y.o.1.grown s Δ) (y.o.2.grown s Δ));clear ax aW T s X C ay
 repeat(apply AB rfl Θ;(· intro wS t;(try have t:=t rfl);(try dsimp only at t);(try have k0:=t.1);(try have k1:=t.2.1);(try have k2:=t.2.2);go_simp;(try with_reducible rfl));refine Ak ?_)
 refine Aj ?_;refine AH rfl (λK' z=>?_);go_simp;refine(NZ H2.o (Ψ HQ.o) r.1 r.2 b.ld HP.o).mono ?_;rintro m w3 ⟨a3,c3,rfl,u,a7,w,aB,aC,p3⟩;dsimp only;refine z _ _ ⟨λhf=>(by cases hf),?_⟩;clear z K'
 have G:∀l,l=0\/l=7\/107<=l->¬SS 107 l:=λl hj=>by rintro(B|B)<;>omega
 have x:=zh aB;have N3:=zh aC;have P3:=zh p3;have S3:=zh ((S2.o.mono (λl m=>show SS 111 l from CR Ω)).trans (w.mono (EG Ω)));have ba:=zh ((HX.o.ae S2.o Ω).ae w (G _ Ω));have aF:=zh (J (w.u F.o.1 (by rw[D.o.2];exact G _ Ω)) (w.u F.o.2 (by rw[D.o.1];exact G _ Ω)));have C3:Hd (u v.heap.size=110):=zh (by rw[w.ah _ F.o.2.lt];exact D.o.1);clear w aB aC p3 G F S2 D H2;refine Ak ?_;refine LM Θ ?_
 repeat(apply AB rfl Θ;(· intro wS t;go_simp;(try with_reducible rfl));refine Ak ?_)
 refine Aj ?_;refine AH rfl (λK' z=>?_);go_simp;refine z _ _ ⟨λhf=>(by cases hf),?_⟩;clear z K';refine Ak ?_;refine Di (Bn ?_);have x2:=ba.o.cells.2.2.1
 have aH:b.ld.length<=700:=by have:=aw.o.bA;have:=x.o.a1.gC;rw[b.eZ];omega
 have aI:=Wr b.ld (d.ba:Nat) a3 c3 w3 aH P3.o.2.2 P3.o.1;have aJ:=zh aI;clear aI aH;go_wp2_with fail;refine aJ.o.mono ?_;rintro m w4 ⟨I,K,rfl,r4,g4,L⟩;obtain⟨e1,e2,e3,e4⟩:=aw.o.bO;rw[e1,e2,e3,e4];rw[e3]at r4 L;have ES:=zh (show EY w4 u I K b.es from⟨r4,λA hk=>⟨x.o.cl A (L A hk).1,(L A hk).2⟩⟩);obtain⟨w5,bi,g5,q⟩:=Aq w4 160 [O V 0,O V 0,Ax A3 0 0];obtain⟨w6,bj,M,t6⟩:=Br q (O V b.d) (O V b.p) (Ax I b.es.length K);have N:=Ae g4 (Ac.grown g5 t6 (λl m=>by rw[m];exact jS _));have f0:=q.v 0;have f1:=q.v 1;have f2:=q.v 2;have v0:=q.m 0;have v1:=q.m 1;have v2:=q.m 2;have x0:=M.m 0;have x1:=M.m 1;have bt:=M.m 2;have br:=aF.o.1.grown N Δ;have o:=aF.o.2.grown N Δ;have y0:=br.m 0;have y1:=br.m 1;have z0:=o.m 0;have z1:=o.m 1;have z2:=o.m 2;have z3:=o.m 3;have z4:=o.m 4;have k0:=o.v 0;have k1:=o.v 1;have k2:=o.v 2;have k3:=o.v 3;have k4:=o.v 4;obtain⟨w7,bE,b7,t7⟩:=FI o (O V r.1) (O V r.2) (O V b.d) (O V b.p) (Ax I b.es.length K);have B7:=zh (J b7 t7);have G6:=zh N;have be:=zh (ES.o.grown (Ac.grown g5 t6 (λl m=>by rw[m];exact jS _)));clear r4 g4 L e1 e2 e3 e4 g5 q M t6 N br o b7 t7 x2 aJ;go_wp2_with fail;have s7:Ab (λl=>l=110) w3 u w7 u:=(Ab.grown x.o.cl G6.o).trans (AG (Aw.grown x.o.cl G6.o) B7.o.2 (λA m=>by rw[m];exact C3.o));have s8:Ab (λl=>l=110) w6 u w7 u:=AG (Aw.grown x.o.cl G6.o) B7.o.2 (λA m=>by rw[m];exact C3.o);exact BR (DH (p:=4) (ty:=209) rfl _ _ v.heap.size _ _ _ _ rfl B7.o.1 C0 rfl rfl) rfl ⟨I,K,rfl,u,a7,S3.o.trans (s7.mono (λl m=>CR Ω)),x.o.ae s7 Ω Ω Ω Ω,N3.o,be.o.ae s8 Ω⟩
structure XS(w:A4)(a:Ad)(X D s d:Nat)(P:Pl)(b:Nat)(c:Ah)(q e:Nat)(f:Ap)(g:Int->List Nat)(T L:List Ah)(h:Nat):Prop where
 x:E3 w a X D s P.ba P.dp h
 d:Dl w a D s d P.bi P.dp b c P q e f g T L
 dd:b<=P.dp
theorem XS.ae{C:Nat->Prop}(l:XS o s g i E e d j b t f c w a p n)(m:Ab C o s Y Z)(q:¬C 7)(r:¬C 6)(u:SD Y Z E e d k f c h):XS Y Z g i E e d j b k f c h a p n:=
 ⟨l.x.ae m q,l.d.ae m r u,l.dd⟩
theorem XS.grown(l:XS Y Z E e f g d i b j k c h a p n)(m:Y.grownBy o A3):XS o Z E e f g d i b j k c h a p n:=
 l.ae (C:=λ_=>False) (Ab.grown l.d.s.cl m) (λl=>l) (λl=>l) (l.d.s.grown m)
theorem XS.mono(l:XS Y Z E e f g d i b j n c h a p t)(m:j<=k):XS Y Z E e f g d i b k n c h a p t:=
 ⟨l.x,⟨l.d.i,l.d.n,l.d.l,l.d.s.mono m,l.d.ok⟩,l.dd⟩
structure EK(w:A4)(e:Ad)(X D s d:Nat)(P:Pl)(f:Nat)(g:Ah)(q h:Nat)(i:Ap)(j:Int->List Nat)(T L:List Ah)(k:Nat)(a:Int->List Nat)(c:Ad)(W:A4):Prop where
 s:XS W c X D s d P f g q h i a T L k
 st:Ab (SS 123) w e W c
 on:AN P j a
 b:Aa W w.heap.size 209 [O V 0,O V 0,O V 0,O V 0,Ax A3 0 0]
 cb:c w.heap.size=120
theorem EK.aq(l:EK o Z E e f g d i b j k c h a p n w s Y):Y.cell? ⟨E,1,A3⟩=Bd (Bk (Bd ⟨e,0,A3⟩)):=l.s.x.cells.2.1
theorem EK.ae{C:Nat->Prop}{q:Int->List Nat}{r:Ad}{W:A4}(l:EK o s g i E e d j b t f c w a p n q r W)(m:Ab C W r Y Z)(v:¬C 7)(x:¬C 6)(y:¬C 120)(z:∀u,C u->SS 123 u)(A:SD Y Z E e d k f c h)(B:AN d q h):
  EK o s g i E e d j b k f c w a p n h Z Y:=
 ⟨l.s.ae m v x A,l.st.trans (m.mono z),l.on.trans B,m.u l.b (by rw[l.cb];exact y),by rw[m.ah _ l.b.lt];exact l.cb⟩
theorem EK.dB{m:A4}(l:EK m s E e f g d i b j k c h a p n w Z Y)(u:Y.grownBy o A3)(v:Y.heap.size<o.heap.size):
  ∃q,EK m s E e f g d i b j k c h a p n w q o/\q Y.heap.size=121:=
 have r:Ab (λt=>t=121) Y Z o (AL Z Y.heap.size 121):=Cc l.st.new u (jS _) v rfl
 ⟨_,l.ae r Ω Ω Ω (λt x=>CR Ω) (l.s.d.s.ae r Ω Ω Ω Ω) (AN.refl _ _),AY _ _ _⟩
theorem EK.gh{m:Int->List Nat}{q:Ad}{W:A4}(l:EK o s i j E e d k b f g c w a p n m q W)(r:Ab (SS 111) W q Y Z)(t:SD Y Z E e d (f+2) g c h)(u:AN d m h):
  EK o s i j E e d k b (f+2) g c w a p n h Z Y:=
 l.ae r (by rintro(l|l)<;>omega) (by rintro(l|l)<;>omega) (by rintro(l|l)<;>omega) (EG Ω) t u
theorem EK.bT{q:A4}(m:EK q s E e f g d i b j k c h a p n w Z Y)(v:Z t=121)(x:Ac (λl=>l=t) Y o):
  EK q s E e f g d i b j k c h a p n w Z o:=
 have r:Ab (λl=>l=121) Y Z o Z:=AG m.st.new x (λl u=>by rw[u];exact v)
 m.ae r Ω Ω Ω (λl u=>CR Ω) (m.s.d.s.ae r Ω Ω Ω Ω) (AN.refl _ _)
theorem OU{T:List Ah}(m:XS Y Z e g i j d E b f k c h T a n)(hx:Cj c d.ba E a q)(hq:f<=1073741600)(x:BitVec 64)(r:Ah)(hr:a[Ay x E]?=Bd r):
  CL BL 109 #[Bk (Bd ⟨e,0,A3⟩),O .u64 (U x)] Y λw X=>∃aL aM,w=Bx (.tuple #[MZ r (q (Ay x E)) aL aM,O V 0])/\∃ay aN,Ab (SS 123) Y Z X ay/\SD X ay i j d (f+3) k c aN/\AN d h aN/\EY X ay aL aM (q (Ay x E)).es:=by
 have h8:E<=8:=m.d.n.d1;have az:=zh (Ky x E Ω);have hi:Ay x E<2^E:=JL x E Ω;have aP:=zh (J (hx.ok _ hi) (hx.cZ _ r hr));obtain⟨w0,a1,g0,b0⟩:=Aq Y 209 [O V 0,O V 0,O V 0,O V 0,Ax A3 0 0];obtain⟨c0,aC⟩:=Ag (AL Z Y.heap.size 120)
 have s0:Ab (λR=>R=120) Y Z w0 c0:=by rw[<-aC];exact Cc m.d.s.cl g0 (jS _) b0.lt rfl
 have M0:=zh (show EK Y Z e g i j d E b f k c h T a n h c0 w0 from
  ⟨m.ae s0 Ω Ω (m.d.s.ae s0 Ω Ω Ω Ω),s0.mono (λR w=>CR Ω),AN.refl _ _,b0,by rw[<-aC];exact AY _ _ _⟩)
 have HQ:=zh hq;have HR:=zh hr;clear m hx hq hr h8 hi g0 b0 s0 aC
 go_enter Tryz.func109,Tryz.ntmps109
 go_upto_region 1 with fail
 go_cut [6,7] (λs6 S wx=>∃u cx aU,s6=Bk (Bd ⟨u,0,A3⟩)/\S=O V 0/\EK Y Z e g i j d E b (f+2) k c h T a n aU cx wx/\Aa wx u 165 [O V (r.1:Nat),O V (r.2:Nat)])
 case first=>
  clear a1;refine A7 (λW=>W.cell? ⟨e,1,A3⟩=Bd (Bk (Bd ⟨g,0,A3⟩))) (.bP [0,1,2,3,4,5,6,7,8] 9 B2 (.bP [] 10 B2 (.bP [] 11 Bs (.an [] [12,13,14] 15 B2 (.an [] [] 16 Bs (.an [] [] 17 Bs (.nil)))) 15 B2 (.an [] [] 11 Bs (.an [] [12,13,14] 16 Bs (.an [] [] 17 Bs (.nil))))) 15 B2 (.an [] [] 10 B2 (.an [] [] 11 Bs (.an [] [12,13,14] 16 Bs (.an [] [] 17 Bs (.nil)))))) 15 B2 (.an [] [] 9 B2 (.an [] [] 10 B2 (.an [] [] 11 Bs (.an [] [12,13,14] 16 Bs (.an [] [] 17 Bs (.nil))))))) Φ Φ ?_;obtain⟨w2,aV,g2⟩:=AZ w0;rw[aV];have D:=zh (M0.o.ae (C:=λ_=>False) (Ab.grown M0.o.st.new g2) (λm=>m) (λm=>m) (λm=>m) (λ_ m=>m.elim) (M0.o.s.d.s.grown g2) (AN.refl _ _));clear aV g2 M0;refine Ej D.o.aq ?_
  iterate 9 ((apply AB rfl Θ;(· intro wS an;(try have an:=an rfl);(try dsimp only at an);(try(have k0:=an));go_simp;(try with_reducible rfl)));refine Ak ?_)
  refine Aj ⟨?_,?_⟩
  ·refine Al ?_;intro K l;refine(Ko D.o.s.d.i).mono ?_;rintro w X ⟨rfl,rfl⟩;dsimp only;refine l _ _ ⟨_,λ_ m=>m,λ_=>D.o.aq,?_⟩;clear l K;refine Ak ?_;refine Ej D.o.aq ?_;refine Aj ⟨?_,?_⟩
   ·refine Al ?_;intro K l;refine(Kn x (E:Nat) _).mono ?_;rintro w X ⟨rfl,rfl⟩;rw[az.o];dsimp only;refine l _ _ ⟨_,λ_ m=>m,λ_=>D.o.aq,?_⟩;clear l K;refine Ak ?_;refine Ej D.o.aq ?_;refine Aj ⟨?_,?_⟩
    ·refine Al ?_;intro K l;refine(My D.o.s.d (Ψ HQ.o) (Ay x E) r HR.o).mono ?_;rintro w w4 ⟨rfl,c4,aE,v,G,H⟩;dsimp only;have M4:=zh (D.o.gh v G H);clear v G H;refine As l ?_;clear l K;refine Ar ?_
     iterate 3 refine Az ?_
     refine Aj ?_;refine Al ?_;intro K l;obtain⟨w3,I,L,y⟩:=Aq w4 165 [O V 0,O V 0];rw[I];obtain⟨c3,M,z⟩:=M4.o.dB L y.lt;have t:=zh M;have o:=zh (J y z);clear I L y M z;generalize w4.heap.size=u at*;refine l _ _ ⟨_,λ_ m=>m,λ_=>t.o.aq,?_⟩;clear l K;refine Ak ?_;refine Ar ?_;refine Aj ?_;obtain⟨w6,aI,N,P⟩:=Ea o.o.1 (O V r.1) (O V r.2);have f0:=o.o.1.v 0;have f1:=o.o.1.v 1;have y0:=o.o.1.m 0;have y1:=o.o.1.m 1;have A:=zh (t.o.bT o.o.2 P);have Q:=zh N;clear N P;refine Al ?_;intro K l;clear f0 f1 y0 y1;refine As l ?_;clear l K;refine Ar ?_;refine Aj ?_;refine Al ?_;intro K l;refine As l ?_;clear l K;refine AK (Bn ?_);go_wp2_with fail
     go_meet
     exact⟨u,_,_,rfl,rfl,A.o,Q.o⟩
    ·refine Al ?_;intro K l;obtain⟨w3,I,L,y⟩:=Aq w2 165 [O V 0,O V 0];rw[I];obtain⟨c3,M,z⟩:=D.o.dB L y.lt;have t:=zh M;have o:=zh (J y z);clear I L y M z;generalize w2.heap.size=u at*;refine l _ _ ⟨_,λ_ m=>m,λ_=>t.o.aq,?_⟩;clear l K;refine Ak ?_;refine Ar ?_;refine Aj ?_;refine Al ?_;intro K l;refine(My t.o.s.d (Ψ HQ.o) (Ay x E) r HR.o).mono ?_;rintro w w4 ⟨rfl,c4,aE,v,G,H⟩;dsimp only;have s:=zh (show Aa w4 u 165 [O V 0,O V 0]/\c4 u=121 from⟨v.u o.o.1 (by rw[o.o.2];rintro(m|m)<;>omega),by rw[v.ah _ o.o.1.lt];exact o.o.2⟩);have M4:=zh (t.o.gh v G H);clear v G H;refine As l ?_;clear l K;refine Ar ?_
     iterate 3 refine Az ?_
     refine Aj ?_;obtain⟨w6,aI,N,P⟩:=Ea s.o.1 (O V r.1) (O V r.2);have f0:=s.o.1.v 0;have f1:=s.o.1.v 1;have y0:=s.o.1.m 0;have y1:=s.o.1.m 1;have A:=zh (M4.o.bT s.o.2 P);have Q:=zh N;clear N P;refine Al ?_;intro K l;clear f0 f1 y0 y1;refine As l ?_;clear l K;refine Ar ?_;refine Aj ?_;refine Al ?_;intro K l;refine As l ?_;clear l K;refine AK (Bn ?_);go_wp2_with fail
     go_meet
     exact⟨u,_,_,rfl,rfl,A.o,Q.o⟩
   ·refine Al ?_;intro K l;obtain⟨w3,I,L,y⟩:=Aq w2 165 [O V 0,O V 0];rw[I];obtain⟨c3,M,z⟩:=D.o.dB L y.lt;have t:=zh M;have o:=zh (J y z);clear I L y M z;generalize w2.heap.size=u at*;refine l _ _ ⟨_,λ_ m=>m,λ_=>t.o.aq,?_⟩;clear l K;refine Ak ?_;refine Ar ?_;refine Aj ?_;refine Al ?_;intro K l;refine(Kn x (E:Nat) _).mono ?_;rintro w X ⟨rfl,rfl⟩;rw[az.o];dsimp only;refine l _ _ ⟨_,λ_ m=>m,λ_=>t.o.aq,?_⟩;clear l K;refine Ak ?_;refine Ar ?_;refine Aj ?_;refine Al ?_;intro K l;refine(My t.o.s.d (Ψ HQ.o) (Ay x E) r HR.o).mono ?_;rintro w w4 ⟨rfl,c4,aE,v,G,H⟩;dsimp only;have s:=zh (show Aa w4 u 165 [O V 0,O V 0]/\c4 u=121 from⟨v.u o.o.1 (by rw[o.o.2];rintro(m|m)<;>omega),by rw[v.ah _ o.o.1.lt];exact o.o.2⟩);have M4:=zh (t.o.gh v G H);clear v G H;refine As l ?_;clear l K;refine Ar ?_
    iterate 3 refine Az ?_
    refine Aj ?_;obtain⟨w6,aI,N,P⟩:=Ea s.o.1 (O V r.1) (O V r.2);have f0:=s.o.1.v 0;have f1:=s.o.1.v 1;have y0:=s.o.1.m 0;have y1:=s.o.1.m 1;have A:=zh (M4.o.bT s.o.2 P);have Q:=zh N;clear N P;refine Al ?_;intro K l;clear f0 f1 y0 y1;refine As l ?_;clear l K;refine Ar ?_;refine Aj ?_;refine Al ?_;intro K l;refine As l ?_;clear l K;refine AK (Bn ?_);go_wp2_with fail
    go_meet
    exact⟨u,_,_,rfl,rfl,A.o,Q.o⟩
  ·refine Al ?_;intro K l;obtain⟨w3,I,L,y⟩:=Aq w2 165 [O V 0,O V 0];rw[I];obtain⟨c3,M,z⟩:=D.o.dB L y.lt;have t:=zh M;have o:=zh (J y z);clear I L y M z;generalize w2.heap.size=u at*;refine l _ _ ⟨_,λ_ m=>m,λ_=>t.o.aq,?_⟩;clear l K;refine Ak ?_;refine Ar ?_;refine Aj ?_;refine Al ?_;intro K l;refine(Ko t.o.s.d.i).mono ?_;rintro w X ⟨rfl,rfl⟩;dsimp only;refine l _ _ ⟨_,λ_ m=>m,λ_=>t.o.aq,?_⟩;clear l K;refine Ak ?_;refine Ar ?_;refine Aj ?_;refine Al ?_;intro K l;refine(Kn x (E:Nat) _).mono ?_;rintro w X ⟨rfl,rfl⟩;rw[az.o];dsimp only;refine l _ _ ⟨_,λ_ m=>m,λ_=>t.o.aq,?_⟩;clear l K;refine Ak ?_;refine Ar ?_;refine Aj ?_;refine Al ?_;intro K l;refine(My t.o.s.d (Ψ HQ.o) (Ay x E) r HR.o).mono ?_;rintro w w4 ⟨rfl,c4,aE,v,G,H⟩;dsimp only;have s:=zh (show Aa w4 u 165 [O V 0,O V 0]/\c4 u=121 from⟨v.u o.o.1 (by rw[o.o.2];rintro(m|m)<;>omega),by rw[v.ah _ o.o.1.lt];exact o.o.2⟩);have M4:=zh (t.o.gh v G H);clear v G H;refine As l ?_;clear l K;refine Ar ?_
   iterate 3 refine Az ?_
   refine Aj ?_;obtain⟨w6,aI,N,P⟩:=Ea s.o.1 (O V r.1) (O V r.2);have f0:=s.o.1.v 0;have f1:=s.o.1.v 1;have y0:=s.o.1.m 0;have y1:=s.o.1.m 1;have A:=zh (M4.o.bT s.o.2 P);have Q:=zh N;clear N P;refine Al ?_;intro K l;clear f0 f1 y0 y1;refine As l ?_;clear l K;refine Ar ?_;refine Aj ?_;refine Al ?_;intro K l;refine As l ?_;clear l K;refine AK (Bn ?_);go_wp2_with fail
   go_meet
   exact⟨u,_,_,rfl,rfl,A.o,Q.o⟩
 case rest=>
 obtain⟨u,cx,aU,rfl,rfl,A,Q⟩:=hcut;have HM:=zh A;have x0:=Q.m 0;have x1:=Q.m 1;have aW:=Zc A.s.x A.s.d.s (Ψ HQ.o) r (q (Ay x E)) aP.o.1 aP.o.2;have a4:=zh aW;clear A Q aW;go_wp2_with fail;refine a4.o.mono ?_;rintro w w7 ⟨a7,c7,rfl,ao,a6,S,ap,aq,ar⟩
 have ns:∀R,R=0\/111<=R->¬SS 111 R:=λR hj=>by rintro(m|m)<;>omega
 have B:=S.u HM.o.b (by rw[HM.o.cb];exact ns _ Ω)
 have h:ao Y.heap.size=120:=by rw[S.ah _ HM.o.b.lt];exact HM.o.cb
 have z0:=B.m 0;have z1:=B.m 1;have z2:=B.m 2;have z3:=B.m 3;have z4:=B.m 4;have k0:=B.v 0;have k1:=B.v 1;have k2:=B.v 2;have z:=B.v 3;have k4:=B.v 4;obtain⟨w8,bl,b8,t8⟩:=FI B (O V r.1) (O V r.2) (O V ((q (Ay x E)).d:Nat)) (O V ((q (Ay x E)).p:Nat)) (Ax a7 (q (Ay x E)).es.length c7);have F:=zh (J S (J ap (J aq (J ar (J h (J b8 t8))))));clear S ap aq ar ns B b8 t8 h;go_wp2_with fail;obtain⟨S,ap,aq,ar,h,b8,t8⟩:=F.o;have s8:Ab (λR=>R=120) w7 ao w8 ao:=AG S.new t8 (λbm w=>by rw[w];exact h);exact BR (DH (p:=4) (ty:=209) rfl _ _ Y.heap.size _ _ _ _ rfl b8 C0 rfl rfl) rfl ⟨a7,c7,rfl,ao,a6,(HM.o.st.trans (S.mono (EG Ω))).trans (s8.mono (λR w=>CR Ω)),ap.ae s8 Ω Ω Ω Ω,HM.o.on.trans aq,ar.ae s8 Ω⟩
theorem aO(d:E<=e)(g:e<=8)(b:f<2^E):KW (f:Int) (E:Int) (e:Int)=EJ (f*2^(e - E)) (2^(e - E)):=by
 have a:((e:Int) - (E:Int)).toNat=e - E:=Ω;have c:KI (f:Int) (E:Int) (e:Int):=⟨Ω,Ω,Ω,Ω,by rw[km];exact_mod_cast b⟩;unfold KW EJ Cx;rw[ke c,a];refine pP (λi _=>?_);unfold Ir;rw[a]
 push_cast
 rfl
def RB(w:A4)(i:Ad)(X D s d:Nat)(P:Pl)(j:Nat)(k:Ah)(q l:Nat)(m:Ap)(n:Int->List Nat)(T o:List Ah)(p:Nat)(e:Ending)(a:A4):Prop:=
 e=Bx (O V 0)/\∃b c f g h,Ab (Dz 200) w i a b/\XS a b X D s d P j g (q+1100) l c f h o p/\AN P n f/\Fr (AE k T) (AE g h) m c
theorem Rj(u:XS Y Z e f i j d E b g k c h a p n)(T:g<=1073730000)(U:Ce c (d.bv+3))(o q:Nat)(X:CX)(aC:∃aD aE aF,X=Ax aD aE aF)(C:o<=E)(D:q<2^o)(r:Ah)(aa:Dx r):
  CL BL 173 #[Bk (Bd ⟨e,0,A3⟩),.agg #[O V o,O V q,X],Iz r] Y (RB Y Z e f i j d E b g k c h a (Cr E o q p r) n):=by
 obtain⟨ba,bn,bc,rfl⟩:=aC;have h8:=u.d.n.d1;have K:=aO C h8 D;have L:=Ow C D;have M:=fi u.d.l.aF C D r;obtain⟨lo,af⟩:=Ag (q*2^(E - o));obtain⟨m,N⟩:=Ag (2^(E - o))
 have ag:1<=m:=by rw[<-N];exact nA
 rw[af,N]at K L M;have G:=zh (J K (J L (J M ag)));have H:=zh u;have HQ:=zh T;have aI:=zh U;have aJ:=zh aa;obtain⟨w0,aK,g0,b0⟩:=Aq Y 160 [O V o,O V q,Ax ba bn bc];obtain⟨w1,aM,P,b1⟩:=Aq w0 165 [O V r.1,O V r.2];have HB:=zh (J (b0.grown P Δ) b1);have G1:=zh (Ae g0 P);clear u T U aa h8 K L M af N ag C D g0 P b0 b1
 go_enter Tryz.func173,Tryz.ntmps173
 go_wp2_with fail;clear aK aM;refine Dg (λW=>W.cell? ⟨e,1,A3⟩=Bd (Bk (Bd ⟨f,0,A3⟩))/\Aa W Y.heap.size 160 [O V o,O V q,Ax ba bn bc]/\Aa W w0.heap.size 165 [O V (r.1:Nat),O V (r.2:Nat)]) [([0,1,2,3,4,5,6,7,14,8,9,10,11],12,B2),([],13,B2),([],15,Bs),([],16,Bs)] Φ Φ ?_;obtain⟨w2,an,w⟩:=AZ w1;rw[an];have x:=zh (H.o.grown (Ae G1.o w));have I:=zh (J (HB.o.1.grown w Δ) (HB.o.2.grown w Δ));have G2:=zh (Ae G1.o w);clear an w;refine BU ⟨x.o.x.cells.2.1,I.o⟩ ?_
 repeat(apply AB rfl Θ;(· intro wS s;(try have s:=s rfl);(try dsimp only at s);(try have k0:=s.1);(try have x0:=s.2.1.m 0);(try have x1:=s.2.1.m 1);(try have y0:=s.2.2.m 0);(try have y1:=s.2.2.m 1);go_simp;(try with_reducible rfl));refine Ak ?_)
 refine Aj ?_;refine AH rfl (λt l=>?_);go_simp;refine(Ko x.o.d.i).mono ?_;rintro ao w' ⟨rfl,rfl⟩;dsimp only;refine l _ _ ⟨λ_=>⟨x.o.x.cells.2.1,I.o⟩,?_⟩;clear l t;refine Ak ?_;refine BG ?_;refine AH rfl (λt l=>?_);go_simp;refine(Zz (q:Nat) (o:Nat) (E:Nat) w2).mono ?_;rintro ao w3 ⟨v,rfl,y,z⟩;dsimp only;rw[G.o.1,IW]at y;obtain⟨a3,c3,rfl⟩:=(Ai.aj y).slice;have A:=zh (x.o.grown z);have O3:=zh (J (Ai.aj y) (show∀B,(Ax a3 m c3).ownBlock=Bd B->Z B=0 from λB hb=>x.o.d.s.cl B (y.lt B hb).1));refine l _ _ ⟨λ_=>⟨A.o.x.cells.2.1,I.o.1.grown z Δ,I.o.2.grown z Δ⟩,?_⟩;have G3:=zh (Ae G2.o z);clear l t y z;refine Ak ?_;refine BG ?_;refine AH rfl (λt l=>?_);go_simp;refine(bH A.o.d (Ψ HQ.o) aI.o rfl A.o.dd lo m G.o.2.2.2 G.o.2.1 r aJ.o a3 c3 O3.o.1 O3.o.2).mono ?_;rintro ao w4 ⟨rfl,aS,aT,aU,aV,T4,Q,R,av,aw⟩;dsimp only;refine l _ _ ⟨λS=>(by cases S),?_⟩;clear l t;rw[G.o.2.2.1]at R
 have F:=zh (show∃ax ay az aA T',Ab (Dz 200) Y Z w4 ax/\XS w4 ax e f i j d E aA (g+1100) k ay az T' (Cr E o q p r) n/\AN d h az/\Fr (AE b a) (AE aA T') c ay from
  ⟨aS,aT,aU,aV,T4,((Ab.grown H.o.d.s.cl G3.o).trans Q).mono (Pw (jS _)),⟨A.o.x.ae Q (by rintro(u|u)<;>omega),R,A.o.dd⟩,av,aw⟩)
 clear Q R av aw;refine Ak ?_;refine BG ?_;refine AH rfl (λt l=>?_);go_simp;refine l _ _ ⟨λS=>(by cases S),?_⟩;clear l t;refine Ak ?_;refine Di (Bn ?_);go_wp2_with fail;exact BR (BX rfl _ _ _) rfl ⟨rfl,F.o⟩
structure FP(w:A4)(g:Ad)(X D s d:Nat)(P:Pl)(h:Nat)(j:Ah)(k:Nat)(l:Int->List Nat)(m:Nat)(r:Ah)(b:Au)(a:Option CE)(c:Nat)(n:Option CE)(o:Nat)(q:Nat)(t:Ap)(f:Int->List Nat)(e:Ad)(W:A4):Prop where
 x:E3 W e X D s P.ba P.dp m
 i:Cw W e D s P.bi P.dp h j
 sd:SD W e s d P q k t f
 st:Ab (SS 123) w g W e
 on:AN P l f
 b3:Aa W w.heap.size 209 [O V r.1,O V r.2,O V b.d,O V b.p,Ax a b.es.length c]
 h3:e w.heap.size=0
 p:Bj W e n o b.ld
theorem FP.ae{C:Nat->Prop}{r:Ah}{u:Option CE}{q v:Nat}{D:Ap}{x:Int->List Nat}{z:Ad}{W:A4}
  (a:FP o s g i E e d j b f w k r y l n u t q D x z W)(m:Ab C W z Y Z)(A:¬C 0)(F:¬C 6)(G:¬C 7)(H:∀B,C B->SS 123 B)(I:SD Y Z E e d v f c h)(J:AN d x h):FP o s g i E e d j b f w k r y l n u t v c h Z Y:=
 ⟨a.x.ae m G,a.i.ae m F,I,a.st.trans (m.mono H),a.on.trans J,m.u a.b3 (by rw[a.h3];exact A),by rw[m.ah _ a.b3.lt];exact a.h3,⟨m.aP a.p.1 (λy p=>by rw[(a.p.2.1 y p).1];exact A),λy p=>⟨by rw[m.ah _ (a.p.2.1 y p).2];exact(a.p.2.1 y p).1,jY (a.p.2.1 y p).2 m.size⟩,a.p.2.2⟩⟩
theorem FP.dB{m:A4}{r:Ah}{p:Option CE}{q:Nat}
  (a:FP m s E e f g d i b j h k r y l n p t q c w Z Y)(z:Y.grownBy o A3)(A:Y.heap.size<o.heap.size):∃u,FP m s E e f g d i b j h k r y l n p t q c w u o/\u Y.heap.size=121:=
 have v:Ab (λx=>x=121) Y Z o (AL Z Y.heap.size 121):=Cc a.st.new z (jS _) A rfl
 ⟨_,a.ae v Ω Ω Ω (λx B=>CR Ω) (a.sd.ae v Ω Ω Ω Ω) (AN.refl _ _),AY _ _ _⟩
theorem FP.bT{p:A4}{r:Ah}{u:Option CE}{q:Nat}{v:Nat}
  (m:FP p s E e f g d i b j h k r y l n u t q c w Z Y)(A:Z v=121)(B:Ac (λa=>a=v) Y o):FP p s E e f g d i b j h k r y l n u t q c w Z o:=
 have x:Ab (λa=>a=121) Y Z o Z:=AG m.st.new B (λa z=>by rw[z];exact A)
 m.ae x Ω Ω Ω (λa z=>CR Ω) (m.sd.ae x Ω Ω Ω Ω) (AN.refl _ _)
theorem FP.aq{m:Ah}{p:Option CE}{q:Nat}
  (a:FP o Z E f e g d i m j h k b y l n p t q c w s Y):Y.cell? ⟨E,0,A3⟩=Bd (Bk (Bd ⟨e,0,A3⟩))/\Y.cell? ⟨o.heap.size,0,A3⟩=Bd (O V b.1)/\Y.cell? ⟨o.heap.size,1,A3⟩=Bd (O V b.2):=⟨a.x.cells.1,a.b3.m 0,a.b3.m 1⟩
def Ok(w:A4)(l:Ad)(X D s d:Nat)(P:Pl)(f:Nat)(m:Ah)(q n:Nat)(o:Ap)(p:Int->List Nat)(T L:List Ah)(t:Nat)(r:Ah)(b:Au)(e:Ending)(g:A4):Prop:=
 e=Bx (O V 0)/\∃h c i j k a,Ab (Dz 200) w l g h/\XS g h X D s d P f j (q+1200) n c i k (Cr f b.d b.p L a) t/\AN P p i/\Fr (r.1::AE m T) (a.1::AE j k) o c/\c a.1=Bd (a.2,b.ld)
theorem Ks(m:XS Y Z f j g k d e b i E c h a p n)(hq:i<=1073720000)(aY:Ce c (d.bv+3))(r:Ah)(N:c r.1≠A3)(aZ:r.1∉AE b a)(l:Au)(hb:l.ok d.ba)(hd:l.d<=e)(a1:Cr e l.d l.p p r=p)(z:Option CE)(A:Nat)(he:Ai Y 4 (Ax z l.es.length A) l.es.length (Av l.es)):
  CL BL 111 #[Bk (Bd ⟨f,0,A3⟩),MZ r l z A] Y (Ok Y Z f j g k d e b i E c h a p n r l):=by
 have H:=zh m;have HQ:=zh hq;have aF:=zh aY;have aq:=zh (J N aZ);have ar:=zh (J hb (J hd a1))
 have a2:l.ld.length<=d.n - 19:=by
  have h1:=hb.bA;have h2:20*d.ba<=d.n - 29:=ow _ _;have h3:=m.d.s.a1.n0;rw[l.eZ];omega
 have a3:=zh a2;obtain⟨w0,bm,g0,b0⟩:=Aq Y 209 [O V r.1,O V r.2,O V l.d,O V l.p,Ax z l.es.length A];have B0:=zh b0;have G0:=zh g0;have HE:=zh he;clear m hq aY N aZ hb hd a1 a2 g0 b0 he
 go_enter Tryz.func111,Tryz.ntmps111
 go_wp2_with fail;clear bm;refine Dg (λW=>W.cell? ⟨f,2,A3⟩=Bd (O V d.ba)/\Aa W Y.heap.size 209 [O V (r.1:Nat),O V (r.2:Nat),O V l.d,O V l.p,Ax z l.es.length A]) [([0,1,2,3,4,5],6,Bs),([7,8,9,10],11,Bs)] Φ Φ ?_;obtain⟨w1,a6,g1⟩:=AZ w0;rw[a6];have G1:=zh (Ae G0.o g1);have B1:=zh (B0.o.grown g1 Δ);clear a6 g1;refine BU ⟨(H.o.x.grown G1.o).cells.2.2.1,B1.o⟩ ?_
 repeat(apply AB rfl Θ;(· intro wS t;(try have t:=t rfl);(try dsimp only at t);(try have k0:=t.1);(try have x2:=t.2.m 2);(try have x3:=t.2.m 3);(try have x4:=t.2.m 4);go_simp;(try with_reducible rfl));refine Ak ?_)
 refine Aj ?_;refine AH rfl (λK' o=>?_);go_simp;have N:=Og (l.d:Nat) (l.p:Nat) (d.ba:Nat) l.es z A w1 (HE.o.grown G1.o Δ) ar.o.1;rw[show Ci (l.d:Nat) (l.p:Nat) l.es=l.ld from rfl]at N;refine N.mono ?_;clear N;rintro u w2 ⟨aB,cB,rfl,oB,gB⟩;dsimp only;refine o _ _ ⟨λhf=>(by cases hf),?_⟩;clear o K';have S:=Ae G1.o gB;have M2:Hd (FP Y Z f j g k d e b E h n r l z A aB cB i c h Z w2):=zh ⟨H.o.x.grown S,H.o.d.i.grown S,H.o.d.s.grown S,Ab.grown H.o.d.s.cl S,AN.refl _ _,B1.o.grown gB Δ,H.o.d.s.cl _ (jS _),⟨Ai.aj oB,λaK hk=>⟨H.o.d.s.cl aK (j8 G1.o.size (oB.lt aK hk).1),(oB.lt aK hk).2⟩,NJ _ _ _⟩⟩;clear oB gB S;refine Ak ?_;refine LM Θ ?_
 repeat(apply AB rfl Θ;(· intro wS t;go_simp;(try with_reducible rfl));refine Ak ?_)
 refine Aj ?_;refine AH rfl (λK' o=>?_);go_simp;refine o _ _ ⟨λhf=>(by cases hf),?_⟩;clear o K';refine Ak ?_;refine Di (Bn ?_)
 go_upto_region 4 with fail
 go_cut [7,6] (λs7 s6 wx=>∃w T U y q,s7=Bk (Bd ⟨w,0,A3⟩)/\s6=O V 0/\FP Y Z f j g k d e b E h n r l z A aB cB (i+3) y U T wx/\Aa wx w 165 [O V (q:Nat),O V E]/\Fr [r.1] [q] c y/\y q=Bd (E,l.ld)/\q<d.a2)
 case first=>
  refine A7 (λW=>W.cell? ⟨f,0,A3⟩=Bd (Bk (Bd ⟨g,0,A3⟩))/\W.cell? ⟨Y.heap.size,0,A3⟩=Bd (O V (r.1:Nat))/\W.cell? ⟨Y.heap.size,1,A3⟩=Bd (O V (r.2:Nat))) (.bP [0,1,2,3,4,5,6] 7 Bs (.an [] [8,9,10] 11 B2 (.an [] [] 12 Bs (.an [] [] 13 Bs (.nil)))) 11 B2 (.an [] [] 7 Bs (.an [] [8,9,10] 12 Bs (.an [] [] 13 Bs (.nil))))) Φ Φ ?_;obtain⟨w3,bd,g3⟩:=AZ w2;rw[bd];have X:=zh (M2.o.ae (C:=λ_=>False) (Ab.grown M2.o.st.new g3) (λm=>m) (λm=>m) (λm=>m) (λ_ m=>m.elim) (M2.o.sd.grown g3) (AN.refl _ _));clear bd g3 M2;refine Ej X.o.aq ?_
  iterate 7 ((apply AB rfl Θ;(· intro wS t;(try have t:=t rfl);(try dsimp only at t);(try(have k0:=t.1;have x0:=t.2.1;have x1:=t.2.2));go_simp;(try with_reducible rfl)));refine Ak ?_)
  refine Aj ⟨?_,?_⟩
  ·refine Al ?_;intro K o;refine(Ju X.o.sd (Ψ HQ.o) aF.o r.1 r.2 aq.o.1 aB cB l.ld a3.o X.o.p).mono ?_;rintro u w4 ⟨q,rfl,aa,c4,bw,bx,B,ab,ac,ad,ae⟩;dsimp only;have M4:=zh (X.o.ae B (by rintro(m|m)<;>omega) (by rintro(m|m)<;>omega) (by rintro(m|m)<;>omega) (EG Ω) ab ac);have F4:=zh (J ad (J ae aa));clear B ab ac ad ae aa;refine As o ?_;clear o K;refine Ar ?_
   iterate 3 refine Az ?_
   refine Aj ?_;refine Al ?_;intro K o;obtain⟨w5,af,g5,D⟩:=Aq w4 165 [O V 0,O V 0];rw[af];obtain⟨c5,m5,k5⟩:=M4.o.dB g5 D.lt;have G:=zh m5;have v:=zh (J D k5);clear af g5 D m5 k5;generalize w4.heap.size=w at*;refine o _ _ ⟨_,λ_ m=>m,λ_=>G.o.aq,?_⟩;clear o K;refine Ak ?_;refine Ar ?_;refine Aj ?_;obtain⟨w6,bC,b6,t6⟩:=Ea v.o.1 (O V q) (O V E);have f0:=v.o.1.v 0;have f1:=v.o.1.v 1;have y0:=v.o.1.m 0;have y1:=v.o.1.m 1;have s:=zh (G.o.bT v.o.2 t6);have I:=zh b6;clear b6 t6;refine Al ?_;intro K o;clear f0 f1 y0 y1;refine As o ?_;clear o K;refine Ar ?_;refine Aj ?_;refine Al ?_;intro K o;refine As o ?_;clear o K;refine AK (Bn ?_);go_wp2_with fail
   go_meet
   exact⟨w,_,_,_,q,rfl,rfl,s.o,I.o,F4.o⟩
  ·refine Al ?_;intro K o;obtain⟨w5,af,g5,D⟩:=Aq w3 165 [O V 0,O V 0];rw[af];obtain⟨c5,m5,k5⟩:=X.o.dB g5 D.lt;have G:=zh m5;have v:=zh (J D k5);clear af g5 D m5 k5;generalize w3.heap.size=w at*;refine o _ _ ⟨_,λ_ m=>m,λ_=>G.o.aq,?_⟩;clear o K;refine Ak ?_;refine Ar ?_;refine Aj ?_;refine Al ?_;intro K o;refine(Ju G.o.sd (Ψ HQ.o) aF.o r.1 r.2 aq.o.1 aB cB l.ld a3.o G.o.p).mono ?_;rintro u w4 ⟨q,rfl,aa,c4,bw,bx,B,ab,ac,ad,ae⟩;dsimp only;have M4:=zh (G.o.ae B (by rintro(m|m)<;>omega) (by rintro(m|m)<;>omega) (by rintro(m|m)<;>omega) (EG Ω) ab ac);have P:=zh (show Aa w4 w 165 [O V 0,O V 0]/\c4 w=121 from⟨B.u v.o.1 (by rw[v.o.2];rintro(m|m)<;>omega),by rw[B.ah _ v.o.1.lt];exact v.o.2⟩);have F4:=zh (J ad (J ae aa));clear B ab ac ad ae aa;refine As o ?_;clear o K;refine Ar ?_
   iterate 3 refine Az ?_
   refine Aj ?_;obtain⟨w6,bC,b6,t6⟩:=Ea P.o.1 (O V q) (O V E);have f0:=P.o.1.v 0;have f1:=P.o.1.v 1;have y0:=P.o.1.m 0;have y1:=P.o.1.m 1;have s:=zh (M4.o.bT P.o.2 t6);have I:=zh b6;clear b6 t6;refine Al ?_;intro K o;clear f0 f1 y0 y1;refine As o ?_;clear o K;refine Ar ?_;refine Aj ?_;refine Al ?_;intro K o;refine As o ?_;clear o K;refine AK (Bn ?_);go_wp2_with fail
   go_meet
   exact⟨w,_,_,_,q,rfl,rfl,s.o,I.o,F4.o⟩
 case rest=>
 obtain⟨w,T,U,y,q,rfl,rfl,s,I,al,Q,bf⟩:=hcut;have x0:=I.m 0;have x1:=I.m 1;have y0:=s.b3.m 0;have y1:=s.b3.m 1;have y2:=s.b3.m 2;have y3:=s.b3.m 3;have y4:=s.b3.m 4;have M:=zh s;have F:=zh (J al (J Q bf));have aQ:DD y d.bi e b a p:=H.o.d.l.fI (λbg x hx hn=>(al.cA hx (λhc=>aq.o.2 (by rw[kH]at hc;rw[<-hc];exact hn))).1);have aD:XS wc T f j g k d e b (i+3) E y U a p n:=⟨s.x,⟨s.i,H.o.d.n,aQ,s.sd,H.o.d.ok⟩,H.o.dd⟩;have aR:q∉AE b a:=aQ.cC (b:=l) Q;have bi:Dx (q,E):=s.sd.e6 (Ψ HQ.o) (r:=(q,E)) Q;have bZ:=zh aD;have b1:=zh aR;have aS:=zh (Rj aD (Ψ HQ.o) (aF.o.ee aq.o.1 al) l.d l.p (Ax z l.es.length A) ⟨_,_,_,rfl⟩ ar.o.2.1 ar.o.1.fT (q,E) bi);have bj:=zh (show Fr (r.1::AE b a) (q::AE b a) c y from al.cons (AE b a))
 have aT:=zh (show∀u L,RB wc T f j g k d e b (i+3) E y U a (Cr e l.d l.p p (q,E)) n u L->Ok Y Z f j g k d e b i E c h a p n r l u L from λu L ⟨he,bF,bG,bH,bI,T',s',bL,bM,bk⟩=>
  ⟨he,bF,bG,bH,bI,T',(q,E),(s.st.mono (Jb Ω)).trans s',bL.mono Ω,s.on.trans bM,bj.o.trans ((bk.cons [q]).iU (λbg=>by simp[or_comm]) (λbg=>by simp[or_comm])),(bk.cA Q aR).1⟩)
 have aU:=zh (show q=r.1->E=r.2->Ok Y Z f j g k d e b i E c h a p n r l (Bx (O V 0)) wc from λR e2=>
  ⟨rfl,T,y,U,b,a,(q,E),s.st.mono (Jb Ω),by
   have u:((q,E):Ah)=r:=by rw[R,e2]
   rw[u,ar.o.2.2]
   exact aD.mono Ω,s.on,bj.o,Q⟩)
 clear s I al Q bf aQ aD aR bi
 by_cases R:q=r.1
 ·by_cases e2:E=r.2
  ·have t1:((r.1:Int)==(r.1:Int))=B2:=by simp
   have bN:=zh (aU.o R e2);subst R;subst e2;clear aT aS;go_wp2_with fail;exact BR (BX rfl _ _ _) rfl ⟨rfl,bN.o.2⟩
  ·have aV:¬(E:Int)=(r.2:Int):=by omega
   have bO:((E:Int)==(r.2:Int))=Bs:=by rw[lu];exact aV
   have bP:(E==r.2)=Bs:=by simp;exact e2
   subst R;clear aU;go_wp2_with fail;refine aS.o.mono ?_;intro u L hp;have HP:=zh (aT.o u L hp);obtain⟨rfl,_⟩:=hp;go_wp2_with fail;exact BR (BX rfl _ _ _) rfl ⟨rfl,HP.o.2⟩
 ·have aV:¬(q:Int)=(r.1:Int):=by omega
  have bO:((q:Int)==(r.1:Int))=Bs:=by rw[lu];exact aV
  have bP:(q==r.1)=Bs:=by simp;exact R
  clear aU;go_wp2_with fail;refine aS.o.mono ?_;intro u L hp;have HP:=zh (aT.o u L hp);obtain⟨rfl,_⟩:=hp;go_wp2_with fail;exact BR (BX rfl _ _ _) rfl ⟨rfl,HP.o.2⟩
theorem IX.il{m o:Ap}{d:Ah}{L:List Ah}(h:IX c e g E b p L q)(t:Fr [] [f] c m)(r:Fr (AE b p) (AE d a) m o)(u:a.length=Bl e (2^E)):Ce o (1+Bl e (2^E)+2^E+1):=by
 refine⟨f::(AE d a++L.map Prod.fst),?_,λn i=>?_⟩
 ·rw[kj,jU,mH,AE,kj,mH,u,h.x.aF];omega
 ·by_cases k:n∈AE d a
  ·exact lA _ (me _ k)
  by_cases s:n=f
  ·rw[s];exact mi
  refine lA _ (lY _ ?_)
  by_cases l:n∈AE b p
  ·exact absurd (r.dZ n l k) i
  rw[r.cq n l k,t.cq n Δ (by simp[s])]at i
  rcases h.t n i with v|⟨j,w,x,y⟩
  ·exact absurd v l
  ·exact lP.2 ⟨w,kX x,y⟩
theorem Mb(_:d.aU)(a:E<=d.dp):1+Bl d.bi (2^E)+2^E<=d.bv:=by
 have b:2^E<=d.cK:=lL Ω a;have e:=NG (per:=d.bi) b;have f:d.bv=1+Bl d.bi d.cK+d.cK:=rfl;omega
theorem Zl(y:Au)(j:y.ok E)(a:Option CE)(c:Nat)(w:A4)(k:Ai w 4 (Ax a y.es.length c) y.es.length (Av y.es)):
  CL BL 240 #[UP y a c] w λe b=>∃d f h i,e=Bx (.agg #[O V ((AR y).d:Nat),O V ((AR y).p:Nat),Ax d (AR y).es.length f,O V ((AT y).d:Nat),O V ((AT y).p:Nat),Ax h (AT y).es.length i])/\
   b.ownsRow w.heap.size 237 4 (Ax d (AR y).es.length f) (AR y).es.length (Av (AR y).es)/\b.ownsRow w.heap.size 237 4 (Ax h (AT y).es.length i) (AT y).es.length (Av (AT y).es)/\w.grownBy b A3:=by
 have r:=j.bA;refine(ZR (y.d:Nat) (y.p:Nat) Ω Ω Ω Ω y.es a c w Ω k).mono ?_;rintro e b ⟨d,f,h,i,rfl,l,m,g⟩;refine⟨d,f,h,i,?_,l,m,g⟩
 have n:((AR y).d:Int)=(y.d:Int)+1:=by simp[AR]
 have o:((AR y).p:Int)=2*(y.p:Int):=by simp[AR]
 have p:((AT y).d:Int)=(y.d:Int)+1:=by simp[AT]
 have q:((AT y).p:Int)=2*(y.p:Int)+1:=by simp[AT]
 rw[n,o,p,q];rfl
theorem jg{T:TypeId}{i j l m n:CX}(h:Aa Y E T [x,i,j,l,m,n])(b c d e f g:CX):∃a,((((((Y.setCell ⟨E,0,A3⟩ b).setCell ⟨E,1,A3⟩ c).setCell ⟨E,2,A3⟩ d).setCell ⟨E,3,A3⟩ e).setCell ⟨E,4,A3⟩ f).setCell ⟨E,5,A3⟩ g)=a/\Aa a E T [b,c,d,e,f,g]/\Ac (λk=>k=E) Y a:=
 ⟨_,rfl,(((((h.setCell 0 _).setCell 1 _).setCell 2 _).setCell 3 _).setCell 4 _).setCell 5 _,(((((AF _ _ _ _).trans (AF _ _ _ _)).trans (AF _ _ _ _)).trans (AF _ _ _ _)).trans (AF _ _ _ _)).trans (AF _ _ _ _)⟩
theorem XQ(b:y.d<E)(e:E<=20)(x:BitVec 64)(f:Ay x y.d=y.p):(Cy E (Cy E q (AT y)) (AR y) (Ay x E)).d=y.d+1:=by
 have h:=(Kp b).1 ((JF x y.p (nQ b) e).2 f);unfold Cy
 by_cases a:A1 E (Ay x E) (AR y).d (AR y).p
 ·rw[ke a];rfl
 ·rw[j7 a]
  by_cases d:A1 E (Ay x E) (AT y).d (AT y).p
  ·rw[ke d];rfl
  ·exact absurd h (λc=>c.elim a d)
structure XF(w:A4)(e:Ad)(X D s d:Nat)(P:Pl)(a:Nat)(b:Ah)(q f:Nat)(c:Ap)(g:Int->List Nat)(T L:List Ah)(h:Nat)(B:Nat->Au):Prop where
 s:XS w e X D s d P a b q f c g T L h
 x:IX c P.bi P.ba a b T L B
theorem XF.dY(l:XF Y Z E e f g d i b j k c h a p n q):Ce c d.bv:=l.x.dY.mono (Mb l.s.d.s.a1 l.s.dd)
structure UH(b:Nat)(L:List Ah)(B:Nat->Au)(a:Nat)(i:Nat)(r:Ah)(y:Au):Prop where
 hi:L[i]?=Bd r
 ok:y.ok a
 d:y.d=(B i).d
 p:y.p=(B i).p
def P0(w:A4)(k:Ad)(X D s d:Nat)(P:Pl)(l:Nat)(q m:Nat)(n:Int->List Nat)(o:Nat)(B:Nat->Au)(r:Ah)(y:Au)(a:Option CE)(c:Nat)(b:A4):Prop:=
 ∃e f p t h u j g i,XF b e X D s d P f p (q+2000) m t h u j o g/\y.d<f/\UH f j g P.ba i r y/\Ab (Dz 200) w k b e/\AN P n h/\(∀x,Ba f g x=Ba l B x)/\EY b e a c y.es/\
  Aa b w.heap.size 209 [O V r.1,O V r.2,O V y.d,O V y.p,Ax a y.es.length c]/\e w.heap.size=0
theorem WT{D:Nat}(z:XF Y Z g j k n d E b D e c h p a f q)(hq:D<=1073700000)(bE:f<=1073741824)(i:Nat)(r:Ah)(y:Au)(ha:UH E a q d.ba i r y)(bF:y.d<d.dp)(Q:Option CE)(R:Nat)(he:EY Y Z Q R y.es):
  CL BL 193 #[Bk (Bd ⟨g,0,A3⟩),MZ r y Q R] Y λt w'=>t=Bx (O V 0)/\∃aj S aR aS ak T' L' T,Ab (Dz 200) Y Z w' aj/\XF w' aj g j k n d S aR (D+6000) e aS ak T' L' (f+1) T/\AN d h ak/\(∀x,Ba S T x=if Ay x y.d=y.p then A9 y.es x else Ba E q x)/\∀x,Ay x y.d=y.p->(T (Ay x S)).d=y.d+1:=by
 have aV:i<2^E:=z.x.x.lt ha.hi
 have al:y.d<=E:=by rw[ha.d];exact z.x.x.dl i aV
 obtain⟨w0,cK,g0,A⟩:=Aq Y 209 [O V r.1,O V r.2,O V y.d,O V y.p,Ax Q y.es.length R];have H:=zh z;have HQ:=zh hq;have cL:=zh bE;have HA:=zh ha;have aE:=zh (J bF (J al aV));have HE:=zh he;have B0:=zh A;have G0:=zh g0;have x2:=A.m 2;have e2:=AV x2;have x1:=(z.s.x.grown g0).cells.2.1;have e1:=AV x1;have bJ:=zh (λ(W:A4) (hW:w0.grownBy W A3)=>Ko ((z.s.d.i.grown g0).grown hW));clear z hq bE ha bF al aV he A g0 x1 x2
 go_enter Tryz.func193,Tryz.ntmps193
 go_wp2_with fail;clear cK;refine CU Φ Φ ?_
 repeat(go_big_quiet_step ((go_at_call 97;exact GW bJ.o _)))
 refine CV ?_;rintro _ ⟨gg,rfl⟩;have g1:=CY gg;generalize gw gg=w1 at*;clear e1 e2 gg bJ;have G1:=zh (Ae G0.o g1);have B1:=zh (B0.o.grown g1 Δ);have H1:=zh (H.o.s.grown G1.o);have E1:=zh (HE.o.grown G1.o);clear g1
 go_upto_if 19 with fail
 go_cut [5] (λs5 wx=>P0 Y Z g j k n d E D e h f q r y Q R wx)
 case first=>
  by_cases al:y.d=E
  ·have t1:((y.d:Int)==(E:Int))=B2:=by simp[al]
   have t2:B8 ((y.d:Int)=(E:Int))=B2:=by simp[al]
   have x1:=H1.o.x.cells.2.1;have bL:=Wo H1.o.d (Ψ HQ.o) H.o.x.dY rfl rfl (Ψ aE.o);have cX:=zh bL;clear bL;go_wp2_with fail;refine cX.o.mono ?_;rintro t U ⟨rfl,c2,cZ,c0,c3,T2,X,f2,bM,bN⟩
   have u:∀s,s=0\/s=7->¬EF 200 s:=λs hj=>by rintro(z|z)<;>omega
   have aq:=H.o.x.gj bN f2.l;have aa:Z Y.heap.size=0:=H.o.s.d.s.cl _ (jS _)
   have HR:=zh (show P0 Y Z g j k n d E D e h f q r y Q R U from
    ⟨c2,E+1,c3,cZ,c0,T2,CG a,λs=>q (s/2),2*i,⟨⟨H1.o.x.ae X (u _ Ω),f2,Ψ aE.o⟩,aq⟩,Ω,
     ⟨by rw[KF,show 2*i/2=i by omega];exact HA.o.hi,HA.o.ok,by show y.d=(q (2*i/2)).d;rw[show 2*i/2=i by omega];exact HA.o.d,by show y.p=(q (2*i/2)).p;rw[show 2*i/2=i by omega];exact HA.o.p⟩,
     ((Ab.grown H.o.s.d.s.cl G1.o).trans X).mono (Pw (jS _)),bM,λx=>dM E q (Ψ H.o.s.d.n.d1) x,E1.o.ae X (u _ Ω),X.u B1.o (by rw[aa];exact u _ Ω),by rw[X.ah _ B1.o.lt];exact aa⟩)
   clear X f2 bM bN aq u aa;go_wp2_with fail
   go_meet
   exact HR.o
  ·have t1:((y.d:Int)==(E:Int))=Bs:=by rw[lu];omega
   have t2:B8 ((y.d:Int)=(E:Int))=Bs:=jV Ω;have t3:¬(y.d:Int)=(E:Int):=Ω;have aa:Z Y.heap.size=0:=H.o.s.d.s.cl _ (jS _)
   have HR:=zh (show P0 Y Z g j k n d E D e h f q r y Q R w1 from
    ⟨Z,E,b,c,h,p,a,q,i,⟨H1.o.mono Ω,H.o.x⟩,Ψ aE.o,HA.o,Ab.grown H.o.s.d.s.cl G1.o,AN.refl _ _,λ_=>rfl,E1.o,B1.o,aa⟩)
   clear aa;go_wp2_with fail
   go_meet
   exact HR.o
 case rest=>
 obtain⟨c1,N,aH,ar,c8,T1,L1,c9,i1,B,bP,a2,s1,bR,bS,bT,bU,a3⟩:=hcut;have b7:=B.s.x.u.setCell 4 (O V ((f:Int)+1));obtain⟨wA,a4⟩:=Ag (wc.setCell ⟨g,4,A3⟩ (O V ((f:Int)+1)));rw[a4]at b7;simp only[ku,kM]at b7;rw[show(f:Int)+1=((f+1:Nat):Int) by omega]at b7;have sA:Ab (λs=>s=7) wc c1 wA c1:=AG B.s.d.s.cl (show Ac (λs=>s=g) wc wA by rw[<-a4];exact AF _ _ _ _) (λs t=>by rw[t];exact B.s.x.c0);have da:wrap64 ((f:Int)+1)=(f:Int)+1:=IntWalk.wrap64_in _ (Ψ cL.o);have v:=zh (show XS wA c1 g j k n d N aH (D+2000) e ar c8 T1 L1 (f+1)from⟨⟨b7,B.s.x.c0⟩,B.s.d.ae sA Ω (B.s.d.s.ae sA Ω Ω Ω Ω),B.s.dd⟩);have F:=zh B.x;have BA:=zh (J (sA.u bU (by rw[a3];omega)) a3);have EA:=zh (bT.ae sA Ω);have dc:=zh (s1.trans (sA.mono (λs t=>DA Ω)));have m:=zh (J bP (J a2 (J bR bS)));have x4:=B.s.x.cells.2.2.2.2;have f4:=B.s.x.u.v 4;have y2:=BA.o.1.m 2;have y3:=BA.o.1.m 3;have y4:=BA.o.1.m 4;have bV:=zh (Zl y a2.ok Q R wA EA.o.1);clear b7 sA B bP a2 s1 bR bS bT bU a3;go_wp2_with fail;refine bV.o.mono ?_;rintro t U ⟨a0,k0,a1,k1,rfl,o0,o1,g2⟩;clear x4 f4 y2 y3 y4 a4 da bV
 have a7:∀{bZ:Option CE} {kk:Nat} {es:List Af},U.ownsRow wA.heap.size 237 4 (Ax bZ es.length kk) es.length (Av es)->EY U c1 bZ kk es:=λo=>⟨Ai.aj o,λa8 hb=>⟨v.o.d.s.cl a8 (o.lt a8 hb).1,(o.lt a8 hb).2⟩⟩
 have E0:=zh (a7 o0);have ba:=zh (a7 o1);obtain⟨b2,b3⟩:=Mr m.o.2.1.ok (by have:=aE.o;have:=H.o.s.d.s.a1.e5;omega);have K:=zh (J b2 b3);obtain⟨A,bb⟩:=Ag (AR y);obtain⟨l,bc⟩:=Ag (AT y);have aw:=zh (J bb bc);rw[bb]at K E0⊢;rw[bc]at K ba⊢;clear a7 o0 o1 b2 b3 bb bc;obtain⟨w3,dh,g3,w⟩:=Aq U 354 [O V 0,O V 0,Ax A3 0 0,O V 0,O V 0,Ax A3 0 0];obtain⟨w4,dj,c4,t4⟩:=jg w (O V A.d) (O V A.p) (Ax a0 A.es.length k0) (O V l.d) (O V l.p) (Ax a1 l.es.length k1);have f0:=w.v 0;have f1:=w.v 1;have f2:=w.v 2;have f3:=w.v 3;have f4:=w.v 4;have f5:=w.v 5;have v0:=w.m 0;have v1:=w.m 1;have v2:=w.m 2;have v3:=w.m 3;have v4:=w.m 4;have v5:=w.m 5;have g4:=Ac.grown g3 t4 (λs t=>by rw[t];exact jS _);have G:=zh (J g2 g4);have C4:=zh c4;clear g2 g3 g4 w c4 t4;go_wp2_with fail;clear f0 f1 f2 f3 f4 f5 v0 v1 v2 v3 v4 v5 dh dj;have b9:Hd (c1 U.heap.size=0):=zh (v.o.d.s.cl _ G.o.1.size);generalize U.heap.size=ca at*;have S4:=zh (v.o.grown (Ae G.o.1 G.o.2));refine Dg (λW=>W.cell? ⟨g,2,A3⟩=Bd (O V d.ba)/\Aa W ca 354 [O V A.d,O V A.p,Ax a0 A.es.length k0,O V l.d,O V l.p,Ax a1 l.es.length k1]) [([0,1,2,3,4,5],6,Bs),([7,8,9,10],11,Bs)] Φ Φ ?_;obtain⟨w5,cb,I⟩:=AZ w4;rw[cb];refine BU ⟨(S4.o.grown I).x.cells.2.2.1,C4.o.grown I Δ⟩ ?_;have S5:=zh (S4.o.grown I);have C5:=zh (C4.o.grown I Δ);have E5:=zh (J ((E0.o.grown G.o.2).grown I) ((ba.o.grown G.o.2).grown I));have B5:=zh ((BA.o.1.grown (Ae G.o.1 G.o.2) Δ).grown I Δ);clear cb S4 C4
 repeat(apply AB rfl Θ;(· intro wS P;(try have P:=P rfl);(try dsimp only at P);(try have k0:=P.1);(try have z3:=P.2.m 3);(try have z4:=P.2.m 4);(try have z5:=P.2.m 5);go_simp;(try with_reducible rfl));refine Ak ?_)
 refine Aj ?_;refine AH rfl (λK' hK=>?_);go_simp;have bm:=Og (l.d:Nat) (l.p:Nat) (d.ba:Nat) l.es a1 k1 w5 E5.o.2.1 K.o.2;rw[show Ci (l.d:Nat) (l.p:Nat) l.es=l.ld from rfl]at bm;refine bm.mono ?_;clear bm;rintro t w6 ⟨ch,cP,rfl,oP,gP⟩;dsimp only;refine hK _ _ ⟨λhf=>(by cases hf),?_⟩;clear hK K';have L:=zh (S5.o.grown gP);have C6:=zh (C5.o.grown gP Δ);have E6:=zh (E5.o.1.grown gP);have B6:=zh (B5.o.grown gP Δ);have P6:=zh (show Bj w6 c1 ch cP l.ld from⟨Ai.aj oP,λbq hk=>⟨S5.o.d.s.cl bq (oP.lt bq hk).1,(oP.lt bq hk).2⟩,NJ _ _ _⟩);have G6:=zh (Ae (Ae (Ae G.o.1 G.o.2) I) gP);clear oP gP I S5 C5 E5 B5 E0 ba;refine Ak ?_;refine LM Θ ?_
 repeat(apply AB rfl Θ;(· intro wS P;go_simp;(try with_reducible rfl));refine Ak ?_)
 refine Aj ?_;refine AH rfl (λK' hK=>?_);go_simp;refine hK _ _ ⟨λhf=>(by cases hf),?_⟩;clear hK K';refine Ak ?_;refine Di (Bn ?_);have cm:Ce ar (d.bv+3):=(F.o.dY.mono (Mb v.o.d.s.a1 v.o.dd)).mono Ω
 have cn:l.ld.length<=d.n - 19:=by
  have h1:=(K.o.2).bA;have h2:20*d.ba<=d.n - 29:=ow _ _;have h3:=v.o.d.s.a1.n0;rw[l.eZ];omega
 have x0:=L.o.x.cells.1;have co:=zh (JD L.o.d.s (Ψ HQ.o) cm ch cP l.ld cn P6.o);clear cm cn;go_wp2_with fail;refine co.o.mono ?_;rintro t w7 ⟨M,rfl,aO,dU,c7,dv,C,bt,cq⟩;clear x0 co
 have u:∀s,s=0\/s=6\/s=7->¬SS 103 s:=λs hj=>by rintro(z|z)<;>omega
 have cr:DD (Eo ar M (e,l.ld)) d.bi N aH T1 L1:=L.o.d.l.fI (λdV x hx _=>by rw[El _ _ (λt=>by rw[t,aO]at hx;cases hx)];exact hx);have cs:XS w7 c7 g j k n d N aH (D+2000+2) e (Eo ar M (e,l.ld)) dv T1 L1 (f+1):=⟨L.o.x.ae C (u _ Ω),⟨L.o.d.i.ae C (u _ Ω),L.o.d.n,cr,bt,L.o.d.ok⟩,L.o.dd⟩;have bu:Dx (M,e):=bt.e6 (Ψ HQ.o) (r:=(M,e)) (EP _ _ _);obtain⟨w8,dw,g8,d8⟩:=Aq w7 165 [O V 0,O V 0];obtain⟨w9,dx,d9,t9⟩:=Ea d8 (O V M) (O V e);have f0:=d8.v 0;have f1:=d8.v 1;have v0:=d8.m 0;have v1:=d8.m 1;have g9:=Ac.grown g8 t9 (λs t=>by rw[t];exact jS _);have x0:=d9.m 0;have x1:=d9.m 1;have C9:=zh (J ((C.u C6.o (by rw[b9.o];exact u _ Ω)).grown g9 Δ) (show c7 ca=0 by rw[C.ah _ C6.o.lt];exact b9.o));have B9:=zh (J ((C.u B6.o (by rw[BA.o.2];exact u _ Ω)).grown g9 Δ) (show c7 Y.heap.size=0 by rw[C.ah _ B6.o.lt];exact BA.o.2));have E9:=zh ((E6.o.ae C (u _ Ω)).grown g9);have S9:=zh (cs.grown g9);have dA:=zh ((dc.o.trans ((Ab.grown v.o.d.s.cl G6.o).trans (C.mono (Jb Ω)))).trans (Ab.grown C.new g9));have N9:=zh (J aO (J bu (m.o.2.2.1.trans cq)));have z3:=C9.o.1.m 3;have z4:=C9.o.1.m 4;have z5:=C9.o.1.m 5;have ai:=F.o.x.cZ i1 r m.o.2.1.hi;have cw:=F.o.x.lt m.o.2.1.hi;have cx:Ce (Eo ar M (e,l.ld)) (d.bv+3):=((F.o.dY.new (Fr.new _ aO)).mono (pM (Mb v.o.d.s.a1 v.o.dd) 1)).mono Ω
 have aA:l.d<=N:=by rw[<-aw.o.2];show y.d+1<=N;exact m.o.1
 have cy:=zh (Rj S9.o (Ψ HQ.o) cx l.d l.p (Ax a1 l.es.length k1) ⟨_,_,_,rfl⟩ aA K.o.2.fT (M,e) bu);have cz:=zh (J ai cw);clear u cr cs bu C bt cq aO g8 d8 g9 d9 t9 C6 B6 E6 L P6 cx aA ai cw;go_wp2_with fail;refine cy.o.mono ?_;rintro t dY ⟨rfl,dZ,d0,d1,d2,d3,aB,bw,cA,aP⟩;clear f0 f1 v0 v1 x0 x1 z3 z4 z5 dw dx cy
 have u:¬Dz 200 0:=by rintro(z|z)<;>omega
 have aQ:=aB.u C9.o.1 (by rw[C9.o.2];exact u);have bx:=aB.u B9.o.1 (by rw[B9.o.2];exact u);have y0:=bx.m 0;have y1:=bx.m 1;have z0:=aQ.m 0;have z1:=aQ.m 1;have z2:=aQ.m 2;have ai:=cz.o.1;have cB:r.1∉AE aH T1:=F.o.cC m.o.2.1.hi;have bz:=aP.cA (n:=r.1) (x:=(r.2,(c9 i1).ld)) (by rw[El _ _ (λt=>by rw[<-t,ai]at N9;exact absurd N9.o.1 Δ)];exact ai) cB;have bA:=F.o.x.ik (r1:=(M,e)) m.o.2.1.hi m.o.2.1.d m.o.2.1.p m.o.1;rw[aw.o.1,aw.o.2]at bA
 have aA:A.d<=N:=by rw[<-aw.o.1];show y.d+1<=N;exact m.o.1
 have cC:=zh (Ks bw (Ψ HQ.o) (((F.o.il (Fr.new _ N9.o.1) aP bw.d.l.df).mono (pM (Mb v.o.d.s.a1 v.o.dd) 1)).mono Ω) r (by rw[bz.1];simp) bz.2 A K.o.1 aA bA a0 k0 (E9.o.ae aB u).1);have bB:=zh (J aP (J cA aB));clear aP cA aB bw aQ bx bz bA aA ai cB u;go_wp2_with fail;refine cC.o.mono ?_;rintro t cD ⟨rfl,dG,dH,dI,dJ,dK,dL,cE,bC,cF,cG,cH⟩;obtain⟨rfl,rfl⟩:=aw.o;have aq:=F.o.f5 m.o.2.1.hi m.o.2.1.ok m.o.2.1.d m.o.2.1.p m.o.1 v.o.d.n.d1 (r1:=(M,e)) (r0:=dL) (Fr.new _ N9.o.1) N9.o.1 (EP _ _ _) bB.o.1 cG bC.d.l cH
 have cI:=λx=>(Yc F.o.x cz.o.2 m.o.2.1.ok m.o.2.1.d m.o.2.1.p m.o.1 v.o.d.n.d1 x).trans (by rw[m.o.2.2.2 x])
 have dN:=zh (show∃aj S aR aS ak T' L' T,Ab (Dz 200) Y Z cD aj/\XF cD aj g j k n d S aR (D+6000) e aS ak T' L' (f+1) T/\AN d h ak/\(∀x,Ba S T x=if Ay x y.d=y.p then A9 y.es x else Ba E q x)/\∀x,Ay x y.d=y.p->(T (Ay x S)).d=y.d+1 from
  ⟨dG,N,dJ,dH,dI,dK,_,_,(dA.o.trans bB.o.2.2).trans cE,⟨bC.mono Ω,aq⟩,(N9.o.2.2.trans bB.o.2.1).trans cF,cI,λx hx=>XQ m.o.1 (Ψ v.o.d.n.d1) x hx⟩)
 clear cE bC cF cG cH aq cI y0 y1 z0 z1 z2 cC;go_wp2_with fail;exact BR (BX rfl _ _ _) rfl ⟨rfl,dN.o⟩
end
section
open Go Go.RowKit
attribute [local go_sem ↓] Go.wp_at_zero Go.wp_at_succ
theorem OS(b:Co r){i:Nat}(g:Ef r (U z) i):A9 r z=if AW r (U z) i=B2 then Bd (r.getD i Af.ad)else A3:=by
 obtain⟨j,d,n⟩:=On b g
 by_cases c:AW r (U z) i=B2
 ·rw[ke c];have a:=c;unfold AW at a;rw[kh]at a;have o:=kQ a.1;have k:=kQ a.2;exact(IY b z _).2 ⟨Pt Ω,Px k⟩
 ·rw[j7 c]at d⊢;rw[JE b];intro y l e
  by_cases f:y∈r.take i
  ·have:=j y f;rw[e]at this;omega
  ·have m:y∈r.drop i:=by
    have:=lh i r▸l
    rcases kY.1 this with h|h
    ·exact absurd h f
    ·exact h
   have:=d y m;rw[e]at this;omega
theorem LY(a:Co r){i:Nat}(b:Ef r (U z) i):AW r (U z) i=(A9 r z).isSome:=by
 rw[OS a b]
 cases AW r (U z) i<;>rfl
theorem Qr(a:Co r){i:Nat}(b:Ef r (U z) i):(if AW r (U z) i=B2 then r.getD i Af.ad else Af.ad)=(A9 r z).getD Af.ad:=by
 rw[OS a b]
 cases AW r (U z) i<;>rfl
def FX(b:Nat)(a:List Af)(x:BitVec 64):Bool:=(A9 a x).isSome||B8 (a.length<b)
theorem Yq(x:Af)(w:A4):CL BL 190 #[x.val] w λe j=>e=Bx (.bool (BY 0 0 1 [x]))/\w.grownBy j A3:=by
 obtain⟨b,c,d,a⟩:=Aq w 237 x.cells;obtain⟨k,f,g,h⟩:=Aq b 237 x.cells;have l:=a.m 0;have m:=a.m 1;have n:=a.m 2;have o:=a.m 3;have p:=zh h;have G:=zh (Ae d g);unfold Af.cells at c f;unfold Af.val;clear a h d g
 go_enter Tryz.func190,Tryz.ntmps190
 go_wp2_with fail;refine(NV 0 0 1 [x] (Bd ⟨b.heap.size,0,A3⟩) 1 k (Ai.bn p.o rfl (by unfold C8;simp))).mono ?_;rintro e r ⟨rfl,i⟩;have q:=zh (Ae G.o i);clear i l m n o c f;go_wp2_with fail;go_ret;exact⟨rfl,q.o⟩
end
section
open Go Go.RowKit
attribute [local go_sem ↓] Go.wp_at_zero Go.wp_at_succ
theorem N0{dp:Nat}(v:E3 Y Z e f g E dp j)(b:Au)(m:b.ok k)(a:Option CE)(c:Nat)(w:Ai Y 4 (Ax a b.es.length c) b.es.length (Av b.es))(x:BitVec 64):
  CL BL 191 #[Bk (Bd ⟨e,0,A3⟩),UP b a c,O .u64 (U x)] Y λn w'=>n=Bx (.bool (FX E b.es x))/\Y.grownBy w' A3:=by
 have hf:=m.bA;obtain⟨w0,ae,o,l⟩:=Aq Y 160 [O V b.d,O V b.p,Ax a b.es.length c];have x0:=l.m 0;have x1:=l.m 1;have x2:=l.m 2;have z:=zh (Sr (b.d:Nat) (b.p:Nat) b.es (U x) a c w0 Ω m.bS (w.grown o Δ));have HX:=zh (v.grown o);have B0:=zh l;have G0:=zh o;have A:=zh m.bS;clear v m w o l hf
 go_enter Tryz.func191,Tryz.ntmps191
 go_wp2_with fail;refine z.o.mono ?_;rintro n w1 ⟨i,q,rfl,B⟩;rw[Qr A.o q,LY A.o q];obtain⟨y,C⟩:=Ag ((A9 b.es x).getD Af.ad);obtain⟨is,r⟩:=Ag ((A9 b.es x).isSome);rw[C,r];have D:=zh r;unfold Lg;obtain⟨w2,F,G,d⟩:=Aq w1 128 [O V 0,O V 0,O V 0];obtain⟨w3,H,b3,I⟩:=Br d (O V y.r) (O V y.a) (O V y.s);have J:=d.v 0;have K:=d.v 1;have L:=d.v 2;have M:=d.m 0;have N:=d.m 1;have P:=d.m 2;have p:=Ae B (Ac.grown G I (λar n=>by rw[n];exact jS _));have Q:=zh (Ae G0.o p);have R:=(B0.o.grown p Δ).m 2;have S:=(HX.o.grown p).cells.2.2.1;have T:=AV R;have W:=AV S;clear x0 x1 x2 B G p d b3 I q C r ae z R S
 cases is with
 |true=>
  go_wp2_with fail;clear J K L M N P F H;refine CU Φ Φ ?_
  repeat(go_big_quiet_step (fail))
  refine CV ?_;rintro _ ⟨h,rfl⟩;have s:=Ae Q.o (CY h);generalize gw h=w4 at*;clear T W h
  have X:FX E b.es x=B2:=by unfold FX;rw[D.o];rfl
  have u:=zh X;clear X;go_wp2_with fail;go_ret;exact⟨(kL (λt=>Bx (.bool t)) u.o).symm,s⟩
 |false=>
  have u:Hd (FX E b.es x=B8 (b.es.length<E)):=zh (by unfold FX;rw[D.o];rfl);go_wp2_with fail;clear J K L M N P F H;refine CU Φ Φ ?_
  repeat(go_big_quiet_step (fail))
  refine CV ?_;rintro _ ⟨h,rfl⟩;have s:=Ae Q.o (CY h);generalize gw h=w4 at*;clear T W h;go_wp2_with fail;go_ret;exact⟨(kL (λt=>Bx (.bool t)) u.o).symm,s⟩
end
