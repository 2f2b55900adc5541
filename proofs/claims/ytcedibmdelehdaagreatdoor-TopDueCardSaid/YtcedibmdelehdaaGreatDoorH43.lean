/- Lemmas. -/
import Derived.Test.YtcedibmdelehdaaGreatDoorH09
import Derived.Test.YtcedibmdelehdaaGreatDoorH34
import Derived.Test.YtcedibmdelehdaaGreatDoorH38
import Derived.Test.YtcedibmdelehdaaGreatDoorH42
namespace Go.Proofs.YtcedibmdelehdaaGreatDoor
set_option maxRecDepth 100000
set_option maxHeartbeats 32000000
open Go.Value renaming int->J,pointer->A2,slice->A3,tuple->CA,agg->CV,func->C0,bool->C1
open Go.IntKind renaming i64->O,u64->C3
open Go.Proofs.Tryz renaming prog->V,ntmps61->CX,func61->C2
open Go.Ending renaming returned->Y
open Option renaming none->Z,some->A4
open And renaming intro->Ax
open Go renaming World->AA,Calls->Bd,bodyPost_ret->Bk,results_tmp2->Bx,Value->BC,results_cell_row->CL,TypeId->CR
open Bool renaming false->Bn,true->Bs
open Go.NoPanic renaming normal->BB
open Go.IntWalk renaming wrap64_in->BD
open Decidable renaming decide->BL
open Go.Exit renaming noGoto_ret->BR
open List renaming replicate->BX
open Or renaming inl->CB
variable{h d g n t y z A:Nat}{E r:AA}{a x:Ad}{b:Pl}{c:Int->List Nat}{e B:List Ah}{f:Nat->Au}{i:List Af}{j:Ap}{k:BitVec 64->Option Af}{l:Af}{o:Ah}{p:CR}{q:BC}{s:Au}{w:Int}
section
open Go Go.RowKit
attribute [local go_sem ↓] Go.wp_at_zero Go.wp_at_succ
theorem Ly{P:Program}{c:Func}{p t u:Tmp}{ty:CR}(h:c.results=#[.cell p ty,.tmp t,.tmp u])(a:Array BC)(w:AA)(g:Nat)(e:CR)(b:Array BC)(f:Nat×Nat)(d:TypeDesc)
  (i:a.getD p undef=A2 (A4 ⟨g,0,Z⟩))(j:w.heap[g]?=A4 (.cells b e f))
  (k:P.underlying ty=A4 d)(l:(match d with| .struct _| .array _ _=>Bs|_=>Bn)=Bs)(m:(P.info? ty).map (·.size)=A4 b.size):
  (results c a).run P w=.ok (CA #[CV b,a.getD t undef,a.getD u undef]) w:=by
 have n:a[p]?.getD undef=A2 (A4 ⟨g,0,Z⟩):=by simpa using i
 simp[results,h,n,asAddr,run_loadVar_row w g e ty b f d j k l m]
theorem ZU(q:XF E a d n t y b h o g z j c B e A f)(hq:g<=1073741500)(x:BitVec 64):
  Bd V 118 #[A2 (A4 ⟨d,0,Z⟩),J C3 (U x)] E λs w'=>s=Y (CA #[Lg ((Ba h f x).getD Af.ad),C1 (Ba h f x).isSome,J O 0])/\∃aj ak,Ab (SS 125) E a w' aj/\XF w' aj d n t y b h o (g+3) z j ak B e A f/\AN b c ak:=by
 have S:Ay x h<2^h:=JL x h (Ψ q.s.d.n.d1);obtain⟨r,hr⟩:∃r,e[Ay x h]?=A4 r:=⟨_,jW (by rw[q.x.x.aF];exact S)⟩;have am:=q.x.x.ok _ S;obtain⟨w0,aO,g0,T⟩:=Aq E 128 [J O 0,J O 0,J O 0];obtain⟨W,X⟩:=Ag (AL a E.heap.size 124)
 have H:Ab (λl=>l=124) E a w0 W:=by rw[<-X];exact Cc q.s.d.s.cl g0 (jS _) T.lt rfl
 have ap:W E.heap.size=124:=by rw[<-X];exact AY _ _ _
 have aa:XS w0 W d n t y b h o g z j c B e A:=q.s.ae H Ω Ω (q.s.d.s.ae H Ω Ω Ω Ω);have aq:=zh (OU aa q.x.x Ω x r hr);have aP:=zh aa;have HX:=zh q.x;have S0:=zh (Ax H ap);have B0:=zh T;have I:=zh am;unfold Ba;generalize f (Ay x h)=u at*;clear q hq S hr am g0 T H X ap aa
 go_enter Tryz.func118,Tryz.ntmps118
 go_wp2_with fail;refine aq.o.mono ?_;rintro s w1 ⟨a1,c1,rfl,K,aS,G,aw,L,ax⟩;clear aO aq;obtain⟨w2,aT,g2,m⟩:=Aq w1 209 [J O 0,J O 0,J O 0,J O 0,A3 Z 0 0];obtain⟨w3,aV,M,t3⟩:=FI m (J O r.1) (J O r.2) (J O u.d) (J O u.p) (A3 a1 u.es.length c1);have f0:=m.v 0;have f1:=m.v 1;have f2:=m.v 2;have f3:=m.v 3;have f4:=m.v 4;have v0:=m.m 0;have v1:=m.m 1;have v2:=m.m 2;have v3:=m.m 3;have v4:=m.m 4;have x2:=M.m 2;have x3:=M.m 3;have x4:=M.m 4;have g3:=Ac.grown g2 t3 (λl s=>by rw[s];exact jS _);have a3:=I.o.bA;have aH:=zh (Sr (u.d:Nat) (u.p:Nat) u.es (U x) a1 c1 w3 Ω I.o.bS (ax.1.grown g3 Δ))
 have N:∀l,l=6\/l=7\/l=124->¬SS 123 l:=λl hj=>by rintro(q|q)<;>omega
 have F:=zh (Ax (aP.o.ae G (N _ Ω) (N _ Ω) aw) (Ax (G.u B0.o (by rw[S0.o.2];exact N _ Ω)) (Ax (show K E.heap.size=124 by rw[G.ah _ B0.o.lt];exact S0.o.2) (Ax ((S0.o.1.mono (λl s=>show SS 125 l from .inr Ω)).trans (G.mono (EG Ω))) (Ax L g3)))));clear G aw L ax g2 g3 m M t3 N a3;go_wp2_with fail;refine aH.o.mono ?_;rintro s w4 ⟨i,hp,rfl,g4⟩;rw[Qr I.o.bS hp,LY I.o.bS hp];clear f0 f1 f2 f3 f4 v0 v1 v2 v3 v4 x2 x3 x4 aT aV hp aH;obtain⟨C,hy⟩:=Ag ((A9 u.es x).getD Af.ad);obtain⟨is,af⟩:=Ag ((A9 u.es x).isSome);have HY:=zh (Ax hy af);rw[hy,af];clear hy af;unfold Lg;obtain⟨w5,be,g5,v⟩:=Aq w4 128 [J O 0,J O 0,J O 0];obtain⟨w6,bf,P,t6⟩:=Br v (J O C.r) (J O C.a) (J O C.s);have f0:=v.v 0;have f1:=v.v 1;have f2:=v.v 2;have v0:=v.m 0;have v1:=v.m 1;have v2:=v.m 2;have x0:=P.m 0;have x1:=P.m 1;have x2:=P.m 2;have D:=Ae (Ae F.o.2.2.2.2.2 g4) (Ac.grown g5 t6 (λl s=>by rw[s];exact jS _));have w:=F.o.2.1.grown D Δ;have k0:=w.v 0;have k1:=w.v 1;have k2:=w.v 2;have z0:=w.m 0;have z1:=w.m 1;have z2:=w.m 2;obtain⟨w7,bo,Q,R⟩:=Br w (J O C.r) (J O C.a) (J O C.s);have a7:=zh (Ax D (Ax Q R));clear g4 g5 D v P t6 w Q R;go_wp2_with fail;obtain⟨a8,_,a9,aM,L,_⟩:=F.o;obtain⟨D,Q,R⟩:=a7.o;have ag:=a8.grown D;have s7:Ab (λl=>l=124) w6 K w7 K:=AG ag.d.s.cl R (λk s=>by rw[s];exact a9);exact Bk (Ly (p:=4) (ty:=128) rfl _ _ E.heap.size _ _ _ _ rfl Q oc rfl rfl) rfl ⟨by rw[HY.o.1,HY.o.2];rfl,K,aS,(aM.trans (Ab.grown aM.new D)).trans (s7.mono (λl s=>.inr Ω)),⟨ag.ae s7 Ω Ω (ag.d.s.ae s7 Ω Ω Ω Ω),HX.o⟩,L⟩
theorem Sn{b:List Af}(d:Co b){i:Nat}(g:i<b.length)(h:BitVec 64):A9 (b.take i++b.drop (i+1)) h=if h=(b.getD i Af.ad).h then Z else A9 b h:=by
 have j:=Yj d i
 by_cases e:h=(b.getD i Af.ad).h
 ·rw[ke e,JE j];intro y f k;exact((RN d g y).1 f).2 (k.trans e)
 ·rw[j7 e];exact MI j d h (λy f=>by rw[RN d g];exact⟨λa=>a.1,λa=>⟨a,λc=>e (f▸c)⟩⟩)
theorem Rw(a:List Af)(i:Nat):(a.take i++a.drop (i+1)).Sublist a:=by
 conv=>rhs;rw[<-lh i a]
 refine List.Sublist.append (qw _) ?_;rw[show a.drop (i+1)=(a.drop i).drop 1 by rw[ou]];exact qt _ _
theorem XF.dg{l k:Ah}{q:Nat}{m:Ap}{v:Int->List Nat}{T:List Ah}(w:XF r x d g n t b h l q y m v T e z f){i:Nat}{p:Ah}(C:e[i]?=A4 p)(D:s.ok b.ba)(F:s.d=(f i).d)(G:s.p=(f i).p)
  (u:XS E a d g n t b h k A y j c B (Cr h s.d s.p e o) z)(H:Fr (p.1::AE l T) (o.1::AE k B) m j)(I:j o.1=A4 (o.2,s.ld)):XF E a d g n t b h k A y j c B (Cr h s.d s.p e o) z (Cy h f s):=
 ⟨u,w.x.put C D F G H u.d.l I⟩
theorem YJ(m:XF E a d n t y b h o g z j c B e A f)(hq:g<=1073710000)(x:BitVec 64):
  Bd V 63 #[A2 (A4 ⟨d,0,Z⟩),J C3 (U x)] E λp w'=>p=Y (CA #[C1 (Ba h f x).isSome,J O 0])/\∃L af M ag T' L' N,Ab (Dz 200) E a w' L/\XF w' L d n t y b h ag (g+1300) z af M T' L' A N/\AN b c M/\∀m,Ba h N m=if m=x then Z else Ba h f m:=by
 have h8:h<=8:=m.s.d.n.d1;have D:Ay x h<2^h:=JL x h Ω;obtain⟨r,v⟩:∃r,e[Ay x h]?=A4 r:=⟨_,jW (by rw[m.x.x.aF];exact D)⟩;have aj:=m.x.x.ok _ D;have ak:=zh (OU m.s m.x.x Ω x r v);have H:=zh m;have HQ:=zh hq
 have al:∀s,Ay s (f (Ay x h)).d=(f (Ay x h)).p->A9 (f (Ay x h)).es s=Ba h f s:=λs he=>(MK m.x.x Ω D he).symm
 have S:=m.x.x.dl _ D;obtain⟨l,P⟩:=Ag (f (Ay x h))
 have aH:Ay x l.d=l.p:=by rw[<-P];exact(JF x _ S Ω).1 (m.x.x.pf _ D)
 rw[P]at aj ak al S;have q:=zh (Ax v (Ax D (Ax aj (Ax al (Ax S (Ax P aH))))));have HI:Hd (Ba h f x=A9 l.es x):=zh (by unfold Ba;rw[P]);clear m hq h8 D v aj al S P aH
 go_enter Tryz.func63,Tryz.ntmps63
 go_wp2_with fail;refine ak.o.mono ?_;rintro p w1 ⟨a1,c1,rfl,aK,bf,T,aL,aM,aN⟩;clear ak;obtain⟨w2,bg,g2,u⟩:=Aq w1 209 [J O 0,J O 0,J O 0,J O 0,A3 Z 0 0];obtain⟨w3,bi,Q,t3⟩:=FI u (J O r.1) (J O r.2) (J O l.d) (J O l.p) (A3 a1 l.es.length c1);have f0:=u.v 0;have f1:=u.v 1;have f2:=u.v 2;have f3:=u.v 3;have f4:=u.v 4;have v0:=u.m 0;have v1:=u.m 1;have v2:=u.m 2;have v3:=u.m 3;have v4:=u.m 4;have x2:=Q.m 2;have x3:=Q.m 3;have x4:=Q.m 4;have W:=Ac.grown g2 t3 (λG p=>by rw[p];exact jS _);have bp:=q.o.2.2.1.bA;have aQ:=zh (cM (l.d:Nat) (l.p:Nat) l.es (U x) a1 c1 w3 Ω q.o.2.2.1.bS (aN.1.grown W Δ))
 have ns:∀G,G=6\/G=7->¬SS 123 G:=λG hj=>by rintro(m|m)<;>omega
 have F:=zh (Ax ((H.o.s.ae T (ns _ Ω) (ns _ Ω) aL).grown W) (Ax (T.trans (Ab.grown T.new W)) aM));have B3:=zh Q;clear T aL aM aN g2 W u Q t3 ns bp;go_wp2_with fail;refine aQ.o.mono ?_;rintro p w4 ⟨i,a4,c4,w,X,I,rfl,o4,g4⟩;have K:=LY q.o.2.2.1.bS X;have aR:=OS q.o.2.2.1.bS X;clear f0 f1 f2 f3 f4 v0 v1 v2 v3 v4 x2 x3 x4 bg bi aQ;obtain⟨w5,bs,g5,C⟩:=Aq w4 160 [J O 0,J O 0,A3 Z 0 0];obtain⟨w6,bu,b6,t6⟩:=Br C (J O l.d) (J O l.p) (A3 a4 w.length c4);have f0:=C.v 0;have f1:=C.v 1;have f2:=C.v 2;have v0:=C.m 0;have v1:=C.m 1;have v2:=C.m 2;have x0:=b6.m 0;have x1:=b6.m 1;have x2:=b6.m 2;have g6:=Ac.grown g5 t6 (λG p=>by rw[p];exact jS _);have aA:=(B3.o.grown g4 Δ).grown g6 Δ;have y0:=aA.m 0;have y1:=aA.m 1;have G6:=zh (Ae g4 g6);have E6:=zh (show EY w6 aK a4 c4 w from EY.grown ⟨Ai.aj o4,λk hk=>⟨F.o.1.d.s.cl k (o4.lt k hk).1,(o4.lt k hk).2⟩⟩ g6);have ae:=zh (Ax I (Ax K (Ax aR X)));clear g4 g5 g6 C b6 t6 aA o4 I K aR X;obtain⟨is,K⟩:=Ag (AW l.es (U x) i);have bC:=zh K;rw[K]at ae⊢;clear K
 cases is with
 |false=>
  go_wp2_with fail
  have aV:A9 l.es x=Z:=by have:=ae.o.2.2.1;simpa using this
  exact Bk (Bx rfl _ _ _) rfl ⟨by rw[HI.o,aV];rfl,aK,j,bf,o,B,e,f,(F.o.2.1.trans (Ab.grown F.o.2.1.new G6.o)).mono (Jb Ω),⟨(F.o.1.grown G6.o).mono Ω,H.o.x⟩,F.o.2.2,λs=>by
   by_cases p:s=x
   ·rw[ke p,p,HI.o,aV]
   ·rw[j7 p]⟩
 |true=>
  have I:w=l.es.take i++l.es.drop (i+1):=by rw[ae.o.1,ke rfl]
  have aB:A9 l.es x=A4 (l.es.getD i Af.ad):=by rw[ae.o.2.2.1,ke rfl]
  have aW:i<l.es.length:=by
   have h1:=bC.o;unfold AW at h1;rw[kh]at h1;exact kQ h1.1
  have aX:(l.es.getD i Af.ad).h=x:=((IY q.o.2.2.1.bS x _).1 aB).2;have aD:Au.ok b.ba {l with es:=w}:=q.o.2.2.1.gz (by rw[I];exact Rw _ _);have v:=q.o.1;have aY:=H.o.x.x.cZ _ r v;have aZ:=H.o.x.cC v;have a0:=H.o.x.x.fX v (b:={l with es:=w}) (by show l.d=_;rw[q.o.2.2.2.2.2.1]) (by show l.p=_;rw[q.o.2.2.2.2.2.1]);have a2:=zh (Ks (F.o.1.grown G6.o) (Ψ HQ.o) (H.o.dY.mono Ω) r (by rw[aY];simp) aZ {l with es:=w} aD q.o.2.2.2.2.1 a0 a4 c4 E6.o.1);have R:=zh (Ax aD (Ax I (Ax aW (Ax aX aB))));clear I aB aW aX aD v aY aZ a0;go_wp2_with fail;refine a2.o.mono ?_;rintro p w7 ⟨rfl,bD,bE,bF,bG,T7,r7,s7,a6,a7,a8,a9⟩;have aE:=H.o.dg q.o.1 R.o.1 (by show l.d=_;rw[q.o.2.2.2.2.2.1]) (by show l.p=_;rw[q.o.2.2.2.2.2.1]) a6 a8 a9;have bI:=H.o.s.d.n.d1
  have ba:∀s,Ba h (Cy h f {l with es:=w}) s=if s=x then Z else Ba h f s:=λs=>by
   rw[Mm (by exact q.o.2.2.2.2.1) Ω]
   by_cases p:Ay s l.d=l.p
   ·rw[ke p];show A9 w s=_;rw[R.o.2.1,Sn q.o.2.2.1.bS R.o.2.2.1,R.o.2.2.2.1,q.o.2.2.2.1 s p]
   ·rw[j7 p,j7 (λbJ=>p (by rw[bJ];exact q.o.2.2.2.2.2.2))]
  have bK:=zh (show∃L af M ag T' L' N,Ab (Dz 200) E a w7 L/\XF w7 L d n t y b h ag (g+1300) z af M T' L' A N/\AN b c M/\∀m,Ba h N m=if m=x then Z else Ba h f m from
   ⟨bD,bE,bF,bG,T7,_,_,((F.o.2.1.trans (Ab.grown F.o.2.1.new G6.o)).mono (Jb Ω)).trans s7,⟨aE.s.mono Ω,aE.x⟩,F.o.2.2.trans a7,ba⟩)
  clear s7 a6 a7 a8 a9 aE ba bI a2 f0 f1 f2 v0 v1 v2 x0 x1 x2 y0 y1 bs bu;go_wp2_with fail;exact Bk (Bx rfl _ _ _) rfl ⟨by rw[HI.o,R.o.2.2.2.2];rfl,bK.o⟩
end
section
open Go.RowKit
theorem dV{b:List Af}(d:Co b){i:Nat}(f:Ef b (U l.h) i)(h:BitVec 64):A9 (Dd b l i (AW b (U l.h) i)) h=if h=l.h then A4 l else A9 b h:=by
 have g:=Sa d f
 by_cases e:h=l.h
 ·rw[ke e];exact(IY g h l).2 ⟨(OO d f l).2 (CB rfl),e.symm⟩
 ·rw[j7 e]
  exact MI g d h (λy j=>by
   rw[OO d f]
   exact⟨λa=>a.elim (λc=>absurd (j.symm.trans (kL Af.h c)) e) (λa=>a.1),λa=>.inr ⟨a,λc=>e (j.symm.trans c)⟩⟩)
theorem iH(b:BY 0 0 1 [l]=Bs)(e:h<=8)(c:Ay l.h h=d):CT h d l=Bs:=by
 have a:=(Fw.1 b).2.1 l Δ;unfold CT at a⊢;rw[kh]at a⊢;refine⟨a.1,jT ?_⟩;rw[Ky _ _ Ω,c]
theorem Au.ok.fY(a:s.ok h){es:List Af}(c:es.Sublist s.es)(j:BY 0 0 1 [l]=Bs)(k:Ay l.h s.d=s.p)(d:FX h es l.h=Bs){i:Nat}(b:Ef es (U l.h) i):Au.ok h {s with es:=Dd es l i (AW es (U l.h) i)}:=by
 have f:Co es:=a.bS.sublist c;have o:=c.length_le;have m:=a.bA;refine a.gI _ (Sa f b) ?_ (λy g=>?_)
 ·rw[aY es l b.le,LY f b];unfold FX at d
  cases n:(A9 es l.h).isSome with
  |true=>simp;omega
  |false=>
   rw[n]at d;have:=kQ (by simpa using d:decide (es.length<h)=true);simp;omega
 ·rcases(OO f b y).1 g with e|⟨g,_⟩
  ·rw[e];exact iH j m.2.2.1 k
  ·exact a.gl (c.subset g)
def GI(F a:BitVec 64->Option Af)(o:Int)(x:Af):Prop:=a x.h=A4 x/\∀h,h≠x.h->a h=F h\/(a h=Z/\∃e,F h=A4 e/\e.r<o)
def I9(F a:BitVec 64->Option Af)(x:Af):Prop:=a x.h=A4 x/\∀h,h≠x.h->a h=F h\/a h=Z
theorem FH.gb{f g:BitVec 64->Option Af}(h:FH k f w)(i:GI f g w l):GI k g w l:=
 ⟨i.1,λa j=>by
  rcases i.2 a j with b|⟨b,e,c,m⟩
  ·rw[b];exact h a
  ·rcases h a with d|⟨d,_⟩
   ·exact .inr ⟨b,e,by rw[<-d];exact c,m⟩
   ·rw[d]at c;cases c⟩
theorem FH.iE{b d:BitVec 64->Option Af}(h:FH k b w)(e:I9 b d l):I9 k d l:=
 ⟨e.1,λf g=>by
  rcases e.2 f g with a|a
  ·rw[a];exact(h f).imp id (λc=>c.1)
  ·exact .inr a⟩
theorem Md(k:Cj j g h e f)(m:h<=20){i:Nat}(n:i<2^h)(o:f i=s){es:List Af}(p:Co es)(q:Ay l.h s.d=s.p)(r:Ef es (U l.h) d)(a:BitVec 64):
  Ba h (Cy h f {s with es:=Dd es l d (AW es (U l.h) d)}) a=if a=l.h then A4 l else if Ay a s.d=s.p then A9 es a else Ba h f a:=by
 have t:s.d<=h:=by rw[<-o];exact k.dl i n
 rw[Mm (by exact t) m]
 by_cases b:Ay a s.d=s.p
 ·rw[ke b,ke b];exact dV p r a
 ·rw[j7 b,j7 b,j7 (λc=>b (by rw[c];exact q))]
theorem Tx(k:Cj j g h e f)(m:h<=20){i:Nat}(n:i<2^h)(c:f i=s){es:List Af}(p:Co es)(q:Ay l.h s.d=s.p)(r:Ef es (U l.h) d)(o:Int)
  (t:∀a,A9 es a=A9 s.es a\/(A9 es a=Z/\∃b,A9 s.es a=A4 b/\b.r<o)):GI (Ba h f) (Ba h (Cy h f {s with es:=Dd es l d (AW es (U l.h) d)})) o l:=by
 refine⟨by rw[Md k m n c p q r,ke rfl],λa u=>?_⟩;rw[Md k m n c p q r,j7 u]
 by_cases b:Ay a s.d=s.p
 ·rw[ke b,MK k m n (by rw[c];exact b),c];exact t a
 ·rw[j7 b];exact CB rfl
theorem aT(c:Cj j g h e f)(k:h<=20){i:Nat}(m:i<2^h)(b:f i=s){es:List Af}(o:Co es)(p:Ay l.h s.d=s.p)(q:Ef es (U l.h) d)
  (r:∀a,A9 es a=A9 s.es a\/A9 es a=Z):I9 (Ba h f) (Ba h (Cy h f {s with es:=Dd es l d (AW es (U l.h) d)})) l:=by
 refine⟨by rw[Md c k m b o p q,ke rfl],λa t=>?_⟩;rw[Md c k m b o p q,j7 t]
 by_cases n:Ay a s.d=s.p
 ·rw[ke n,MK c k m (by rw[b];exact n),b];exact r a
 ·rw[j7 n];exact CB rfl
theorem fq{a:List Af}(h:a≠[]):∃i:Nat,No a=i/\i<a.length:=by
 unfold No;obtain⟨k,d⟩:∃k,a.length=k+1:=⟨a.length - 1,Ψ (List.length_pos_iff.2 h)⟩
 cases c:Fp a a.length with
 |none=>
  exfalso
  rw[d]at c;simp only[Fp]at c
  split at c<;>simp at c
  split at c<;>simp at c
 |some b=>exact⟨b,rfl,Pb a _ b c⟩
end
section
open Go Go.RowKit
attribute [local go_sem ↓] Go.wp_at_zero Go.wp_at_succ
def MJ(w:AA)(h:Ad)(X D s d:Nat)(P:Pl)(q i:Nat)(j:Int->List Nat)(k:Nat)(F:BitVec 64->Option Af)(o:Int)(x:Af)(l:Bool)(c:AA):Prop:=
 ∃e a m n f p r g b,Ab (Dz 200) w h c e/\XF c e X D s d P a m (q+70000) i n f p r g b/\AN P j f/\g<=k+8/\I9 F (Ba a b) x/\(l=Bn->GI F (Ba a b) o x)
def bN(w:AA)(b:Ad)(X D s d:Nat)(P:Pl)(q c:Nat)(f:Int->List Nat)(g:Nat)(F:BitVec 64->Option Af)(o:Int)(x:Af)(e:Ending)(h:AA):Prop:=
 ∃a,e=Y (CA #[C1 a,J O 0])/\MJ w b X D s d P q c f g F o x a h
theorem GI.cF{a:BitVec 64->Option Af}(h:GI k a w l):I9 k a l:=⟨h.1,λb d=>(h.2 b d).imp id (λc=>c.1)⟩
theorem ME{b f g i:BC}(j:Aa E h p [q,b,f,g,i])(c d e:BC):∃a,(((E.setCell ⟨h,2,Z⟩ c).setCell ⟨h,3,Z⟩ d).setCell ⟨h,4,Z⟩ e)=a/\Aa a h p [q,b,c,d,e]/\Ac (λk=>k=h) E a:=
 ⟨_,rfl,((j.setCell 2 _).setCell 3 _).setCell 4 _,((AF _ _ _ _).trans (AF _ _ _ _)).trans (AF _ _ _ _)⟩
theorem fh{b c d f:BC}(g:Aa E h p [q,b,c,d,f])(e:BC):∃a,(E.setCell ⟨h,4,Z⟩ e)=a/\Aa a h p [q,b,c,d,e]/\Ac (λk=>k=h) E a:=
 ⟨_,rfl,g.setCell 4 _,AF _ _ _ _⟩
theorem NH{a:Option Addr}{n r s:Int}(f:Ai E 4 (A3 a h d) h (Av i))(t:1<=h)(u:Aa E g p [J O w,J O n,J O r,J O s,q])(v:∃j l m,q=A3 j l m):∀b,(A3 a h d).ownBlock=A4 b->b≠g:=by
 obtain⟨j,l,m,rfl⟩:=v;obtain⟨b,o,rfl,x⟩:=f.aZ t;intro k y e
 cases y
 have z:0<i.length:=by have:=f.1;rw[Fx]at this;omega
 have c:=x _ _ (FS i 0 z).1;subst e;rw[u.cell?]at c
 match o,c with
 |0,c=>simp at c
 |1,c=>simp at c
 |2,c=>simp at c
 |3,c=>simp at c
 |4,c=>simp at c
 |o+5,c=>simp at c
theorem YV(q:Nat){N:Nat}(a:h<=N)(_:N<=8)(c:1<=h):q+7000*(N - h)+3+6000<=q+7000*(N - (h - 1)):=Ω
structure jA(c:Ap)(a:Nat)(L:List Ah)(B:Nat->Au)(d i:Nat)(x:Af)(r:Ah)(b:Au):Prop where
 hi:i<2^a
 hr:L[i]?=A4 r
 hb:B i=b
 ok:b.ok d
 dl:b.d<=a
 aM:Ay x.h b.d=b.p
 cZ:c r.1=A4 (r.2,b.ld)
theorem IX.iZ(a:IX j g d h o B e f)(k:h<=8)(x:Af):∃r,jA j h e f d (Ay x.h h) x r (f (Ay x.h h)):=by
 have b:Ay x.h h<2^h:=JL x.h h Ω;obtain⟨r,c⟩:∃r,e[Ay x.h h]?=A4 r:=⟨_,jW (by rw[a.x.aF];exact b)⟩;have i:=a.x.dl _ b;exact⟨r,b,c,rfl,a.x.ok _ b,i,(JF x.h _ i Ω).1 (a.x.pf _ b),a.x.cZ _ r c⟩
def PZ(w:AA)(f:Ad)(X D s d:Nat)(P:Pl)(q g:Nat)(h:Int->List Nat)(i:Nat)(F:BitVec 64->Option Af)(o:Int)(x:Af)(N k:Nat)(wr:AA):Prop:=
 ∃c a j l b T L e B,XF wr c X D s d P a j (q+7000*(N - k)) g l b T L e B/\(B (Ay x.h a)).d+k=P.dp/\e<=i+(N - k)/\Ab (Dz 200) w f wr c/\AN P h b/\FH F (Ba a B) o/\Aa wr w.heap.size 237 x.cells/\c w.heap.size=0
theorem dw{ay:Nat}(T:XF E a g n t ay b A o d z j c e B h f)(hq:d<=1073600000)(cD:h<=1073741000)(x:Af)(hx:BY 0 0 1 [x]=Bs)(L:Int):
  Bd V 128 #[A2 (A4 ⟨g,0,Z⟩),x.val,J O L] E (bN E a g n t ay b d z c h (Ba A f) L x):=by
 obtain⟨w0,cF,g0,b0⟩:=Aq E 237 x.cells;have x0:=b0.m 0;have x1:=b0.m 1;have w:=b0.m 2;have D:=b0.m 3;obtain⟨F,hF⟩:=Ag (Ba A f);have bK:(f (Ay x.h A)).d<=b.dp:=j8 (T.x.x.dl _ (JL x.h A (Ψ T.s.d.n.d1))) T.s.dd;obtain⟨N,hN⟩:=Ag (b.dp - (f (Ay x.h A)).d);have HN:Hd (N<=8):=zh (Ψ T.s.d.s.a1.e5)
 have M0:Hd (∀w1,w0.grownBy w1 Z->PZ E a g n t ay b d z c h F L x N N w1):=zh (λw1 g1=>
  ⟨a,A,o,j,c,e,B,h,f,by rw[lU];exact⟨T.s.grown (Ae g0 g1),T.x⟩,Ω,Ω,Ab.grown T.s.d.s.cl (Ae g0 g1),AN.refl _ _,by rw[hF];exact FH.refl _ _,b0.grown g1 Δ,T.s.d.s.cl _ (jS _)⟩)
 rw[hF];have HQ:=zh hq;have dE:=zh cD;have HX:=zh hx;have bL:=zh (Yq x w0);rw[hx]at bL;unfold Af.cells at cF;unfold Af.val at bL⊢;clear T hq cD hx g0 b0 hF bK hN
 go_enter Tryz.func128,Tryz.ntmps128
 go_wp2_with fail
 go_step3
 go_wp2_with fail;refine bL.o.mono ?_;rintro p w1 ⟨rfl,g1⟩;have M1:=zh (M0.o w1 g1);clear x0 x1 w D cF bL M0 g1;go_wp2_with fail
 go_step3
 go_wp2_with fail
 go_loopg [6] N (λk v6 wr=>v6=C1 Bn/\k<=N/\PZ E a g n t ay b d z c h F L x N k wr)
 case atStart=>exact⟨rfl,jS _,M1.o⟩
 case round=>
  obtain⟨rfl,M,cI,ac,d6,d7,d8,T1,L1,bk,B1,G,hd,cJ,cK,cL,cM,cc,cN⟩:=hrel;clear M1;have u:=zh G;obtain⟨r,aS⟩:=G.x.iZ G.s.d.n.d1 x;have HK:=zh (show gk<=N/\N<=8/\bk<=h+(N - gk)from⟨M,HN.o,cJ⟩);have cd:=zh (OU G.s G.x.x (by have:=HQ.o;have:=HN.o;omega) x.h r aS.hr);obtain⟨l,hb⟩:=Ag (B1 (Ay x.h ac));rw[hb]at aS cd hd;have m:=zh aS;have HD:=zh hd;have LF:=zh cM;have cQ:=zh (Ax cK cL);have bP:=zh (Ax cc cN);have P:=cc.m 0;clear G aS hb hd cJ cK cL cM cc cN M;go_wp2_with fail;refine cd.o.mono ?_;rintro p wV ⟨bl,k1,rfl,c1,eb,s1,cS,cT,cU⟩;clear cd P
  have ns:∀ad,ad=0\/ad=6\/ad=7->¬SS 123 ad:=λad hj=>by rintro(T|T)<;>omega
  have W:=zh (u.o.s.ae s1 (ns _ Ω) (ns _ Ω) cS);have bR:=zh (cQ.o.1.trans (s1.mono (Jb Ω)));have bS:=zh (cQ.o.2.trans cT);have BE:=zh (s1.u bP.o.1 (by rw[bP.o.2];exact ns _ Ω));have CE:Hd (c1 E.heap.size=0):=zh (by rw[s1.ah _ bP.o.1.lt];exact bP.o.2);have cW:=zh cU;clear s1 cS cT cU ns;obtain⟨w2,dH,g2,b2⟩:=Aq wV 209 [J O 0,J O 0,J O 0,J O 0,A3 Z 0 0];obtain⟨w3,dI,b3,t3⟩:=FI b2 (J O r.1) (J O r.2) (J O l.d) (J O l.p) (A3 bl l.es.length k1);have f0:=b2.v 0;have f1:=b2.v 1;have f2:=b2.v 2;have f3:=b2.v 3;have f4:=b2.v 4;have v0:=b2.m 0;have v1:=b2.m 1;have v2:=b2.m 2;have v3:=b2.m 3;have v4:=b2.m 4;have w:=b3.m 2;have D:=b3.m 3;have H:=b3.m 4;have g3:=Ac.grown g2 t3 (λad p=>by rw[p];exact jS _);have P:=(BE.o.grown g3 Δ).m 0;have G3:=zh g3;have B3:=zh b3;have R3:=zh (cW.o.1.grown g3 Δ);have c3:=zh (N0 (W.o.grown g3).x l m.o.ok bl k1 (cW.o.1.grown g3 Δ) x.h);clear g2 g3 b2 b3 t3;go_wp2_with fail;refine c3.o.mono ?_;rintro p w4 ⟨rfl,g4⟩;clear f0 f1 f2 f3 f4 v0 v1 v2 v3 v4 dH dI c3 P w D H;generalize c4:wV.heap.size=bx at*;have bp:Hd (wV.heap.size<=bx):=zh (pU c4);clear c4;obtain⟨rm,ce⟩:=Ag (FX b.ba l.es x.h);have c5:=zh ce;rw[ce];clear ce;have G4:=zh (Ae G3.o g4);have B4:=zh (B3.o.grown g4 Δ);have R4:=zh (R3.o.grown g4 Δ);clear g4 G3 B3 R3;have P:=(BE.o.grown G4.o Δ).m 0;have w:=B4.o.m 2;have D:=B4.o.m 3;have H:=B4.o.m 4
  cases rm with
  |true=>
   have bd:=c5;have X:=zh (qw l.es);have cf:=zh (N0 (W.o.grown G4.o).x l m.o.ok bl k1 R4.o x.h);rw[c5.o]at cf;go_wp2_with fail;refine cf.o.mono ?_;rintro p w5 ⟨rfl,g5⟩;have G5:=zh (Ae G4.o g5);have B5:=zh (B4.o.grown g5 Δ);have R5:=zh (R4.o.grown g5 Δ);clear g5 cf P w D H;have ae:Co (l.es):=m.o.ok.bS.sublist X.o;have af:=zh (OV (l.d:Nat) (l.p:Nat) (l.es) x bl k1 w5 (by have:=X.o.length_le;have:=m.o.ok.bA;omega) ae R5.o);unfold Af.val at af;have bq:=zh ae;have w:=B5.o.m 2;have D:=B5.o.m 3;have H:=B5.o.m 4;have I:=BE.o.grown G5.o Δ;have P:=I.m 0;have e1:=I.m 1;have e2:=I.m 2;have e3:=I.m 3;clear I ae;go_wp2_with fail;refine af.o.mono ?_;rintro p wP ⟨i,aP,cP,hp,rfl,Q,gP⟩;clear af w D H P e1 e2 e3;have R:=m.o.ok.fY X.o HX.o m.o.aM bd.o hp
   have aE:ac<=20:=by have:=u.o.s.d.n.d1;omega
   have ai:=Tx u.o.x.x aE m.o.hi m.o.hb bq.o m.o.aM hp L (λ_=>CB rfl);obtain⟨S,ak⟩:=Ag (Dd (l.es) x i (AW (l.es) (U x.h) i))
   have aF:1<=S.length:=by rw[<-ak];unfold Dd;rw[jU,kj];omega
   rw[ak]at R Q ai⊢;have q:=B5.o.grown gP Δ;have aG:=NH Q aF q ⟨_,_,_,rfl⟩;obtain⟨wQ,bs,C,tQ⟩:=ME q (J O l.d) (J O l.p) (A3 aP S.length cP);have f2:=q.v 2;have f3:=q.v 3;have f4:=q.v 4;have y2:=q.m 2;have y3:=q.m 3;have y4:=q.m 4;have gQ:=Ac.grown (Ae G5.o gP) tQ (λad p=>by rw[p];exact bp.o);have rQ:=tQ.aP Q (λk M p=>aG k M p);have aJ:=u.o.x.x.fX m.o.hr (b:={l with es:=S}) (by show l.d=_;rw[m.o.hb]) (by show l.p=_;rw[m.o.hb]);have aK:=zh (Ks (W.o.grown gQ) (by have:=HQ.o;have:=HK.o;omega) (u.o.dY.mono Ω) r (by rw[m.o.cZ];simp) (u.o.x.cC m.o.hr) {l with es:=S} R m.o.dl aJ aP cP rQ);have aq:=zh (Ax R ai);have GQ:=zh gQ;have z0:=C.m 0;have z1:=C.m 1;have z2:=C.m 2;have z3:=C.m 3;have z4:=C.m 4;clear R ai ak aF q aG C tQ gQ rQ aJ Q gP hp aE;go_wp2_with fail;refine aK.o.mono ?_;rintro p w9 ⟨rfl,c9,aZ,a0,a1,T9,r9,Y,aL,an,aM,aN⟩;have G:=u.o.dg m.o.hr aq.o.1 (by show l.d=_;rw[m.o.hb]) (by show l.p=_;rw[m.o.hb]) aL aM aN
   have bA:=zh (show MJ E a g n t ay b d z c h F L x Bn w9 from
    ⟨c9,ac,a1,aZ,a0,T9,_,bk,_,(bR.o.trans (Ab.grown W.o.d.s.cl GQ.o)).trans Y,⟨G.s.mono (Ψ HK.o),G.x⟩,bS.o.trans an,Ψ HK.o,GI.cF (LF.o.gb aq.o.2),λ_=>LF.o.gb aq.o.2⟩)
   clear Y aL an aM aN G z0 z1 z2 z3 z4 f2 f3 f4 y2 y3 y4 bs aK;go_wp2_with fail
   try rw[BR]
   exact Bk (Bx rfl _ _ _) rfl ⟨Bn,rfl,bA.o⟩
  |false=>
   have dc:=zh (aj (l.d:Nat) (l.p:Nat) L l.es bl k1 w4 (Ψ m.o.ok.bA) R4.o);go_wp2_with fail;refine dc.o.mono ?_;rintro p w5 ⟨v,rfl,o5,g5⟩;obtain⟨s,bW⟩:=Ag (Ih L l.es);rw[bW]at o5;obtain⟨a5,k5,rfl⟩:=(Ai.aj o5).slice;have X:Hd (s.Sublist l.es):=zh (by rw[<-bW];exact oN);have cg:=zh bW;clear P w D H dc bW;have b5:=B4.o.grown g5 Δ;obtain⟨w6,dU,b6,t6⟩:=ME b5 (J O l.d) (J O l.p) (A3 a5 s.length k5);have f2:=b5.v 2;have f3:=b5.v 3;have f4:=b5.v 4;have y2:=b5.m 2;have y3:=b5.m 3;have y4:=b5.m 4;have w:=b6.m 2;have D:=b6.m 3;have H:=b6.m 4;have o6:=t6.aL o5 (λk M p=>Bh b5 o5 Ξ (by rw[<-p];exact M));have g6:=Ac.grown (Ae G4.o g5) t6 (λad p=>by rw[p];exact bp.o);have P:=(BE.o.grown g6 Δ).m 0;have cj:Au.ok b.ba {l with es:=s}:=m.o.ok.gz X.o;have dd:=zh (N0 (W.o.grown g6).x {l with es:=s} cj a5 k5 (Ai.aj o6) x.h);have G6:=zh g6;have B6:=zh b6;have O6:=zh (BQ o6 G4.o.size);have bD:=zh cj;clear b5 b6 t6 o5 o6 g5 g6 cj;go_wp2_with fail;refine dd.o.mono ?_;rintro p w7 ⟨rfl,g7⟩;clear f2 f3 f4 y2 y3 y4 dU dd P w D H;have G7:=zh (Ae G6.o g7);have B7:=zh (B6.o.grown g7 Δ);have O7:=zh (AP O6.o g7);have R7:=zh (Ai.aj O7.o);clear g7 G6 B6 O6 G4 B4 R4;obtain⟨dW,cl⟩:=Ag (FX b.ba s x.h);have bd:=zh cl;rw[cl];clear cl
   cases dW with
   |true=>
    have ae:Co (s):=m.o.ok.bS.sublist X.o;have af:=zh (OV (l.d:Nat) (l.p:Nat) (s) x a5 k5 w7 (by have:=X.o.length_le;have:=m.o.ok.bA;omega) ae R7.o);unfold Af.val at af;have bq:=zh ae;have w:=B7.o.m 2;have D:=B7.o.m 3;have H:=B7.o.m 4;have I:=BE.o.grown G7.o Δ;have P:=I.m 0;have e1:=I.m 1;have e2:=I.m 2;have e3:=I.m 3;clear I ae;go_wp2_with fail;refine af.o.mono ?_;rintro p wP ⟨i,aP,cP,hp,rfl,Q,gP⟩;clear af w D H P e1 e2 e3;have R:=m.o.ok.fY X.o HX.o m.o.aM bd.o hp
    have aE:ac<=20:=by have:=u.o.s.d.n.d1;omega
    have ai:=Tx u.o.x.x aE m.o.hi m.o.hb bq.o m.o.aM hp L (λK=>by have:=Oo m.o.ok.bS L K;rw[cg.o]at this;exact this);obtain⟨S,ak⟩:=Ag (Dd (s) x i (AW (s) (U x.h) i))
    have aF:1<=S.length:=by rw[<-ak];unfold Dd;rw[jU,kj];omega
    rw[ak]at R Q ai⊢;have q:=B7.o.grown gP Δ;have aG:=NH Q aF q ⟨_,_,_,rfl⟩;obtain⟨wQ,bs,C,tQ⟩:=ME q (J O l.d) (J O l.p) (A3 aP S.length cP);have f2:=q.v 2;have f3:=q.v 3;have f4:=q.v 4;have y2:=q.m 2;have y3:=q.m 3;have y4:=q.m 4;have gQ:=Ac.grown (Ae G7.o gP) tQ (λad p=>by rw[p];exact bp.o);have rQ:=tQ.aP Q (λk M p=>aG k M p);have aJ:=u.o.x.x.fX m.o.hr (b:={l with es:=S}) (by show l.d=_;rw[m.o.hb]) (by show l.p=_;rw[m.o.hb]);have aK:=zh (Ks (W.o.grown gQ) (by have:=HQ.o;have:=HK.o;omega) (u.o.dY.mono Ω) r (by rw[m.o.cZ];simp) (u.o.x.cC m.o.hr) {l with es:=S} R m.o.dl aJ aP cP rQ);have aq:=zh (Ax R ai);have GQ:=zh gQ;have z0:=C.m 0;have z1:=C.m 1;have z2:=C.m 2;have z3:=C.m 3;have z4:=C.m 4;clear R ai ak aF q aG C tQ gQ rQ aJ Q gP hp aE;go_wp2_with fail;refine aK.o.mono ?_;rintro p w9 ⟨rfl,c9,aZ,a0,a1,T9,r9,Y,aL,an,aM,aN⟩;have G:=u.o.dg m.o.hr aq.o.1 (by show l.d=_;rw[m.o.hb]) (by show l.p=_;rw[m.o.hb]) aL aM aN
    have bA:=zh (show MJ E a g n t ay b d z c h F L x Bn w9 from
     ⟨c9,ac,a1,aZ,a0,T9,_,bk,_,(bR.o.trans (Ab.grown W.o.d.s.cl GQ.o)).trans Y,⟨G.s.mono (Ψ HK.o),G.x⟩,bS.o.trans an,Ψ HK.o,GI.cF (LF.o.gb aq.o.2),λ_=>LF.o.gb aq.o.2⟩)
    clear Y aL an aM aN G z0 z1 z2 z3 z4 f2 f3 f4 y2 y3 y4 bs aK;go_wp2_with fail
    try rw[BR]
    exact Bk (Bx rfl _ _ _) rfl ⟨Bn,rfl,bA.o⟩
   |false=>
    have w:=B7.o.m 2;have y3:=(W.o.grown G7.o).x.cells.2.2.2.1;have e2:=AV w;have e3:=AV y3;clear w y3
    by_cases bF:l.d<b.dp
    ·have t1:BL ((l.d:Int)<(b.dp:Int))=Bs:=jT Ω;have cn:BL (l.d<b.dp)=Bs:=jT bF;have dh:=zh bF;clear bF;go_wp2_with fail;refine CU Φ Φ ?_
     repeat(go_big_quiet_step (fail))
     refine wpQuiet_nil ?_;rintro _ ⟨gg,rfl⟩;have g8:=CY gg;generalize gw gg=w8 at*;clear e2 e3 gg t1 cn;have G8:=zh (Ae G7.o g8);have b8:=B7.o.grown g8 Δ;have x0:=b8.m 0;have x1:=b8.m 1;have w:=b8.m 2;have D:=b8.m 3;have H:=b8.m 4;have di:EY w8 c1 a5 k5 s:=⟨R7.o.grown g8 Δ,λk M=>⟨W.o.d.s.cl k (O7.o.lt k M).1,jY (O7.o.lt k M).2 g8.size⟩⟩;have dj:=zh (WT (y:={l with es:=s}) ⟨W.o.grown G8.o,u.o.x⟩ (by have:=HQ.o;have:=HK.o;omega) (by have:=dE.o;have:=HK.o;omega) (Ay x.h ac) r ⟨m.o.hr,bD.o,by show l.d=_;rw[m.o.hb],by show l.p=_;rw[m.o.hb]⟩ dh.o a5 k5 di);have dk:=zh (BE.o.grown G8.o Δ);clear b8 di g8;go_wp2_with fail;refine dj.o.mono ?_;rintro p w9 ⟨rfl,c9,cp,a1,aZ,a0,T9,L9,B9,Y,cr,an,dl,dm⟩;clear dj x0 x1 w D H
     have ns:¬Dz 200 0:=by rintro(T|T)<;>omega
     have dn:FH (Ba ac B1) (Ba cp B9) L:=λK=>by
      rw[dl K];show(if Ay K l.d=l.p then A9 s K else Ba ac B1 K)=Ba ac B1 K\/(_=Z/\_)
      by_cases p:Ay K l.d=l.p
      ·rw[ke p,MK u.o.x.x (Ψ u.o.s.d.n.d1) m.o.hi (by rw[m.o.hb];exact p),m.o.hb];have:=Oo m.o.ok.bS L K;rw[cg.o]at this;exact this
      ·rw[j7 p];exact CB rfl
     have bK:(B9 (Ay x.h cp)).d=l.d+1:=dm x.h m.o.aM
     have dp:Hd (gk - 1<gk/\gk - 1<=N/\PZ E a g n t ay b d z c h F L x N (gk - 1) w9):=zh (by
      have hd:=HD.o;have dq:=HK.o;have eg:=dh.o
      refine⟨Ω,Ω,c9,cp,a1,aZ,a0,T9,L9,bk+1,B9,⟨cr.s.mono (YV d dq.1 dq.2.1 Ω),cr.x⟩,by rw[bK];omega,Ω,(bR.o.trans (Ab.grown W.o.d.s.cl G8.o)).trans Y,bS.o.trans an,LF.o.trans dn,Y.u dk.o (by rw[CE.o];exact ns),by rw[Y.ah _ dk.o.lt];exact CE.o⟩)
     clear Y cr an dl dm dn bK ns;go_wp2_with fail
     go_roundg (gk - 1)
     case measure=>exact dp.o.1
     exact⟨rfl,dp.o.2⟩
    ·have t1:BL ((l.d:Int)<(b.dp:Int))=Bn:=jV Ω;have cn:BL (l.d<b.dp)=Bn:=jV bF
     have dY:Hd (s≠[]):=zh (λp=>by
      have h1:=bd.o;rw[p]at h1;unfold FX at h1;have h2:=(Kj m.o.ok).1;simp[A9]at h1
      omega)
     obtain⟨bh,aS,dr⟩:=fq dY.o;have bG:=zh (Ax aS dr);clear bF aS dr;go_wp2_with fail;refine CU Φ Φ ?_
     repeat(go_big_quiet_step (fail))
     refine wpQuiet_nil ?_;rintro _ ⟨gg,rfl⟩;have g8:=CY gg;generalize gw gg=w8 at*;clear e2 e3 gg t1 cn;have G8:=zh (Ae G7.o g8);have B8:=zh (B7.o.grown g8 Δ);have O8:=zh (AP O7.o g8);clear g8 G7 B7 O7 R7;have w:=B8.o.m 2;have D:=B8.o.m 3;have H:=B8.o.m 4;have ct:=zh (WK (l.d:Nat) (l.p:Nat) s a5 k5 w8 (by have:=bD.o.bA;show s.length<=300;have h2:s.length<=b.ba:=this.1;omega) (Ai.aj O8.o));rw[bG.o.1]at ct;go_wp2_with fail;refine ct.o.mono ?_;rintro p wA ⟨rfl,gA⟩;clear ct w D H;have GA:=zh (Ae G8.o gA);have BA:=zh (B8.o.grown gA Δ);have OA:=zh (AP O8.o gA);clear gA G8 B8 O8;have H:=BA.o.m 4;have d1:wrap64 ((bh:Int)+1)=(bh:Int)+1:=BD _ (by have h1:=bG.o.2;have h2:=bD.o.bA.1;have h3:=m.o.ok.bA;have h4:s.length<=b.ba:=h2;omega);have dt:=zh (Rb s bh wV.heap.size (A3 a5 s.length k5) wA (by have h2:s.length<=b.ba:=bD.o.bA.1;have h3:=m.o.ok.bA;omega) bG.o.2 OA.o);go_wp2_with fail;refine dt.o.mono ?_;rintro p wC ⟨vC,rfl,oC,gC⟩;obtain⟨ds,cy⟩:=Ag (s.take bh++s.drop (bh+1));rw[cy]at oC;obtain⟨aC,kC,rfl⟩:=(Ai.aj oC).slice;have cz:=zh cy;clear cy H d1 dt;have bC:=BA.o.grown gC (λp=>Bh BA.o OA.o Ξ p.symm);have dx:=Gt GA.o OA.o (jS _) gC;obtain⟨wE,ek,bE,tE⟩:=fh bC (A3 aC ds.length kC);have f4:=bC.v 4;have y4:=bC.m 4;have oE:=tE.aL oC (λk M p=>Bh bC oC Ξ (by rw[<-p];exact M));have gE:=Ac.grown dx tE (λad p=>by rw[p];exact bp.o);have GE:=zh gE;have b1:=zh bE;have RE:=zh (Ai.aj oE);have dC:=X;have X:Hd (ds.Sublist l.es):=zh (by rw[<-cz.o];exact(Rw _ _).trans dC.o)
     have bd:Hd (FX b.ba ds x.h=Bs):=zh (by
      have h1:=bG.o.2;have h2:s.length<=b.ba:=bD.o.bA.1
      have h3:ds.length<b.ba:=by rw[<-cz.o,jU,kA,kK];omega
      unfold FX
      rw[jT h3,pR])
     have d4:Hd (∀K,A9 ds K=A9 l.es K\/A9 ds K=Z):=zh (λK=>by
      have h1:=Sn (m.o.ok.bS.sublist dC.o) bG.o.2 K;rw[cz.o]at h1;rw[h1]
      by_cases p:K=(s.getD bh Af.ad).h
      ·exact .inr (ke p)
      ·rw[j7 p];have h2:=Oo m.o.ok.bS L K;rw[cg.o]at h2
       exact h2.imp id (λcB=>cB.1))
     clear oC gC bC dx bE tE oE gE;have ae:Co (ds):=m.o.ok.bS.sublist X.o;have af:=zh (OV (l.d:Nat) (l.p:Nat) (ds) x aC kC wE (by have:=X.o.length_le;have:=m.o.ok.bA;omega) ae RE.o);unfold Af.val at af;have bq:=zh ae;have w:=b1.o.m 2;have D:=b1.o.m 3;have H:=b1.o.m 4;have I:=BE.o.grown GE.o Δ;have P:=I.m 0;have e1:=I.m 1;have e2:=I.m 2;have e3:=I.m 3;clear I ae;go_wp2_with fail;refine af.o.mono ?_;rintro p wP ⟨i,aP,cP,hp,rfl,Q,gP⟩;clear af w D H P e1 e2 e3;have R:=m.o.ok.fY X.o HX.o m.o.aM bd.o hp
     have aE:ac<=20:=by have:=u.o.s.d.n.d1;omega
     have ai:=aT u.o.x.x aE m.o.hi m.o.hb bq.o m.o.aM hp d4.o;obtain⟨S,ak⟩:=Ag (Dd (ds) x i (AW (ds) (U x.h) i))
     have aF:1<=S.length:=by rw[<-ak];unfold Dd;rw[jU,kj];omega
     rw[ak]at R Q ai⊢;have q:=b1.o.grown gP Δ;have aG:=NH Q aF q ⟨_,_,_,rfl⟩;obtain⟨wQ,bs,C,tQ⟩:=ME q (J O l.d) (J O l.p) (A3 aP S.length cP);have f2:=q.v 2;have f3:=q.v 3;have f4:=q.v 4;have y2:=q.m 2;have y3:=q.m 3;have y4:=q.m 4;have gQ:=Ac.grown (Ae GE.o gP) tQ (λad p=>by rw[p];exact bp.o);have rQ:=tQ.aP Q (λk M p=>aG k M p);have aJ:=u.o.x.x.fX m.o.hr (b:={l with es:=S}) (by show l.d=_;rw[m.o.hb]) (by show l.p=_;rw[m.o.hb]);have aK:=zh (Ks (W.o.grown gQ) (by have:=HQ.o;have:=HK.o;omega) (u.o.dY.mono Ω) r (by rw[m.o.cZ];simp) (u.o.x.cC m.o.hr) {l with es:=S} R m.o.dl aJ aP cP rQ);have aq:=zh (Ax R ai);have GQ:=zh gQ;have z0:=C.m 0;have z1:=C.m 1;have z2:=C.m 2;have z3:=C.m 3;have z4:=C.m 4;clear R ai ak aF q aG C tQ gQ rQ aJ Q gP hp aE;go_wp2_with fail;refine aK.o.mono ?_;rintro p w9 ⟨rfl,c9,aZ,a0,a1,T9,r9,Y,aL,an,aM,aN⟩;have G:=u.o.dg m.o.hr aq.o.1 (by show l.d=_;rw[m.o.hb]) (by show l.p=_;rw[m.o.hb]) aL aM aN
     have bA:=zh (show MJ E a g n t ay b d z c h F L x Bs w9 from
      ⟨c9,ac,a1,aZ,a0,T9,_,bk,_,(bR.o.trans (Ab.grown W.o.d.s.cl GQ.o)).trans Y,⟨G.s.mono (Ψ HK.o),G.x⟩,bS.o.trans an,Ψ HK.o,LF.o.iE aq.o.2,λcB=>by cases cB⟩)
     clear Y aL an aM aN G z0 z1 z2 z3 z4 f2 f3 f4 y2 y3 y4 bs aK;go_wp2_with fail
     try rw[BR]
     exact Bk (Bx rfl _ _ _) rfl ⟨Bs,rfl,bA.o⟩
theorem dH(s i n k l m c o:Nat)(p:BitVec 64)(r q t u g v x:Nat)(w:AA)
  (D:∀W,w.grownBy W Z->Bd V 136 #[A2 (A4 ⟨s,0,Z⟩)] W λe d=>e=Y (CV #[J O i,J O n,J O k,J O l,J O m,J O c,J O o,J C3 (U p)])/\W.grownBy d Z)
  (f:∀W,Bd V 32 #[CV (CH i n k l m c o p).toArray] W λe d=>e=Y (CA #[CV (EN r q t u g v x).toArray,J O 0])/\W.grownBy d Z):
  Bd V 81 #[A2 (A4 ⟨s,0,Z⟩)] w λe d=>∃X,e=Y (A2 (A4 ⟨X,0,Z⟩))/\w.heap.size<=X/\w.grownBy d Z/\
   Aa d X 163 [A2 (A4 ⟨s,0,Z⟩),A2 Z,J O g,J O c,J O 0]:=by
 have E:=zh D;have Q:=zh f
 have aA:∀W,(Instr.field 37 (CV #[J O i,J O n,J O k,J O l,J O m,J O c,J O o,J C3 (U p)]) 5).run V W=.ok (J O c) W:=λW=>Φ
 clear D f
 go_enter Tryz.func81,Tryz.ntmps81
 go_wp2_with fail;refine(E.o w (Bf _ _)).mono ?_;rintro e R ⟨rfl,y⟩;go_wp2_with fail;refine(Q.o R).mono ?_;rintro e F ⟨rfl,z⟩;obtain⟨w3,S,G,a⟩:=Aq F 85 [J O 0,J O 0,J O 0,J O 0,J O 0,J O 0,J O 0,J O 0];obtain⟨T,aa,H,I⟩:=UK a (J O 2) (J O r) (J O q) (J O t) (J O u) (J O g) (J O v) (J O x);have y0:=a.m 0;have y1:=a.m 1;have y2:=a.m 2;have y3:=a.m 3;have y4:=a.m 4;have y5:=a.m 5;have y6:=a.m 6;have y7:=a.m 7;have f0:=a.v 0;have f1:=a.v 1;have f2:=a.v 2;have f3:=a.v 3;have f4:=a.v 4;have f5:=a.v 5;have f6:=a.v 6;have f7:=a.v 7;have L:=(Ae y z).size;have G4:=zh (Ac.grown (Ae (Ae y z) G) I (λj e=>by rw[e];exact L));have B4:=zh H;clear a H I G y z L;go_wp2_with fail;clear y0 y1 y2 y3 y4 y5 y6 y7 f0 f1 f2 f3 f4 f5 f6 f7;generalize F.heap.size=X at*;refine Dg (λW=>Aa W X 85 (EN r q t u g v x)) [([0,1,2,3],4,Bs),([5,6],7,Bn),([],8,Bn)] Φ Φ ?_;obtain⟨w5,M,A⟩:=AZ T;rw[M];clear S aa M;have N:=zh (B4.o.grown A Δ);have B:=zh (Ae G4.o A);clear A;refine BU N.o ?_
 repeat(apply AB rfl Θ;(· intro wS h;(try have h:=h rfl);(try dsimp only at h);(try have x5:=h.m 5);go_simp;(try with_reducible rfl));refine Ak ?_)
 refine Aj ?_;refine Al ?_;intro K b;refine(E.o w5 B.o).mono ?_;rintro e w6 ⟨rfl,C⟩;dsimp only;have P:=N.o.grown C Δ;refine b _ _ ⟨λ_=>P,?_⟩;clear b K;refine Ak ?_;refine BU P ?_
 repeat(apply AB rfl Θ;(· intro wS h;go_simp;(try with_reducible rfl));refine Ak ?_)
 refine Aj ?_;refine AH rfl (λK b=>?_);obtain⟨w7,aE,g7,b7⟩:=Aq w6 163 [A2 (A4 ⟨s,0,Z⟩),A2 Z,J O g,J O c,J O 0];go_simp;refine b _ _ ⟨λf=>(by cases f),?_⟩;clear b K;refine Ak ?_;refine BG ?_;refine Al ?_;intro K b;refine b _ _ ⟨λf=>(by cases f),?_⟩;clear b K;refine Ak ?_;refine Di (BB ?_);go_wp2_with fail;go_ret;exact⟨_,rfl,(Ae B.o C).size,Ae (Ae B.o C) g7,b7⟩
theorem fL(i:DF E a h d b g n j c)(k:b.aU):
  Bd V 81 #[A2 (A4 ⟨h,0,Z⟩)] E λe f=>∃X,e=Y (A2 (A4 ⟨X,0,Z⟩))/\E.heap.size<=X/\E.grownBy f Z/\
   Aa f X 163 [A2 (A4 ⟨h,0,Z⟩),A2 Z,J O b.ba,J O b.dp,J O 0]:=
 dH h b.ss b.n b.rg b.rs b.lg b.dp b.a7 b.aQ b.region b.aK b.a2 b.bi b.ba b.bv b.aI E (λ_ l=>RJ (i.grown l)) (λW=>IS b k W)
theorem ia{slots:Nat}(b:1<=slots)(c:slots<=255):Au.ok slots ⟨0,0,[]⟩:=by
 refine Fw.2 ⟨?_,λx a=>by simp at a,List.Pairwise.nil⟩;unfold FF;exact jT Γ
theorem Wn(f:SD E a d n b g h j c)(aj:∀l,j l=Z)(hq:g<=1073741600):
  Bd V 37 #[A2 (A4 ⟨d,0,Z⟩)] E λe w'=>∃X D,e=Y (CA #[A2 (A4 ⟨X,0,Z⟩),J O 0])/\∃s S t m T L B,Ab (Dz 200) E a w' s/\XF w' s X D d n b 0 m (g+6) h S t T L 0 B/\AN b c t/\∀f,Ba 0 B f=Z:=by
 have C:=f.a1.gC;have am:=ia (slots:=b.ba) Ω Ω;have H:=zh f;have U:=zh aj;have HQ:=zh hq;have ao:=zh (Ax am C);have ap:=zh (fL f.bJ f.a1);clear f aj hq am C
 go_enter Tryz.func37,Tryz.ntmps37
 go_wp2_with fail;refine ap.o.mono ?_;rintro e w1 ⟨X,rfl,hX,g1,F⟩;clear ap;obtain⟨c1,W⟩:=Ag (AL a X 7)
 have s1:Ab (λi=>i=7) E a w1 c1:=by rw[<-W];exact(Ab.grown H.o.cl g1).bC hX F.lt rfl
 have aw:Hd (c1 X=7):=zh (by rw[<-W];exact AY _ _ _);have ab:=zh (H.o.ae s1 Ω Ω Ω Ω);have S1:=zh s1;have B1:=zh F;have x2:=F.m 2;have ac:=Og 0 0 (b.ba:Nat) [] Z 0 w1 (Ai.nil _ 4) ao.o.1;rw[show Ci 0 0 []=(Au.mk 0 0 []).ld from rfl]at ac;have ay:=zh ac;clear hX g1 F s1 W ac;go_wp2_with fail;refine ay.o.mono ?_;rintro e w2 ⟨aB,cB,rfl,u,G⟩;obtain⟨p,v⟩:=Ag ((Au.mk 0 0 []).ld);have aY:=zh v;rw[v]at u⊢
 have az:p.length<=b.n - 19:=by
  have h3:=ab.o.a1.n0;rw[<-v,Au.eZ];show 10+20*0<=_;omega
 have aA:∀y∈p,y<256:=by rw[<-v];exact NJ _ _ _
 have aZ:=zh (ab.o.grown G);have B2:=zh (B1.o.grown G Δ);have aC:=zh (JD aZ.o (Ψ HQ.o) ⟨[],Δ,λl q=>absurd (U.o l) q⟩ aB cB p az ⟨Ai.aj u,λk hk=>⟨ab.o.cl k (u.lt k hk).1,(u.lt k hk).2⟩,aA⟩);have S2:=zh ((S1.o.mono (λi e=>show Dz 200 i from CB Ω)).trans (Ab.grown S1.o.new G));clear x2 ay u G az aA v;go_wp2_with fail;refine aC.o.mono ?_;rintro e w3 ⟨o,rfl,ad,bg,c3,bh,w,aE,aF⟩;clear aC;obtain⟨w4,a3,g4,r⟩:=Aq w3 165 [J O 0,J O 0];obtain⟨w5,a4,b5,t5⟩:=Ea r (J O o) (J O h);have f0:=r.v 0;have f1:=r.v 1;have v0:=r.m 0;have v1:=r.m 1;have x0:=b5.m 0;have x1:=b5.m 1;have I:=Ac.grown g4 t5 (λi e=>by rw[e];exact jS _)
 have z:¬SS 103 7:=by rintro(f|f)<;>omega
 have B5:=zh ((w.u B2.o (by rw[aw.o];exact z)).grown I Δ);have C5:Hd (c3 X=7):=zh (by rw[w.ah _ B2.o.lt];exact aw.o);have aM:Ce (Eo j o (h,p)) (b.bv+2):=(Ce.new (k:=0) ⟨[],Δ,λl q=>absurd (U.o l) q⟩ (Fr.new _ ad)).mono Ω;have aN:=zh (af (aE.grown I) (Ψ HQ.o) aM (o,h) p (EP _ _ _));have S5:=zh ((S2.o.trans (w.mono (Jb Ω))).trans (Ab.grown w.new I));have N5:=zh (Ax ad aF);clear w aE aF ad g4 I r b5 t5 z aM;go_wp2_with fail;refine aN.o.mono ?_;rintro e w6 ⟨D,m,first,rfl,K,aO,bb,A,M,aP,ah⟩;clear aN f0 f1 v0 v1 x0 x1 a3 a4
 have z:¬EF 108 7:=by rintro(f|f)<;>omega
 have N:=A.u B5.o (by rw[C5.o];exact z)
 have ai:K X=7:=by rw[A.ah _ B5.o.lt];exact C5.o
 have x1:=N.m 1;have f1:=N.v 1;obtain⟨P,aQ⟩:=Ag (w6.setCell ⟨X,1,Z⟩ (A2 (A4 ⟨D,0,Z⟩)));have Q:=N.setCell 1 (A2 (A4 ⟨D,0,Z⟩));rw[aQ]at Q;simp only[ku,kM]at Q;have R:Ab (λi=>i=7) w6 K P K:=AG A.new (show Ac (λi=>i=X) w6 P by rw[<-aQ];exact AF _ _ _ _) (λi e=>by rw[e];exact ai);have C:=ao.o.2;have aR:o∉([]:List Nat):=Δ;have aS:=ah.cA (n:=o) (x:=(h,p)) (EP _ _ _) aR
 have aT:IX aO b.bi b.ba 0 m [first] [(o,h)] (λ_=>⟨0,0,[]⟩):=IX.hI Ω Ω M.l (by rw[aY.o];exact aS.1) (λl q=>by
  by_cases e:l∈AE m [first]
  ·exact CB e
  ·right
   rw[ah.cq l Δ e]at q
   exact lJ (λhc=>q (by rw[El _ _ hc];exact U.o l)))
 have bd:=zh (show∃s S t m T L B,Ab (Dz 200) E a P s/\XF P s X D d n b 0 m (g+6) h S t T L 0 B/\AN b c t/\∀f,Ba 0 B f=Z from
  ⟨K,aO,bb,m,[first],[(o,h)],_,(S5.o.trans (A.mono (Pw Ω))).trans (R.mono (λi e=>CB Ω)),⟨⟨⟨Q,ai⟩,(M.ae R Ω (M.s.ae R Ω Ω Ω Ω)),kN _⟩,aT⟩,N5.o.2.trans aP,λf=>rfl⟩)
 clear A M aP ah z N ai Q R C aR aS aT;go_wp2_with fail;exact Bk (Bx rfl _ _ _) rfl ⟨X,D,rfl,bd.o⟩
end
section
open Go Go.RowKit
structure EL(w:AA)(e:Ad)(b a:Nat):Prop where
 fO:Aa w b 147 [A3 (A4 ⟨a,0,Z⟩) 7 7]
 hb:e b=9
 aB:∃d:List Int,Aa w a 3 (d.map (J O))/\d.length=7/\∀c∈d,0<=c/\c<=1152921504606846976
 ha:e a=9
theorem EL.ae{C:Nat->Prop}(b:EL E a h d)(k:Ab C E a r x)(c:¬C 9):EL r x h d:=by
 obtain⟨f,e,g,i⟩:=b.aB;exact⟨k.u b.fO (by rw[b.hb];exact c),by rw[k.ah _ b.fO.lt];exact b.hb,⟨f,k.u e (by rw[b.ha];exact c),g,i⟩,by rw[k.ah _ e.lt];exact b.ha⟩
theorem EL.grown(b:EL E a h d)(g:E.grownBy r Z):EL r a h d:=by
 obtain⟨c,e,f,i⟩:=b.aB;exact⟨b.fO.grown g Δ,b.hb,⟨c,e.grown g Δ,f,i⟩,b.ha⟩
theorem Se(r:Aw E a):
  Bd V 31 #[J O 7] E λe d=>∃b s,e=Y (A2 (A4 ⟨b,0,Z⟩))/\E.grownBy d Z/\∃h,Ab (λj=>j=9) E a d h/\EL d h b s:=by
 refine(dA 7 E Ω).mono ?_;rintro e d ⟨rfl,rfl⟩;obtain⟨k,l,m,t⟩:=Aq E 3 (BX 7 (J O 0))
 have n:k.heap.size=E.heap.size+1:=by rw[<-l];simp
 obtain⟨f,o,g,p⟩:=Aq k 147 [A3 (A4 ⟨E.heap.size,0,Z⟩) 7 7]
 have q:f.heap.size=E.heap.size+2:=by rw[<-o];simp[n]
 have u:(E.alloc (.cells (BX 7 (J O 0)).toArray 3)).alloc (.cells #[A3 (A4 ⟨E.heap.size,0,Z⟩) 7 7] 147)=f:=by rw[<-o, <-l]
 rw[u];have v:=t.grown g Δ;rw[n]at p;have w:Ab (λj=>j=9) E a f (AL (AL a E.heap.size 9) (E.heap.size+1) 9):=Ab.bC (C:=λj=>j=9) (i:=9) (B:=E.heap.size+1) (Ab.bC (C:=λj=>j=9) (i:=9) (B:=E.heap.size) (Ab.grown r (Ae m g)) (jS _) (by rw[q];omega) rfl) (lC _) (by rw[q];omega) rfl;refine⟨E.heap.size+1,E.heap.size,rfl,Ae m g,_,w,⟨p,AY _ _ _,⟨BX 7 0,by simpa using v,Δ,?_⟩,by rw[Bg _ _ Ω];exact AY _ _ _⟩⟩;intro c x;rw[lN x];omega
theorem Z9(b:EL E a d h)(v:Aw E a)(k:Nat)(w:k<7):
  Bd V 96 #[A2 (A4 ⟨d,0,Z⟩),J O k,J O 1] E λe o=>e=Y (J O 0)/\Ab (λj=>j=9) E a o a/\EL o a d h:=by
 obtain⟨i,m,x,r⟩:=b.aB;have l:k<i.length:=Ω
 have y:E.cell? ⟨h,k,Z⟩=A4 (J O (i[k]' l)):=by rw[m.cell?,lB,jW l];rfl
 have s:=r _ (mQ l);refine(cJ d h 7 7 k 1 _ E (by unfold maxLen;omega) (b.fO.m 0) w y (m.v k) s.1 s.2 Ω Ω).mono ?_;rintro e o ⟨rfl,rfl⟩;have t:=m.setCell k (J O (Jl (i[k]' l) 1));obtain⟨n,p⟩:=Ag (E.setCell ⟨h,k,Z⟩ (J O (Jl (i[k]' l) 1)));rw[p]at t⊢;have u:Ab (λj=>j=9) E a n a:=AG v (show Ac (λj=>j=h) E n by rw[<-p];exact AF _ _ _ _) (λj e=>by rw[e];exact b.ha)
 have z:d≠h:=λe=>by
  have q:=b.fO;have f:=m;rw[e]at q;unfold Aa at q f;rw[q]at f;injection f with f;injection f with _ f;exact absurd f Ξ
 have A:Aa n d 147 [A3 (A4 ⟨h,0,Z⟩) 7 7]:=by rw[<-p];exact b.fO.eH (by exact z) _
 have g:=Be n;refine⟨rfl,u.trans (Ab.grown u.new g),⟨A.grown g Δ,b.hb,⟨i.set k (Jl (i[k]' l) 1),?_,by rw[lm];exact x,?_⟩,b.ha⟩⟩
 ·rw[qI];exact t.grown g Δ
 ·intro c B
  rcases lZ B with C|rfl
  ·exact r c C
  ·unfold Jl;split<;>omega
end
section
open Go Go.RowKit
attribute [local go_sem ↓] Go.wp_at_zero Go.wp_at_succ
structure Es where
 g:Nat
 b:Array BC
 f:Array BC
abbrev Es.val(x:Es):BC:=C0 (.func x.g) x.b x.f
theorem MC(a:Option Addr)(c:Nat)(d:List Es)(f:Nat->AA->Prop)(w:AA)(r:d.length<=10)(s:∀j W,f j W->Ai W 1 (A3 a d.length c) d.length (d.map Es.val))(y:∀x∈d,∀z W,(callFunc x.g z).run V W=.ok (.enter x.g z) W)
  (h:∀(j:Nat) (x:Es),d[j]?=A4 x->∀W,f j W->Bd V x.g (x.b++x.f) W λe t=>e=Y (J O 0)/\f (j+1) t)(l:f 0 w):
  Bd V 34 #[A3 a d.length c] w λe t=>e=Y (J O 0)/\f d.length t:=by
 obtain⟨n,u⟩:=Ag d.length;rw[u]at s r⊢;have K:=zh u;have L:=zh r;have M:=zh s;have N:=zh y;have P:=zh h;have A:=zh l;clear u r s y h l
 go_enter Tryz.func34,Tryz.ntmps34
 go_wp2_with fail
 go_loopg [8] n (λk i wr=>i=J O (n - k:Nat)/\k<=n/\f (n - k) wr)
 case atStart=>exact⟨Δ,jS _,by rw[lU];exact A.o⟩
 case round=>
  obtain⟨rfl,B,C⟩:=hrel;clear A;have m:=zh C;clear C
  by_cases l:gk=0
  ·subst l;rw[mA]at m⊢;have h:BL ((n:Int)<(n:Int))=Bn:=Δ;clear B;go_wp2_with fail;go_ret;exact⟨rfl,m.o⟩
  ·obtain⟨i,D⟩:=Ag (n - gk);rw[D]at m⊢;have E:i<n:=Ω;have h:BL ((i:Int)<(n:Int))=Bs:=jT Ω;obtain⟨x,q⟩:∃x,d[i]?=A4 x:=⟨_,jW (by rw[K.o];exact E)⟩;obtain⟨b,o,rfl,F⟩:=(M.o i wr m.o).aZ Ω;have G:=F i x.val (by rw[lB,q];rfl);have H:=N.o x (kX q);have v:=zh (P.o i x q wr m.o);have p:Hd (i+1=n - (gk - 1)/\gk - 1<=n/\gk - 1<gk/\i<256):=zh (Ψ L.o);have Q:Hd (wrap64 ((i:Int)+1)=((i+1:Nat):Int)):=zh (De rfl (Ψ p.o.2.2.2));obtain⟨g,S,T⟩:=x;dsimp only at G H v;clear F q D B l;go_wp2_with fail;refine v.o.mono ?_;rintro e U ⟨rfl,I⟩;have R:=zh I;clear I G H v h E;go_wp2_with fail
   go_roundg (gk - 1)
   case measure=>exact p.o.2.2.1
   exact⟨by rw[<-p.o.1,Q.o],p.o.2.1,by rw[<-p.o.1];exact R.o⟩
end
section
open Go Go.RowKit
structure AO where
 d:Nat
 s:Nat
 X:Nat
 D:Nat
 g:Nat
 l:Nat
 b:Nat
 a:Nat
structure AC where
 bX:Nat
 eO:Nat
 dK:Nat
 fr:Nat
 nx:Nat
 t0:Nat
 aw:Nat
 d0:Ah
 pg:Ap
 ct:Int->List Nat
 T:List Ah
 L:List Ah
 B:Nat->Au
 aO:Bz
def AC.F(N:AC):BitVec 64->Option Af:=Ba N.eO N.B
structure Nv(q:Nat)(N:AC):Prop where
 g1:1<=N.bX
 g2:N.bX<=q+1
 sp:N.dK<=q
 f1:1<=N.fr
 f2:N.fr<=N.nx
 f3:N.nx<=q+1
 la:N.aw<=q
structure AM(w:AA)(a:Ad)(A:AO)(P:Pl)(q:Nat)(N:AC):Prop where
 x:XF w a A.X A.D A.s A.d P N.eO N.d0 q N.bX N.pg N.ct N.T N.L N.dK N.B
 r:Ds w a A.g A.d P N.aw N.aO N.ct
 l:IF w a A.l A.d P N.fr N.nx N.t0
 t:EL w a A.b A.a
 n:Nv q N
theorem XF.ae{C:Nat->Prop}{q l:Nat}{m:Int->List Nat}(i:XF r x g n h d b t o q l j m e B A f)(k:Ab C r x E a)(p:¬C 7)(s:¬C 6)(u:SD E a h d b y z j c):XF E a g n h d b t o y z j c e B A f:=
 ⟨⟨i.s.x.ae k p,⟨i.s.d.i.ae k s,i.s.d.n,i.s.d.l,u,i.s.d.ok⟩,i.s.dd⟩,i.x⟩
theorem IF.ae{C:Nat->Prop}(c:IF E a h d b g n t)(k:Ab C E a r x)(e:¬C 5):IF r x h d b g n t:=
 let⟨f,i,j,l⟩:=c
 ⟨f,i,j.ae k e,l⟩
theorem Nv.mono{N:AC}(a:Nv h N)(b:h<=d):Nv d N:=⟨a.g1,Ψ a.g2,Ψ a.sp,a.f1,a.f2,Ψ a.f3,Ψ a.la⟩
section
variable {w w':World} {col col':Ad} {A:AO} {P:Pl} {q q':Nat} {N:AC}
theorem AM.sd(h:AM w col A P q N):SD w col A.s A.d P q N.bX N.pg N.ct:=h.x.s.d.s
theorem AM.a1(h:AM w col A P q N):P.aU:=h.sd.a1
theorem AM.cl(h:AM w col A P q N):Aw w col:=h.sd.cl
theorem AM.ae{C:Nat->Prop}(h:AM w col A P q N)(k:Ab C w col w' col')(a:∀j,j<=7\/j=9->¬C j):AM w' col' A P q N:=
 ⟨h.x.ae k (a _ Ω) (a _ Ω) (h.sd.ae k (a _ Ω) (a _ Ω) (a _ Ω) (a _ Ω)),h.r.ae k (a _ Ω),h.l.ae k (a _ Ω),h.t.ae k (a _ Ω),h.n⟩
theorem AM.grown(h:AM w col A P q N)(g:w.grownBy w' Z):AM w' col A P q N:=
 h.ae (C:=λ_=>False) (Ab.grown h.cl g) (λ_ _ e=>e)
theorem AM.mono(h:AM w col A P q N)(a:q<=q'):AM w col A P q' N:=
 ⟨⟨h.x.s.mono a,h.x.x⟩,h.r,h.l,h.t,h.n.mono a⟩
theorem AM.fP{C:Nat->Prop}(h:AM w col A P q N)(k:Ab C w col w' col')(a:∀j,j=0\/j=2\/j=3\/j=6\/j=7->¬C j)(b:AD w' col' A.d P.ss P.n q' c)(d:JT P N.ct c)(e:q<=q'):XF w' col' A.X A.D A.s A.d P N.eO N.d0 q' N.bX N.pg c N.T N.L N.dK N.B:=
 h.x.ae k (a _ Ω) (a _ Ω) ⟨((h.sd.bJ.ae k (a _ Ω) (a _ Ω) (a _ Ω)).c9 d).mono e,b,k.new,h.sd.a1⟩
end
abbrev Bi:Nat->Prop:=Sc (λj=>1<=j/\j<=7\/j=9) 200
structure Bp(N a:AC):Prop where
 f:a.F=N.F
 la:a.aw=N.aw
 bo:∀r,∃z,a.aO r=N.aO r++z
theorem Bp.refl(N:AC):Bp N N:=⟨rfl,rfl,λ_=>⟨[],(lX _).symm⟩⟩
theorem Bp.trans{N a b:AC}(h:Bp N a)(k:Bp a b):Bp N b:=⟨k.f.trans h.f,k.la.trans h.la,λr=>by
 obtain⟨z,c⟩:=h.bo r;obtain⟨y,d⟩:=k.bo r
 exact⟨z++y,by rw[d,c,ls]⟩⟩
def Dr(w:AA)(d:Ad)(A:AO)(P:Pl)(q:Nat)(N:AC)(k:Nat)(a:AA):Prop:=
 ∃b c,Ab Bi w d a b/\AM a b A P (q+k) c/\Bp N c
theorem QV(P:Pl)(b:Nat)(a:Bz)(r:Nat):∃z,Ed P b a r=a r++z:=by
 unfold Ed Ck
 split
 ·exact⟨_,rfl⟩
 ·exact⟨[],(lX _).symm⟩
section
variable {w:World} {col:Ad} {A:AO} {P:Pl} {q:Nat} {N:AC}
theorem Zw(h:AM w col A P q N)(i:q<=1073700000):
  Bd V 90 #[A2 (A4 ⟨A.g,0,Z⟩)] w λe a=>e=Y (J O 0)/\Dr w col A P q N 1 a:=by
 have k:=h.n.la;refine(QO h.r h.sd.bI h.cl h.a1 Ω Ω).mono ?_;rintro e a ⟨rfl,b,c,s,d,f,g⟩;refine⟨rfl,b,{N with ct:=c,aO:=Ed P N.aw N.aO},s.mono (λj e=>by unfold Bo at e;exact CB Ω),⟨h.fP s (λj e=>by unfold Bo;omega) d g.eN (lC _),f,h.l.ae s (by unfold Bo;omega),h.t.ae s (by unfold Bo;omega),⟨h.n.g1,by have:=h.n.g2;show N.bX<=_;omega,by have:=h.n.sp;show N.dK<=_;omega,h.n.f1,h.n.f2,by have:=h.n.f3;show N.nx<=_;omega,by show N.aw<=_;omega⟩⟩,⟨rfl,rfl,QV P N.aw N.aO⟩⟩
theorem Zb(h:AM w col A P q N)(c:q<=1073700000):
  Bd V 91 #[A2 (A4 ⟨A.s,0,Z⟩)] w λe b=>e=Y (J O 0)/\Dr w col A P q N 8200 b:=by
 refine(XG h.sd c).mono ?_;rintro e b ⟨rfl,d,f,s,g,i⟩
 have a:∀j,4<=j->j<100->¬SS 200 j:=λj k l e=>by rcases e with e|e<;>omega
 refine⟨rfl,d,{N with ct:=f},s.mono (Sc.mono (λj e=>Ω) (jS _)),⟨h.x.ae s (a _ Ω Ω) (a _ Ω Ω) g,(h.r.ae s (a _ Ω Ω)).c9 h.a1 i.ed,h.l.ae s (a _ Ω Ω),h.t.ae s (a _ Ω Ω),⟨h.n.g1,by have:=h.n.g2;show N.bX<=_;omega,by have:=h.n.sp;show N.dK<=_;omega,h.n.f1,h.n.f2,by have:=h.n.f3;show N.nx<=_;omega,by have:=h.n.la;show N.aw<=_;omega⟩⟩,⟨rfl,rfl,(Bp.refl N).bo⟩⟩
theorem TV(h:AM w col A P q N)(d:q<=1073700000):
  Bd V 35 #[A2 (A4 ⟨A.d,0,Z⟩)] w λe a=>e=Y (J O 0)/\Dr w col A P q N 0 a:=by
 refine(RW _ _ _ _ _ _ _ h.sd.bI h.cl Ω).mono ?_;rintro e a ⟨rfl,b,s,c⟩;exact⟨rfl,b,N,s.mono (λj e=>CB Ω),⟨h.fP s (λj e=>Ω) c (λ_ _=>rfl) (jS _),h.r.ae s Ω,h.l.ae s Ω,h.t.ae s Ω,h.n⟩,Bp.refl N⟩
theorem ZF(h:AM w col A P q N)(g:q<=1073700000):
  Bd V 95 #[A2 (A4 ⟨A.s,0,Z⟩)] w λe b=>(∃v,e=Y v)/\Dr w col A P q N 1 b:=by
 refine(VN h.sd Ω h.x.dY).mono ?_;rintro e b ⟨c,d,s,f⟩
 have a:∀j,4<=j->j<100->¬SS 200 j:=λj i k e=>by rcases e with e|e<;>omega
 exact⟨c,d,{N with bX:=N.bX+1},s.mono (Sc.mono (λj e=>Ω) (jS _)),⟨h.x.ae s (a _ Ω Ω) (a _ Ω Ω) f,h.r.ae s (a _ Ω Ω),h.l.ae s (a _ Ω Ω),h.t.ae s (a _ Ω Ω),⟨by show 1<=N.bX+1;omega,by have:=h.n.g2;show N.bX+1<=_;omega,by have:=h.n.sp;show N.dK<=_;omega,h.n.f1,h.n.f2,by have:=h.n.f3;show N.nx<=_;omega,by have:=h.n.la;show N.aw<=_;omega⟩⟩,⟨rfl,rfl,(Bp.refl N).bo⟩⟩
theorem de(a:P.aU):0<Do P.n:=by have:=a.n0;unfold Do;omega
theorem QT(h:AM w col A P q N):
  Bd V 42 #[A2 (A4 ⟨A.l,0,Z⟩)] w λe b=>(∃v,e=Y v)/\∃a,Ab Bi w col b col/\AM b col A P q a/\Bp N a/\a.fr=a.nx:=by
 obtain⟨g,i,c,k⟩:=h.l;refine(Vh c h.cl).mono ?_;rintro e b ⟨d,s,f⟩;refine⟨d,{N with fr:=N.nx},s.mono (λj e=>CB Ω),⟨h.x.ae s Ω Ω (h.sd.ae s Ω Ω Ω Ω),h.r.ae s Ω,⟨_,_,f,de h.a1⟩,h.t.ae s Ω,⟨h.n.g1,h.n.g2,h.n.sp,?_,jS _,h.n.f3,h.n.la⟩⟩,⟨rfl,rfl,(Bp.refl N).bo⟩,rfl⟩;have:=h.n.f1;have:=h.n.f2;show 1<=N.nx;omega
theorem Tj(h:AM w col A P q N)(k:Nat)(b:k<7):
  Bd V 96 #[A2 (A4 ⟨A.b,0,Z⟩),J O k,J O 1] w λe a=>e=Y (J O 0)/\Ab Bi w col a col/\AM a col A P q N:=by
 refine(Z9 h.t h.cl k b).mono ?_;rintro e a ⟨rfl,s,c⟩;exact⟨rfl,s.mono (λj e=>CB Ω),⟨h.x.ae s Ω Ω (h.sd.ae s Ω Ω Ω Ω),h.r.ae s Ω,h.l.ae s Ω,c,h.n⟩⟩
end
end
section
open Go Go.RowKit
attribute [local go_sem ↓] Go.wp_at_zero Go.wp_at_succ
abbrev Am(n:Nat):BC:=A2 (A4 ⟨n,0,Z⟩)
abbrev Lo(P:Pl)(a b c d e f:BC)(t g:Nat):List BC:=a::(P.cells++(P.c7++[b,c,d,e,f,J O t,J O g,C1 Bn]))
def Cf(w:AA)(c:Nat)(A:AO)(P:Pl)(t a:Nat):Prop:=Aa w c 90 (Lo P (Am A.d) (Am A.s) (Am A.X) (Am A.g) (Am A.l) (Am A.b) t a)
structure Lk(w:AA)(c a n b d e f h:Nat)(i:BitVec 64)(s X g l t:Nat):Prop where
 h1:w.cell? ⟨c,1,Z⟩=A4 (J O a)
 h2:w.cell? ⟨c,2,Z⟩=A4 (J O n)
 h3:w.cell? ⟨c,3,Z⟩=A4 (J O b)
 h4:w.cell? ⟨c,4,Z⟩=A4 (J O d)
 h5:w.cell? ⟨c,5,Z⟩=A4 (J O e)
 h6:w.cell? ⟨c,6,Z⟩=A4 (J O f)
 h7:w.cell? ⟨c,7,Z⟩=A4 (J O h)
 h8:w.cell? ⟨c,8,Z⟩=A4 (J C3 (U i))
 hs:w.cell? ⟨c,17,Z⟩=A4 (Am s)
 hx:w.cell? ⟨c,18,Z⟩=A4 (Am X)
 hg:w.cell? ⟨c,19,Z⟩=A4 (Am g)
 hl:w.cell? ⟨c,20,Z⟩=A4 (Am l)
 ht:w.cell? ⟨c,22,Z⟩=A4 (J O t)
theorem Lk.grown{b:BitVec 64}{s X c l e:Nat}(a:Lk E h d g n t y z A b s X c l e)(k:E.grownBy r Z):Lk r h d g n t y z A b s X c l e:=
 ⟨k.cell a.h1 Δ,k.cell a.h2 Δ,k.cell a.h3 Δ,k.cell a.h4 Δ,k.cell a.h5 Δ,k.cell a.h6 Δ,k.cell a.h7 Δ,k.cell a.h8 Δ,k.cell a.hs Δ,k.cell a.hx Δ,k.cell a.hg Δ,k.cell a.hl Δ,k.cell a.ht Δ⟩
theorem Cf.fs{A:AO}(a:Cf E h A b d g):Lk E h b.ss b.n b.rg b.rs b.lg b.dp b.a7 b.aQ A.s A.X A.g A.l d:=
 ⟨a.m 1,a.m 2,a.m 3,a.m 4,a.m 5,a.m 6,a.m 7,a.m 8,a.m 17,a.m 18,a.m 19,a.m 20,a.m 22⟩
theorem iZ{u v w x y z A B C D F G H I:BC}(J:Aa E h p [q,u,v,w,x,y,z,A,B,C,D,F,G,H,I])(b c d e f g i j l m n o r s t:BC):∃a,(((((((((((((((E.setCell ⟨h,0,Z⟩ b).setCell ⟨h,1,Z⟩ c).setCell ⟨h,2,Z⟩ d).setCell ⟨h,3,Z⟩ e).setCell ⟨h,4,Z⟩ f).setCell ⟨h,5,Z⟩ g).setCell ⟨h,6,Z⟩ i).setCell ⟨h,7,Z⟩ j).setCell ⟨h,8,Z⟩ l).setCell ⟨h,9,Z⟩ m).setCell ⟨h,10,Z⟩ n).setCell ⟨h,11,Z⟩ o).setCell ⟨h,12,Z⟩ r).setCell ⟨h,13,Z⟩ s).setCell ⟨h,14,Z⟩ t)=a/\Aa a h p [b,c,d,e,f,g,i,j,l,m,n,o,r,s,t]/\Ac (λk=>k=h) E a:=
 ⟨_,rfl,(((((((((((((((J.setCell 0 _).setCell 1 _).setCell 2 _).setCell 3 _).setCell 4 _).setCell 5 _).setCell 6 _).setCell 7 _).setCell 8 _).setCell 9 _).setCell 10 _).setCell 11 _).setCell 12 _).setCell 13 _).setCell 14 _),(((((((((((((((AF _ _ _ _).trans (AF _ _ _ _)).trans (AF _ _ _ _)).trans (AF _ _ _ _)).trans (AF _ _ _ _)).trans (AF _ _ _ _)).trans (AF _ _ _ _)).trans (AF _ _ _ _)).trans (AF _ _ _ _)).trans (AF _ _ _ _)).trans (AF _ _ _ _)).trans (AF _ _ _ _)).trans (AF _ _ _ _)).trans (AF _ _ _ _)).trans (AF _ _ _ _))⟩
theorem XM(c r n u v x y z:Nat)(A:BitVec 64)(s X g l t B C D E F G:Nat)(w:AA)(h:Lk w c r n u v x y z A s X g l t)
  (K:∀W,w.grownBy W Z->Bd V 45 #[Am s] W λe f=>e=Y (J O B)/\W=f)
  (L:∀W,w.grownBy W Z->Bd V 155 #[Am X] W λe f=>e=Y (CV #[J O C,J O D])/\W.grownBy f Z)
  (M:∀W,w.grownBy W Z->Bd V 46 #[Am X] W λe f=>e=Y (J O E)/\W=f)
  (N:∀W,w.grownBy W Z->Bd V 156 #[Am l] W λe f=>e=Y (J O F)/\W=f)
  (P:∀W,w.grownBy W Z->Bd V 157 #[Am g] W λe f=>e=Y (J O G)/\W=f):
  Bd V 94 #[Am c] w λe f=>e=Y (CV (Fs r n u v x y z A B C D E F G t).toArray)/\w.grownBy f Z:=by
 have H:=zh h;have HG:=zh K;have HR:=zh L;have HD:=zh M;have HN:=zh N;have HL:=zh P;obtain⟨Q,al,R,S⟩:=Aq w 191 [J O 0,J O 0,J O 0,J O 0,J O 0,J O 0,J O 0,J C3 0,J O 0,J O 0,J O 0,J O 0,J O 0,J O 0,J O 0];have B1:=zh S;have m:=zh R;clear h K L M N P R S
 go_enter Tryz.func94,Tryz.ntmps94
 go_wp2_with fail;clear al;refine Dg (λW=>Q.grownBy W Z) [([0,1,2,3,4,5,6,7,9,10,11,12,14,15,16,17,19,20,21,22,24,25,26,27,29,30,31,32],8,Bs),([],13,Bs),([],18,Bs),([],23,Bs),([],28,Bs),([33],34,Bn)] Φ Φ ?_;obtain⟨w2,T,g2⟩:=AZ Q;rw[T];have o:=zh g2;clear T g2;refine BU o.o ?_
 repeat(apply AB rfl Θ;(· intro wS q;(try have q:=q rfl);(try dsimp only at q);(try have d:=H.o.grown (Ae m.o q));(try have k1:=d.h1);(try have k2:=d.h2);(try have k3:=d.h3);(try have k4:=d.h4);(try have k5:=d.h5);(try have k6:=d.h6);(try have k7:=d.h7);(try have k8:=d.h8);(try have ks:=d.hs);(try have kx:=d.hx);(try have kg:=d.hg);(try have kl:=d.hl);(try have kt:=d.ht);go_simp;(try with_reducible rfl));refine Ak ?_)
 refine Aj ?_;refine AH rfl (λi b=>?_);go_simp;refine(HG.o _ (Ae m.o o.o)).mono ?_;rintro e w3 ⟨rfl,rfl⟩;dsimp only;refine b _ _ ⟨λ_=>o.o,?_⟩;clear b i;refine BG ?_;refine AH rfl (λi b=>?_);go_simp;refine(HR.o _ (Ae m.o o.o)).mono ?_;rintro e w3 ⟨rfl,g3⟩;dsimp only;have k:=zh (Ae o.o g3);refine b _ _ ⟨λ_=>k.o,?_⟩;clear b i g3;refine BG ?_;refine AH rfl (λi b=>?_);go_simp;refine(HD.o _ (Ae m.o k.o)).mono ?_;rintro e I ⟨rfl,rfl⟩;dsimp only;refine b _ _ ⟨λ_=>k.o,?_⟩;clear b i;refine BG ?_;refine AH rfl (λi b=>?_);go_simp;refine(HN.o _ (Ae m.o k.o)).mono ?_;rintro e I ⟨rfl,rfl⟩;dsimp only;refine b _ _ ⟨λ_=>k.o,?_⟩;clear b i;refine BG ?_;refine AH rfl (λi b=>?_);go_simp;refine(HL.o _ (Ae m.o k.o)).mono ?_;rintro e I ⟨rfl,rfl⟩;dsimp only;refine b _ _ ⟨λ_=>k.o,?_⟩;clear b i;refine BU k.o ?_
 repeat(apply AB rfl Θ;(· intro wS q;go_simp;(try with_reducible rfl));refine Ak ?_)
 refine Aj ?_;refine AH rfl (λi b=>?_);have a:=B1.o.grown k.o Δ;have x0:=a.m 0;have f0:=a.v 0;have x1:=a.m 1;have f1:=a.v 1;have x2:=a.m 2;have f2:=a.v 2;have x3:=a.m 3;have f3:=a.v 3;have x4:=a.m 4;have f4:=a.v 4;have x5:=a.m 5;have f5:=a.v 5;have x6:=a.m 6;have f6:=a.v 6;have x7:=a.m 7;have f7:=a.v 7;have x8:=a.m 8;have f8:=a.v 8;have x9:=a.m 9;have f9:=a.v 9;have aL:=a.m 10;have aM:=a.v 10;have aN:=a.m 11;have aO:=a.v 11;have aP:=a.m 12;have aQ:=a.v 12;have aR:=a.m 13;have aS:=a.v 13;have aT:=a.m 14;have aU:=a.v 14;go_simp;obtain⟨I,ac,b4,t4⟩:=iZ a (J O r) (J O n) (J O u) (J O v) (J O x) (J O y) (J O z) (J C3 (U A)) (J O B) (J O C) (J O D) (J O E) (J O F) (J O G) (J O t);rw[ac];refine b _ _ ⟨λhf=>(by cases hf),?_⟩;refine Di (BB ?_);clear b i ac;have af:=zh (Ax b4 (Ac.grown (Ae m.o k.o) t4 (λj e=>by rw[e];exact jS _)));clear b4 t4 a x0 x1 x2 x3 x4 x5 x6 x7 x8 x9 aL aN aP aR aT f0 f1 f2 f3 f4 f5 f6 f7 f8 f9 aM aO aQ aS aU;go_wp2_with fail;exact Bk (CL (p:=2) (ty:=191) rfl _ _ w.heap.size _ _ _ _ rfl af.o.1 Tryz.underlying191 rfl Φ) rfl ⟨rfl,af.o.2⟩
end
section
open Go Go.RowKit
attribute [local go_sem ↓] Go.wp_at_zero Go.wp_at_succ
theorem Cf.ae{C:Nat->Prop}{A:AO}(c:Cf E h A b d g)(k:Ab C E a r x)(e:¬C (a h)):Cf r h A b d g:=k.u c e
theorem Cf.grown{A:AO}(a:Cf E h A b d g)(k:E.grownBy r Z):Cf r h A b d g:=Aa.grown a k Δ
theorem EH:¬Bi 0:=by rintro(h|h)<;>omega
theorem Nj:¬Bi 8:=by rintro(h|h)<;>omega
section
variable {w:World} {col:Ad} {A:AO} {P:Pl} {q:Nat} {N:AC}
theorem e7(h:AM w col A P q N)(c t a:Nat)(b:Cf w c A P t a):
  Bd V 94 #[Am c] w λe d=>e=Y (CV (Fs P.ss P.n P.rg P.rs P.lg P.dp P.a7 P.aQ N.bX N.d0.1 N.d0.2 N.eO N.nx N.aw t).toArray)/\w.grownBy d Z:=by
 obtain⟨j,k,f,l⟩:=h.l;obtain⟨m,n,i,o⟩:=h.r
 exact XM c P.ss P.n P.rg P.rs P.lg P.dp P.a7 P.aQ A.s A.X A.g A.l t N.bX N.d0.1 N.d0.2 N.eO N.nx N.aw w b.fs
  (λW g=>Td (h.sd.bJ.grown g)) (λW g=>aD (h.grown g).x.s.x (h.grown g).x.s.d.i) (λW g=>Ra (h.grown g).x.s.x (h.grown g).x.s.d.i) (λW g=>YP (f.grown g)) (λW g=>ZW (i.grown g))
theorem fx(h:AM w col A P q N)(n:q<=1073700000)(t:Nat)(d:t<=281474976710656):
  Bd V 93 #[Am A.d,CV (Fs P.ss P.n P.rg P.rs P.lg P.dp P.a7 P.aQ N.bX N.d0.1 N.d0.2 N.eO N.nx N.aw t).toArray] w λe a=>e=Y (J O 0)/\Dr w col A P q N 1 a:=by
 have b:=h.n.g1;have o:=h.n.g2;have f:=h.n.f1;have g:=h.n.f2;have p:=h.n.f3;have r:=h.n.la;have i:=h.sd.e6 Ω h.x.s.d.l.c.rt;have u:=(h.sd.hB h.x.s.d.l.c.rt).fQ;refine(ZJ h.sd.bI h.cl h.a1 Ω N.bX N.d0.1 N.d0.2 N.eO N.nx N.aw t b Ω (Ψ i.1) Ω h.x.s.dd Ω Ω Ω d).mono ?_;rintro e a ⟨rfl,k,l,s,m,c⟩;exact⟨rfl,k,{N with ct:=l},s.mono (λj e=>CB Ω),⟨h.fP s (λj e=>Ω) m c.eN (lC _),(h.r.ae s Ω).c9 h.a1 c.ed,h.l.ae s Ω,h.t.ae s Ω,⟨b,by show N.bX<=_;omega,by have:=h.n.sp;show N.dK<=_;omega,f,g,by show N.nx<=_;omega,by show N.aw<=_;omega⟩⟩,⟨rfl,rfl,(Bp.refl N).bo⟩⟩
end
theorem YH{A:AO}{N:AC}(n:AM E a A b h N)(o:h<=1073700000)(c t q r:Nat)(u:t<=281474976710656)(v:Cf E c A b t q)(w:Aa E r 31 [Am c]):
  Bd V 92 #[Am r] E λe C=>e=Y (J O 0)/\Dr E a A b h N 1 C:=by
 have H:=zh n;have D:=zh o;have F:=zh u;have x:=zh v;have G:=zh w;clear n o u v w
 go_enter Tryz.func92,Tryz.ntmps92
 go_wp2_with fail;refine Dg (λW=>E.grownBy W Z) [([0,1,2,3,4],5,Bs),([],6,Bn),([],7,Bn)] Φ Φ ?_;obtain⟨P,y,z⟩:=AZ E;rw[y];have k:=zh z;clear y z;refine BU k.o ?_
 repeat(apply AB rfl Θ;(· intro Q f;(try have f:=f rfl);(try dsimp only at f);(try have R:=(G.o.grown f Δ).m 0);(try have S:=Aa.aq (j:=0) (Aa.grown x.o f Δ) rfl);go_simp;(try with_reducible rfl));refine Ak ?_)
 refine Aj ?_;refine AH rfl (λi d=>?_);go_simp;refine(e7 (H.o.grown k.o) c t q (x.o.grown k.o)).mono ?_;rintro e T ⟨rfl,B⟩;dsimp only;have l:=zh (Ae k.o B);refine d _ _ ⟨λ_=>l.o,?_⟩;clear d i B;refine BG ?_;refine AH rfl (λi d=>?_);go_simp;refine(fx (H.o.grown l.o) D.o t F.o).mono ?_;rintro e I ⟨rfl,K,L,s,p,g⟩;dsimp only;have M:=zh (show Dr E a A b h N 1 I from⟨K,L,(Ab.grown H.o.cl l.o).trans s,p,g⟩);refine d _ _ ⟨λm=>(by cases m),?_⟩;clear d i s p g;refine BG ?_;refine AH rfl (λi d=>?_);go_simp;refine d _ _ ⟨λm=>(by cases m),?_⟩;refine Di (BB ?_);clear d i;go_wp2_with fail;go_ret;exact⟨rfl,M.o⟩
abbrev PL(A:AO)(a:Nat):List Es:=[⟨90,#[Am A.g],#[]⟩,⟨91,#[Am A.s],#[]⟩,⟨35,#[Am A.d],#[]⟩,⟨92,#[],#[Am a]⟩,⟨35,#[Am A.d],#[]⟩]
theorem Dr.next{c:AA}{A:AO}{N e:AC}(s:Ab Bi E a r x)(f:Bp N e)(i:Dr r x A b (h+d) e g c)(p:d+g<=n):Dr E a A b h N n c:=
 let⟨j,k,l,m,o⟩:=i
 ⟨j,k,s.trans l,m.mono Ω,f.trans o⟩
theorem gX{A:AO}{N:AC}(o:AM E a A b h N)(S:h<=1073600000)(c t B q:Nat)(M:t<=281474976710656)(C:Cf E c A b t B)(D:¬Bi (a c))(r:Aa E q 31 [Am c])(F:¬Bi (a q))
  (v:Option Addr)(w:Nat)(G:Ai E 1 (A3 v 5 w) 5 ((PL A q).map Es.val))(H:∀k,(A3 v 5 w).ownBlock=A4 k->¬Bi (a k)):
  Bd V 34 #[A3 v 5 w] E λe i=>e=Y (J O 0)/\Dr E a A b h N 42000 i:=by
 obtain⟨K,T⟩:∃K:Nat,K=8300:=⟨_,rfl⟩;refine(MC v w (PL A q) (λj W=>Dr E a A b h N (j*K) W) E (show 5<=10 by omega) ?_ ?_ ?_ ⟨a,N,Ab.refl o.cl,o.mono (nW _ _),Bp.refl N⟩).mono ?_
 ·rintro j W ⟨y,z,s,p,g⟩;exact s.aP G H
 ·intro x r U W;simp only[lK,nh,pZ]at r
  rcases r with rfl|rfl|rfl|rfl|rfl<;>rfl
 ·rintro j x l W ⟨y,z,s,p,g⟩;have X:j<5:=(jX.1 l).1;obtain⟨P,I⟩:=Ag (h+j*K)
  have u:P<=1073700000:=by
   have:j*K<=5*K:=mg K Ω;omega
  have n:∀{m:Nat} {L:AA},Dr W y A b (h+j*K) z m L->m<=K->Dr E a A b h N ((j+1)*K) L:=λo Z=>Dr.next s g o (by rw[qJ];omega)
  rw[I]at p n;have Q:=C.ae s D;have R:=s.u r F;clear G H C r o s g I F D
  rcases j with _|_|_|_|_|j
  ·obtain rfl:=kE l;refine(Zw p u).mono ?_;rintro e i ⟨d,f⟩;exact⟨d,n f Ω⟩
  ·obtain rfl:=kE l;refine(Zb p u).mono ?_;rintro e i ⟨d,f⟩;exact⟨d,n f Ω⟩
  ·obtain rfl:=kE l;refine(TV p u).mono ?_;rintro e i ⟨d,f⟩;exact⟨d,n f Ω⟩
  ·obtain rfl:=kE l;refine(YH p u c t B q M Q R).mono ?_;rintro e i ⟨d,f⟩;exact⟨d,n f Ω⟩
  ·obtain rfl:=kE l;refine(TV p u).mono ?_;rintro e i ⟨d,f⟩;exact⟨d,n f Ω⟩
  ·omega
 ·rintro e i ⟨rfl,y,z,s,p,g⟩;exact⟨rfl,y,z,s,p.mono (by simp only[kj,kP];omega),g⟩
end
section
open Go Go.RowKit
attribute [local go_sem ↓] Go.wp_at_zero Go.wp_at_succ
def UD(w:AA)(d:Ad)(A:AO)(P:Pl)(q:Nat)(N:AC)(k:Nat)(b:AA):Prop:=
 ∃c a,Ab Bi w d b c/\AM b c A P (q+k) a/\Bp N a/\a.fr=a.nx
theorem Re{A:AO}{N:AC}(q:AM E a A b h N)(Q:h<=1073600000)(c t R:Nat)(S:t<=281474976710656)(T:Cf E c A b t R)(U:¬Bi (a c)):
  Bd V 43 #[Am c] E λe w'=>e=Y (J O 0)/\UD E a A b h N 43000 w':=by
 obtain⟨r,aC,s,w⟩:=Aq E 31 [Am c];have x:Hd (a E.heap.size=0):=zh (q.cl _ (jS _));have aZ:Hd (E.heap.size<r.heap.size):=zh w.lt;have H:=zh (q.grown s);have X:=zh Q;have HT:=zh S;have y:=zh (T.grown s);have z:=zh U;have G1:=zh s;have B:=zh w;have aF:=zh q.cl;clear q Q S T U s w
 go_enter Tryz.func43,Tryz.ntmps43
 go_wp2_with fail;clear aC;refine Dg (λW=>r.grownBy W Z) [([0,1,2,3,4,5,6,7,8,9,10,11,12,13,14,15,16,17,18,19,20],21,Bn),([],22,Bn),([],23,Bn)] Φ Φ ?_;obtain⟨C,aa,g2⟩:=AZ r;rw[aa];have D:=zh g2;clear aa g2;refine BU D.o ?_
 repeat(apply AB rfl Θ;(· intro wS n;(try have n:=n rfl);(try dsimp only at n);(try have f:=(B.o.grown n Δ).m 0);(try have F:=Aa.grown y.o n Δ);(try have g:=Aa.aq (j:=0) F rfl);(try have k2:=Aa.aq (j:=17) F rfl);(try have k3:=Aa.aq (j:=19) F rfl);go_simp;(try with_reducible rfl));refine Ak ?_)
 refine Aj ?_;refine AH rfl (λo d=>?_);go_simp;obtain⟨w3,ac,g3,b3⟩:=Aq C 95 [C0 (.func 90) #[Am A.g] #[],C0 (.func 91) #[Am A.s] #[],C0 (.func 35) #[Am A.d] #[],C0 (.func 92) #[] #[Am E.heap.size],C0 (.func 35) #[Am A.d] #[]];rw[ac];have af:r.heap.size<=C.heap.size:=D.o.size;have i:=zh (Ae D.o g3);have ag:Ai w3 1 (A3 (A4 ⟨C.heap.size,0,Z⟩) 5 5) 5 ((PL A E.heap.size).map Es.val):=Ai.bn b3 rfl (by unfold maxLen;omega);have ah:=zh (gX (H.o.grown i.o) X.o c t R E.heap.size HT.o (y.o.grown i.o) z.o (B.o.grown i.o Δ) (by rw[x.o];exact EH) _ 5 ag (λk hk=>by cases hk;rw[H.o.cl _ af];exact EH));refine d _ _ ⟨λp=>(by cases p),?_⟩;clear d o ac g3 b3 af ag;refine BG ?_;refine AH rfl (λo d=>?_);go_simp;refine ah.o.mono ?_;rintro e w4 ⟨rfl,c4,N4,l,p4,e4⟩;dsimp only;have S4:=zh ((Ab.grown aF.o (Ae G1.o i.o)).trans l);have H4:=zh p4;have E4:=zh e4;have G:=y.o.grown i.o;have I:=B.o.grown i.o Δ;have b4:=G.ae l z.o;have x4:=l.u I (by rw[x.o];exact EH);have K:=zh b4;have L:=zh x4;have an:Hd (¬Bi (c4 c)):=zh (by rw[l.ah _ G.lt];exact z.o);have ao:Hd (c4 E.heap.size=0):=zh (by rw[l.ah _ I.lt];exact x.o);clear ah l p4 e4 G I b4 x4;refine d _ _ ⟨λp=>(by cases p),?_⟩;clear d o;refine BG ?_;refine AH rfl (λo d=>?_);go_simp;refine d _ _ ⟨λp=>(by cases p),?_⟩;refine Di (BB ?_);clear d o;have f:=L.o.m 0;have g:=Aa.aq (j:=17) K.o rfl;go_wp2_with fail;refine(ZF H4.o (Ψ X.o)).mono ?_;rintro e w5 ⟨⟨v,rfl⟩,c5,N5,m,p5,e5⟩;have M:=K.o.ae m an.o;have P:=m.u L.o (by rw[ao.o];exact EH);have aL:Hd (¬Bi (c5 c)):=zh (by rw[m.ah _ (Aa.lt K.o)];exact an.o);have aM:Hd (c5 E.heap.size=0):=zh (by rw[m.ah _ L.o.lt];exact ao.o);have S5:=zh (S4.o.trans m);have H5:=zh p5;have E5:=zh (E4.o.trans e5);have B5:=zh M;have X5:=zh P;clear f g m p5 e5;have f:=P.m 0;have g:=Aa.aq (j:=20) M rfl;clear M P;go_wp2_with fail;refine(QT H5.o).mono ?_;rintro e w6 ⟨⟨v,rfl⟩,N6,u,p6,e6,f6⟩;have b6:=B5.o.ae u aL.o;have x6:=u.u X5.o (by rw[aM.o];exact EH);have S6:=zh (S5.o.trans u);have H6:=zh p6;have E6:=zh (E5.o.trans e6);have F6:=zh f6;clear f g u p6 e6 f6;have f:=x6.m 0;have g:=Aa.aq (j:=21) b6 rfl;clear b6 x6;go_wp2_with fail;refine(Tj H6.o 6 Ω).mono ?_;rintro e w7 ⟨rfl,s7,p7⟩;have aY:=zh (show UD E a A b h N 43000 w7 from⟨_,N6,S6.o.trans s7,p7.mono Ω,E6.o,F6.o⟩);clear f g s7 p7;go_wp2_with fail;go_ret;exact⟨rfl,aY.o⟩
end
section
open Go Go.RowKit
attribute [local go_sem ↓] Go.wp_at_zero Go.wp_at_succ
abbrev CS(n:Nat):Nat->Prop:=Sc (λj=>1<=j/\j<=9) n
abbrev Ee:Nat->Prop:=CS 300
theorem Io(a:200<=h):∀j,Bi j->CS h j:=Sc.mono (λj e=>Ω) a
theorem PK(a:h<=d):∀_j,CS h _j->CS d _j:=Sc.mono (λ_ e=>e) a
theorem Lf:∀j,Bi j->Ee j:=Sc.mono (λj e=>Ω) Ω
theorem PI:¬Ee 0:=by rintro(h|h)<;>omega
theorem Kl{A:AO}(a:Cf E h A b d g):
  Bd V 44 #[Am h] E λe c=>e=Y (J O 0)/\E=c:=by
 have f:=Aa.aq (j:=24) a rfl;clear a
 go_enter Tryz.func44,Tryz.ntmps44
 go_wp2_with fail;go_ret;exact⟨rfl,rfl⟩
theorem Rg(k:Nat)(a:Option Addr)(c:Nat)(d:1<=k)(f:k<=64)(w:AA):Bd V 58 #[A3 a k c] w λe h=>e=Y (J O 0)/\w=h:=by
 have b:=Oh k 0 d f Ω w;have i:(((13+k+0:Nat):Int)==0)=Bn:=Γ;obtain⟨s,g⟩:∃s:Nat,13+k+0=s:=⟨_,rfl⟩;rw[g]at b i;have j:=zh b;clear b g d f
 go_enter Tryz.func58,Tryz.ntmps58
 go_wp2_with fail;refine j.o.mono ?_;rintro e l ⟨rfl,rfl⟩;go_wp2_with fail;go_ret;exact⟨rfl,rfl⟩
theorem Mc{A:AO}(i:Cf E h A b d g)(c:List Nat)(a:Option Addr)(f:Nat)(k:∀x∈c,x<256)(l:Ai E 1 (A3 a c.length f) c.length (Ao c)):
  Bd V 59 #[Am h,A3 a c.length f] E λe n=>e=Y (J C3 (U (CM b.aQ c)))/\E.grownBy n Z:=by
 have o:=Aa.aq (j:=8) i rfl;have p:=zh (ZY b.aQ c a f E k l);clear i k l
 go_enter Tryz.func59,Tryz.ntmps59
 go_wp2_with fail;refine p.o.mono ?_;rintro e r ⟨rfl,m⟩;have q:=zh m;clear m o;go_wp2_with fail;go_ret;exact⟨rfl,q.o⟩
theorem JC{A:AO}{N:AC}(d:AM E a A b h N)(c t n:Nat)(f:Cf E c A b t n)(k:Nat)(g:k<7):
  Bd V 60 #[Am c,J O k,J O 0] E λe i=>e=Y (J O 0)/\Ab Bi E a i a/\AM i a A b h N:=by
 have o:=Aa.aq (j:=21) f rfl;have l:=zh (Tj d k g);clear f d g
 go_enter Tryz.func60,Tryz.ntmps60
 go_wp2_with fail;refine l.o.mono ?_;rintro e p ⟨rfl,m⟩;have F:=zh m;clear m o l;go_wp2_with fail;go_ret;exact⟨rfl,F.o⟩
end
section
open Go Go.RowKit
attribute [local go_sem ↓] Go.wp_at_zero Go.wp_at_succ
structure Ca(w:AA)(a:Ad)(c:Nat)(A:AO)(P:Pl)(q t lo:Nat)(N:AC):Prop where
 p:AM w a A P q N
 b:Cf w c A P t lo
 c:a c=8
 t:t<=281474976710656
theorem Ca.hc{A:AO}{N:AC}(c:Ca E a h A b d g n N):¬Bi (a h):=by rw[c.c];exact Nj
theorem Ca.next{A:AO}{N e:AC}(c:Ca r x h A b t g n N)(s:Ab Bi r x E a)(p:AM E a A b d e):Ca E a h A b d g n e:=
 ⟨p,c.b.ae s c.hc,by rw[s.ah _ (Aa.lt c.b)];exact c.c,c.t⟩
theorem Ca.ae{C:Nat->Prop}{A:AO}{N:AC}(c:Ca E a h A b d g n N)(k:Ab C E a r x)(f:∀j,j<=9->¬C j):Ca r x h A b d g n N:=
 ⟨c.p.ae k (λj e=>f _ Ω),c.b.ae k (by rw[c.c];exact f _ Ω),by rw[k.ah _ (Aa.lt c.b)];exact c.c,c.t⟩
theorem Ca.grown{A:AO}{N:AC}(c:Ca E a h A b d g n N)(f:E.grownBy r Z):Ca r a h A b d g n N:=c.ae (C:=λ_=>False) (Ab.grown c.p.cl f) (λ_ _ e=>e)
theorem aJ(a:b.aU):0<DO b h h:=by have:=a.fR;unfold DO;omega
theorem RV{A:AO}{N:AC}(l:AM E a A b h N)(v:h<=1073600000)(c t w:Nat)(x:t<=281474976710656)(m:Cf E c A b t w)(y:¬Bi (a c)):
  Bd V 61 #[Am c] E λe z=>e=Y (J O 0)/\∃i d,Ab Bi E a z i/\AM z i A b (h+43000) d/\Bp N d/\0<DO b d.fr d.nx:=by
 obtain⟨U,W,B,I⟩:=l.l;have n:=zh (NY B l.a1 l.n.f2 (Ψ l.n.f3));have D:=Aa.aq (j:=20) m rfl;have H:=zh l;have K:=zh v;have L:=zh x;have M:=zh m;have P:=zh y;obtain⟨o,q⟩:=Ag (DO b N.fr N.nx);rw[q]at n;have Q:=zh q;clear B I l v x m y q
 by_cases F:o=0
 ·subst F
  go_enter C2,CX
  go_wp2_with fail;refine n.o.mono ?_;rintro e r ⟨rfl,k⟩;have R:=zh (Re (H.o.grown k) K.o c t w L.o (M.o.grown k) P.o);have S:=zh (Ab.grown (C:=Bi) H.o.cl k);clear k D;go_wp2_with fail;refine R.o.mono ?_;rintro e G ⟨rfl,i,d,s,p,g,f⟩;have u:=zh (show∃i d,Ab Bi E a G i/\AM G i A b (h+43000) d/\Bp N d/\0<DO b d.fr d.nx from⟨i,d,S.o.trans s,p,g,by rw[f];exact aJ p.a1⟩);clear s p g f;go_wp2_with fail;go_ret;exact⟨rfl,u.o⟩
 ·have X:BL ((o:Int)>0)=Bs:=jT Ω;have T:Hd (0<o):=zh Ω;clear F
  go_enter C2,CX
  go_wp2_with fail;refine n.o.mono ?_;rintro e r ⟨rfl,k⟩;have u:=zh (show∃i d,Ab Bi E a r i/\AM r i A b (h+43000) d/\Bp N d/\0<DO b d.fr d.nx from⟨a,N,Ab.grown H.o.cl k,(H.o.grown k).mono Ω,Bp.refl N,by rw[Q.o];exact T.o⟩);clear k D;go_wp2_with fail;go_ret;exact⟨rfl,u.o⟩
theorem Cf.ee{A:AO}(e:Cf E h A b g d)(c:Nat):∃a,E.setCell ⟨h,22,Z⟩ (J O c)=a/\Cf a h A b c d/\Ac (λj=>j=h) E a:=⟨_,rfl,Aa.setCell e 22 _,AF _ _ _ _⟩
theorem Cf.iR{A:AO}(e:Cf E h A b d g)(c:Nat):∃a,E.setCell ⟨h,23,Z⟩ (J O c)=a/\Cf a h A b d c/\Ac (λj=>j=h) E a:=⟨_,rfl,Aa.setCell e 23 _,AF _ _ _ _⟩
theorem Ca.bT{A:AO}{N:AC}(c:Ca r a h A b g t y N)(f:Cf E h A b d n)(i:Ac (λj=>j=h) r E)(k:d<=281474976710656):Ab (λj=>j=8) r a E a/\Ca E a h A b g d n N:=by
 have s:Ab (λj=>j=8) r a E a:=AG c.p.cl i (λj e=>by rw[e];exact c.c);exact⟨s,c.p.ae s (λj e=>Ω),f,c.c,k⟩
theorem Zq{A:AO}{N:AC}(f:Ca E a d A b n h g N)(c:Nat)(x:h+c<=281474976710656):
  Bd V 25 #[Am d,J O c] E λe o=>e=Y (J O 0)/\Ab Ee E a o a/\Ca o a d A b n (h+c) g N:=by
 have p:wrap64 (281474976710656 - (h:Int))=((281474976710656 - h:Nat):Int):=by rw[BD _ Ω];omega
 have q:wrap64 ((h:Int)+(c:Int))=((h+c:Nat):Int):=by rw[BD _ Ω];omega
 obtain⟨B,r⟩:=Ag (281474976710656 - h);obtain⟨i,s⟩:=Ag (h+c);have y:BL ((c:Int)<0)=Bn:=jV Ω;have z:BL ((c:Int)>(B:Int))=Bn:=jV Ω;have C:BL (B<c)=Bn:=jV Ω;have D:=zh (show i<=281474976710656 by omega);rw[r]at p;rw[s]at q⊢;have H:=zh f;have F:=zh (Kl f.b);have G:=Aa.aq (j:=22) f.b rfl;have I:=Aa.v f.b 22;clear f x r s
 go_enter Tryz.func25,Tryz.ntmps25
 go_wp2_with fail;refine F.o.mono ?_;rintro e M ⟨rfl,rfl⟩;go_wp2_with fail;obtain⟨P,t,u,v⟩:=H.o.b.ee i;rw[t];have k:=H.o.bT u v D.o;have K:=zh (k.1.mono (λj e=>show Ee j from CB Ω));have l:=zh k.2;clear t u v k G I p q y z C;refine(JC l.o.p d i g l.o.b 5 Ω).mono ?_;rintro e Q ⟨rfl,m,w⟩;have L:=zh (Ax (K.o.trans (m.mono Lf)) (l.o.next m w));clear m w;go_wp2_with fail;go_ret;exact⟨rfl,L.o⟩
theorem je{m n o r s t u v:BC}(w:Aa E h p [q,m,n,o,r,s,t,u,v])(b c d e f g i j l:BC):∃a,(((((((((E.setCell ⟨h,0,Z⟩ b).setCell ⟨h,1,Z⟩ c).setCell ⟨h,2,Z⟩ d).setCell ⟨h,3,Z⟩ e).setCell ⟨h,4,Z⟩ f).setCell ⟨h,5,Z⟩ g).setCell ⟨h,6,Z⟩ i).setCell ⟨h,7,Z⟩ j).setCell ⟨h,8,Z⟩ l)=a/\Aa a h p [b,c,d,e,f,g,i,j,l]/\Ac (λk=>k=h) E a:=
 ⟨_,rfl,(((((((((w.setCell 0 _).setCell 1 _).setCell 2 _).setCell 3 _).setCell 4 _).setCell 5 _).setCell 6 _).setCell 7 _).setCell 8 _),(((((((((AF _ _ _ _).trans (AF _ _ _ _)).trans (AF _ _ _ _)).trans (AF _ _ _ _)).trans (AF _ _ _ _)).trans (AF _ _ _ _)).trans (AF _ _ _ _)).trans (AF _ _ _ _)).trans (AF _ _ _ _))⟩
theorem VO(c s X g l t r u v x y z A:Nat)(w:AA)
  (K:∀W,w.grownBy W Z->Bd V 44 #[Am c] W λe d=>e=Y (J O 0)/\W=d)
  (L:w.cell? ⟨c,17,Z⟩=A4 (Am s))(M:w.cell? ⟨c,18,Z⟩=A4 (Am X))(N:w.cell? ⟨c,19,Z⟩=A4 (Am g))(P:w.cell? ⟨c,20,Z⟩=A4 (Am l))(Q:w.cell? ⟨c,22,Z⟩=A4 (J O t))(R:w.cell? ⟨c,23,Z⟩=A4 (J O r))
  (S:∀W,w.grownBy W Z->Bd V 45 #[Am s] W λe d=>e=Y (J O u)/\W=d)
  (T:∀W,w.grownBy W Z->Bd V 46 #[Am X] W λe d=>e=Y (J O v)/\W=d)
  (U:∀W,w.grownBy W Z->Bd V 47 #[Am g] W λe d=>e=Y (J O x)/\W.grownBy d Z)
  (hO:∀W,w.grownBy W Z->Bd V 48 #[Am g] W λe d=>e=Y (J O y)/\W.grownBy d Z)
  (hL:∀W,w.grownBy W Z->Bd V 49 #[Am l] W λe d=>e=Y (J O z)/\W.grownBy d Z)
  (hH:∀W,w.grownBy W Z->Bd V 50 #[Am s] W λe d=>(∃k:Nat,e=Y (J O (k:Nat)))/\W=d)
  (hS:∀W,w.grownBy W Z->Bd V 51 #[Am X] W λe d=>e=Y (J O A)/\W=d):
  Bd V 10 #[Am c] w λe d=>(∃k:Nat,e=Y (CV #[J O t,J O u,J O v,J O x,J O y,J O z,J O (k:Nat),J O r,J O A]))/\w.grownBy d Z:=by
 have HR:=zh K;have an:=zh S;have ao:=zh T;have ap:=zh U;have aq:=zh hO;have ar:=zh hL;have au:=zh hH;have av:=zh hS;have m:=zh (Ax L (Ax M (Ax N (Ax P (Ax Q R)))));obtain⟨B,aw,g1,p1⟩:=Aq w 43 [J O 0,J O 0,J O 0,J O 0,J O 0,J O 0,J O 0,J O 0,J O 0];have B1:=zh p1;have h:=zh g1;clear K L M N P Q R S T U hO hL hH hS g1 p1
 go_enter Tryz.func10,Tryz.ntmps10
 go_wp2_with fail;clear aw;refine(HR.o B h.o).mono ?_;rintro e w2 ⟨rfl,rfl⟩;go_wp2_with fail;refine Dg (λW=>B.grownBy W Z) [([0,1,2,3,4,5,6,7,9,10,11,12,14,15,16,17,19,20,21,22,24,25,26,27,29,30,31,32,34,35,36,37,38,39,40,41],8,Bs),([],13,Bs),([],18,Bs),([],23,Bs),([],28,Bs),([],33,Bs),([],42,Bs),([43],44,Bn)] Φ Φ ?_;obtain⟨w2,ag,g2⟩:=AZ B;rw[ag];have C:=zh g2;clear ag g2;refine BU C.o ?_
 repeat(apply AB rfl Θ;(· intro wS o;(try have o:=o rfl);(try dsimp only at o);(try have n:=Ae h.o o);(try have ks:=n.cell m.o.1 Δ);(try have kx:=n.cell m.o.2.1 Δ);(try have kg:=n.cell m.o.2.2.1 Δ);(try have kl:=n.cell m.o.2.2.2.1 Δ);(try have kt:=n.cell m.o.2.2.2.2.1 Δ);(try have ko:=n.cell m.o.2.2.2.2.2 Δ);go_simp;(try with_reducible rfl));refine Ak ?_)
 refine Aj ?_;refine AH rfl (λf a=>?_);go_simp;refine(an.o _ (Ae h.o C.o)).mono ?_;rintro e w3 ⟨rfl,rfl⟩;dsimp only;have D:=C;refine a _ _ ⟨λ_=>D.o,?_⟩;clear a f;refine BG ?_;refine AH rfl (λf a=>?_);go_simp;refine(ao.o _ (Ae h.o D.o)).mono ?_;rintro e w4 ⟨rfl,rfl⟩;dsimp only;have E:=D;refine a _ _ ⟨λ_=>E.o,?_⟩;clear a f;refine BG ?_;refine AH rfl (λf a=>?_);go_simp;refine(ap.o _ (Ae h.o E.o)).mono ?_;rintro e w5 ⟨rfl,i⟩;dsimp only;have F:=zh (Ae E.o i);refine a _ _ ⟨λ_=>F.o,?_⟩;clear a f i;refine BG ?_;refine AH rfl (λf a=>?_);go_simp;refine(aq.o _ (Ae h.o F.o)).mono ?_;rintro e w6 ⟨rfl,i⟩;dsimp only;have G:=zh (Ae F.o i);refine a _ _ ⟨λ_=>G.o,?_⟩;clear a f i;refine BG ?_;refine AH rfl (λf a=>?_);go_simp;refine(ar.o _ (Ae h.o G.o)).mono ?_;rintro e w7 ⟨rfl,i⟩;dsimp only;have H:=zh (Ae G.o i);refine a _ _ ⟨λ_=>H.o,?_⟩;clear a f i;refine BG ?_;refine AH rfl (λf a=>?_);go_simp;refine(au.o _ (Ae h.o H.o)).mono ?_;rintro e w8 ⟨⟨k,rfl⟩,rfl⟩;dsimp only;have I:=H;refine a _ _ ⟨λ_=>I.o,?_⟩;clear a f;refine BG ?_;refine AH rfl (λf a=>?_);go_simp;refine(av.o _ (Ae h.o I.o)).mono ?_;rintro e w9 ⟨rfl,rfl⟩;dsimp only;have q:=I;refine a _ _ ⟨λ_=>q.o,?_⟩;clear a f;refine BU q.o ?_
 repeat(apply AB rfl Θ;(· intro wS o;go_simp;(try with_reducible rfl));refine Ak ?_)
 refine Aj ?_;refine AH rfl (λf a=>?_);have b:=B1.o.grown q.o Δ;have x0:=b.m 0;have f0:=b.v 0;have x1:=b.m 1;have f1:=b.v 1;have x2:=b.m 2;have f2:=b.v 2;have x3:=b.m 3;have f3:=b.v 3;have x4:=b.m 4;have f4:=b.v 4;have x5:=b.m 5;have f5:=b.v 5;have x6:=b.m 6;have f6:=b.v 6;have x7:=b.m 7;have f7:=b.v 7;have x8:=b.m 8;have f8:=b.v 8;go_simp;obtain⟨w9,ai,b4,t4⟩:=je b (J O t) (J O u) (J O v) (J O x) (J O y) (J O z) (J O k) (J O r) (J O A);rw[ai];refine a _ _ ⟨λhf=>(by cases hf),?_⟩;refine Di (BB ?_);clear a f ai;have al:=zh (Ax b4 (Ac.grown (Ae h.o q.o) t4 (λj e=>by rw[e];exact jS _)));clear b4 t4 b x0 x1 x2 x3 x4 x5 x6 x7 x8 f0 f1 f2 f3 f4 f5 f6 f7 f8;go_wp2_with fail;exact Bk (CL (p:=2) (ty:=43) rfl _ _ w.heap.size _ _ _ _ rfl al.o.1 Tryz.underlying43 rfl Φ) rfl ⟨⟨k,rfl⟩,al.o.2⟩
theorem Xs{A:AO}{N:AC}(c:Ca E a h A b n d g N)(v:n<=1073600000):
  Bd V 10 #[Am h] E λe l=>(∃o p q r i s:Nat,e=Y (CV #[J O d,J O (o:Nat),J O (p:Nat),J O (N.aw*b.aI+(N.aO N.aw).length:Nat),J O (q:Nat),J O (r:Nat),J O (i:Nat),J O g,J O (s:Nat)]))/\E.grownBy l Z:=by
 obtain⟨w,x,t,y⟩:=c.p.l;obtain⟨z,B,m,u⟩:=c.p.r;have k:=c.p.n;have C:=k.la;have D:=k.f3
 refine(VO h A.s A.X A.g A.l d g N.bX N.eO (N.aw*b.aI+(N.aO N.aw).length) (Cv b N.aw) (DO b N.fr N.nx) N.dK E
  (λW f=>Kl (c.grown f).b) c.b.fs.hs c.b.fs.hx c.b.fs.hg c.b.fs.hl c.b.fs.ht (Aa.aq (j:=23) c.b rfl)
  (λW f=>Td (c.grown f).p.sd.bJ) (λW f=>Ra (c.grown f).p.x.s.x (c.grown f).p.x.s.d.i) (λW f=>Ye (m.grown f) c.p.a1 Ω (u.dh _)) (λW f=>NM (m.grown f) c.p.a1 Ω) (λW f=>NY (t.grown f) c.p.a1 k.f2 Ω) (λW f=>ZL (c.grown f).p.sd.bJ) (λW f=>Wv (c.grown f).p.x.s.x)).mono ?_
 rintro e l ⟨⟨i,rfl⟩,f⟩;exact⟨⟨_,_,_,_,i,_,rfl⟩,f⟩
end
section
open Go Go.RowKit
theorem ZN(x:Af)(h:0<=x.r/\x.r<=1099511627776/\0<=x.a/\x.a<=65535/\0<=x.s/\x.s<=65535):BY 0 0 1 [x]=Bs:=by
 refine Fw.2 ⟨(rfl:FF 0 0 1 1=Bs),λy a=>?_,List.pairwise_singleton _ _⟩;rw[kH]at a;subst a;unfold CT;rw[jT h,nS];exact jT rfl
def Iv(P:Pl)(N:AC)(h:BitVec 64)(n:Nat):Af:=⟨h,(BJ P N.aw N.aO n:Nat),((DQ P N.aw N.aO n (BJ P N.aw N.aO n)).length:Nat),(n:Nat)⟩
def AC.cG(N:AC)(P:Pl)(b:List Nat)(ct:Int->List Nat):AC:={N with aw:=BJ P N.aw N.aO b.length,aO:=Ck (DQ P N.aw N.aO b.length) (BJ P N.aw N.aO b.length) b,ct:=ct}
theorem MM(P:Pl)(a:Nat)(b:Bz)(n:Nat):a<=BJ P a b n/\BJ P a b n<=a+1:=by unfold BJ;split<;>omega
section
variable {w:World} {col:Ad} {A:AO} {P:Pl} {q:Nat} {N:AC}
theorem Zh(h:AM w col A P q N)(y:q<=1073700000)(c:Option Addr)(a:Nat)(b:List Nat)(i:0<b.length)(l:b.length<=P.aI)(m:∀x∈b,x<256)(n:b.length<=a)(o:Ai w 1 (A3 c b.length a) b.length (Ao b))(p:∀k,(A3 c b.length a).ownBlock=A4 k->col k=0):
  Bd V 127 #[Am A.g,A3 c b.length a] w λe f=>e=Y (CA #[CV #[J O (BJ P N.aw N.aO b.length:Nat),J O ((DQ P N.aw N.aO b.length (BJ P N.aw N.aO b.length)).length:Nat),J O b.length],J O 0])/\
   ∃d g,Ab Bi w col f d/\AM f d A P (q+40) (N.cG P b g):=by
 have z:=h.n.la;have B:=(MM P N.aw N.aO b.length).2;refine(V4 h.r h.sd.bI h.cl h.a1 Ω Ω c a b i l m n o (λk r=>by rw[p k r];unfold Bo;omega)).mono ?_;rintro e f ⟨rfl,d,g,s,t,u,v⟩;refine⟨rfl,d,g,s.mono (λj e=>by unfold Bo at e;exact CB Ω),⟨h.fP s (λj e=>by unfold Bo;omega) t v.eN (nW _ _),u,h.l.ae s (by unfold Bo;omega),h.t.ae s (by unfold Bo;omega),⟨h.n.g1,by have:=h.n.g2;show N.bX<=_;omega,by have:=h.n.sp;show N.dK<=_;omega,h.n.f1,h.n.f2,by have:=h.n.f3;show N.nx<=_;omega,by show BJ P N.aw N.aO b.length<=_;omega⟩⟩⟩
theorem Yi(d:AM w col A P q N)(j:q<=1073700000)(x:BitVec 64){b:List Nat}(l:b.length<=P.aI)(k:AM E a A P h (N.cG P b c)):BY 0 0 1 [Iv P N x b.length]=Bs:=by
 have m:=d.n.la;have n:=(MM P N.aw N.aO b.length).2;obtain⟨o,p,r,e⟩:=k.r;have f:=e.dh (BJ P N.aw N.aO b.length);have s:=d.a1.n1;have t:P.aI<=32*493:=mn d.a1.dq Ω;have g:(Ck (DQ P N.aw N.aO b.length) (BJ P N.aw N.aO b.length) b) (BJ P N.aw N.aO b.length)=_:=CW _ _ _;have i:((Ck (DQ P N.aw N.aO b.length) (BJ P N.aw N.aO b.length) b) (BJ P N.aw N.aO b.length)).length<=P.aI:=f;rw[g,jU]at i
 refine ZN _ ⟨?_,?_,?_,?_,?_,?_⟩<;>simp only[Iv]<;>omega
structure UE(N a:AC)(x:Af)(o:Int)(b:Bool):Prop where
 la:a.aw=N.aw
 bo:a.aO=N.aO
 fr:a.fr=N.fr
 nx:a.nx=N.nx
 gx:I9 N.F a.F x
 lx:b=Bn->GI N.F a.F o x
theorem fo(h:AM w col A P q N)(k:q<=1073600000)(x:Af)(m:BY 0 0 1 [x]=Bs)(o:Int):
  Bd V 128 #[Am A.X,x.val,J O o] w λe c=>∃a,e=Y (CA #[C1 a,J O 0])/\∃b f,Ab Bi w col c b/\AM c b A P (q+70000) f/\UE N f x o a:=by
 have D:=h.n.sp;refine(dw h.x k Ω x m o).mono ?_;rintro e c ⟨a,rfl,b,n,p,r,t,u,v,i,y,s,z,C,E,g,l⟩
 have d:∀j,j=4\/j=5\/j=9->¬Dz 200 j:=λj F e=>by rcases e with e|e<;>omega
 exact⟨a,rfl,b,{N with eO:=n,d0:=p,pg:=r,ct:=t,T:=u,L:=v,dK:=i,B:=y},s.mono (Sc.mono (λj e=>Ω) (jS _)),⟨z,(h.r.ae s (d _ Ω)).c9 h.a1 C.ed,h.l.ae s (d _ Ω),h.t.ae s (d _ Ω),⟨h.n.g1,by have:=h.n.g2;show N.bX<=_;omega,by show i<=_;omega,h.n.f1,h.n.f2,by have:=h.n.f3;show N.nx<=_;omega,by have:=h.n.la;show N.aw<=_;omega⟩⟩,⟨rfl,rfl,rfl,rfl,g,l⟩⟩
end
end
