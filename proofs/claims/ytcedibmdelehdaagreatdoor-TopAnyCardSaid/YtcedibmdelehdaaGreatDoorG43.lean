/- Lemmas. -/
import Derived.Test.YtcedibmdelehdaaGreatDoorG07
import Derived.Test.YtcedibmdelehdaaGreatDoorG36
import Derived.Test.YtcedibmdelehdaaGreatDoorG39
import Derived.Test.YtcedibmdelehdaaGreatDoorG42
namespace Go.Proofs.YtcedibmdelehdaaGreatDoor
set_option maxRecDepth 100000
set_option maxHeartbeats 32000000
open Go.Value renaming int->J,pointer->A2,slice->A4,tuple->BL,agg->CK,func->C1,bool->C2
open Go.IntKind renaming i64->O,u64->C6
open Go.Proofs.Tryz renaming prog->V,ntmps25->BX,func25->CB,ntmps107->CL,ntmps61->CV,ntmps58->CX,func107->C0,func61->C3,func58->C4
open Go.Ending renaming returned->Y
open Option renaming none->Z,some->A5
open And renaming intro->Ax
open Go renaming World->AA,Calls->A3,bodyPost_ret->A6,results_tmp2->Bn,Value->BB,results_cell_row->BZ,TypeId->CA,maxLen->CR,Addr->C7
open Bool renaming false->A7,true->Bd
open Decidable renaming decide->Bk
open Go.NoPanic renaming normal->Bs
open Go.IntWalk renaming wrap64_in->Bx
open Go.Exit renaming noGoto_ret->BC
open List renaming replicate->BD
open Or renaming inl->BR
variable{f c g n t z A B:Nat}{h r:AA}{E x:Ae}{a:Pl}{b:Int->List Nat}{d C:List Ai}{e:Nat->Au}{i:List Ah}{j:As}{k:BitVec 64->Option Ah}{l:Ah}{o:Ai}{p:CA}{q:BB}{s:Au}{w:Int}
section
open Go Go.RowKit
attribute [local go_sem ↓] Go.wp_at_zero Go.wp_at_succ
theorem LX{P:Program}{c:Func}{p t u:Tmp}{ty:CA}(h:c.results=#[.cell p ty,.tmp t,.tmp u])(a:Array BB)(w:AA)(g:Nat)(e:CA)(b:Array BB)(f:Nat×Nat)(d:TypeDesc)
  (i:a.getD p undef=A2 (A5 ⟨g,0,Z⟩))(j:w.heap[g]?=A5 (.cells b e f))
  (k:P.underlying ty=A5 d)(l:(match d with| .struct _| .array _ _=>Bd|_=>A7)=Bd)(m:(P.info? ty).map (·.size)=A5 b.size):
  (results c a).run P w=.ok (BL #[CK b,a.getD t undef,a.getD u undef]) w:=by
 have n:a[p]?.getD undef=A2 (A5 ⟨g,0,Z⟩):=by simpa using i
 simp[results,h,n,asAddr,run_loadVar_row w g e ty b f d j k l m]
theorem ae(q:XF h E c n t z a f o g A j b C d B e)(hq:g<=1073741500)(x:BitVec 64):
  A3 V 118 #[A2 (A5 ⟨c,0,Z⟩),J C6 (U x)] h λs w'=>s=Y (BL #[LH ((Bh f e x).getD Ah.af),C2 (Bh f e x).isSome,J O 0])/\∃ak al,Ad (SS 125) h E w' ak/\XF w' ak c n t z a f o (g+3) A j al C d B e/\AR a b al:=by
 have S:AB x f<2^f:=J0 x f (Ψ q.s.d.n.d1);obtain⟨r,hr⟩:∃r,d[AB x f]?=A5 r:=⟨_,jK (by rw[q.x.x.aC];exact S)⟩;have an:=q.x.x.ok _ S;obtain⟨w0,aP,g0,T⟩:=An h 128 [J O 0,J O 0,J O 0];obtain⟨W,X⟩:=Af (AN E h.heap.size 124)
 have H:Ad (λl=>l=124) h E w0 W:=by rw[<-X];exact Cl q.s.d.s.cl g0 (jF _) T.lt rfl
 have aq:W h.heap.size=124:=by rw[<-X];exact A0 _ _ _
 have aa:XS w0 W c n t z a f o g A j b C d B:=q.s.ag H Ω Ω (q.s.d.s.ag H Ω Ω Ω Ω);have ar:=zh (Pb aa q.x.x Ω x r hr);have aQ:=zh aa;have HX:=zh q.x;have S0:=zh (Ax H aq);have B0:=zh T;have I:=zh an;unfold Bh;generalize e (AB x f)=u at*;clear q hq S hr an g0 T H X aq aa
 go_enter Tryz.func118,Tryz.ntmps118
 go_wp2_with fail;refine ar.o.mono ?_;rintro s w1 ⟨a1,c1,rfl,K,aT,G,ax,L,ay⟩;clear aP ar;obtain⟨w2,aU,g2,m⟩:=An w1 209 [J O 0,J O 0,J O 0,J O 0,A4 Z 0 0];obtain⟨w3,aW,M,t3⟩:=FM m (J O r.1) (J O r.2) (J O u.d) (J O u.p) (A4 a1 u.es.length c1);have f0:=m.v 0;have f1:=m.v 1;have f2:=m.v 2;have f3:=m.v 3;have f4:=m.v 4;have v0:=m.m 0;have v1:=m.m 1;have v2:=m.m 2;have v3:=m.m 3;have v4:=m.m 4;have x2:=M.m 2;have x3:=M.m 3;have x4:=M.m 4;have g3:=Ac.u g2 t3 (λl s=>by rw[s];exact jF _);have a4:=I.o.bC;have aI:=zh (SL (u.d:Nat) (u.p:Nat) u.es (U x) a1 c1 w3 Ω I.o.bW (ay.1.u g3 Δ))
 have N:∀l,l=6\/l=7\/l=124->¬SS 123 l:=λl hj=>by rintro(q|q)<;>omega
 have F:=zh (Ax (aQ.o.ag G (N _ Ω) (N _ Ω) ax) (Ax (G.y B0.o (by rw[S0.o.2];exact N _ Ω)) (Ax (show K h.heap.size=124 by rw[G.ak _ B0.o.lt];exact S0.o.2) (Ax ((S0.o.1.mono (λl s=>show SS 125 l from .inr Ω)).trans (G.mono (EK Ω))) (Ax L g3)))));clear G ax L ay g2 g3 m M t3 N a4;go_wp2_with fail;refine aI.o.mono ?_;rintro s w4 ⟨i,hp,rfl,g4⟩;rw[Qy I.o.bW hp,Mo I.o.bW hp];clear f0 f1 f2 f3 f4 v0 v1 v2 v3 v4 x2 x3 x4 aU aW hp aI;obtain⟨y,hy⟩:=Af ((Bg u.es x).getD Ah.af);obtain⟨is,ag⟩:=Af ((Bg u.es x).isSome);have HY:=zh (Ax hy ag);rw[hy,ag];clear hy ag;unfold LH;obtain⟨w5,bf,g5,v⟩:=An w4 128 [J O 0,J O 0,J O 0];obtain⟨w6,bg,P,t6⟩:=Bq v (J O y.r) (J O y.a) (J O y.s);have f0:=v.v 0;have f1:=v.v 1;have f2:=v.v 2;have v0:=v.m 0;have v1:=v.m 1;have v2:=v.m 2;have x0:=P.m 0;have x1:=P.m 1;have x2:=P.m 2;have D:=Ab (Ab F.o.2.2.2.2.2 g4) (Ac.u g5 t6 (λl s=>by rw[s];exact jF _));have w:=F.o.2.1.u D Δ;have k0:=w.v 0;have k1:=w.v 1;have k2:=w.v 2;have z0:=w.m 0;have z1:=w.m 1;have z2:=w.m 2;obtain⟨w7,bp,Q,R⟩:=Bq w (J O y.r) (J O y.a) (J O y.s);have a8:=zh (Ax D (Ax Q R));clear g4 g5 D v P t6 w Q R;go_wp2_with fail;obtain⟨a9,_,ba,aN,L,_⟩:=F.o;obtain⟨D,Q,R⟩:=a8.o;have ah:=a9.u D;have s7:Ad (λl=>l=124) w6 K w7 K:=AL ah.d.s.cl R (λk s=>by rw[s];exact ba);exact A6 (LX (p:=4) (ty:=128) rfl _ _ h.heap.size _ _ _ _ rfl Q nA rfl rfl) rfl ⟨by rw[HY.o.1,HY.o.2];rfl,K,aT,(aN.trans (Ad.u aN.new D)).trans (s7.mono (λl s=>.inr Ω)),⟨ah.ag s7 Ω Ω (ah.d.s.ag s7 Ω Ω Ω Ω),HX.o⟩,L⟩
theorem Sz{b:List Ah}(d:Cz b){i:Nat}(g:i<b.length)(h:BitVec 64):Bg (b.take i++b.drop (i+1)) h=if h=(b.getD i Ah.af).h then Z else Bg b h:=by
 have j:=Yt d i
 by_cases e:h=(b.getD i Ah.af).h
 ·rw[jP e,JR j];intro y f k;exact((Sb d g y).1 f).2 (k.trans e)
 ·rw[jN e];exact MX j d h (λy f=>by rw[Sb d g];exact⟨λa=>a.1,λa=>⟨a,λc=>e (f▸c)⟩⟩)
theorem RL(a:List Ah)(i:Nat):(a.take i++a.drop (i+1)).Sublist a:=by
 conv=>rhs;rw[<-kF i a]
 refine List.Sublist.append (pS _) ?_;rw[show a.drop (i+1)=(a.drop i).drop 1 by rw[nL]];exact pQ _ _
theorem XF.ds{l k:Ai}{q:Nat}{m:As}{v:Int->List Nat}{T:List Ai}(w:XF r x c g n t a f l q z m v T d A e){i:Nat}{p:Ai}(y:d[i]?=A5 p)(D:s.ok a.bg)(F:s.d=(e i).d)(G:s.p=(e i).p)
  (u:XS h E c g n t a f k B z j b C (CF f s.d s.p d o) A)(H:Fr (p.1::AH l T) (o.1::AH k C) m j)(I:j o.1=A5 (o.2,s.ld)):XF h E c g n t a f k B z j b C (CF f s.d s.p d o) A (CQ f e s):=
 ⟨u,w.x.put y D F G H u.d.l I⟩
theorem YV(m:XF h E c n t z a f o g A j b C d B e)(hq:g<=1073710000)(x:BitVec 64):
  A3 V 63 #[A2 (A5 ⟨c,0,Z⟩),J C6 (U x)] h λp w'=>p=Y (BL #[C2 (Bh f e x).isSome,J O 0])/\∃L af M ag T' L' N,Ad (DO 200) h E w' L/\XF w' L c n t z a f ag (g+1300) A af M T' L' B N/\AR a b M/\∀m,Bh f N m=if m=x then Z else Bh f e m:=by
 have h8:f<=8:=m.s.d.n.d1;have D:AB x f<2^f:=J0 x f Ω;obtain⟨r,v⟩:∃r,d[AB x f]?=A5 r:=⟨_,jK (by rw[m.x.x.aC];exact D)⟩;have aj:=m.x.x.ok _ D;have ak:=zh (Pb m.s m.x.x Ω x r v);have H:=zh m;have HQ:=zh hq
 have al:∀s,AB s (e (AB x f)).d=(e (AB x f)).p->Bg (e (AB x f)).es s=Bh f e s:=λs he=>(MZ m.x.x Ω D he).symm
 have S:=m.x.x.dl _ D;obtain⟨l,P⟩:=Af (e (AB x f))
 have aH:AB x l.d=l.p:=by rw[<-P];exact(JS x _ S Ω).1 (m.x.x.pf _ D)
 rw[P]at aj ak al S;have q:=zh (Ax v (Ax D (Ax aj (Ax al (Ax S (Ax P aH))))));have HI:Hd (Bh f e x=Bg l.es x):=zh (by unfold Bh;rw[P]);clear m hq h8 D v aj al S P aH
 go_enter Tryz.func63,Tryz.ntmps63
 go_wp2_with fail;refine ak.o.mono ?_;rintro p w1 ⟨a1,c1,rfl,aK,bf,T,aL,aM,aN⟩;clear ak;obtain⟨w2,bg,g2,u⟩:=An w1 209 [J O 0,J O 0,J O 0,J O 0,A4 Z 0 0];obtain⟨w3,bi,Q,t3⟩:=FM u (J O r.1) (J O r.2) (J O l.d) (J O l.p) (A4 a1 l.es.length c1);have f0:=u.v 0;have f1:=u.v 1;have f2:=u.v 2;have f3:=u.v 3;have f4:=u.v 4;have v0:=u.m 0;have v1:=u.m 1;have v2:=u.m 2;have v3:=u.m 3;have v4:=u.m 4;have x2:=Q.m 2;have x3:=Q.m 3;have x4:=Q.m 4;have W:=Ac.u g2 t3 (λG p=>by rw[p];exact jF _);have bp:=q.o.2.2.1.bC;have aQ:=zh (de (l.d:Nat) (l.p:Nat) l.es (U x) a1 c1 w3 Ω q.o.2.2.1.bW (aN.1.u W Δ))
 have ns:∀G,G=6\/G=7->¬SS 123 G:=λG hj=>by rintro(m|m)<;>omega
 have F:=zh (Ax ((H.o.s.ag T (ns _ Ω) (ns _ Ω) aL).u W) (Ax (T.trans (Ad.u T.new W)) aM));have B3:=zh Q;clear T aL aM aN g2 W u Q t3 ns bp;go_wp2_with fail;refine aQ.o.mono ?_;rintro p w4 ⟨i,a4,c4,w,X,I,rfl,o4,g4⟩;have K:=Mo q.o.2.2.1.bW X;have aR:=Pa q.o.2.2.1.bW X;clear f0 f1 f2 f3 f4 v0 v1 v2 v3 v4 x2 x3 x4 bg bi aQ;obtain⟨w5,bs,g5,y⟩:=An w4 160 [J O 0,J O 0,A4 Z 0 0];obtain⟨w6,bu,b6,t6⟩:=Bq y (J O l.d) (J O l.p) (A4 a4 w.length c4);have f0:=y.v 0;have f1:=y.v 1;have f2:=y.v 2;have v0:=y.m 0;have v1:=y.m 1;have v2:=y.m 2;have x0:=b6.m 0;have x1:=b6.m 1;have x2:=b6.m 2;have g6:=Ac.u g5 t6 (λG p=>by rw[p];exact jF _);have aA:=(B3.o.u g4 Δ).u g6 Δ;have y0:=aA.m 0;have y1:=aA.m 1;have G6:=zh (Ab g4 g6);have E6:=zh (show Fa w6 aK a4 c4 w from Fa.u ⟨Ag.ai o4,λk hk=>⟨F.o.1.d.s.cl k (o4.lt k hk).1,(o4.lt k hk).2⟩⟩ g6);have ae:=zh (Ax I (Ax K (Ax aR X)));clear g4 g5 g6 y b6 t6 aA o4 I K aR X;obtain⟨is,K⟩:=Af (A1 l.es (U x) i);have bC:=zh K;rw[K]at ae⊢;clear K
 cases is with
 |false=>
  go_wp2_with fail
  have aV:Bg l.es x=Z:=by have:=ae.o.2.2.1;simpa using this
  exact A6 (Bn rfl _ _ _) rfl ⟨by rw[HI.o,aV];rfl,aK,j,bf,o,C,d,e,(F.o.2.1.trans (Ad.u F.o.2.1.new G6.o)).mono (Jn Ω),⟨(F.o.1.u G6.o).mono Ω,H.o.x⟩,F.o.2.2,λs=>by
   by_cases p:s=x
   ·rw[jP p,p,HI.o,aV]
   ·rw[jN p]⟩
 |true=>
  have I:w=l.es.take i++l.es.drop (i+1):=by rw[ae.o.1,jP rfl]
  have aB:Bg l.es x=A5 (l.es.getD i Ah.af):=by rw[ae.o.2.2.1,jP rfl]
  have aW:i<l.es.length:=by
   have h1:=bC.o;unfold A1 at h1;rw[jQ]at h1;exact j7 h1.1
  have aX:(l.es.getD i Ah.af).h=x:=((Je q.o.2.2.1.bW x _).1 aB).2;have aD:Au.ok a.bg {l with es:=w}:=q.o.2.2.1.gr (by rw[I];exact RL _ _);have v:=q.o.1;have aY:=H.o.x.x.dh _ r v;have aZ:=H.o.x.cF v;have a0:=H.o.x.x.fU v (b:={l with es:=w}) (by show l.d=_;rw[q.o.2.2.2.2.2.1]) (by show l.p=_;rw[q.o.2.2.2.2.2.1]);have a2:=zh (KK (F.o.1.u G6.o) (Ψ HQ.o) (H.o.d0.mono Ω) r (by rw[aY];simp) aZ {l with es:=w} aD q.o.2.2.2.2.1 a0 a4 c4 E6.o.1);have R:=zh (Ax aD (Ax I (Ax aW (Ax aX aB))));clear I aB aW aX aD v aY aZ a0;go_wp2_with fail;refine a2.o.mono ?_;rintro p w7 ⟨rfl,bD,bE,bF,bG,T7,r7,s7,a6,a7,a8,a9⟩;have aE:=H.o.ds q.o.1 R.o.1 (by show l.d=_;rw[q.o.2.2.2.2.2.1]) (by show l.p=_;rw[q.o.2.2.2.2.2.1]) a6 a8 a9;have bI:=H.o.s.d.n.d1
  have ba:∀s,Bh f (CQ f e {l with es:=w}) s=if s=x then Z else Bh f e s:=λs=>by
   rw[My (by exact q.o.2.2.2.2.1) Ω]
   by_cases p:AB s l.d=l.p
   ·rw[jP p];show Bg w s=_;rw[R.o.2.1,Sz q.o.2.2.1.bW R.o.2.2.1,R.o.2.2.2.1,q.o.2.2.2.1 s p]
   ·rw[jN p,jN (λbJ=>p (by rw[bJ];exact q.o.2.2.2.2.2.2))]
  have bK:=zh (show∃L af M ag T' L' N,Ad (DO 200) h E w7 L/\XF w7 L c n t z a f ag (g+1300) A af M T' L' B N/\AR a b M/\∀m,Bh f N m=if m=x then Z else Bh f e m from
   ⟨bD,bE,bF,bG,T7,_,_,((F.o.2.1.trans (Ad.u F.o.2.1.new G6.o)).mono (Jn Ω)).trans s7,⟨aE.s.mono Ω,aE.x⟩,F.o.2.2.trans a7,ba⟩)
  clear s7 a6 a7 a8 a9 aE ba bI a2 f0 f1 f2 v0 v1 v2 x0 x1 x2 y0 y1 bs bu;go_wp2_with fail;exact A6 (Bn rfl _ _ _) rfl ⟨by rw[HI.o,R.o.2.2.2.2];rfl,bK.o⟩
end
section
open Go.RowKit
theorem dZ{b:List Ah}(d:Cz b){i:Nat}(f:Eo b (U l.h) i)(h:BitVec 64):Bg (Du b l i (A1 b (U l.h) i)) h=if h=l.h then A5 l else Bg b h:=by
 have g:=Sk d f
 by_cases e:h=l.h
 ·rw[jP e];exact(Je g h l).2 ⟨(OU d f l).2 (BR rfl),e.symm⟩
 ·rw[jN e]
  exact MX g d h (λy j=>by
   rw[OU d f]
   exact⟨λa=>a.elim (λc=>absurd (j.symm.trans (kM Ah.h c)) e) (λa=>a.1),λa=>.inr ⟨a,λc=>e (j.symm.trans c)⟩⟩)
theorem iH(b:Cm 0 0 1 [l]=Bd)(e:f<=8)(d:AB l.h f=c):Do f c l=Bd:=by
 have a:=(Fx.1 b).2.1 l Δ;unfold Do at a⊢;rw[jQ]at a⊢;refine⟨a.1,jG ?_⟩;rw[KU _ _ Ω,d]
theorem Au.ok.fW(h:s.ok f){es:List Ah}(b:es.Sublist s.es)(j:Cm 0 0 1 [l]=Bd)(k:AB l.h s.d=s.p)(c:Gc f es l.h=Bd){i:Nat}(a:Eo es (U l.h) i):Au.ok f {s with es:=Du es l i (A1 es (U l.h) i)}:=by
 have d:Cz es:=h.bW.sublist b;have o:=b.length_le;have m:=h.bC;refine h.gz _ (Sk d a) ?_ (λy g=>?_)
 ·rw[bG es l a.le,Mo d a];unfold Gc at c
  cases n:(Bg es l.h).isSome with
  |true=>simp;omega
  |false=>
   rw[n]at c;have:=j7 (by simpa using c:decide (es.length<f)=true);simp;omega
 ·rcases(OU d a y).1 g with e|⟨g,_⟩
  ·rw[e];exact iH j m.2.2.1 k
  ·exact h.gh (b.subset g)
def GT(F a:BitVec 64->Option Ah)(o:Int)(x:Ah):Prop:=a x.h=A5 x/\∀h,h≠x.h->a h=F h\/(a h=Z/\∃e,F h=A5 e/\e.r<o)
def Jk(F a:BitVec 64->Option Ah)(x:Ah):Prop:=a x.h=A5 x/\∀h,h≠x.h->a h=F h\/a h=Z
theorem FL.f7{f g:BitVec 64->Option Ah}(h:FL k f w)(i:GT f g w l):GT k g w l:=
 ⟨i.1,λa j=>by
  rcases i.2 a j with b|⟨b,e,c,m⟩
  ·rw[b];exact h a
  ·rcases h a with d|⟨d,_⟩
   ·exact .inr ⟨b,e,by rw[<-d];exact c,m⟩
   ·rw[d]at c;cases c⟩
theorem FL.im{b d:BitVec 64->Option Ah}(h:FL k b w)(e:Jk b d l):Jk k d l:=
 ⟨e.1,λf g=>by
  rcases e.2 f g with a|a
  ·rw[a];exact(h f).imp id (λc=>c.1)
  ·exact .inr a⟩
theorem Ms(h:Cu j g f d e)(k:f<=20){i:Nat}(m:i<2^f)(n:e i=s){es:List Ah}(o:Cz es)(p:AB l.h s.d=s.p)(q:Eo es (U l.h) c)(a:BitVec 64):
  Bh f (CQ f e {s with es:=Du es l c (A1 es (U l.h) c)}) a=if a=l.h then A5 l else if AB a s.d=s.p then Bg es a else Bh f e a:=by
 have r:s.d<=f:=by rw[<-n];exact h.dl i m
 rw[My (by exact r) k]
 by_cases b:AB a s.d=s.p
 ·rw[jP b,jP b];exact dZ o q a
 ·rw[jN b,jN b,jN (λt=>b (by rw[t];exact p))]
theorem TJ(h:Cu j g f d e)(m:f<=20){i:Nat}(n:i<2^f)(k:e i=s){es:List Ah}(p:Cz es)(q:AB l.h s.d=s.p)(r:Eo es (U l.h) c)(o:Int)
  (t:∀a,Bg es a=Bg s.es a\/(Bg es a=Z/\∃b,Bg s.es a=A5 b/\b.r<o)):GT (Bh f e) (Bh f (CQ f e {s with es:=Du es l c (A1 es (U l.h) c)})) o l:=by
 refine⟨by rw[Ms h m n k p q r,jP rfl],λa u=>?_⟩;rw[Ms h m n k p q r,jN u]
 by_cases b:AB a s.d=s.p
 ·rw[jP b,MZ h m n (by rw[k];exact b),k];exact t a
 ·rw[jN b];exact BR rfl
theorem aZ(h:Cu j g f d e)(k:f<=20){i:Nat}(m:i<2^f)(b:e i=s){es:List Ah}(o:Cz es)(p:AB l.h s.d=s.p)(q:Eo es (U l.h) c)
  (r:∀a,Bg es a=Bg s.es a\/Bg es a=Z):Jk (Bh f e) (Bh f (CQ f e {s with es:=Du es l c (A1 es (U l.h) c)})) l:=by
 refine⟨by rw[Ms h k m b o p q,jP rfl],λa t=>?_⟩;rw[Ms h k m b o p q,jN t]
 by_cases n:AB a s.d=s.p
 ·rw[jP n,MZ h k m (by rw[b];exact n),b];exact r a
 ·rw[jN n];exact BR rfl
theorem fv{a:List Ah}(h:a≠[]):∃i:Nat,Nw a=i/\i<a.length:=by
 unfold Nw;obtain⟨k,d⟩:∃k,a.length=k+1:=⟨a.length - 1,Ψ (List.length_pos_iff.2 h)⟩
 cases c:Fp a a.length with
 |none=>
  exfalso
  rw[d]at c;simp only[Fp]at c
  split at c<;>simp at c
  split at c<;>simp at c
 |some b=>exact⟨b,rfl,Pi a _ b c⟩
end
section
open Go Go.RowKit
attribute [local go_sem ↓] Go.wp_at_zero Go.wp_at_succ
def MY(w:AA)(h:Ae)(X D s d:Nat)(P:Pl)(q i:Nat)(j:Int->List Nat)(k:Nat)(F:BitVec 64->Option Ah)(o:Int)(x:Ah)(l:Bool)(c:AA):Prop:=
 ∃e a m n f p r g b,Ad (DO 200) w h c e/\XF c e X D s d P a m (q+70000) i n f p r g b/\AR P j f/\g<=k+8/\Jk F (Bh a b) x/\(l=A7->GT F (Bh a b) o x)
def cA(w:AA)(b:Ae)(X D s d:Nat)(P:Pl)(q c:Nat)(f:Int->List Nat)(g:Nat)(F:BitVec 64->Option Ah)(o:Int)(x:Ah)(e:Ending)(h:AA):Prop:=
 ∃a,e=Y (BL #[C2 a,J O 0])/\MY w b X D s d P q c f g F o x a h
theorem GT.cq{a:BitVec 64->Option Ah}(h:GT k a w l):Jk k a l:=⟨h.1,λb d=>(h.2 b d).imp id (λc=>c.1)⟩
theorem MU{b g i j:BB}(l:Aa h f p [q,b,g,i,j])(c d e:BB):∃a,(((h.setCell ⟨f,2,Z⟩ c).setCell ⟨f,3,Z⟩ d).setCell ⟨f,4,Z⟩ e)=a/\Aa a f p [q,b,c,d,e]/\Ac (λk=>k=f) h a:=
 ⟨_,rfl,((l.setCell 2 _).setCell 3 _).setCell 4 _,((Ay _ _ _ _).trans (Ay _ _ _ _)).trans (Ay _ _ _ _)⟩
theorem fj{b c d g:BB}(i:Aa h f p [q,b,c,d,g])(e:BB):∃a,(h.setCell ⟨f,4,Z⟩ e)=a/\Aa a f p [q,b,c,d,e]/\Ac (λk=>k=f) h a:=
 ⟨_,rfl,i.setCell 4 _,Ay _ _ _ _⟩
theorem NR{a:Option C7}{r s t:Int}(j:Ag h 4 (A4 a f c) f (Aw i))(u:1<=f)(v:Aa h g p [J O w,J O r,J O s,J O t,q])(x:∃l m n,q=A4 l m n):∀b,(A4 a f c).ownBlock=A5 b->b≠g:=by
 obtain⟨l,m,n,rfl⟩:=x;obtain⟨b,o,rfl,y⟩:=j.bA u;intro k z e
 cases z
 have A:0<i.length:=by have:=j.1;rw[Fy]at this;omega
 have d:=y _ _ (FZ i 0 A).1;subst e;rw[v.cell?]at d
 match o,d with
 |0,d=>simp at d
 |1,d=>simp at d
 |2,d=>simp at d
 |3,d=>simp at d
 |4,d=>simp at d
 |o+5,d=>simp at d
theorem Y9(q:Nat){N:Nat}(h:f<=N)(_:N<=8)(b:1<=f):q+7000*(N - f)+3+6000<=q+7000*(N - (f - 1)):=Ω
structure jr(c:As)(a:Nat)(L:List Ai)(B:Nat->Au)(d i:Nat)(x:Ah)(r:Ai)(b:Au):Prop where
 hi:i<2^a
 hr:L[i]?=A5 r
 hb:B i=b
 ok:b.ok d
 dl:b.d<=a
 aS:AB x.h b.d=b.p
 dh:c r.1=A5 (r.2,b.ld)
theorem IX.iI(h:IX j g c f o C d e)(k:f<=8)(x:Ah):∃r,jr j f d e c (AB x.h f) x r (e (AB x.h f)):=by
 have a:AB x.h f<2^f:=J0 x.h f Ω;obtain⟨r,b⟩:∃r,d[AB x.h f]?=A5 r:=⟨_,jK (by rw[h.x.aC];exact a)⟩;have i:=h.x.dl _ a;exact⟨r,a,b,rfl,h.x.ok _ a,i,(JS x.h _ i Ω).1 (h.x.pf _ a),h.x.dh _ r b⟩
def Qf(w:AA)(f:Ae)(X D s d:Nat)(P:Pl)(q g:Nat)(h:Int->List Nat)(i:Nat)(F:BitVec 64->Option Ah)(o:Int)(x:Ah)(N k:Nat)(wr:AA):Prop:=
 ∃c a j l b T L e B,XF wr c X D s d P a j (q+7000*(N - k)) g l b T L e B/\(B (AB x.h a)).d+k=P.dp/\e<=i+(N - k)/\Ad (DO 200) w f wr c/\AR P h b/\FL F (Bh a B) o/\Aa wr w.heap.size 237 x.cells/\c w.heap.size=0
theorem dF(W:XF h E g n t z a B o c A j b d C f e)(hq:c<=1073600000)(cD:f<=1073741000)(x:Ah)(hx:Cm 0 0 1 [x]=Bd)(M:Int):
  A3 V 128 #[A2 (A5 ⟨g,0,Z⟩),x.val,J O M] h (cA h E g n t z a c A b f (Bh B e) M x):=by
 obtain⟨w0,cF,g0,b0⟩:=An h 237 x.cells;have x0:=b0.m 0;have x1:=b0.m 1;have w:=b0.m 2;have G:=b0.m 3;obtain⟨F,hF⟩:=Af (Bh B e);have bK:(e (AB x.h B)).d<=a.dp:=jM (W.x.x.dl _ (J0 x.h B (Ψ W.s.d.n.d1))) W.s.dd;obtain⟨N,hN⟩:=Af (a.dp - (e (AB x.h B)).d);have HN:Hd (N<=8):=zh (Ψ W.s.d.s.a2.e2)
 have M0:Hd (∀w1,w0.grownBy w1 Z->Qf h E g n t z a c A b f F M x N N w1):=zh (λw1 g1=>
  ⟨E,B,o,j,b,d,C,f,e,by rw[lJ];exact⟨W.s.u (Ab g0 g1),W.x⟩,Ω,Ω,Ad.u W.s.d.s.cl (Ab g0 g1),AR.refl _ _,by rw[hF];exact FL.refl _ _,b0.u g1 Δ,W.s.d.s.cl _ (jF _)⟩)
 rw[hF];have HQ:=zh hq;have dD:=zh cD;have HX:=zh hx;have bL:=zh (YA x w0);rw[hx]at bL;unfold Ah.cells at cF;unfold Ah.val at bL⊢;clear W hq cD hx g0 b0 hF bK hN
 go_enter Tryz.func128,Tryz.ntmps128
 go_wp2_with fail
 go_step3
 go_wp2_with fail;refine bL.o.mono ?_;rintro p w1 ⟨rfl,g1⟩;have M1:=zh (M0.o w1 g1);clear x0 x1 w G cF bL M0 g1;go_wp2_with fail
 go_step3
 go_wp2_with fail
 go_loopg [6] N (λk v6 wr=>v6=C2 A7/\k<=N/\Qf h E g n t z a c A b f F M x N k wr)
 case atStart=>exact⟨rfl,jF _,M1.o⟩
 case round=>
  obtain⟨rfl,P,cI,ad,d6,d7,d8,T1,L1,bk,B1,H,hd,cJ,cK,cL,cM,cb,cN⟩:=hrel;clear M1;have u:=zh H;obtain⟨r,aS⟩:=H.x.iI H.s.d.n.d1 x;have HK:=zh (show gk<=N/\N<=8/\bk<=f+(N - gk)from⟨P,HN.o,cJ⟩);have cc:=zh (Pb H.s H.x.x (by have:=HQ.o;have:=HN.o;omega) x.h r aS.hr);obtain⟨l,hb⟩:=Af (B1 (AB x.h ad));rw[hb]at aS cc hd;have m:=zh aS;have HD:=zh hd;have LF:=zh cM;have cQ:=zh (Ax cK cL);have bO:=zh (Ax cb cN);have Q:=cb.m 0;clear H aS hb hd cJ cK cL cM cb cN P;go_wp2_with fail;refine cc.o.mono ?_;rintro p wV ⟨bl,k1,rfl,c1,eb,s1,cS,cT,cU⟩;clear cc Q
  have ns:∀ae,ae=0\/ae=6\/ae=7->¬SS 123 ae:=λae hj=>by rintro(W|W)<;>omega
  have X:=zh (u.o.s.ag s1 (ns _ Ω) (ns _ Ω) cS);have bQ:=zh (cQ.o.1.trans (s1.mono (Jn Ω)));have bR:=zh (cQ.o.2.trans cT);have BE:=zh (s1.y bO.o.1 (by rw[bO.o.2];exact ns _ Ω));have CE:Hd (c1 h.heap.size=0):=zh (by rw[s1.ak _ bO.o.1.lt];exact bO.o.2);have cW:=zh cU;clear s1 cS cT cU ns;obtain⟨w2,dH,g2,b2⟩:=An wV 209 [J O 0,J O 0,J O 0,J O 0,A4 Z 0 0];obtain⟨w3,dI,b3,t3⟩:=FM b2 (J O r.1) (J O r.2) (J O l.d) (J O l.p) (A4 bl l.es.length k1);have f0:=b2.v 0;have f1:=b2.v 1;have f2:=b2.v 2;have f3:=b2.v 3;have f4:=b2.v 4;have v0:=b2.m 0;have v1:=b2.m 1;have v2:=b2.m 2;have v3:=b2.m 3;have v4:=b2.m 4;have w:=b3.m 2;have G:=b3.m 3;have I:=b3.m 4;have g3:=Ac.u g2 t3 (λae p=>by rw[p];exact jF _);have Q:=(BE.o.u g3 Δ).m 0;have G3:=zh g3;have B3:=zh b3;have R3:=zh (cW.o.1.u g3 Δ);have c3:=zh (Ok (X.o.u g3).x l m.o.ok bl k1 (cW.o.1.u g3 Δ) x.h);clear g2 g3 b2 b3 t3;go_wp2_with fail;refine c3.o.mono ?_;rintro p w4 ⟨rfl,g4⟩;clear f0 f1 f2 f3 f4 v0 v1 v2 v3 v4 dH dI c3 Q w G I;generalize c4:wV.heap.size=bx at*;have bp:Hd (wV.heap.size<=bx):=zh (nU c4);clear c4;obtain⟨rm,cd⟩:=Af (Gc a.bg l.es x.h);have c5:=zh cd;rw[cd];clear cd;have G4:=zh (Ab G3.o g4);have B4:=zh (B3.o.u g4 Δ);have R4:=zh (R3.o.u g4 Δ);clear g4 G3 B3 R3;have Q:=(BE.o.u G4.o Δ).m 0;have w:=B4.o.m 2;have G:=B4.o.m 3;have I:=B4.o.m 4
  cases rm with
  |true=>
   have bd:=c5;have Y:=zh (pS l.es);have ce:=zh (Ok (X.o.u G4.o).x l m.o.ok bl k1 R4.o x.h);rw[c5.o]at ce;go_wp2_with fail;refine ce.o.mono ?_;rintro p w5 ⟨rfl,g5⟩;have G5:=zh (Ab G4.o g5);have B5:=zh (B4.o.u g5 Δ);have R5:=zh (R4.o.u g5 Δ);clear g5 ce Q w G I;have af:Cz (l.es):=m.o.ok.bW.sublist Y.o;have ag:=zh (Pd (l.d:Nat) (l.p:Nat) (l.es) x bl k1 w5 (by have:=Y.o.length_le;have:=m.o.ok.bC;omega) af R5.o);unfold Ah.val at ag;have bq:=zh af;have w:=B5.o.m 2;have G:=B5.o.m 3;have I:=B5.o.m 4;have K:=BE.o.u G5.o Δ;have Q:=K.m 0;have e1:=K.m 1;have e2:=K.m 2;have e3:=K.m 3;clear K af;go_wp2_with fail;refine ag.o.mono ?_;rintro p wP ⟨i,aP,cP,hp,rfl,R,gP⟩;clear ag w G I Q e1 e2 e3;have S:=m.o.ok.fW Y.o HX.o m.o.aS bd.o hp
   have aD:ad<=20:=by have:=u.o.s.d.n.d1;omega
   have aj:=TJ u.o.x.x aD m.o.hi m.o.hb bq.o m.o.aS hp M (λ_=>BR rfl);obtain⟨T,ak⟩:=Af (Du (l.es) x i (A1 (l.es) (U x.h) i))
   have aE:1<=T.length:=by rw[<-ak];unfold Du;rw[jI,jT];omega
   rw[ak]at S R aj⊢;have q:=B5.o.u gP Δ;have aG:=NR R aE q ⟨_,_,_,rfl⟩;obtain⟨wQ,bs,D,tQ⟩:=MU q (J O l.d) (J O l.p) (A4 aP T.length cP);have f2:=q.v 2;have f3:=q.v 3;have f4:=q.v 4;have y2:=q.m 2;have y3:=q.m 3;have y4:=q.m 4;have gQ:=Ac.u (Ab G5.o gP) tQ (λae p=>by rw[p];exact bp.o);have rQ:=tQ.aN R (λk P p=>aG k P p);have aJ:=u.o.x.x.fU m.o.hr (b:={l with es:=T}) (by show l.d=_;rw[m.o.hb]) (by show l.p=_;rw[m.o.hb]);have aK:=zh (KK (X.o.u gQ) (by have:=HQ.o;have:=HK.o;omega) (u.o.d0.mono Ω) r (by rw[m.o.dh];simp) (u.o.x.cF m.o.hr) {l with es:=T} S m.o.dl aJ aP cP rQ);have aq:=zh (Ax S aj);have GQ:=zh gQ;have z0:=D.m 0;have z1:=D.m 1;have z2:=D.m 2;have z3:=D.m 3;have z4:=D.m 4;clear S aj ak aE q aG D tQ gQ rQ aJ R gP hp aD;go_wp2_with fail;refine aK.o.mono ?_;rintro p w9 ⟨rfl,c9,aY,a0,a1,T9,r9,s9,aL,an,aM,aN⟩;have H:=u.o.ds m.o.hr aq.o.1 (by show l.d=_;rw[m.o.hb]) (by show l.p=_;rw[m.o.hb]) aL aM aN
   have bA:=zh (show MY h E g n t z a c A b f F M x A7 w9 from
    ⟨c9,ad,a1,aY,a0,T9,_,bk,_,(bQ.o.trans (Ad.u X.o.d.s.cl GQ.o)).trans s9,⟨H.s.mono (Ψ HK.o),H.x⟩,bR.o.trans an,Ψ HK.o,GT.cq (LF.o.f7 aq.o.2),λ_=>LF.o.f7 aq.o.2⟩)
   clear s9 aL an aM aN H z0 z1 z2 z3 z4 f2 f3 f4 y2 y3 y4 bs aK;go_wp2_with fail
   try rw[BC]
   exact A6 (Bn rfl _ _ _) rfl ⟨A7,rfl,bA.o⟩
  |false=>
   have dc:=zh (aF (l.d:Nat) (l.p:Nat) M l.es bl k1 w4 (Ψ m.o.ok.bC) R4.o);go_wp2_with fail;refine dc.o.mono ?_;rintro p w5 ⟨v,rfl,o5,g5⟩;obtain⟨s,bV⟩:=Af (Iy M l.es);rw[bV]at o5;obtain⟨a5,k5,rfl⟩:=(Ag.ai o5).slice;have Y:Hd (s.Sublist l.es):=zh (by rw[<-bV];exact nX);have cf:=zh bV;clear Q w G I dc bV;have b5:=B4.o.u g5 Δ;obtain⟨w6,dU,b6,t6⟩:=MU b5 (J O l.d) (J O l.p) (A4 a5 s.length k5);have f2:=b5.v 2;have f3:=b5.v 3;have f4:=b5.v 4;have y2:=b5.m 2;have y3:=b5.m 3;have y4:=b5.m 4;have w:=b6.m 2;have G:=b6.m 3;have I:=b6.m 4;have o6:=t6.aT o5 (λk P p=>Bv b5 o5 Ξ (by rw[<-p];exact P));have g6:=Ac.u (Ab G4.o g5) t6 (λae p=>by rw[p];exact bp.o);have Q:=(BE.o.u g6 Δ).m 0;have ci:Au.ok a.bg {l with es:=s}:=m.o.ok.gr Y.o;have dd:=zh (Ok (X.o.u g6).x {l with es:=s} ci a5 k5 (Ag.ai o6) x.h);have G6:=zh g6;have B6:=zh b6;have O6:=zh (Cf o6 G4.o.size);have bD:=zh ci;clear b5 b6 t6 o5 o6 g5 g6 ci;go_wp2_with fail;refine dd.o.mono ?_;rintro p w7 ⟨rfl,g7⟩;clear f2 f3 f4 y2 y3 y4 dU dd Q w G I;have G7:=zh (Ab G6.o g7);have B7:=zh (B6.o.u g7 Δ);have O7:=zh (AV O6.o g7);have R7:=zh (Ag.ai O7.o);clear g7 G6 B6 O6 G4 B4 R4;obtain⟨dW,ck⟩:=Af (Gc a.bg s x.h);have bd:=zh ck;rw[ck];clear ck
   cases dW with
   |true=>
    have af:Cz (s):=m.o.ok.bW.sublist Y.o;have ag:=zh (Pd (l.d:Nat) (l.p:Nat) (s) x a5 k5 w7 (by have:=Y.o.length_le;have:=m.o.ok.bC;omega) af R7.o);unfold Ah.val at ag;have bq:=zh af;have w:=B7.o.m 2;have G:=B7.o.m 3;have I:=B7.o.m 4;have K:=BE.o.u G7.o Δ;have Q:=K.m 0;have e1:=K.m 1;have e2:=K.m 2;have e3:=K.m 3;clear K af;go_wp2_with fail;refine ag.o.mono ?_;rintro p wP ⟨i,aP,cP,hp,rfl,R,gP⟩;clear ag w G I Q e1 e2 e3;have S:=m.o.ok.fW Y.o HX.o m.o.aS bd.o hp
    have aD:ad<=20:=by have:=u.o.s.d.n.d1;omega
    have aj:=TJ u.o.x.x aD m.o.hi m.o.hb bq.o m.o.aS hp M (λL=>by have:=OD m.o.ok.bW M L;rw[cf.o]at this;exact this);obtain⟨T,ak⟩:=Af (Du (s) x i (A1 (s) (U x.h) i))
    have aE:1<=T.length:=by rw[<-ak];unfold Du;rw[jI,jT];omega
    rw[ak]at S R aj⊢;have q:=B7.o.u gP Δ;have aG:=NR R aE q ⟨_,_,_,rfl⟩;obtain⟨wQ,bs,D,tQ⟩:=MU q (J O l.d) (J O l.p) (A4 aP T.length cP);have f2:=q.v 2;have f3:=q.v 3;have f4:=q.v 4;have y2:=q.m 2;have y3:=q.m 3;have y4:=q.m 4;have gQ:=Ac.u (Ab G7.o gP) tQ (λae p=>by rw[p];exact bp.o);have rQ:=tQ.aN R (λk P p=>aG k P p);have aJ:=u.o.x.x.fU m.o.hr (b:={l with es:=T}) (by show l.d=_;rw[m.o.hb]) (by show l.p=_;rw[m.o.hb]);have aK:=zh (KK (X.o.u gQ) (by have:=HQ.o;have:=HK.o;omega) (u.o.d0.mono Ω) r (by rw[m.o.dh];simp) (u.o.x.cF m.o.hr) {l with es:=T} S m.o.dl aJ aP cP rQ);have aq:=zh (Ax S aj);have GQ:=zh gQ;have z0:=D.m 0;have z1:=D.m 1;have z2:=D.m 2;have z3:=D.m 3;have z4:=D.m 4;clear S aj ak aE q aG D tQ gQ rQ aJ R gP hp aD;go_wp2_with fail;refine aK.o.mono ?_;rintro p w9 ⟨rfl,c9,aY,a0,a1,T9,r9,s9,aL,an,aM,aN⟩;have H:=u.o.ds m.o.hr aq.o.1 (by show l.d=_;rw[m.o.hb]) (by show l.p=_;rw[m.o.hb]) aL aM aN
    have bA:=zh (show MY h E g n t z a c A b f F M x A7 w9 from
     ⟨c9,ad,a1,aY,a0,T9,_,bk,_,(bQ.o.trans (Ad.u X.o.d.s.cl GQ.o)).trans s9,⟨H.s.mono (Ψ HK.o),H.x⟩,bR.o.trans an,Ψ HK.o,GT.cq (LF.o.f7 aq.o.2),λ_=>LF.o.f7 aq.o.2⟩)
    clear s9 aL an aM aN H z0 z1 z2 z3 z4 f2 f3 f4 y2 y3 y4 bs aK;go_wp2_with fail
    try rw[BC]
    exact A6 (Bn rfl _ _ _) rfl ⟨A7,rfl,bA.o⟩
   |false=>
    have w:=B7.o.m 2;have y3:=(X.o.u G7.o).x.cells.2.2.2.1;have e2:=AJ w;have e3:=AJ y3;clear w y3
    by_cases bF:l.d<a.dp
    ·have t1:Bk ((l.d:Int)<(a.dp:Int))=Bd:=jG Ω;have cm:Bk (l.d<a.dp)=Bd:=jG bF;have dh:=zh bF;clear bF;go_wp2_with fail;refine Cb Φ Φ ?_
     repeat(go_big_quiet_step (fail))
     refine wpQuiet_nil ?_;rintro _ ⟨gg,rfl⟩;have g8:=Bu gg;generalize gw gg=w8 at*;clear e2 e3 gg t1 cm;have G8:=zh (Ab G7.o g8);have b8:=B7.o.u g8 Δ;have x0:=b8.m 0;have x1:=b8.m 1;have w:=b8.m 2;have G:=b8.m 3;have I:=b8.m 4;have di:Fa w8 c1 a5 k5 s:=⟨R7.o.u g8 Δ,λk P=>⟨X.o.d.s.cl k (O7.o.lt k P).1,jJ (O7.o.lt k P).2 g8.size⟩⟩;have dj:=zh (W9 (y:={l with es:=s}) ⟨X.o.u G8.o,u.o.x⟩ (by have:=HQ.o;have:=HK.o;omega) (by have:=dD.o;have:=HK.o;omega) (AB x.h ad) r ⟨m.o.hr,bD.o,by show l.d=_;rw[m.o.hb],by show l.p=_;rw[m.o.hb]⟩ dh.o a5 k5 di);have dk:=zh (BE.o.u G8.o Δ);clear b8 di g8;go_wp2_with fail;refine dj.o.mono ?_;rintro p w9 ⟨rfl,c9,co,a1,aY,a0,T9,L9,B9,s9,cq,an,dl,dm⟩;clear dj x0 x1 w G I
     have ns:¬DO 200 0:=by rintro(W|W)<;>omega
     have dn:FL (Bh ad B1) (Bh co B9) M:=λL=>by
      rw[dl L];show(if AB L l.d=l.p then Bg s L else Bh ad B1 L)=Bh ad B1 L\/(_=Z/\_)
      by_cases p:AB L l.d=l.p
      ·rw[jP p,MZ u.o.x.x (Ψ u.o.s.d.n.d1) m.o.hi (by rw[m.o.hb];exact p),m.o.hb];have:=OD m.o.ok.bW M L;rw[cf.o]at this;exact this
      ·rw[jN p];exact BR rfl
     have bK:(B9 (AB x.h co)).d=l.d+1:=dm x.h m.o.aS
     have dp:Hd (gk - 1<gk/\gk - 1<=N/\Qf h E g n t z a c A b f F M x N (gk - 1) w9):=zh (by
      have hd:=HD.o;have dq:=HK.o;have eg:=dh.o
      refine⟨Ω,Ω,c9,co,a1,aY,a0,T9,L9,bk+1,B9,⟨cq.s.mono (Y9 c dq.1 dq.2.1 Ω),cq.x⟩,by rw[bK];omega,Ω,(bQ.o.trans (Ad.u X.o.d.s.cl G8.o)).trans s9,bR.o.trans an,LF.o.trans dn,s9.y dk.o (by rw[CE.o];exact ns),by rw[s9.ak _ dk.o.lt];exact CE.o⟩)
     clear s9 cq an dl dm dn bK ns;go_wp2_with fail
     go_roundg (gk - 1)
     case measure=>exact dp.o.1
     exact⟨rfl,dp.o.2⟩
    ·have t1:Bk ((l.d:Int)<(a.dp:Int))=A7:=jH Ω;have cm:Bk (l.d<a.dp)=A7:=jH bF
     have dY:Hd (s≠[]):=zh (λp=>by
      have h1:=bd.o;rw[p]at h1;unfold Gc at h1;have h2:=(Kx m.o.ok).1;simp[Bg]at h1
      omega)
     obtain⟨bh,aS,dr⟩:=fv dY.o;have bG:=zh (Ax aS dr);clear bF aS dr;go_wp2_with fail;refine Cb Φ Φ ?_
     repeat(go_big_quiet_step (fail))
     refine wpQuiet_nil ?_;rintro _ ⟨gg,rfl⟩;have g8:=Bu gg;generalize gw gg=w8 at*;clear e2 e3 gg t1 cm;have G8:=zh (Ab G7.o g8);have B8:=zh (B7.o.u g8 Δ);have O8:=zh (AV O7.o g8);clear g8 G7 B7 O7 R7;have w:=B8.o.m 2;have G:=B8.o.m 3;have I:=B8.o.m 4;have cs:=zh (WQ (l.d:Nat) (l.p:Nat) s a5 k5 w8 (by have:=bD.o.bC;show s.length<=300;have h2:s.length<=a.bg:=this.1;omega) (Ag.ai O8.o));rw[bG.o.1]at cs;go_wp2_with fail;refine cs.o.mono ?_;rintro p wA ⟨rfl,gA⟩;clear cs w G I;have GA:=zh (Ab G8.o gA);have BA:=zh (B8.o.u gA Δ);have OA:=zh (AV O8.o gA);clear gA G8 B8 O8;have I:=BA.o.m 4;have d1:wrap64 ((bh:Int)+1)=(bh:Int)+1:=Bx _ (by have h1:=bG.o.2;have h2:=bD.o.bC.1;have h3:=m.o.ok.bC;have h4:s.length<=a.bg:=h2;omega);have dt:=zh (Rm s bh wV.heap.size (A4 a5 s.length k5) wA (by have h2:s.length<=a.bg:=bD.o.bC.1;have h3:=m.o.ok.bC;omega) bG.o.2 OA.o);go_wp2_with fail;refine dt.o.mono ?_;rintro p wC ⟨vC,rfl,oC,gC⟩;obtain⟨ds,cx⟩:=Af (s.take bh++s.drop (bh+1));rw[cx]at oC;obtain⟨aC,kC,rfl⟩:=(Ag.ai oC).slice;have cy:=zh cx;clear cx I d1 dt;have bC:=BA.o.u gC (λp=>Bv BA.o OA.o Ξ p.symm);have dw:=DT GA.o OA.o (jF _) gC;obtain⟨wE,ek,bE,tE⟩:=fj bC (A4 aC ds.length kC);have f4:=bC.v 4;have y4:=bC.m 4;have oE:=tE.aT oC (λk P p=>Bv bC oC Ξ (by rw[<-p];exact P));have gE:=Ac.u dw tE (λae p=>by rw[p];exact bp.o);have GE:=zh gE;have bZ:=zh bE;have RE:=zh (Ag.ai oE);have dB:=Y;have Y:Hd (ds.Sublist l.es):=zh (by rw[<-cy.o];exact(RL _ _).trans dB.o)
     have bd:Hd (Gc a.bg ds x.h=Bd):=zh (by
      have h1:=bG.o.2;have h2:s.length<=a.bg:=bD.o.bC.1
      have h3:ds.length<a.bg:=by rw[<-cy.o,jI,jW,j0];omega
      unfold Gc
      rw[jG h3,ph])
     have d4:Hd (∀L,Bg ds L=Bg l.es L\/Bg ds L=Z):=zh (λL=>by
      have h1:=Sz (m.o.ok.bW.sublist dB.o) bG.o.2 L;rw[cy.o]at h1;rw[h1]
      by_cases p:L=(s.getD bh Ah.af).h
      ·exact .inr (jP p)
      ·rw[jN p];have h2:=OD m.o.ok.bW M L;rw[cf.o]at h2
       exact h2.imp id (λcB=>cB.1))
     clear oC gC bC dw bE tE oE gE;have af:Cz (ds):=m.o.ok.bW.sublist Y.o;have ag:=zh (Pd (l.d:Nat) (l.p:Nat) (ds) x aC kC wE (by have:=Y.o.length_le;have:=m.o.ok.bC;omega) af RE.o);unfold Ah.val at ag;have bq:=zh af;have w:=bZ.o.m 2;have G:=bZ.o.m 3;have I:=bZ.o.m 4;have K:=BE.o.u GE.o Δ;have Q:=K.m 0;have e1:=K.m 1;have e2:=K.m 2;have e3:=K.m 3;clear K af;go_wp2_with fail;refine ag.o.mono ?_;rintro p wP ⟨i,aP,cP,hp,rfl,R,gP⟩;clear ag w G I Q e1 e2 e3;have S:=m.o.ok.fW Y.o HX.o m.o.aS bd.o hp
     have aD:ad<=20:=by have:=u.o.s.d.n.d1;omega
     have aj:=aZ u.o.x.x aD m.o.hi m.o.hb bq.o m.o.aS hp d4.o;obtain⟨T,ak⟩:=Af (Du (ds) x i (A1 (ds) (U x.h) i))
     have aE:1<=T.length:=by rw[<-ak];unfold Du;rw[jI,jT];omega
     rw[ak]at S R aj⊢;have q:=bZ.o.u gP Δ;have aG:=NR R aE q ⟨_,_,_,rfl⟩;obtain⟨wQ,bs,D,tQ⟩:=MU q (J O l.d) (J O l.p) (A4 aP T.length cP);have f2:=q.v 2;have f3:=q.v 3;have f4:=q.v 4;have y2:=q.m 2;have y3:=q.m 3;have y4:=q.m 4;have gQ:=Ac.u (Ab GE.o gP) tQ (λae p=>by rw[p];exact bp.o);have rQ:=tQ.aN R (λk P p=>aG k P p);have aJ:=u.o.x.x.fU m.o.hr (b:={l with es:=T}) (by show l.d=_;rw[m.o.hb]) (by show l.p=_;rw[m.o.hb]);have aK:=zh (KK (X.o.u gQ) (by have:=HQ.o;have:=HK.o;omega) (u.o.d0.mono Ω) r (by rw[m.o.dh];simp) (u.o.x.cF m.o.hr) {l with es:=T} S m.o.dl aJ aP cP rQ);have aq:=zh (Ax S aj);have GQ:=zh gQ;have z0:=D.m 0;have z1:=D.m 1;have z2:=D.m 2;have z3:=D.m 3;have z4:=D.m 4;clear S aj ak aE q aG D tQ gQ rQ aJ R gP hp aD;go_wp2_with fail;refine aK.o.mono ?_;rintro p w9 ⟨rfl,c9,aY,a0,a1,T9,r9,s9,aL,an,aM,aN⟩;have H:=u.o.ds m.o.hr aq.o.1 (by show l.d=_;rw[m.o.hb]) (by show l.p=_;rw[m.o.hb]) aL aM aN
     have bA:=zh (show MY h E g n t z a c A b f F M x Bd w9 from
      ⟨c9,ad,a1,aY,a0,T9,_,bk,_,(bQ.o.trans (Ad.u X.o.d.s.cl GQ.o)).trans s9,⟨H.s.mono (Ψ HK.o),H.x⟩,bR.o.trans an,Ψ HK.o,LF.o.im aq.o.2,λcB=>by cases cB⟩)
     clear s9 aL an aM aN H z0 z1 z2 z3 z4 f2 f3 f4 y2 y3 y4 bs aK;go_wp2_with fail
     try rw[BC]
     exact A6 (Bn rfl _ _ _) rfl ⟨Bd,rfl,bA.o⟩
theorem dO(s i n k l m c o:Nat)(p:BitVec 64)(r q t u g v x:Nat)(w:AA)
  (D:∀W,w.grownBy W Z->A3 V 136 #[A2 (A5 ⟨s,0,Z⟩)] W λe d=>e=Y (CK #[J O i,J O n,J O k,J O l,J O m,J O c,J O o,J C6 (U p)])/\W.grownBy d Z)
  (f:∀W,A3 V 32 #[CK (Db i n k l m c o p).toArray] W λe d=>e=Y (BL #[CK (EQ r q t u g v x).toArray,J O 0])/\W.grownBy d Z):
  A3 V 81 #[A2 (A5 ⟨s,0,Z⟩)] w λe d=>∃X,e=Y (A2 (A5 ⟨X,0,Z⟩))/\w.heap.size<=X/\w.grownBy d Z/\
   Aa d X 163 [A2 (A5 ⟨s,0,Z⟩),A2 Z,J O g,J O c,J O 0]:=by
 have E:=zh D;have Q:=zh f
 have aA:∀W,(Instr.field 37 (CK #[J O i,J O n,J O k,J O l,J O m,J O c,J O o,J C6 (U p)]) 5).run V W=.ok (J O c) W:=λW=>Φ
 clear D f
 go_enter Tryz.func81,Tryz.ntmps81
 go_wp2_with fail;refine(E.o w (Bo _ _)).mono ?_;rintro e R ⟨rfl,y⟩;go_wp2_with fail;refine(Q.o R).mono ?_;rintro e F ⟨rfl,z⟩;obtain⟨w3,S,G,a⟩:=An F 85 [J O 0,J O 0,J O 0,J O 0,J O 0,J O 0,J O 0,J O 0];obtain⟨T,aa,H,I⟩:=U0 a (J O 2) (J O r) (J O q) (J O t) (J O u) (J O g) (J O v) (J O x);have y0:=a.m 0;have y1:=a.m 1;have y2:=a.m 2;have y3:=a.m 3;have y4:=a.m 4;have y5:=a.m 5;have y6:=a.m 6;have y7:=a.m 7;have f0:=a.v 0;have f1:=a.v 1;have f2:=a.v 2;have f3:=a.v 3;have f4:=a.v 4;have f5:=a.v 5;have f6:=a.v 6;have f7:=a.v 7;have L:=(Ab y z).size;have G4:=zh (Ac.u (Ab (Ab y z) G) I (λj e=>by rw[e];exact L));have B4:=zh H;clear a H I G y z L;go_wp2_with fail;clear y0 y1 y2 y3 y4 y5 y6 y7 f0 f1 f2 f3 f4 f5 f6 f7;generalize F.heap.size=X at*;refine Dc (λW=>Aa W X 85 (EQ r q t u g v x)) [([0,1,2,3],4,Bd),([5,6],7,A7),([],8,A7)] Φ Φ ?_;obtain⟨w5,M,A⟩:=AP T;rw[M];clear S aa M;have N:=zh (B4.o.u A Δ);have B:=zh (Ab G4.o A);clear A;refine Cc N.o ?_
 repeat(apply AC rfl Θ;(· intro wS h;(try have h:=h rfl);(try dsimp only at h);(try have x5:=h.m 5);go_simp;(try with_reducible rfl));refine Al ?_)
 refine Aj ?_;refine Am ?_;intro K b;refine(E.o w5 B.o).mono ?_;rintro e w6 ⟨rfl,C⟩;dsimp only;have P:=N.o.u C Δ;refine b _ _ ⟨λ_=>P,?_⟩;clear b K;refine Al ?_;refine Cc P ?_
 repeat(apply AC rfl Θ;(· intro wS h;go_simp;(try with_reducible rfl));refine Al ?_)
 refine Aj ?_;refine AE rfl (λK b=>?_);obtain⟨w7,aE,g7,b7⟩:=An w6 163 [A2 (A5 ⟨s,0,Z⟩),A2 Z,J O g,J O c,J O 0];go_simp;refine b _ _ ⟨λf=>(by cases f),?_⟩;clear b K;refine Al ?_;refine Bt ?_;refine Am ?_;intro K b;refine b _ _ ⟨λf=>(by cases f),?_⟩;clear b K;refine Al ?_;refine De (Bs ?_);go_wp2_with fail;go_ret;exact⟨_,rfl,(Ab B.o C).size,Ab (Ab B.o C) g7,b7⟩
theorem fN(i:DS h E f c a g n j b)(k:a.aY):
  A3 V 81 #[A2 (A5 ⟨f,0,Z⟩)] h λe d=>∃X,e=Y (A2 (A5 ⟨X,0,Z⟩))/\h.heap.size<=X/\h.grownBy d Z/\
   Aa d X 163 [A2 (A5 ⟨f,0,Z⟩),A2 Z,J O a.bg,J O a.dp,J O 0]:=
 dO f a.ss a.n a.rg a.rs a.lg a.dp a.a7 a.aK a.region a.aP a.a4 a.bv a.bg a.bz a.aA h (λ_ l=>RU (i.u l)) (λW=>I9 a k W)
theorem gZ{slots:Nat}(b:1<=slots)(c:slots<=255):Au.ok slots ⟨0,0,[]⟩:=by
 refine Fx.2 ⟨?_,λx a=>by simp at a,List.Pairwise.nil⟩;unfold FK;exact jG Γ
theorem Ws(d:SD h E c n a g f j b)(ai:∀l,j l=Z)(hq:g<=1073741600):
  A3 V 37 #[A2 (A5 ⟨c,0,Z⟩)] h λe w'=>∃X D,e=Y (BL #[A2 (A5 ⟨X,0,Z⟩),J O 0])/\∃s S t m T L B,Ad (DO 200) h E w' s/\XF w' s X D c n a 0 m (g+6) f S t T L 0 B/\AR a b t/\∀d,Bh 0 B d=Z:=by
 have C:=d.a2.gu;have al:=gZ (slots:=a.bg) Ω Ω;have H:=zh d;have U:=zh ai;have HQ:=zh hq;have an:=zh (Ax al C);have ao:=zh (fN d.bM d.a2);clear d ai hq al C
 go_enter Tryz.func37,Tryz.ntmps37
 go_wp2_with fail;refine ao.o.mono ?_;rintro e w1 ⟨X,rfl,hX,g1,F⟩;clear ao;obtain⟨c1,W⟩:=Af (AN E X 7)
 have s1:Ad (λi=>i=7) h E w1 c1:=by rw[<-W];exact(Ad.u H.o.cl g1).bQ hX F.lt rfl
 have av:Hd (c1 X=7):=zh (by rw[<-W];exact A0 _ _ _);have ab:=zh (H.o.ag s1 Ω Ω Ω Ω);have S1:=zh s1;have B1:=zh F;have x2:=F.m 2;have ac:=Ov 0 0 (a.bg:Nat) [] Z 0 w1 (Ag.nil _ 4) an.o.1;rw[show Ct 0 0 []=(Au.mk 0 0 []).ld from rfl]at ac;have ay:=zh ac;clear hX g1 F s1 W ac;go_wp2_with fail;refine ay.o.mono ?_;rintro e w2 ⟨aB,cB,rfl,u,G⟩;obtain⟨p,v⟩:=Af ((Au.mk 0 0 []).ld);have aY:=zh v;rw[v]at u⊢
 have az:p.length<=a.n - 19:=by
  have h3:=ab.o.a2.n0;rw[<-v,Au.eW];show 10+20*0<=_;omega
 have aA:∀y∈p,y<256:=by rw[<-v];exact NU _ _ _
 have aZ:=zh (ab.o.u G);have B2:=zh (B1.o.u G Δ);have aC:=zh (JQ aZ.o (Ψ HQ.o) ⟨[],Δ,λl q=>absurd (U.o l) q⟩ aB cB p az ⟨Ag.ai u,λk hk=>⟨ab.o.cl k (u.lt k hk).1,(u.lt k hk).2⟩,aA⟩);have S2:=zh ((S1.o.mono (λi e=>show DO 200 i from BR Ω)).trans (Ad.u S1.o.new G));clear x2 ay u G az aA v;go_wp2_with fail;refine aC.o.mono ?_;rintro e w3 ⟨o,rfl,ad,bg,c3,bh,w,aE,aF⟩;clear aC;obtain⟨w4,a3,g4,r⟩:=An w3 165 [J O 0,J O 0];obtain⟨w5,a4,b5,t5⟩:=En r (J O o) (J O f);have f0:=r.v 0;have f1:=r.v 1;have v0:=r.m 0;have v1:=r.m 1;have x0:=b5.m 0;have x1:=b5.m 1;have I:=Ac.u g4 t5 (λi e=>by rw[e];exact jF _)
 have z:¬SS 103 7:=by rintro(d|d)<;>omega
 have B5:=zh ((w.y B2.o (by rw[av.o];exact z)).u I Δ);have C5:Hd (c3 X=7):=zh (by rw[w.ak _ B2.o.lt];exact av.o);have aM:Cq (Ex j o (f,p)) (a.bz+2):=(Cq.new (k:=0) ⟨[],Δ,λl q=>absurd (U.o l) q⟩ (Fr.new _ ad)).mono Ω;have aN:=zh (ax (aE.u I) (Ψ HQ.o) aM (o,f) p (EV _ _ _));have S5:=zh ((S2.o.trans (w.mono (Jn Ω))).trans (Ad.u w.new I));have N5:=zh (Ax ad aF);clear w aE aF ad g4 I r b5 t5 z aM;go_wp2_with fail;refine aN.o.mono ?_;rintro e w6 ⟨D,m,first,rfl,K,aO,bb,A,M,aP,ag⟩;clear aN f0 f1 v0 v1 x0 x1 a3 a4
 have z:¬EJ 108 7:=by rintro(d|d)<;>omega
 have N:=A.y B5.o (by rw[C5.o];exact z)
 have ah:K X=7:=by rw[A.ak _ B5.o.lt];exact C5.o
 have x1:=N.m 1;have f1:=N.v 1;obtain⟨P,aQ⟩:=Af (w6.setCell ⟨X,1,Z⟩ (A2 (A5 ⟨D,0,Z⟩)));have Q:=N.setCell 1 (A2 (A5 ⟨D,0,Z⟩));rw[aQ]at Q;simp only[jY,kE]at Q;have R:Ad (λi=>i=7) w6 K P K:=AL A.new (show Ac (λi=>i=X) w6 P by rw[<-aQ];exact Ay _ _ _ _) (λi e=>by rw[e];exact ah);have C:=an.o.2;have aR:o∉([]:List Nat):=Δ;have aS:=ag.cA (n:=o) (x:=(f,p)) (EV _ _ _) aR
 have aT:IX aO a.bv a.bg 0 m [first] [(o,f)] (λ_=>⟨0,0,[]⟩):=IX.hv Ω Ω M.l (by rw[aY.o];exact aS.1) (λl q=>by
  by_cases e:l∈AH m [first]
  ·exact BR e
  ·right
   rw[ag.cs l Δ e]at q
   exact lH (λhc=>q (by rw[Et _ _ hc];exact U.o l)))
 have bd:=zh (show∃s S t m T L B,Ad (DO 200) h E P s/\XF P s X D c n a 0 m (g+6) f S t T L 0 B/\AR a b t/\∀d,Bh 0 B d=Z from
  ⟨K,aO,bb,m,[first],[(o,f)],_,(S5.o.trans (A.mono (PE Ω))).trans (R.mono (λi e=>BR Ω)),⟨⟨⟨Q,ah⟩,(M.ag R Ω (M.s.ag R Ω Ω Ω Ω)),ke _⟩,aT⟩,N5.o.2.trans aP,λd=>rfl⟩)
 clear A M aP ag z N ah Q R C aR aS aT;go_wp2_with fail;exact A6 (Bn rfl _ _ _) rfl ⟨X,D,rfl,bd.o⟩
end
section
open Go Go.RowKit
structure EO(w:AA)(e:Ae)(b a:Nat):Prop where
 fK:Aa w b 147 [A4 (A5 ⟨a,0,Z⟩) 7 7]
 hb:e b=9
 aI:∃d:List Int,Aa w a 3 (d.map (J O))/\d.length=7/\∀c∈d,0<=c/\c<=1152921504606846976
 ha:e a=9
theorem EO.ag{C:Nat->Prop}(a:EO h E f c)(k:Ad C h E r x)(b:¬C 9):EO r x f c:=by
 obtain⟨e,d,g,i⟩:=a.aI;exact⟨k.y a.fK (by rw[a.hb];exact b),by rw[k.ak _ a.fK.lt];exact a.hb,⟨e,k.y d (by rw[a.ha];exact b),g,i⟩,by rw[k.ak _ d.lt];exact a.ha⟩
theorem EO.u(a:EO h E f c)(g:h.grownBy r Z):EO r E f c:=by
 obtain⟨b,d,e,i⟩:=a.aI;exact⟨a.fK.u g Δ,a.hb,⟨b,d.u g Δ,e,i⟩,a.ha⟩
theorem Sn(s:AD h E):
  A3 V 31 #[J O 7] h λe d=>∃b a,e=Y (A2 (A5 ⟨b,0,Z⟩))/\h.grownBy d Z/\∃k,Ad (λj=>j=9) h E d k/\EO d k b a:=by
 refine(dJ 7 h Ω).mono ?_;rintro e d ⟨rfl,rfl⟩;obtain⟨l,m,n,t⟩:=An h 3 (BD 7 (J O 0))
 have o:l.heap.size=h.heap.size+1:=by rw[<-m];simp
 obtain⟨f,p,g,q⟩:=An l 147 [A4 (A5 ⟨h.heap.size,0,Z⟩) 7 7]
 have r:f.heap.size=h.heap.size+2:=by rw[<-p];simp[o]
 have u:(h.alloc (.cells (BD 7 (J O 0)).toArray 3)).alloc (.cells #[A4 (A5 ⟨h.heap.size,0,Z⟩) 7 7] 147)=f:=by rw[<-p, <-m]
 rw[u];have v:=t.u g Δ;rw[o]at q;have w:Ad (λj=>j=9) h E f (AN (AN E h.heap.size 9) (h.heap.size+1) 9):=Ad.bQ (C:=λj=>j=9) (i:=9) (B:=h.heap.size+1) (Ad.bQ (C:=λj=>j=9) (i:=9) (B:=h.heap.size) (Ad.u s (Ab n g)) (jF _) (by rw[r];omega) rfl) (j9 _) (by rw[r];omega) rfl;refine⟨h.heap.size+1,h.heap.size,rfl,Ab n g,_,w,⟨q,A0 _ _ _,⟨BD 7 0,by simpa using v,Δ,?_⟩,by rw[Bz _ _ Ω];exact A0 _ _ _⟩⟩;intro c x;rw[ls x];omega
theorem au(a:EO h E c f)(u:AD h E)(k:Nat)(v:k<7):
  A3 V 96 #[A2 (A5 ⟨c,0,Z⟩),J O k,J O 1] h λe n=>e=Y (J O 0)/\Ad (λj=>j=9) h E n E/\EO n E c f:=by
 obtain⟨d,l,w,q⟩:=a.aI;have i:k<d.length:=Ω
 have x:h.cell? ⟨f,k,Z⟩=A5 (J O (d[k]' i)):=by rw[l.cell?,lh,jK i];rfl
 have r:=q _ (ml i);refine(cZ c f 7 7 k 1 _ h (by unfold CR;omega) (a.fK.m 0) v x (l.v k) r.1 r.2 Ω Ω).mono ?_;rintro e n ⟨rfl,rfl⟩;have s:=l.setCell k (J O (Jz (d[k]' i) 1));obtain⟨m,o⟩:=Af (h.setCell ⟨f,k,Z⟩ (J O (Jz (d[k]' i) 1)));rw[o]at s⊢;have t:Ad (λj=>j=9) h E m E:=AL u (show Ac (λj=>j=f) h m by rw[<-o];exact Ay _ _ _ _) (λj e=>by rw[e];exact a.ha)
 have y:c≠f:=λe=>by
  have p:=a.fK;have b:=l;rw[e]at p;unfold Aa at p b;rw[p]at b;injection b with b;injection b with _ b;exact absurd b Ξ
 have z:Aa m c 147 [A4 (A5 ⟨f,0,Z⟩) 7 7]:=by rw[<-o];exact a.fK.fe (by exact y) _
 have g:=Bm m;refine⟨rfl,t.trans (Ad.u t.new g),⟨z.u g Δ,a.hb,⟨d.set k (Jz (d[k]' i) 1),?_,by rw[kG];exact w,?_⟩,a.ha⟩⟩
 ·rw[qg];exact s.u g Δ
 ·intro A B
  rcases lI B with C|rfl
  ·exact q A C
  ·unfold Jz;split<;>omega
end
section
open Go Go.RowKit
attribute [local go_sem ↓] Go.wp_at_zero Go.wp_at_succ
structure DP where
 g:Nat
 b:Array BB
 f:Array BB
abbrev DP.val(x:DP):BB:=C1 (.func x.g) x.b x.f
theorem K5(a:Option C7)(c:Nat)(d:List DP)(f:Nat->AA->Prop)(w:AA)(r:d.length<=10)(s:∀j W,f j W->Ag W 1 (A4 a d.length c) d.length (d.map DP.val))(y:∀x∈d,∀z W,(callFunc x.g z).run V W=.ok (.enter x.g z) W)
  (h:∀(j:Nat) (x:DP),d[j]?=A5 x->∀W,f j W->A3 V x.g (x.b++x.f) W λe t=>e=Y (J O 0)/\f (j+1) t)(l:f 0 w):
  A3 V 34 #[A4 a d.length c] w λe t=>e=Y (J O 0)/\f d.length t:=by
 obtain⟨n,u⟩:=Af d.length;rw[u]at s r⊢;have K:=zh u;have L:=zh r;have M:=zh s;have N:=zh y;have P:=zh h;have A:=zh l;clear u r s y h l
 go_enter Tryz.func34,Tryz.ntmps34
 go_wp2_with fail
 go_loopg [8] n (λk i wr=>i=J O (n - k:Nat)/\k<=n/\f (n - k) wr)
 case atStart=>exact⟨Δ,jF _,by rw[lJ];exact A.o⟩
 case round=>
  obtain⟨rfl,B,C⟩:=hrel;clear A;have m:=zh C;clear C
  by_cases l:gk=0
  ·subst l;rw[lW]at m⊢;have h:Bk ((n:Int)<(n:Int))=A7:=Δ;clear B;go_wp2_with fail;go_ret;exact⟨rfl,m.o⟩
  ·obtain⟨i,D⟩:=Af (n - gk);rw[D]at m⊢;have E:i<n:=Ω;have h:Bk ((i:Int)<(n:Int))=Bd:=jG Ω;obtain⟨x,q⟩:∃x,d[i]?=A5 x:=⟨_,jK (by rw[K.o];exact E)⟩;obtain⟨b,o,rfl,F⟩:=(M.o i wr m.o).bA Ω;have G:=F i x.val (by rw[lh,q];rfl);have H:=N.o x (kp q);have v:=zh (P.o i x q wr m.o);have p:Hd (i+1=n - (gk - 1)/\gk - 1<=n/\gk - 1<gk/\i<256):=zh (Ψ L.o);have Q:Hd (wrap64 ((i:Int)+1)=((i+1:Nat):Int)):=zh (Dm rfl (Ψ p.o.2.2.2));obtain⟨g,S,T⟩:=x;dsimp only at G H v;clear F q D B l;go_wp2_with fail;refine v.o.mono ?_;rintro e U ⟨rfl,I⟩;have R:=zh I;clear I G H v h E;go_wp2_with fail
   go_roundg (gk - 1)
   case measure=>exact p.o.2.2.1
   exact⟨by rw[<-p.o.1,Q.o],p.o.2.1,by rw[<-p.o.1];exact R.o⟩
end
section
open Go Go.RowKit
structure AI where
 d:Nat
 s:Nat
 X:Nat
 D:Nat
 g:Nat
 l:Nat
 b:Nat
 a:Nat
structure Az where
 bY:Nat
 eN:Nat
 dC:Nat
 fr:Nat
 nx:Nat
 t0:Nat
 aw:Nat
 d3:Ai
 pg:As
 ct:Int->List Nat
 T:List Ai
 L:List Ai
 B:Nat->Au
 aR:BO
def Az.F(N:Az):BitVec 64->Option Ah:=Bh N.eN N.B
structure ND(q:Nat)(N:Az):Prop where
 g1:1<=N.bY
 g2:N.bY<=q+1
 sp:N.dC<=q
 f1:1<=N.fr
 f2:N.fr<=N.nx
 f3:N.nx<=q+1
 la:N.aw<=q
structure AM(w:AA)(a:Ae)(A:AI)(P:Pl)(q:Nat)(N:Az):Prop where
 x:XF w a A.X A.D A.s A.d P N.eN N.d3 q N.bY N.pg N.ct N.T N.L N.dC N.B
 r:DJ w a A.g A.d P N.aw N.aR N.ct
 l:IU w a A.l A.d P N.fr N.nx N.t0
 t:EO w a A.b A.a
 n:ND q N
theorem XF.ag{C:Nat->Prop}{q l:Nat}{m:Int->List Nat}{L:List Ai}(i:XF r x g n f c a t o q l j m d L B e)(k:Ad C r x h E)(p:¬C 7)(s:¬C 6)(u:SD h E f c a z A j b):XF h E g n f c a t o z A j b d L B e:=
 ⟨⟨i.s.x.ag k p,⟨i.s.d.i.ag k s,i.s.d.n,i.s.d.l,u,i.s.d.ok⟩,i.s.dd⟩,i.x⟩
theorem IU.ag{C:Nat->Prop}(b:IU h E f c a g n t)(k:Ad C h E r x)(d:¬C 5):IU r x f c a g n t:=
 let⟨e,i,j,l⟩:=b
 ⟨e,i,j.ag k d,l⟩
theorem ND.mono{N:Az}(h:ND f N)(a:f<=c):ND c N:=⟨h.g1,Ψ h.g2,Ψ h.sp,h.f1,h.f2,Ψ h.f3,Ψ h.la⟩
section
variable {w w':World} {col col':Ae} {A:AI} {P:Pl} {q q':Nat} {N:Az}
theorem AM.sd(h:AM w col A P q N):SD w col A.s A.d P q N.bY N.pg N.ct:=h.x.s.d.s
theorem AM.a2(h:AM w col A P q N):P.aY:=h.sd.a2
theorem AM.cl(h:AM w col A P q N):AD w col:=h.sd.cl
theorem AM.ag{C:Nat->Prop}(h:AM w col A P q N)(k:Ad C w col w' col')(a:∀j,j<=7\/j=9->¬C j):AM w' col' A P q N:=
 ⟨h.x.ag k (a _ Ω) (a _ Ω) (h.sd.ag k (a _ Ω) (a _ Ω) (a _ Ω) (a _ Ω)),h.r.ag k (a _ Ω),h.l.ag k (a _ Ω),h.t.ag k (a _ Ω),h.n⟩
theorem AM.u(h:AM w col A P q N)(g:w.grownBy w' Z):AM w' col A P q N:=
 h.ag (C:=λ_=>False) (Ad.u h.cl g) (λ_ _ e=>e)
theorem AM.mono(h:AM w col A P q N)(a:q<=q'):AM w col A P q' N:=
 ⟨⟨h.x.s.mono a,h.x.x⟩,h.r,h.l,h.t,h.n.mono a⟩
theorem AM.fo{C:Nat->Prop}(h:AM w col A P q N)(k:Ad C w col w' col')(a:∀j,j=0\/j=2\/j=3\/j=6\/j=7->¬C j)(c:AF w' col' A.d P.ss P.n q' b)(d:Kb P N.ct b)(e:q<=q'):XF w' col' A.X A.D A.s A.d P N.eN N.d3 q' N.bY N.pg b N.T N.L N.dC N.B:=
 h.x.ag k (a _ Ω) (a _ Ω) ⟨((h.sd.bM.ag k (a _ Ω) (a _ Ω) (a _ Ω)).dk d).mono e,c,k.new,h.sd.a2⟩
end
abbrev Bi:Nat->Prop:=Sc (λj=>1<=j/\j<=7\/j=9) 200
structure Bj(N a:Az):Prop where
 f:a.F=N.F
 la:a.aw=N.aw
 bo:∀r,∃z,a.aR r=N.aR r++z
theorem Bj.refl(N:Az):Bj N N:=⟨rfl,rfl,λ_=>⟨[],(lw _).symm⟩⟩
theorem Bj.trans{N a b:Az}(h:Bj N a)(k:Bj a b):Bj N b:=⟨k.f.trans h.f,k.la.trans h.la,λr=>by
 obtain⟨z,c⟩:=h.bo r;obtain⟨y,d⟩:=k.bo r
 exact⟨z++y,by rw[d,c,kK]⟩⟩
def CY(w:AA)(d:Ae)(A:AI)(P:Pl)(q:Nat)(N:Az)(k:Nat)(a:AA):Prop:=
 ∃b c,Ad Bi w d a b/\AM a b A P (q+k) c/\Bj N c
theorem NZ(P:Pl)(b:Nat)(a:BO)(r:Nat):∃z,Eg P b a r=a r++z:=by
 unfold Eg Cv
 split
 ·exact⟨_,rfl⟩
 ·exact⟨[],(lw _).symm⟩
section
variable {w:World} {col:Ae} {A:AI} {P:Pl} {q:Nat} {N:Az}
theorem ZI(h:AM w col A P q N)(i:q<=1073700000):
  A3 V 90 #[A2 (A5 ⟨A.g,0,Z⟩)] w λe a=>e=Y (J O 0)/\CY w col A P q N 1 a:=by
 have k:=h.n.la;refine(NW h.r h.sd.bH h.cl h.a2 Ω Ω).mono ?_;rintro e a ⟨rfl,b,c,s,d,f,g⟩;refine⟨rfl,b,{N with ct:=c,aR:=Eg P N.aw N.aR},s.mono (λj e=>by unfold Bp at e;exact BR Ω),⟨h.fo s (λj e=>by unfold Bp;omega) d g.ew (j9 _),f,h.l.ag s (by unfold Bp;omega),h.t.ag s (by unfold Bp;omega),⟨h.n.g1,by have:=h.n.g2;show N.bY<=_;omega,by have:=h.n.sp;show N.dC<=_;omega,h.n.f1,h.n.f2,by have:=h.n.f3;show N.nx<=_;omega,by show N.aw<=_;omega⟩⟩,⟨rfl,rfl,NZ P N.aw N.aR⟩⟩
theorem Zo(h:AM w col A P q N)(c:q<=1073700000):
  A3 V 91 #[A2 (A5 ⟨A.s,0,Z⟩)] w λe b=>e=Y (J O 0)/\CY w col A P q N 8200 b:=by
 refine(XP h.sd c).mono ?_;rintro e b ⟨rfl,d,f,s,g,i⟩
 have a:∀j,4<=j->j<100->¬SS 200 j:=λj k l e=>by rcases e with e|e<;>omega
 refine⟨rfl,d,{N with ct:=f},s.mono (Sc.mono (λj e=>Ω) (jF _)),⟨h.x.ag s (a _ Ω Ω) (a _ Ω Ω) g,(h.r.ag s (a _ Ω Ω)).dk h.a2 i.ei,h.l.ag s (a _ Ω Ω),h.t.ag s (a _ Ω Ω),⟨h.n.g1,by have:=h.n.g2;show N.bY<=_;omega,by have:=h.n.sp;show N.dC<=_;omega,h.n.f1,h.n.f2,by have:=h.n.f3;show N.nx<=_;omega,by have:=h.n.la;show N.aw<=_;omega⟩⟩,⟨rfl,rfl,(Bj.refl N).bo⟩⟩
theorem Po(h:AM w col A P q N)(d:q<=1073700000):
  A3 V 35 #[A2 (A5 ⟨A.d,0,Z⟩)] w λe a=>e=Y (J O 0)/\CY w col A P q N 0 a:=by
 refine(Sj _ _ _ _ _ _ _ h.sd.bH h.cl Ω).mono ?_;rintro e a ⟨rfl,b,s,c⟩;exact⟨rfl,b,N,s.mono (λj e=>BR Ω),⟨h.fo s (λj e=>Ω) c (λ_ _=>rfl) (jF _),h.r.ag s Ω,h.l.ag s Ω,h.t.ag s Ω,h.n⟩,Bj.refl N⟩
theorem ZQ(h:AM w col A P q N)(g:q<=1073700000):
  A3 V 95 #[A2 (A5 ⟨A.s,0,Z⟩)] w λe b=>(∃v,e=Y v)/\CY w col A P q N 1 b:=by
 refine(VS h.sd Ω h.x.d0).mono ?_;rintro e b ⟨c,d,s,f⟩
 have a:∀j,4<=j->j<100->¬SS 200 j:=λj i k e=>by rcases e with e|e<;>omega
 exact⟨c,d,{N with bY:=N.bY+1},s.mono (Sc.mono (λj e=>Ω) (jF _)),⟨h.x.ag s (a _ Ω Ω) (a _ Ω Ω) f,h.r.ag s (a _ Ω Ω),h.l.ag s (a _ Ω Ω),h.t.ag s (a _ Ω Ω),⟨by show 1<=N.bY+1;omega,by have:=h.n.g2;show N.bY+1<=_;omega,by have:=h.n.sp;show N.dC<=_;omega,h.n.f1,h.n.f2,by have:=h.n.f3;show N.nx<=_;omega,by have:=h.n.la;show N.aw<=_;omega⟩⟩,⟨rfl,rfl,(Bj.refl N).bo⟩⟩
theorem dA(a:P.aY):0<DC P.n:=by have:=a.n0;unfold DC;omega
theorem Ra(h:AM w col A P q N):
  A3 V 42 #[A2 (A5 ⟨A.l,0,Z⟩)] w λe b=>(∃v,e=Y v)/\∃a,Ad Bi w col b col/\AM b col A P q a/\Bj N a/\a.fr=a.nx:=by
 obtain⟨g,i,c,k⟩:=h.l;refine(Vq c h.cl).mono ?_;rintro e b ⟨d,s,f⟩;refine⟨d,{N with fr:=N.nx},s.mono (λj e=>BR Ω),⟨h.x.ag s Ω Ω (h.sd.ag s Ω Ω Ω Ω),h.r.ag s Ω,⟨_,_,f,dA h.a2⟩,h.t.ag s Ω,⟨h.n.g1,h.n.g2,h.n.sp,?_,jF _,h.n.f3,h.n.la⟩⟩,⟨rfl,rfl,(Bj.refl N).bo⟩,rfl⟩;have:=h.n.f1;have:=h.n.f2;show 1<=N.nx;omega
theorem Tu(h:AM w col A P q N)(k:Nat)(b:k<7):
  A3 V 96 #[A2 (A5 ⟨A.b,0,Z⟩),J O k,J O 1] w λe a=>e=Y (J O 0)/\Ad Bi w col a col/\AM a col A P q N:=by
 refine(au h.t h.cl k b).mono ?_;rintro e a ⟨rfl,s,c⟩;exact⟨rfl,s.mono (λj e=>BR Ω),⟨h.x.ag s Ω Ω (h.sd.ag s Ω Ω Ω Ω),h.r.ag s Ω,h.l.ag s Ω,c,h.n⟩⟩
end
end
section
open Go Go.RowKit
attribute [local go_sem ↓] Go.wp_at_zero Go.wp_at_succ
abbrev Ak(n:Nat):BB:=A2 (A5 ⟨n,0,Z⟩)
abbrev LO(P:Pl)(a b c d e f:BB)(t g:Nat):List BB:=a::(P.cells++(P.dj++[b,c,d,e,f,J O t,J O g,C2 A7]))
def Ce(w:AA)(c:Nat)(A:AI)(P:Pl)(t a:Nat):Prop:=Aa w c 90 (LO P (Ak A.d) (Ak A.s) (Ak A.X) (Ak A.g) (Ak A.l) (Ak A.b) t a)
structure LK(w:AA)(c a n b d e f h:Nat)(i:BitVec 64)(s X g l t:Nat):Prop where
 h1:w.cell? ⟨c,1,Z⟩=A5 (J O a)
 h2:w.cell? ⟨c,2,Z⟩=A5 (J O n)
 h3:w.cell? ⟨c,3,Z⟩=A5 (J O b)
 h4:w.cell? ⟨c,4,Z⟩=A5 (J O d)
 h5:w.cell? ⟨c,5,Z⟩=A5 (J O e)
 h6:w.cell? ⟨c,6,Z⟩=A5 (J O f)
 h7:w.cell? ⟨c,7,Z⟩=A5 (J O h)
 h8:w.cell? ⟨c,8,Z⟩=A5 (J C6 (U i))
 hs:w.cell? ⟨c,17,Z⟩=A5 (Ak s)
 hx:w.cell? ⟨c,18,Z⟩=A5 (Ak X)
 hg:w.cell? ⟨c,19,Z⟩=A5 (Ak g)
 hl:w.cell? ⟨c,20,Z⟩=A5 (Ak l)
 ht:w.cell? ⟨c,22,Z⟩=A5 (J O t)
theorem LK.u{b:BitVec 64}{s X d l e:Nat}(a:LK h f c g n t z A B b s X d l e)(k:h.grownBy r Z):LK r f c g n t z A B b s X d l e:=
 ⟨k.cell a.h1 Δ,k.cell a.h2 Δ,k.cell a.h3 Δ,k.cell a.h4 Δ,k.cell a.h5 Δ,k.cell a.h6 Δ,k.cell a.h7 Δ,k.cell a.h8 Δ,k.cell a.hs Δ,k.cell a.hx Δ,k.cell a.hg Δ,k.cell a.hl Δ,k.cell a.ht Δ⟩
theorem Ce.fp{A:AI}(b:Ce h f A a c g):LK h f a.ss a.n a.rg a.rs a.lg a.dp a.a7 a.aK A.s A.X A.g A.l c:=
 ⟨b.m 1,b.m 2,b.m 3,b.m 4,b.m 5,b.m 6,b.m 7,b.m 8,b.m 17,b.m 18,b.m 19,b.m 20,b.m 22⟩
theorem iX{v w x y z A B C D E F G H I:BB}(J:Aa h f p [q,v,w,x,y,z,A,B,C,D,E,F,G,H,I])(b c d e g i j l m n o r s t u:BB):∃a,(((((((((((((((h.setCell ⟨f,0,Z⟩ b).setCell ⟨f,1,Z⟩ c).setCell ⟨f,2,Z⟩ d).setCell ⟨f,3,Z⟩ e).setCell ⟨f,4,Z⟩ g).setCell ⟨f,5,Z⟩ i).setCell ⟨f,6,Z⟩ j).setCell ⟨f,7,Z⟩ l).setCell ⟨f,8,Z⟩ m).setCell ⟨f,9,Z⟩ n).setCell ⟨f,10,Z⟩ o).setCell ⟨f,11,Z⟩ r).setCell ⟨f,12,Z⟩ s).setCell ⟨f,13,Z⟩ t).setCell ⟨f,14,Z⟩ u)=a/\Aa a f p [b,c,d,e,g,i,j,l,m,n,o,r,s,t,u]/\Ac (λk=>k=f) h a:=
 ⟨_,rfl,(((((((((((((((J.setCell 0 _).setCell 1 _).setCell 2 _).setCell 3 _).setCell 4 _).setCell 5 _).setCell 6 _).setCell 7 _).setCell 8 _).setCell 9 _).setCell 10 _).setCell 11 _).setCell 12 _).setCell 13 _).setCell 14 _),(((((((((((((((Ay _ _ _ _).trans (Ay _ _ _ _)).trans (Ay _ _ _ _)).trans (Ay _ _ _ _)).trans (Ay _ _ _ _)).trans (Ay _ _ _ _)).trans (Ay _ _ _ _)).trans (Ay _ _ _ _)).trans (Ay _ _ _ _)).trans (Ay _ _ _ _)).trans (Ay _ _ _ _)).trans (Ay _ _ _ _)).trans (Ay _ _ _ _)).trans (Ay _ _ _ _)).trans (Ay _ _ _ _))⟩
theorem XZ(c r n u v x y z:Nat)(A:BitVec 64)(s X g l t B C D E F G:Nat)(w:AA)(h:LK w c r n u v x y z A s X g l t)
  (K:∀W,w.grownBy W Z->A3 V 45 #[Ak s] W λe f=>e=Y (J O B)/\W=f)
  (L:∀W,w.grownBy W Z->A3 V 155 #[Ak X] W λe f=>e=Y (CK #[J O C,J O D])/\W.grownBy f Z)
  (M:∀W,w.grownBy W Z->A3 V 46 #[Ak X] W λe f=>e=Y (J O E)/\W=f)
  (N:∀W,w.grownBy W Z->A3 V 156 #[Ak l] W λe f=>e=Y (J O F)/\W=f)
  (P:∀W,w.grownBy W Z->A3 V 157 #[Ak g] W λe f=>e=Y (J O G)/\W=f):
  A3 V 94 #[Ak c] w λe f=>e=Y (CK (Ft r n u v x y z A B C D E F G t).toArray)/\w.grownBy f Z:=by
 have H:=zh h;have HG:=zh K;have HR:=zh L;have HD:=zh M;have HN:=zh N;have HL:=zh P;obtain⟨Q,al,R,S⟩:=An w 191 [J O 0,J O 0,J O 0,J O 0,J O 0,J O 0,J O 0,J C6 0,J O 0,J O 0,J O 0,J O 0,J O 0,J O 0,J O 0];have B1:=zh S;have m:=zh R;clear h K L M N P R S
 go_enter Tryz.func94,Tryz.ntmps94
 go_wp2_with fail;clear al;refine Dc (λW=>Q.grownBy W Z) [([0,1,2,3,4,5,6,7,9,10,11,12,14,15,16,17,19,20,21,22,24,25,26,27,29,30,31,32],8,Bd),([],13,Bd),([],18,Bd),([],23,Bd),([],28,Bd),([33],34,A7)] Φ Φ ?_;obtain⟨w2,T,g2⟩:=AP Q;rw[T];have o:=zh g2;clear T g2;refine Cc o.o ?_
 repeat(apply AC rfl Θ;(· intro wS q;(try have q:=q rfl);(try dsimp only at q);(try have d:=H.o.u (Ab m.o q));(try have k1:=d.h1);(try have k2:=d.h2);(try have k3:=d.h3);(try have k4:=d.h4);(try have k5:=d.h5);(try have k6:=d.h6);(try have k7:=d.h7);(try have k8:=d.h8);(try have ks:=d.hs);(try have kx:=d.hx);(try have kg:=d.hg);(try have kl:=d.hl);(try have kt:=d.ht);go_simp;(try with_reducible rfl));refine Al ?_)
 refine Aj ?_;refine AE rfl (λi b=>?_);go_simp;refine(HG.o _ (Ab m.o o.o)).mono ?_;rintro e w3 ⟨rfl,rfl⟩;dsimp only;refine b _ _ ⟨λ_=>o.o,?_⟩;clear b i;refine Bt ?_;refine AE rfl (λi b=>?_);go_simp;refine(HR.o _ (Ab m.o o.o)).mono ?_;rintro e w3 ⟨rfl,g3⟩;dsimp only;have k:=zh (Ab o.o g3);refine b _ _ ⟨λ_=>k.o,?_⟩;clear b i g3;refine Bt ?_;refine AE rfl (λi b=>?_);go_simp;refine(HD.o _ (Ab m.o k.o)).mono ?_;rintro e I ⟨rfl,rfl⟩;dsimp only;refine b _ _ ⟨λ_=>k.o,?_⟩;clear b i;refine Bt ?_;refine AE rfl (λi b=>?_);go_simp;refine(HN.o _ (Ab m.o k.o)).mono ?_;rintro e I ⟨rfl,rfl⟩;dsimp only;refine b _ _ ⟨λ_=>k.o,?_⟩;clear b i;refine Bt ?_;refine AE rfl (λi b=>?_);go_simp;refine(HL.o _ (Ab m.o k.o)).mono ?_;rintro e I ⟨rfl,rfl⟩;dsimp only;refine b _ _ ⟨λ_=>k.o,?_⟩;clear b i;refine Cc k.o ?_
 repeat(apply AC rfl Θ;(· intro wS q;go_simp;(try with_reducible rfl));refine Al ?_)
 refine Aj ?_;refine AE rfl (λi b=>?_);have a:=B1.o.u k.o Δ;have x0:=a.m 0;have f0:=a.v 0;have x1:=a.m 1;have f1:=a.v 1;have x2:=a.m 2;have f2:=a.v 2;have x3:=a.m 3;have f3:=a.v 3;have x4:=a.m 4;have f4:=a.v 4;have x5:=a.m 5;have f5:=a.v 5;have x6:=a.m 6;have f6:=a.v 6;have x7:=a.m 7;have f7:=a.v 7;have x8:=a.m 8;have f8:=a.v 8;have x9:=a.m 9;have f9:=a.v 9;have aL:=a.m 10;have aM:=a.v 10;have aN:=a.m 11;have aO:=a.v 11;have aP:=a.m 12;have aQ:=a.v 12;have aR:=a.m 13;have aS:=a.v 13;have aT:=a.m 14;have aU:=a.v 14;go_simp;obtain⟨I,ac,b4,t4⟩:=iX a (J O r) (J O n) (J O u) (J O v) (J O x) (J O y) (J O z) (J C6 (U A)) (J O B) (J O C) (J O D) (J O E) (J O F) (J O G) (J O t);rw[ac];refine b _ _ ⟨λhf=>(by cases hf),?_⟩;refine De (Bs ?_);clear b i ac;have af:=zh (Ax b4 (Ac.u (Ab m.o k.o) t4 (λj e=>by rw[e];exact jF _)));clear b4 t4 a x0 x1 x2 x3 x4 x5 x6 x7 x8 x9 aL aN aP aR aT f0 f1 f2 f3 f4 f5 f6 f7 f8 f9 aM aO aQ aS aU;go_wp2_with fail;exact A6 (BZ (p:=2) (ty:=191) rfl _ _ w.heap.size _ _ _ _ rfl af.o.1 Tryz.underlying191 rfl Φ) rfl ⟨rfl,af.o.2⟩
end
section
open Go Go.RowKit
attribute [local go_sem ↓] Go.wp_at_zero Go.wp_at_succ
theorem Ce.ag{C:Nat->Prop}{A:AI}(b:Ce h f A a c g)(k:Ad C h E r x)(d:¬C (E f)):Ce r f A a c g:=k.y b d
theorem Ce.u{A:AI}(b:Ce h f A a c g)(k:h.grownBy r Z):Ce r f A a c g:=Aa.u b k Δ
theorem DR:¬Bi 0:=by rintro(h|h)<;>omega
theorem Ns:¬Bi 8:=by rintro(h|h)<;>omega
section
variable {w:World} {col:Ae} {A:AI} {P:Pl} {q:Nat} {N:Az}
theorem eY(h:AM w col A P q N)(c t a:Nat)(b:Ce w c A P t a):
  A3 V 94 #[Ak c] w λe d=>e=Y (CK (Ft P.ss P.n P.rg P.rs P.lg P.dp P.a7 P.aK N.bY N.d3.1 N.d3.2 N.eN N.nx N.aw t).toArray)/\w.grownBy d Z:=by
 obtain⟨j,k,f,l⟩:=h.l;obtain⟨m,n,i,o⟩:=h.r
 exact XZ c P.ss P.n P.rg P.rs P.lg P.dp P.a7 P.aK A.s A.X A.g A.l t N.bY N.d3.1 N.d3.2 N.eN N.nx N.aw w b.fp
  (λW g=>Tn (h.sd.bM.u g)) (λW g=>aM (h.u g).x.s.x (h.u g).x.s.d.i) (λW g=>Rl (h.u g).x.s.x (h.u g).x.s.d.i) (λW g=>Y1 (f.u g)) (λW g=>ag (i.u g))
theorem fA(h:AM w col A P q N)(n:q<=1073700000)(t:Nat)(d:t<=281474976710656):
  A3 V 93 #[Ak A.d,CK (Ft P.ss P.n P.rg P.rs P.lg P.dp P.a7 P.aK N.bY N.d3.1 N.d3.2 N.eN N.nx N.aw t).toArray] w λe a=>e=Y (J O 0)/\CY w col A P q N 1 a:=by
 have b:=h.n.g1;have o:=h.n.g2;have f:=h.n.f1;have g:=h.n.f2;have p:=h.n.f3;have r:=h.n.la;have i:=h.sd.e3 Ω h.x.s.d.l.c.rt;have u:=(h.sd.hh h.x.s.d.l.c.rt).fL;refine(ZU h.sd.bH h.cl h.a2 Ω N.bY N.d3.1 N.d3.2 N.eN N.nx N.aw t b Ω (Ψ i.1) Ω h.x.s.dd Ω Ω Ω d).mono ?_;rintro e a ⟨rfl,k,l,s,m,c⟩;exact⟨rfl,k,{N with ct:=l},s.mono (λj e=>BR Ω),⟨h.fo s (λj e=>Ω) m c.ew (j9 _),(h.r.ag s Ω).dk h.a2 c.ei,h.l.ag s Ω,h.t.ag s Ω,⟨b,by show N.bY<=_;omega,by have:=h.n.sp;show N.dC<=_;omega,f,g,by show N.nx<=_;omega,by show N.aw<=_;omega⟩⟩,⟨rfl,rfl,(Bj.refl N).bo⟩⟩
end
theorem YT{A:AI}{N:Az}(n:AM h E A a f N)(o:f<=1073700000)(c t q r:Nat)(u:t<=281474976710656)(v:Ce h c A a t q)(w:Aa h r 31 [Ak c]):
  A3 V 92 #[Ak r] h λe C=>e=Y (J O 0)/\CY h E A a f N 1 C:=by
 have H:=zh n;have D:=zh o;have F:=zh u;have x:=zh v;have G:=zh w;clear n o u v w
 go_enter Tryz.func92,Tryz.ntmps92
 go_wp2_with fail;refine Dc (λW=>h.grownBy W Z) [([0,1,2,3,4],5,Bd),([],6,A7),([],7,A7)] Φ Φ ?_;obtain⟨P,y,z⟩:=AP h;rw[y];have k:=zh z;clear y z;refine Cc k.o ?_
 repeat(apply AC rfl Θ;(· intro Q d;(try have d:=d rfl);(try dsimp only at d);(try have R:=(G.o.u d Δ).m 0);(try have S:=Aa.ap (j:=0) (Aa.u x.o d Δ) rfl);go_simp;(try with_reducible rfl));refine Al ?_)
 refine Aj ?_;refine AE rfl (λi b=>?_);go_simp;refine(eY (H.o.u k.o) c t q (x.o.u k.o)).mono ?_;rintro e T ⟨rfl,B⟩;dsimp only;have l:=zh (Ab k.o B);refine b _ _ ⟨λ_=>l.o,?_⟩;clear b i B;refine Bt ?_;refine AE rfl (λi b=>?_);go_simp;refine(fA (H.o.u l.o) D.o t F.o).mono ?_;rintro e I ⟨rfl,K,L,s,p,g⟩;dsimp only;have M:=zh (show CY h E A a f N 1 I from⟨K,L,(Ad.u H.o.cl l.o).trans s,p,g⟩);refine b _ _ ⟨λm=>(by cases m),?_⟩;clear b i s p g;refine Bt ?_;refine AE rfl (λi b=>?_);go_simp;refine b _ _ ⟨λm=>(by cases m),?_⟩;refine De (Bs ?_);clear b i;go_wp2_with fail;go_ret;exact⟨rfl,M.o⟩
abbrev PZ(A:AI)(a:Nat):List DP:=[⟨90,#[Ak A.g],#[]⟩,⟨91,#[Ak A.s],#[]⟩,⟨35,#[Ak A.d],#[]⟩,⟨92,#[],#[Ak a]⟩,⟨35,#[Ak A.d],#[]⟩]
theorem CY.next{b:AA}{A:AI}{N d:Az}(s:Ad Bi h E r x)(e:Bj N d)(i:CY r x A a (f+c) d g b)(p:c+g<=n):CY h E A a f N n b:=
 let⟨j,k,l,m,o⟩:=i
 ⟨j,k,s.trans l,m.mono Ω,e.trans o⟩
theorem gW{A:AI}{N:Az}(o:AM h E A a f N)(S:f<=1073600000)(c t B q:Nat)(M:t<=281474976710656)(C:Ce h c A a t B)(D:¬Bi (E c))(r:Aa h q 31 [Ak c])(F:¬Bi (E q))
  (v:Option C7)(w:Nat)(G:Ag h 1 (A4 v 5 w) 5 ((PZ A q).map DP.val))(H:∀k,(A4 v 5 w).ownBlock=A5 k->¬Bi (E k)):
  A3 V 34 #[A4 v 5 w] h λe i=>e=Y (J O 0)/\CY h E A a f N 42000 i:=by
 obtain⟨K,T⟩:∃K:Nat,K=8300:=⟨_,rfl⟩;refine(K5 v w (PZ A q) (λj W=>CY h E A a f N (j*K) W) h (show 5<=10 by omega) ?_ ?_ ?_ ⟨E,N,Ad.refl o.cl,o.mono (nR _ _),Bj.refl N⟩).mono ?_
 ·rintro j W ⟨y,z,s,p,g⟩;exact s.aN G H
 ·intro x r U W;simp only[kZ,lY,oD]at r
  rcases r with rfl|rfl|rfl|rfl|rfl<;>rfl
 ·rintro j x l W ⟨y,z,s,p,g⟩;have X:j<5:=(jL.1 l).1;obtain⟨P,I⟩:=Af (f+j*K)
  have u:P<=1073700000:=by
   have:j*K<=5*K:=lC K Ω;omega
  have n:∀{m:Nat} {L:AA},CY W y A a (f+j*K) z m L->m<=K->CY h E A a f N ((j+1)*K) L:=λo Z=>CY.next s g o (by rw[qh];omega)
  rw[I]at p n;have Q:=C.ag s D;have R:=s.y r F;clear G H C r o s g I F D
  rcases j with _|_|_|_|_|j
  ·obtain rfl:=jV l;refine(ZI p u).mono ?_;rintro e i ⟨b,d⟩;exact⟨b,n d Ω⟩
  ·obtain rfl:=jV l;refine(Zo p u).mono ?_;rintro e i ⟨b,d⟩;exact⟨b,n d Ω⟩
  ·obtain rfl:=jV l;refine(Po p u).mono ?_;rintro e i ⟨b,d⟩;exact⟨b,n d Ω⟩
  ·obtain rfl:=jV l;refine(YT p u c t B q M Q R).mono ?_;rintro e i ⟨b,d⟩;exact⟨b,n d Ω⟩
  ·obtain rfl:=jV l;refine(Po p u).mono ?_;rintro e i ⟨b,d⟩;exact⟨b,n d Ω⟩
  ·omega
 ·rintro e i ⟨rfl,y,z,s,p,g⟩;exact⟨rfl,y,z,s,p.mono (by simp only[jT,kA];omega),g⟩
end
section
open Go Go.RowKit
attribute [local go_sem ↓] Go.wp_at_zero Go.wp_at_succ
def US(w:AA)(d:Ae)(A:AI)(P:Pl)(q:Nat)(N:Az)(k:Nat)(b:AA):Prop:=
 ∃c a,Ad Bi w d b c/\AM b c A P (q+k) a/\Bj N a/\a.fr=a.nx
theorem Mn{A:AI}{N:Az}(q:AM h E A a f N)(Q:f<=1073600000)(c t R:Nat)(S:t<=281474976710656)(T:Ce h c A a t R)(U:¬Bi (E c)):
  A3 V 43 #[Ak c] h λe w'=>e=Y (J O 0)/\US h E A a f N 43000 w':=by
 obtain⟨r,aC,s,w⟩:=An h 31 [Ak c];have x:Hd (E h.heap.size=0):=zh (q.cl _ (jF _));have aZ:Hd (h.heap.size<r.heap.size):=zh w.lt;have H:=zh (q.u s);have X:=zh Q;have HT:=zh S;have y:=zh (T.u s);have z:=zh U;have G1:=zh s;have B:=zh w;have aF:=zh q.cl;clear q Q S T U s w
 go_enter Tryz.func43,Tryz.ntmps43
 go_wp2_with fail;clear aC;refine Dc (λW=>r.grownBy W Z) [([0,1,2,3,4,5,6,7,8,9,10,11,12,13,14,15,16,17,18,19,20],21,A7),([],22,A7),([],23,A7)] Φ Φ ?_;obtain⟨C,aa,g2⟩:=AP r;rw[aa];have D:=zh g2;clear aa g2;refine Cc D.o ?_
 repeat(apply AC rfl Θ;(· intro wS n;(try have n:=n rfl);(try dsimp only at n);(try have d:=(B.o.u n Δ).m 0);(try have F:=Aa.u y.o n Δ);(try have g:=Aa.ap (j:=0) F rfl);(try have k2:=Aa.ap (j:=17) F rfl);(try have k3:=Aa.ap (j:=19) F rfl);go_simp;(try with_reducible rfl));refine Al ?_)
 refine Aj ?_;refine AE rfl (λo b=>?_);go_simp;obtain⟨w3,ac,g3,b3⟩:=An C 95 [C1 (.func 90) #[Ak A.g] #[],C1 (.func 91) #[Ak A.s] #[],C1 (.func 35) #[Ak A.d] #[],C1 (.func 92) #[] #[Ak h.heap.size],C1 (.func 35) #[Ak A.d] #[]];rw[ac];have af:r.heap.size<=C.heap.size:=D.o.size;have i:=zh (Ab D.o g3);have ag:Ag w3 1 (A4 (A5 ⟨C.heap.size,0,Z⟩) 5 5) 5 ((PZ A h.heap.size).map DP.val):=Ag.bq b3 rfl (by unfold CR;omega);have ah:=zh (gW (H.o.u i.o) X.o c t R h.heap.size HT.o (y.o.u i.o) z.o (B.o.u i.o Δ) (by rw[x.o];exact DR) _ 5 ag (λk hk=>by cases hk;rw[H.o.cl _ af];exact DR));refine b _ _ ⟨λp=>(by cases p),?_⟩;clear b o ac g3 b3 af ag;refine Bt ?_;refine AE rfl (λo b=>?_);go_simp;refine ah.o.mono ?_;rintro e w4 ⟨rfl,c4,N4,l,p4,e4⟩;dsimp only;have S4:=zh ((Ad.u aF.o (Ab G1.o i.o)).trans l);have H4:=zh p4;have E4:=zh e4;have G:=y.o.u i.o;have I:=B.o.u i.o Δ;have b4:=G.ag l z.o;have x4:=l.y I (by rw[x.o];exact DR);have K:=zh b4;have L:=zh x4;have an:Hd (¬Bi (c4 c)):=zh (by rw[l.ak _ G.lt];exact z.o);have ao:Hd (c4 h.heap.size=0):=zh (by rw[l.ak _ I.lt];exact x.o);clear ah l p4 e4 G I b4 x4;refine b _ _ ⟨λp=>(by cases p),?_⟩;clear b o;refine Bt ?_;refine AE rfl (λo b=>?_);go_simp;refine b _ _ ⟨λp=>(by cases p),?_⟩;refine De (Bs ?_);clear b o;have d:=L.o.m 0;have g:=Aa.ap (j:=17) K.o rfl;go_wp2_with fail;refine(ZQ H4.o (Ψ X.o)).mono ?_;rintro e w5 ⟨⟨v,rfl⟩,c5,N5,m,p5,e5⟩;have M:=K.o.ag m an.o;have P:=m.y L.o (by rw[ao.o];exact DR);have aL:Hd (¬Bi (c5 c)):=zh (by rw[m.ak _ (Aa.lt K.o)];exact an.o);have aM:Hd (c5 h.heap.size=0):=zh (by rw[m.ak _ L.o.lt];exact ao.o);have S5:=zh (S4.o.trans m);have H5:=zh p5;have E5:=zh (E4.o.trans e5);have B5:=zh M;have X5:=zh P;clear d g m p5 e5;have d:=P.m 0;have g:=Aa.ap (j:=20) M rfl;clear M P;go_wp2_with fail;refine(Ra H5.o).mono ?_;rintro e w6 ⟨⟨v,rfl⟩,N6,u,p6,e6,f6⟩;have b6:=B5.o.ag u aL.o;have x6:=u.y X5.o (by rw[aM.o];exact DR);have S6:=zh (S5.o.trans u);have H6:=zh p6;have E6:=zh (E5.o.trans e6);have F6:=zh f6;clear d g u p6 e6 f6;have d:=x6.m 0;have g:=Aa.ap (j:=21) b6 rfl;clear b6 x6;go_wp2_with fail;refine(Tu H6.o 6 Ω).mono ?_;rintro e w7 ⟨rfl,s7,p7⟩;have aY:=zh (show US h E A a f N 43000 w7 from⟨_,N6,S6.o.trans s7,p7.mono Ω,E6.o,F6.o⟩);clear d g s7 p7;go_wp2_with fail;go_ret;exact⟨rfl,aY.o⟩
end
section
open Go Go.RowKit
attribute [local go_sem ↓] Go.wp_at_zero Go.wp_at_succ
abbrev CU(n:Nat):Nat->Prop:=Sc (λj=>1<=j/\j<=9) n
abbrev Eh:Nat->Prop:=CU 300
theorem IE(h:200<=f):∀j,Bi j->CU f j:=Sc.mono (λj e=>Ω) h
theorem LI(h:f<=c):∀_j,CU f _j->CU c _j:=Sc.mono (λ_ e=>e) h
theorem IN:∀j,Bi j->Eh j:=Sc.mono (λj e=>Ω) Ω
theorem Dj:¬Eh 0:=by rintro(h|h)<;>omega
theorem Fg{A:AI}(b:Ce h f A a c g):
  A3 V 44 #[Ak f] h λe d=>e=Y (J O 0)/\h=d:=by
 have i:=Aa.ap (j:=24) b rfl;clear b
 go_enter Tryz.func44,Tryz.ntmps44
 go_wp2_with fail;go_ret;exact⟨rfl,rfl⟩
theorem bV(k:Nat)(h:k<1\/64<k)(a:k<=CR)(w:AA):A3 V 107 #[J O k,J O 0] w λe b=>e=Y (J O 0)/\w=b:=by
 unfold CR at a
 rcases h with h|h
 ·have c:Bk ((k:Int)<1)=Bd:=jG Ω;clear h a
  go_enter C0,CL
  go_wp2;go_ret;exact⟨rfl,rfl⟩
 ·have c:Bk ((k:Int)<1)=A7:=jH Ω;have d:Bk ((k:Int)>64)=Bd:=jG Ω;clear h a
  go_enter C0,CL
  go_wp2;go_ret;exact⟨rfl,rfl⟩
theorem Rp(k:Nat)(a:Option C7)(c:Nat)(d:1<=k)(f:k<=64)(w:AA):A3 V 58 #[A4 a k c] w λe h=>e=Y (J O 0)/\w=h:=by
 have b:=Ow k 0 d f Ω w;have i:(((13+k+0:Nat):Int)==0)=A7:=Γ;obtain⟨s,g⟩:∃s:Nat,13+k+0=s:=⟨_,rfl⟩;rw[g]at b i;have j:=zh b;clear b g d f
 go_enter C4,CX
 go_wp2_with fail;refine j.o.mono ?_;rintro e l ⟨rfl,rfl⟩;go_wp2_with fail;go_ret;exact⟨rfl,rfl⟩
theorem Sr(k:Nat)(a:Option C7)(c:Nat)(h:k<1\/64<k)(b:k<=CR)(w:AA):A3 V 58 #[A4 a k c] w λe d=>e=Y (J O 10)/\w=d:=by
 have f:=zh (bV k h b w);clear h b
 go_enter C4,CX
 go_wp2_with fail;refine f.o.mono ?_;rintro e g ⟨rfl,rfl⟩;go_wp2_with fail;go_ret;exact⟨rfl,rfl⟩
theorem Mr{A:AI}(k:Ce h f A a c g)(b:List Nat)(d:Option C7)(i:Nat)(l:∀x∈b,x<256)(m:Ag h 1 (A4 d b.length i) b.length (Ar b)):
  A3 V 59 #[Ak f,A4 d b.length i] h λe o=>e=Y (J C6 (U (Co a.aK b)))/\h.grownBy o Z:=by
 have p:=Aa.ap (j:=8) k rfl;have q:=zh (ai a.aK b d i h l m);clear k l m
 go_enter Tryz.func59,Tryz.ntmps59
 go_wp2_with fail;refine q.o.mono ?_;rintro e s ⟨rfl,n⟩;have r:=zh n;clear n p;go_wp2_with fail;go_ret;exact⟨rfl,r.o⟩
theorem Io{A:AI}{N:Az}(b:AM h E A a f N)(c t n:Nat)(d:Ce h c A a t n)(k:Nat)(g:k<7):
  A3 V 60 #[Ak c,J O k,J O 0] h λe i=>e=Y (J O 0)/\Ad Bi h E i E/\AM i E A a f N:=by
 have o:=Aa.ap (j:=21) d rfl;have l:=zh (Tu b k g);clear d b g
 go_enter Tryz.func60,Tryz.ntmps60
 go_wp2_with fail;refine l.o.mono ?_;rintro e p ⟨rfl,m⟩;have F:=zh m;clear m o l;go_wp2_with fail;go_ret;exact⟨rfl,F.o⟩
end
section
open Go Go.RowKit
attribute [local go_sem ↓] Go.wp_at_zero Go.wp_at_succ
structure Ca(w:AA)(a:Ae)(c:Nat)(A:AI)(P:Pl)(q t lo:Nat)(N:Az):Prop where
 p:AM w a A P q N
 b:Ce w c A P t lo
 c:a c=8
 t:t<=281474976710656
theorem Ca.hc{A:AI}{N:Az}(b:Ca h E f A a c g n N):¬Bi (E f):=by rw[b.c];exact Ns
theorem Ca.next{A:AI}{N d:Az}(b:Ca r x f A a t g n N)(s:Ad Bi r x h E)(p:AM h E A a c d):Ca h E f A a c g n d:=
 ⟨p,b.b.ag s b.hc,by rw[s.ak _ (Aa.lt b.b)];exact b.c,b.t⟩
theorem Ca.ag{C:Nat->Prop}{A:AI}{N:Az}(b:Ca h E f A a c g n N)(k:Ad C h E r x)(d:∀j,j<=9->¬C j):Ca r x f A a c g n N:=
 ⟨b.p.ag k (λj e=>d _ Ω),b.b.ag k (by rw[b.c];exact d _ Ω),by rw[k.ak _ (Aa.lt b.b)];exact b.c,b.t⟩
theorem Ca.u{A:AI}{N:Az}(b:Ca h E f A a c g n N)(d:h.grownBy r Z):Ca r E f A a c g n N:=b.ag (C:=λ_=>False) (Ad.u b.p.cl d) (λ_ _ e=>e)
theorem aS(b:a.aY):0<Cy a f f:=by have:=b.fM;unfold Cy;omega
theorem Si{A:AI}{N:Az}(k:AM h E A a f N)(u:f<=1073600000)(c t v:Nat)(w:t<=281474976710656)(l:Ce h c A a t v)(x:¬Bi (E c)):
  A3 V 61 #[Ak c] h λe y=>e=Y (J O 0)/\∃d b,Ad Bi h E y d/\AM y d A a (f+43000) b/\Bj N b/\0<Cy a b.fr b.nx:=by
 obtain⟨U,W,z,I⟩:=k.l;have m:=zh (KH z k.a2 k.n.f2 (Ψ k.n.f3));have B:=Aa.ap (j:=20) l rfl;have H:=zh k;have K:=zh u;have L:=zh w;have M:=zh l;have P:=zh x;obtain⟨n,o⟩:=Af (Cy a N.fr N.nx);rw[o]at m;have Q:=zh o;clear z I k u w l x o
 by_cases D:n=0
 ·subst D
  go_enter C3,CV
  go_wp2_with fail;refine m.o.mono ?_;rintro e q ⟨rfl,i⟩;have R:=zh (Mn (H.o.u i) K.o c t v L.o (M.o.u i) P.o);have S:=zh (Ad.u (C:=Bi) H.o.cl i);clear i B;go_wp2_with fail;refine R.o.mono ?_;rintro e F ⟨rfl,d,b,s,p,g,G⟩;have r:=zh (show∃d b,Ad Bi h E F d/\AM F d A a (f+43000) b/\Bj N b/\0<Cy a b.fr b.nx from⟨d,b,S.o.trans s,p,g,by rw[G];exact aS p.a2⟩);clear s p g G;go_wp2_with fail;go_ret;exact⟨rfl,r.o⟩
 ·have X:Bk ((n:Int)>0)=Bd:=jG Ω;have T:Hd (0<n):=zh Ω;clear D
  go_enter C3,CV
  go_wp2_with fail;refine m.o.mono ?_;rintro e q ⟨rfl,i⟩;have r:=zh (show∃d b,Ad Bi h E q d/\AM q d A a (f+43000) b/\Bj N b/\0<Cy a b.fr b.nx from⟨E,N,Ad.u H.o.cl i,(H.o.u i).mono Ω,Bj.refl N,by rw[Q.o];exact T.o⟩);clear i B;go_wp2_with fail;go_ret;exact⟨rfl,r.o⟩
theorem Ce.fk{A:AI}(e:Ce h f A a g c)(d:Nat):∃b,h.setCell ⟨f,22,Z⟩ (J O d)=b/\Ce b f A a d c/\Ac (λj=>j=f) h b:=⟨_,rfl,Aa.setCell e 22 _,Ay _ _ _ _⟩
theorem Ce.iC{A:AI}(e:Ce h f A a c g)(d:Nat):∃b,h.setCell ⟨f,23,Z⟩ (J O d)=b/\Ce b f A a c d/\Ac (λj=>j=f) h b:=⟨_,rfl,Aa.setCell e 23 _,Ay _ _ _ _⟩
theorem Ca.bj{A:AI}{N:Az}(d:Ca r E f A a g t z N)(b:Ce h f A a c n)(i:Ac (λj=>j=f) r h)(k:c<=281474976710656):Ad (λj=>j=8) r E h E/\Ca h E f A a g c n N:=by
 have s:Ad (λj=>j=8) r E h E:=AL d.p.cl i (λj e=>by rw[e];exact d.c);exact⟨s,d.p.ag s (λj e=>Ω),b,d.c,k⟩
theorem ZA{A:AI}{N:Az}(d:Ca h E c A a n f g N)(b:Nat)(x:f+b<=281474976710656):
  A3 V 25 #[Ak c,J O b] h λe o=>e=Y (J O 0)/\Ad Eh h E o E/\Ca o E c A a n (f+b) g N:=by
 have p:wrap64 (281474976710656 - (f:Int))=((281474976710656 - f:Nat):Int):=by rw[Bx _ Ω];omega
 have q:wrap64 ((f:Int)+(b:Int))=((f+b:Nat):Int):=by rw[Bx _ Ω];omega
 obtain⟨B,r⟩:=Af (281474976710656 - f);obtain⟨i,s⟩:=Af (f+b);have y:Bk ((b:Int)<0)=A7:=jH Ω;have z:Bk ((b:Int)>(B:Int))=A7:=jH Ω;have C:Bk (B<b)=A7:=jH Ω;have D:=zh (show i<=281474976710656 by omega);rw[r]at p;rw[s]at q⊢;have H:=zh d;have F:=zh (Fg d.b);have G:=Aa.ap (j:=22) d.b rfl;have I:=Aa.v d.b 22;clear d x r s
 go_enter CB,BX
 go_wp2_with fail;refine F.o.mono ?_;rintro e M ⟨rfl,rfl⟩;go_wp2_with fail;obtain⟨P,t,u,v⟩:=H.o.b.fk i;rw[t];have k:=H.o.bj u v D.o;have K:=zh (k.1.mono (λj e=>show Eh j from BR Ω));have l:=zh k.2;clear t u v k G I p q y z C;refine(Io l.o.p c i g l.o.b 5 Ω).mono ?_;rintro e Q ⟨rfl,m,w⟩;have L:=zh (Ax (K.o.trans (m.mono IN)) (l.o.next m w));clear m w;go_wp2_with fail;go_ret;exact⟨rfl,L.o⟩
theorem bw{A:AI}{N:Az}(i:Ca h E c A a g f n N)(b:Int)(k:b<0\/281474976710656<f+b):
  A3 V 25 #[Ak c,J O b] h λe p=>e=Y (J O 2)/\h=p:=by
 have l:=i.t;have m:=zh (Fg i.b);have u:=Aa.ap (j:=22) i.b rfl;clear i
 rcases(show b<0\/(¬b<0/\281474976710656<f+b) by omega)with d|⟨d,q⟩
 ·have r:Bk (b<0)=Bd:=jG d;clear k d l
  go_enter CB,BX
  go_wp2_with fail;refine m.o.mono ?_;rintro e s ⟨rfl,rfl⟩;go_wp2_with fail;go_ret;exact⟨rfl,rfl⟩
 ·have t:wrap64 (281474976710656 - (f:Int))=((281474976710656 - f:Nat):Int):=by rw[Bx _ Ω];omega
  obtain⟨B,o⟩:=Af (281474976710656 - f);have r:Bk (b<0)=A7:=jH d;have v:Bk (b>(B:Int))=Bd:=jG Ω;rw[o]at t;clear k d q l o
  go_enter CB,BX
  go_wp2_with fail;refine m.o.mono ?_;rintro e s ⟨rfl,rfl⟩;go_wp2_with fail;go_ret;exact⟨rfl,rfl⟩
theorem U6{A:AI}{N:Az}(b:Ca h E f A a c g n N)(j:c<=1073600000):
  A3 V 53 #[Ak f] h λe k=>e=Y (J O 0)/\∃d i,Ad Eh h E k d/\Ca k d f A a (c+43000) g n i/\Bj N i:=by
 have q:=zh (Fg b.b);have l:=zh (Mn b.p j f g n b.t b.b b.hc);have H:=zh b;clear b j
 go_enter Tryz.func53,Tryz.ntmps53
 go_wp2_with fail;refine q.o.mono ?_;rintro e u ⟨rfl,rfl⟩;go_wp2_with fail;refine l.o.mono ?_;rintro e m ⟨rfl,d,i,s,p,o,r⟩;have t:=zh (show∃d i,Ad Eh h E m d/\Ca m d f A a (c+43000) g n i/\Bj N i from⟨d,i,s.mono IN,H.o.next s p,o⟩);clear s p o r l;go_wp2_with fail;go_ret;exact⟨rfl,t.o⟩
theorem UT{n o r s t u v w:BB}(x:Aa h f p [q,n,o,r,s,t,u,v,w])(b c d e g i j l m:BB):∃a,(((((((((h.setCell ⟨f,0,Z⟩ b).setCell ⟨f,1,Z⟩ c).setCell ⟨f,2,Z⟩ d).setCell ⟨f,3,Z⟩ e).setCell ⟨f,4,Z⟩ g).setCell ⟨f,5,Z⟩ i).setCell ⟨f,6,Z⟩ j).setCell ⟨f,7,Z⟩ l).setCell ⟨f,8,Z⟩ m)=a/\Aa a f p [b,c,d,e,g,i,j,l,m]/\Ac (λk=>k=f) h a:=
 ⟨_,rfl,(((((((((x.setCell 0 _).setCell 1 _).setCell 2 _).setCell 3 _).setCell 4 _).setCell 5 _).setCell 6 _).setCell 7 _).setCell 8 _),(((((((((Ay _ _ _ _).trans (Ay _ _ _ _)).trans (Ay _ _ _ _)).trans (Ay _ _ _ _)).trans (Ay _ _ _ _)).trans (Ay _ _ _ _)).trans (Ay _ _ _ _)).trans (Ay _ _ _ _)).trans (Ay _ _ _ _))⟩
theorem VT(c s X g l t r u v x y z A:Nat)(w:AA)
  (K:∀W,w.grownBy W Z->A3 V 44 #[Ak c] W λe d=>e=Y (J O 0)/\W=d)
  (L:w.cell? ⟨c,17,Z⟩=A5 (Ak s))(M:w.cell? ⟨c,18,Z⟩=A5 (Ak X))(N:w.cell? ⟨c,19,Z⟩=A5 (Ak g))(P:w.cell? ⟨c,20,Z⟩=A5 (Ak l))(Q:w.cell? ⟨c,22,Z⟩=A5 (J O t))(R:w.cell? ⟨c,23,Z⟩=A5 (J O r))
  (S:∀W,w.grownBy W Z->A3 V 45 #[Ak s] W λe d=>e=Y (J O u)/\W=d)
  (T:∀W,w.grownBy W Z->A3 V 46 #[Ak X] W λe d=>e=Y (J O v)/\W=d)
  (U:∀W,w.grownBy W Z->A3 V 47 #[Ak g] W λe d=>e=Y (J O x)/\W.grownBy d Z)
  (hO:∀W,w.grownBy W Z->A3 V 48 #[Ak g] W λe d=>e=Y (J O y)/\W.grownBy d Z)
  (hL:∀W,w.grownBy W Z->A3 V 49 #[Ak l] W λe d=>e=Y (J O z)/\W.grownBy d Z)
  (hH:∀W,w.grownBy W Z->A3 V 50 #[Ak s] W λe d=>(∃k:Nat,e=Y (J O (k:Nat)))/\W=d)
  (hS:∀W,w.grownBy W Z->A3 V 51 #[Ak X] W λe d=>e=Y (J O A)/\W=d):
  A3 V 10 #[Ak c] w λe d=>(∃k:Nat,e=Y (CK #[J O t,J O u,J O v,J O x,J O y,J O z,J O (k:Nat),J O r,J O A]))/\w.grownBy d Z:=by
 have HR:=zh K;have an:=zh S;have ao:=zh T;have ap:=zh U;have aq:=zh hO;have ar:=zh hL;have au:=zh hH;have av:=zh hS;have m:=zh (Ax L (Ax M (Ax N (Ax P (Ax Q R)))));obtain⟨B,aw,g1,p1⟩:=An w 43 [J O 0,J O 0,J O 0,J O 0,J O 0,J O 0,J O 0,J O 0,J O 0];have B1:=zh p1;have h:=zh g1;clear K L M N P Q R S T U hO hL hH hS g1 p1
 go_enter Tryz.func10,Tryz.ntmps10
 go_wp2_with fail;clear aw;refine(HR.o B h.o).mono ?_;rintro e w2 ⟨rfl,rfl⟩;go_wp2_with fail;refine Dc (λW=>B.grownBy W Z) [([0,1,2,3,4,5,6,7,9,10,11,12,14,15,16,17,19,20,21,22,24,25,26,27,29,30,31,32,34,35,36,37,38,39,40,41],8,Bd),([],13,Bd),([],18,Bd),([],23,Bd),([],28,Bd),([],33,Bd),([],42,Bd),([43],44,A7)] Φ Φ ?_;obtain⟨w2,ag,g2⟩:=AP B;rw[ag];have C:=zh g2;clear ag g2;refine Cc C.o ?_
 repeat(apply AC rfl Θ;(· intro wS o;(try have o:=o rfl);(try dsimp only at o);(try have n:=Ab h.o o);(try have ks:=n.cell m.o.1 Δ);(try have kx:=n.cell m.o.2.1 Δ);(try have kg:=n.cell m.o.2.2.1 Δ);(try have kl:=n.cell m.o.2.2.2.1 Δ);(try have kt:=n.cell m.o.2.2.2.2.1 Δ);(try have ko:=n.cell m.o.2.2.2.2.2 Δ);go_simp;(try with_reducible rfl));refine Al ?_)
 refine Aj ?_;refine AE rfl (λf a=>?_);go_simp;refine(an.o _ (Ab h.o C.o)).mono ?_;rintro e w3 ⟨rfl,rfl⟩;dsimp only;have D:=C;refine a _ _ ⟨λ_=>D.o,?_⟩;clear a f;refine Bt ?_;refine AE rfl (λf a=>?_);go_simp;refine(ao.o _ (Ab h.o D.o)).mono ?_;rintro e w4 ⟨rfl,rfl⟩;dsimp only;have E:=D;refine a _ _ ⟨λ_=>E.o,?_⟩;clear a f;refine Bt ?_;refine AE rfl (λf a=>?_);go_simp;refine(ap.o _ (Ab h.o E.o)).mono ?_;rintro e w5 ⟨rfl,i⟩;dsimp only;have F:=zh (Ab E.o i);refine a _ _ ⟨λ_=>F.o,?_⟩;clear a f i;refine Bt ?_;refine AE rfl (λf a=>?_);go_simp;refine(aq.o _ (Ab h.o F.o)).mono ?_;rintro e w6 ⟨rfl,i⟩;dsimp only;have G:=zh (Ab F.o i);refine a _ _ ⟨λ_=>G.o,?_⟩;clear a f i;refine Bt ?_;refine AE rfl (λf a=>?_);go_simp;refine(ar.o _ (Ab h.o G.o)).mono ?_;rintro e w7 ⟨rfl,i⟩;dsimp only;have H:=zh (Ab G.o i);refine a _ _ ⟨λ_=>H.o,?_⟩;clear a f i;refine Bt ?_;refine AE rfl (λf a=>?_);go_simp;refine(au.o _ (Ab h.o H.o)).mono ?_;rintro e w8 ⟨⟨k,rfl⟩,rfl⟩;dsimp only;have I:=H;refine a _ _ ⟨λ_=>I.o,?_⟩;clear a f;refine Bt ?_;refine AE rfl (λf a=>?_);go_simp;refine(av.o _ (Ab h.o I.o)).mono ?_;rintro e w9 ⟨rfl,rfl⟩;dsimp only;have q:=I;refine a _ _ ⟨λ_=>q.o,?_⟩;clear a f;refine Cc q.o ?_
 repeat(apply AC rfl Θ;(· intro wS o;go_simp;(try with_reducible rfl));refine Al ?_)
 refine Aj ?_;refine AE rfl (λf a=>?_);have b:=B1.o.u q.o Δ;have x0:=b.m 0;have f0:=b.v 0;have x1:=b.m 1;have f1:=b.v 1;have x2:=b.m 2;have f2:=b.v 2;have x3:=b.m 3;have f3:=b.v 3;have x4:=b.m 4;have f4:=b.v 4;have x5:=b.m 5;have f5:=b.v 5;have x6:=b.m 6;have f6:=b.v 6;have x7:=b.m 7;have f7:=b.v 7;have x8:=b.m 8;have f8:=b.v 8;go_simp;obtain⟨w9,ai,b4,t4⟩:=UT b (J O t) (J O u) (J O v) (J O x) (J O y) (J O z) (J O k) (J O r) (J O A);rw[ai];refine a _ _ ⟨λhf=>(by cases hf),?_⟩;refine De (Bs ?_);clear a f ai;have al:=zh (Ax b4 (Ac.u (Ab h.o q.o) t4 (λj e=>by rw[e];exact jF _)));clear b4 t4 b x0 x1 x2 x3 x4 x5 x6 x7 x8 f0 f1 f2 f3 f4 f5 f6 f7 f8;go_wp2_with fail;exact A6 (BZ (p:=2) (ty:=43) rfl _ _ w.heap.size _ _ _ _ rfl al.o.1 Tryz.underlying43 rfl Φ) rfl ⟨⟨k,rfl⟩,al.o.2⟩
theorem Rf{A:AI}{N:Az}(b:Ca h E f A a n c g N)(v:n<=1073600000):
  A3 V 10 #[Ak f] h λe l=>(∃o p q r i s:Nat,e=Y (CK #[J O c,J O (o:Nat),J O (p:Nat),J O (N.aw*a.aA+(N.aR N.aw).length:Nat),J O (q:Nat),J O (r:Nat),J O (i:Nat),J O g,J O (s:Nat)]))/\h.grownBy l Z:=by
 obtain⟨w,x,t,y⟩:=b.p.l;obtain⟨z,B,m,u⟩:=b.p.r;have k:=b.p.n;have C:=k.la;have D:=k.f3
 refine(VT f A.s A.X A.g A.l c g N.bY N.eN (N.aw*a.aA+(N.aR N.aw).length) (CM a N.aw) (Cy a N.fr N.nx) N.dC h
  (λW d=>Fg (b.u d).b) b.b.fp.hs b.b.fp.hx b.b.fp.hg b.b.fp.hl b.b.fp.ht (Aa.ap (j:=23) b.b rfl)
  (λW d=>Tn (b.u d).p.sd.bM) (λW d=>Rl (b.u d).p.x.s.x (b.u d).p.x.s.d.i) (λW d=>Yq (m.u d) b.p.a2 Ω (u.dg _)) (λW d=>NV (m.u d) b.p.a2 Ω) (λW d=>KH (t.u d) b.p.a2 k.f2 Ω) (λW d=>ZW (b.u d).p.sd.bM) (λW d=>Wy (b.u d).p.x.s.x)).mono ?_
 rintro e l ⟨⟨i,rfl⟩,d⟩;exact⟨⟨_,_,_,_,i,_,rfl⟩,d⟩
end
section
open Go Go.RowKit
theorem ZY(x:Ah)(h:0<=x.r/\x.r<=1099511627776/\0<=x.a/\x.a<=65535/\0<=x.s/\x.s<=65535):Cm 0 0 1 [x]=Bd:=by
 refine Fx.2 ⟨(rfl:FK 0 0 1 1=Bd),λy a=>?_,List.pairwise_singleton _ _⟩;rw[j8]at a;subst a;unfold Do;rw[jG h,nk];exact jG rfl
def IM(P:Pl)(N:Az)(h:BitVec 64)(n:Nat):Ah:=⟨h,(BW P N.aw N.aR n:Nat),((Ef P N.aw N.aR n (BW P N.aw N.aR n)).length:Nat),(n:Nat)⟩
def Az.bK(N:Az)(P:Pl)(b:List Nat)(ct:Int->List Nat):Az:={N with aw:=BW P N.aw N.aR b.length,aR:=Cv (Ef P N.aw N.aR b.length) (BW P N.aw N.aR b.length) b,ct:=ct}
theorem Nb(P:Pl)(a:Nat)(b:BO)(n:Nat):a<=BW P a b n/\BW P a b n<=a+1:=by unfold BW;split<;>omega
section
variable {w:World} {col:Ae} {A:AI} {P:Pl} {q:Nat} {N:Az}
theorem Zs(h:AM w col A P q N)(y:q<=1073700000)(c:Option C7)(a:Nat)(b:List Nat)(i:0<b.length)(l:b.length<=P.aA)(m:∀x∈b,x<256)(n:b.length<=a)(o:Ag w 1 (A4 c b.length a) b.length (Ar b))(p:∀k,(A4 c b.length a).ownBlock=A5 k->col k=0):
  A3 V 127 #[Ak A.g,A4 c b.length a] w λe f=>e=Y (BL #[CK #[J O (BW P N.aw N.aR b.length:Nat),J O ((Ef P N.aw N.aR b.length (BW P N.aw N.aR b.length)).length:Nat),J O b.length],J O 0])/\
   ∃d g,Ad Bi w col f d/\AM f d A P (q+40) (N.bK P b g):=by
 have z:=h.n.la;have B:=(Nb P N.aw N.aR b.length).2;refine(Wd h.r h.sd.bH h.cl h.a2 Ω Ω c a b i l m n o (λk r=>by rw[p k r];unfold Bp;omega)).mono ?_;rintro e f ⟨rfl,d,g,s,t,u,v⟩;refine⟨rfl,d,g,s.mono (λj e=>by unfold Bp at e;exact BR Ω),⟨h.fo s (λj e=>by unfold Bp;omega) t v.ew (nR _ _),u,h.l.ag s (by unfold Bp;omega),h.t.ag s (by unfold Bp;omega),⟨h.n.g1,by have:=h.n.g2;show N.bY<=_;omega,by have:=h.n.sp;show N.dC<=_;omega,h.n.f1,h.n.f2,by have:=h.n.f3;show N.nx<=_;omega,by show BW P N.aw N.aR b.length<=_;omega⟩⟩⟩
theorem Ys(c:AM w col A P q N)(j:q<=1073700000)(x:BitVec 64){a:List Nat}(l:a.length<=P.aA)(k:AM h E A P f (N.bK P a b)):Cm 0 0 1 [IM P N x a.length]=Bd:=by
 have m:=c.n.la;have n:=(Nb P N.aw N.aR a.length).2;obtain⟨o,p,r,d⟩:=k.r;have e:=d.dg (BW P N.aw N.aR a.length);have s:=c.a2.n1;have t:P.aA<=32*493:=ln c.a2.cQ Ω;have g:(Cv (Ef P N.aw N.aR a.length) (BW P N.aw N.aR a.length) a) (BW P N.aw N.aR a.length)=_:=Dp _ _ _;have i:((Cv (Ef P N.aw N.aR a.length) (BW P N.aw N.aR a.length) a) (BW P N.aw N.aR a.length)).length<=P.aA:=e;rw[g,jI]at i
 refine ZY _ ⟨?_,?_,?_,?_,?_,?_⟩<;>simp only[IM]<;>omega
structure UU(N a:Az)(x:Ah)(o:Int)(b:Bool):Prop where
 la:a.aw=N.aw
 bo:a.aR=N.aR
 fr:a.fr=N.fr
 nx:a.nx=N.nx
 gx:Jk N.F a.F x
 lx:b=A7->GT N.F a.F o x
theorem fq(h:AM w col A P q N)(k:q<=1073600000)(x:Ah)(m:Cm 0 0 1 [x]=Bd)(o:Int):
  A3 V 128 #[Ak A.X,x.val,J O o] w λe c=>∃a,e=Y (BL #[C2 a,J O 0])/\∃b f,Ad Bi w col c b/\AM c b A P (q+70000) f/\UU N f x o a:=by
 have D:=h.n.sp;refine(dF h.x k Ω x m o).mono ?_;rintro e c ⟨a,rfl,b,n,p,r,t,u,v,i,y,s,z,C,E,g,l⟩
 have d:∀j,j=4\/j=5\/j=9->¬DO 200 j:=λj F e=>by rcases e with e|e<;>omega
 exact⟨a,rfl,b,{N with eN:=n,d3:=p,pg:=r,ct:=t,T:=u,L:=v,dC:=i,B:=y},s.mono (Sc.mono (λj e=>Ω) (jF _)),⟨z,(h.r.ag s (d _ Ω)).dk h.a2 C.ei,h.l.ag s (d _ Ω),h.t.ag s (d _ Ω),⟨h.n.g1,by have:=h.n.g2;show N.bY<=_;omega,by show i<=_;omega,h.n.f1,h.n.f2,by have:=h.n.f3;show N.nx<=_;omega,by have:=h.n.la;show N.aw<=_;omega⟩⟩,⟨rfl,rfl,rfl,rfl,g,l⟩⟩
end
end
