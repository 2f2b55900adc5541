/- Lemmas. -/
import Derived.Test.YtcedibmdelehdaaGreatDoorH43
namespace Go.Proofs.YtcedibmdelehdaaGreatDoor
set_option maxRecDepth 100000
set_option maxHeartbeats 32000000
open Go.Value renaming int->J,slice->V,bool->Bk,tuple->BD,pointer->BE,string->BR,agg->CR
open Go.IntKind renaming i64->O,u64->BB
open And renaming intro->Y
open Go.NoPanic renaming normal->Z
open Bool renaming false->Ax,true->BA
open Option renaming none->AA,some->Bn
open Go renaming World->A2,bodyPost_ret->Bd,Calls->Bx,Value->BC,Addr->B0,results_tmp3->CE,Ending->C0
open Go.Ending renaming returned->A3
open Go.Proofs.Tryz renaming prog->A4,underlying130->CA,ntmps6->CV,func6->CX
open Decidable renaming decide->Bs
open Go.IntWalk renaming wrap64_in->BL
open Or renaming inl->CB,inr->CL
variable{h s t:A2}{E e f i k q x A B:Nat}{a w y:Ad}{b:Pl}{c:Int->List Nat}{d z:List Nat}{g o p:BC}{j:BitVec 64}{l:TypeId}{n:List BC}{r:AC}
section
open Go Go.RowKit
attribute [local go_sem ↓] Go.wp_at_zero Go.wp_at_succ
theorem KM:¬Bi 210:=by rintro(h|h)<;>omega
structure Lc(P:Pl)(N a:AC)(h:BitVec 64)(b:List Nat)(d e:Nat):Prop where
 la:a.aw=BJ P N.aw N.aO b.length
 bo:a.aO=Ck (DQ P N.aw N.aO b.length) (BJ P N.aw N.aO b.length) b
 fr:a.fr=N.fr
 nx:a.nx=N.nx
 go:∃c:Bool,e=d+(if c then 1 else 0)/\I9 N.F a.F (Iv P N h b.length)/\(c=Ax->GI N.F a.F (Cv P a.aw) (Iv P N h b.length))
abbrev Nq(P:Pl)(N:AC)(h:BitVec 64)(n:Nat):Bt:=⟨Ax,h,BJ P N.aw N.aO n,(DQ P N.aw N.aO n (BJ P N.aw N.aO n)).length,n⟩
structure Hq(w:A2)(g:Ad)(c:Nat)(A:AO)(P:Pl)(q t h:Nat)(N:AC)(e:Nat)(r a n:Nat)(f:Nat)(i:Option B0)(j:Nat)(d:List Nat)(b:Ad)(W:A2):Prop where
 ca:Ca W b c A P q t h N
 st:Ab (CS 211) w g W b
 x6:Aa W e 130 [Bk Ax,J BB 0,J O 0,J O 0,J O 0]
 x8:Aa W f 128 [J O r,J O a,J O n]
 ky:Ai W 1 (V i d.length j) d.length (Ao d)
 c6:b e=210
 c8:b f=0
theorem Hq.grown{A:AO}{N:AC}{n:Nat}{j:Option B0}{l:Nat}(c:Hq h a E A b e f i N k q x n B j l d w s)(g:s.grownBy t AA):Hq h a E A b e f i N k q x n B j l d w t:=
 ⟨c.ca.grown g,c.st.trans (Ab.grown c.ca.p.cl g),c.x6.grown g Δ,c.x8.grown g Δ,c.ky.grown g Δ,c.c6,c.c8⟩
def Mp(w:A2)(i:Ad)(c:Nat)(A:AO)(P:Pl)(q t d:Nat)(N:AC)(h:BitVec 64)(b:List Nat)(e:A2):Prop:=
 ∃f g a,Ab (CS 211) w i e f/\Ca e f c A P (q+70100) t a g/\Lc P N g h b d a/\a<=d+1
theorem Hq.gi{A:AO}{N l:AC}{lo':Nat}{m:Bool}(o:Ab (CS 211) s w t y)(p:Ab (CS 211) t y h a)(k:Ca h a E A b (e+40+70000) f lo' l)(q:N.cG b d c=r)(g:UE r l (Iv b N j d.length) (Cv b r.aw) m)(n:lo'=i+(if m then 1 else 0)):Mp s w E A b e f i N j d h:=by
 subst q;refine⟨a,l,lo',o.trans p,⟨k.p.mono Ω,k.b,k.c,k.t⟩,⟨g.la,g.bo,g.fr,g.nx,m,n,g.gx,λu=>?_⟩,by rw[n];split<;>omega⟩;rw[g.la];exact g.lx u
theorem Xf{A:AO}{N:AC}(z:Ca h a i A b e f E N)(hq:e<=1073500000)(br:E<=1000000000)(v:List Nat)(G:Option B0)(I:Nat)(bs:∀x∈v,x<256)(bt:Ai h 1 (V G v.length I) v.length (Ao v))(aS:∀k,(V G v.length I).ownBlock=Bn k->a k=0/\k<h.heap.size)
  (q:List Nat)(ba:Option B0)(bc:Nat)(bu:0<q.length)(aT:q.length<=b.aI)(bv:∀x∈q,x<256)(bw:q.length<=bc)(bx:Ai h 1 (V ba q.length bc) q.length (Ao q))(am:∀k,(V ba q.length bc).ownBlock=Bn k->a k=0/\k<h.heap.size)
  (r s n kn:Nat)(hr:BJ b N.aw N.aO q.length=r)(ha:(DQ b N.aw N.aO q.length (BJ b N.aw N.aO q.length)).length=s)(hn:q.length=n)(bA:v.length=kn)(u:BitVec 64)(bB:CM b.aQ v=u):
  Bx A4 73 #[Am i,V G kn I,V ba n bc] h λc w'=>
   c=A3 (BD #[CR #[Bk Ax,J BB (U u),J O r,J O s,J O n],J O 0])/\Mp h a i A b e f E N u q w':=by
 obtain⟨w1,aW,g1,b1⟩:=Aq h 130 [Bk Ax,J BB 0,J O 0,J O 0,J O 0];obtain⟨aK,aL⟩:=Ag (AL a h.heap.size 210)
 have s1:Ab (λj=>j=210) h a w1 aK:=by rw[<-aL];exact Cc z.p.cl g1 (jS _) b1.lt rfl
 have h1:=z.ae s1 (λj c=>Ω)
 have aZ:∀k,k<h.heap.size->aK k=a k:=λk L=>by rw[<-aL];exact Bg _ _ Ω
 have H:=zh h1;have S1:=zh (s1.mono (λj c=>show CS 211 j from CL Ω));have HQ:=zh hq;have cd:=zh br;have HK:=zh (Y bs (Y (bt.grown g1 Δ) (λk L=>show aK k=0 by rw[aZ k (aS k L).2];exact(aS k L).1)));have B1:=zh b1;have G1:=zh g1;have HZ:Hd (aK h.heap.size=210):=zh (by rw[<-aL];exact AY _ _ _);have a1:=Zh h1.p Ω ba bc q bu aT bv bw (bx.grown g1 Δ) (λk L=>by rw[aZ k (am k L).2];exact(am k L).1);have ce:=Aa.aq (j:=19) h1.b rfl
 have bE:Iv b N u q.length=⟨u,(r:Nat),(s:Nat),(n:Nat)⟩:=by unfold Iv;rw[hr]at ha⊢;rw[ha,hn]
 have ER:=zh (λ(w':A2) (c':Ad) (cg:Int->List Nat) (k:AM w' c' A b (e+40) (N.cG b q cg))=>Yi h1.p Ω u aT k);have bG:=zh bE;rw[ha,hr,hn]at a1;have bH:=zh a1;have bI:=zh bB;have bJ:=zh bA;clear hr ha hn a1 bE z hq br bs bt aS bu aT bv bw bx am g1 b1 bB bA aL s1 h1 aZ
 go_enter Tryz.func73,Tryz.ntmps73
 go_wp2_with fail;clear aW;refine bH.o.mono ?_;rintro c w2 ⟨rfl,X,bK,s2,p2⟩;clear bH ce;obtain⟨N2,a2⟩:=Ag (N.cG b q bK);have er:=ER.o w2 X bK p2;rw[a2]at p2;rw[bG.o]at er;have bL:=zh a2;have ch:=zh er;obtain⟨w3,ci,g3,M⟩:=Aq w2 128 [J O 0,J O 0,J O 0];obtain⟨w4,cj,b4,t4⟩:=Br M (J O r) (J O s) (J O n);have f0:=M.v 0;have f1:=M.v 1;have f2:=M.v 2;have v0:=M.m 0;have v1:=M.m 1;have v2:=M.m 2;have g4:=Ac.grown g3 t4 (λj c=>by rw[c];exact jS _);have aP:=H.o.next s2 p2;have T4:Hd (Hq h a i A b (e+40) f E N2 h.heap.size r s n w2.heap.size G I v X w4):=zh ⟨aP.grown g4,(S1.o.trans (s2.mono (Io Ω))).trans (Ab.grown aP.p.cl g4),(s2.u B1.o (by rw[HZ.o];exact KM)).grown g4 Δ,b4,(s2.aP HK.o.2.1 (λk L=>by rw[HK.o.2.2 k L];exact EH)).grown g4 Δ,by rw[s2.ah _ B1.o.lt];exact HZ.o,aP.p.cl _ (jS _)⟩;clear er a2 g3 M b4 t4 g4 aP s2 p2 ER B1
 go_upto_region 4 with fail
 clear ci cj f0 f1 f2 v0 v1 v2;generalize w2.heap.size=b8 at*
 go_cut [10] (λck wx=>∃w,ck=BE (Bn ⟨w,0,AA⟩)/\Hq h a i A b (e+40) f E N2 h.heap.size r s n b8 G I v X wx/\Aa wx w 130 [Bk Ax,J BB (U u),J O r,J O s,J O n]/\X w=0)
 case first=>
  refine A7 (λW=>Aa W b8 128 [J O r,J O s,J O n]) (.bP [0,1,3] 2 BA (.an [4] [] 5 BA (.an [] [] 6 Ax (.nil))) 5 BA (.an [] [] 2 BA (.an [] [4] 6 Ax (.nil)))) Φ Φ ?_;obtain⟨w5,az,g5⟩:=AZ w4;rw[az];have T5:=zh (T4.o.grown g5);clear az g5;refine Ej T5.o.x8 ?_
  iterate 3 ((apply AB rfl Θ;(· intro wS m;(try have m:=m rfl);(try dsimp only at m);(try(have x0:=m.m 0;have x1:=m.m 1;have x2:=m.m 2));go_simp;(try with_reducible rfl)));refine Ak ?_)
  refine Aj ⟨?_,?_⟩
  ·have ah:=Mc T5.o.ca.b v G I HK.o.1 T5.o.ky;rw[bI.o,bJ.o]at ah;refine Al ?_;intro K d;refine ah.mono ?_;rintro c w6 ⟨rfl,D⟩;have o:=zh (T5.o.grown D);clear ah D;dsimp only;refine d _ _ ⟨_,λ_ z=>z,λ_=>o.o.x8,?_⟩;clear d K;refine Ak ?_;refine DK o.o.x8 ?_
   iterate 1 ((apply AB rfl Θ;(· intro wS m;(try have m:=m rfl);(try dsimp only at m);go_simp;(try with_reducible rfl)));refine Ak ?_)
   refine Aj ?_;refine Aj ?_;refine Al ?_;intro K d;obtain⟨w7,bS,P,l⟩:=Aq w6 130 [Bk Ax,J BB 0,J O 0,J O 0,J O 0];rw[bS];have T7:=zh (o.o.grown P);refine d _ _ ⟨_,λ_ z=>z,λ_=>T7.o.x8,?_⟩;clear d K;refine Ak ?_;refine Ar ?_;refine Aj ?_;obtain⟨Q,ar,ai,R⟩:=FI l (Bk Ax) (J BB (U u)) (J O r) (J O s) (J O n);have f0:=l.v 0;have f1:=l.v 1;have f2:=l.v 2;have f3:=l.v 3;have f4:=l.v 4;have v0:=l.m 0;have v1:=l.m 1;have v2:=l.m 2;have v3:=l.m 3;have v4:=l.m 4;have g8:=Ac.grown P R (λj c=>by rw[c];exact jS _);have aj:=zh (show∃w,BE (Bn ⟨w6.heap.size,0,AA⟩)=BE (Bn ⟨w,0,AA⟩)/\Hq h a i A b (e+40) f E N2 h.heap.size r s n b8 G I v X Q/\Aa Q w 130 [Bk Ax,J BB (U u),J O r,J O s,J O n]/\X w=0 from⟨_,rfl,o.o.grown g8,ai,o.o.ca.p.cl _ (jS _)⟩);refine Al ?_;intro K d;clear f0 f1 f2 f3 f4 v0 v1 v2 v3 v4 ar ai R g8 bS P l;refine As d ?_;clear d K;refine AK (Z ?_);go_wp2_with fail
   go_meet
   exact aj.o
  ·refine Al ?_;intro K d;obtain⟨w6,bU,D,b6⟩:=Aq w5 130 [Bk Ax,J BB 0,J O 0,J O 0,J O 0];rw[bU];have o:=zh (T5.o.grown D);have C6:Hd (X w5.heap.size=0):=zh (T5.o.ca.p.cl _ (jS _));have B6:=zh b6;have G6:=zh D;clear bU D b6;refine d _ _ ⟨_,λ_ z=>z,λ_=>o.o.x8,?_⟩;clear d K;refine Ak ?_;refine Ar ?_;refine Aj ?_;have ah:=Mc o.o.ca.b v G I HK.o.1 o.o.ky;rw[bI.o,bJ.o]at ah;refine Al ?_;intro K d;refine ah.mono ?_;rintro c w7 ⟨rfl,P⟩;have T7:=zh (o.o.grown P);have l:=B6.o.grown P Δ;have G7:=zh (Ae G6.o P);clear ah P;dsimp only;refine d _ _ ⟨_,λ_ z=>z,λ_=>T7.o.x8,?_⟩;clear d K;refine Ak ?_;refine Ar ?_;have x0:=T7.o.x8.m 0;have x1:=T7.o.x8.m 1;have x2:=T7.o.x8.m 2;refine Az ?_;refine Aj ?_;clear x0 x1 x2;obtain⟨Q,ar,ai,R⟩:=FI l (Bk Ax) (J BB (U u)) (J O r) (J O s) (J O n);have f0:=l.v 0;have f1:=l.v 1;have f2:=l.v 2;have f3:=l.v 3;have f4:=l.v 4;have v0:=l.m 0;have v1:=l.m 1;have v2:=l.m 2;have v3:=l.m 3;have v4:=l.m 4;refine Al ?_;intro K d;clear f0 f1 f2 f3 f4 v0 v1 v2 v3 v4 ar;refine As d ?_;clear d K;refine AK (Z ?_);go_wp2_with fail
   go_meet
   exact⟨_,rfl,T5.o.grown (Ac.grown G7.o R (λj c=>by rw[c];exact jS _)),ai,C6.o⟩
 case rest=>
  obtain⟨w,rfl,hT,hb,am⟩:=hcut;have T:=zh hT;have B:=zh hb;have bY:=zh am;clear hT hb am T4;go_wp2_with fail;refine Dg (λW=>wc.grownBy W AA) [([0,1,2,3,4,5,6,7,8,9,10,11],12,BA),([],13,Ax),([14,15,16,17],18,Ax)] Φ Φ ?_;obtain⟨w5,az,g5⟩:=AZ wc;rw[az];have G5:=zh g5;clear az g5;refine BU G5.o ?_
  repeat(apply AB rfl Θ;(· intro wS m;(try have m:=m rfl);(try dsimp only at m);(try have kW:=(T.o.ca.grown m).b);(try have kx:=Aa.aq (j:=18) kW rfl);(try have kg:=Aa.aq (j:=19) kW rfl);(try have k8:=T.o.x8.grown m Δ);(try have x0:=k8.m 0);(try have x1:=k8.m 1);(try have x2:=k8.m 2);(try have kb:=(B.o.grown m Δ).m 1);go_simp;(try with_reducible rfl));refine Ak ?_)
  refine Aj ?_
  have be:∀W,wc.grownBy W AA->Bx A4 48 #[Am A.g] W λc w'=>c=A3 (J O (Cv b N2.aw:Nat))/\W.grownBy w' AA:=λW g=>by
   obtain⟨rv,rp,r1,r2⟩:=(T.o.ca.grown g).p.r;exact NM r1 T.o.ca.p.a1 (by have:=T.o.ca.p.n.la;have:=HQ.o;omega)
  have bf:=zh (λ(W:A2) (g:wc.grownBy W AA)=>fo (T.o.ca.grown g).p (Ψ HQ.o) ⟨u,(r:Nat),(s:Nat),(n:Nat)⟩ ch.o (Cv b N2.aw:Nat));obtain⟨ol,bg⟩:=Ag (Cv b N2.aw);rw[bg]at be bf;have cp:=zh bg;refine AH rfl (λK' d=>?_);go_simp;refine(be _ G5.o).mono ?_;rintro c w6 ⟨rfl,D⟩;have G6:=zh (Ae G5.o D);clear be D bg;dsimp only;refine d _ _ ⟨λ_=>G6.o,?_⟩;clear d K';refine BG ?_;refine AH rfl (λK' d=>?_);go_simp;refine(bf.o _ G6.o).mono ?_;rintro c w7 ⟨cq,rfl,C,N7,s7,p7,px⟩;dsimp only;have o:=T.o.grown G6.o;have b2:=o.ca.next s7 p7;have S:=zh (show Aa w7 w 130 _/\C w=0 from⟨s7.u (B.o.grown G6.o Δ) (by rw[bY.o];exact EH),by rw[s7.ah _ (B.o.grown G6.o Δ).lt];exact bY.o⟩);have t:=zh (show Aa w7 h.heap.size 130 _/\C h.heap.size=210 from⟨s7.u o.x6 (by rw[o.c6];exact KM),by rw[s7.ah _ o.x6.lt];exact o.c6⟩);have b3:=zh (o.st.trans (s7.mono (Io Ω)));have F:=zh b2;rw[<-bG.o, <-cp.o]at px;have PX:=zh px;clear s7 p7 px o b2 bf;refine d _ _ ⟨λhf=>(by cases hf),?_⟩;clear d K';refine LM Θ ?_
  repeat(apply AB rfl Θ;(· intro wS m;go_simp;(try with_reducible rfl));refine Ak ?_)
  refine Aj ?_;refine AH rfl (λK' d=>?_);go_simp;refine d _ _ ⟨λhf=>(by cases hf),?_⟩;refine Di (Z ?_);clear d K'
  cases cq
  ·have z0:=S.o.1.m 0;have z1:=S.o.1.m 1;have z2:=S.o.1.m 2;have z3:=S.o.1.m 3;have z4:=S.o.1.m 4;have f0:=t.o.1.v 0;have v0:=t.o.1.m 0;have f1:=t.o.1.v 1;have v1:=t.o.1.m 1;have f2:=t.o.1.v 2;have v2:=t.o.1.m 2;have f3:=t.o.1.v 3;have v3:=t.o.1.m 3;have f4:=t.o.1.v 4;have v4:=t.o.1.m 4;go_wp2_with fail;obtain⟨w9,bk,b9,t9⟩:=FI t.o.1 (Bk Ax) (J BB (U u)) (J O r) (J O s) (J O n);rw[bk];have s9:Ab (λj=>j=210) w7 C w9 C:=AG F.o.p.cl t9 (λj c=>by rw[c];exact t.o.2);have aj:=zh (Y b9 (Hq.gi (lo':=E) b3.o (s9.mono (λj c=>CL Ω)) (F.o.ae s9 (λj c=>Ω)) bL.o PX.o rfl));exact Bd (DH (p:=6) (t:=7) (ty:=130) rfl _ _ h.heap.size _ _ _ _ rfl aj.o.1 CA rfl Φ) rfl ⟨rfl,aj.o.2⟩
  ·have cw:=Aa.aq (j:=23) F.o.b rfl;have cx:=Aa.v F.o.b 23
   have b7:wrap64 ((E:Int)+1)=((E+1:Nat):Int):=by rw[BL _ (Ψ cd.o)];omega
   obtain⟨l1,bn⟩:=Ag (E+1)
   have aW:wrap64 ((E:Int)+1)=(l1:Int):=by rw[<-bn];exact b7
   have cy:Hd (l1=E+1):=zh bn.symm;clear b7 bn
   go_upto_region 8 with fail
   obtain⟨Q,ar,ai,R⟩:=F.o.b.iR l1;rw[ar];have bo:=F.o.bT ai R F.o.t;have s8:Ab (λj=>j=8) w7 C Q C:=AG F.o.p.cl R (λj c=>by rw[c];exact F.o.c);have X8:=zh (show Aa Q w 130 _/\C w=0 from⟨s8.u S.o.1 (by rw[S.o.2];omega),S.o.2⟩);have y:=zh (show Aa Q h.heap.size 130 _/\C h.heap.size=210 from⟨s8.u t.o.1 (by rw[t.o.2];omega),t.o.2⟩);have C8:=zh bo.2;have S8:=zh (bo.1.mono (λj c=>show CS 211 j from CB Ω));clear cw cx aW ar ai R bo s8;have z0:=X8.o.1.m 0;have z1:=X8.o.1.m 1;have z2:=X8.o.1.m 2;have z3:=X8.o.1.m 3;have z4:=X8.o.1.m 4;have f0:=y.o.1.v 0;have v0:=y.o.1.m 0;have f1:=y.o.1.v 1;have v1:=y.o.1.m 1;have f2:=y.o.1.v 2;have v2:=y.o.1.m 2;have f3:=y.o.1.v 3;have v3:=y.o.1.m 3;have f4:=y.o.1.v 4;have v4:=y.o.1.m 4;go_wp2_with fail;obtain⟨w9,bk,b9,t9⟩:=FI y.o.1 (Bk Ax) (J BB (U u)) (J O r) (J O s) (J O n);rw[bk];have s9:Ab (λj=>j=210) Q C w9 C:=AG C8.o.p.cl t9 (λj c=>by rw[c];exact y.o.2);have aj:=zh (Y b9 (Hq.gi (lo':=l1) b3.o (S8.o.trans (s9.mono (λj c=>CL Ω))) (C8.o.ae s9 (λj c=>Ω)) bL.o PX.o cy.o));exact Bd (DH (p:=6) (t:=7) (ty:=130) rfl _ _ h.heap.size _ _ _ _ rfl aj.o.1 CA rfl Φ) rfl ⟨rfl,aj.o.2⟩
theorem ZS{A:AO}{N:AC}(n:Ca h a E A b e i f N)(o:e<=1073500000)(p:f<=1000000000)(d:List Nat)(j:Option B0)(l:Nat)(q:∀x∈d,x<256)(r:Ai h 1 (V j d.length l) d.length (Ao d))(s:∀k,(V j d.length l).ownBlock=Bn k->a k=0/\k<h.heap.size)
  (c:List Nat)(m:Option B0)(g:Nat)(t:0<c.length)(u:c.length<=b.aI)(v:∀x∈c,x<256)(w:c.length<=g)(y:Ai h 1 (V m c.length g) c.length (Ao c))(z:∀k,(V m c.length g).ownBlock=Bn k->a k=0/\k<h.heap.size):
  Bx A4 73 #[Am E,V j d.length l,V m c.length g] h λB C=>
   B=A3 (BD #[(Nq b N (CM b.aQ d) c.length).val,J O 0])/\Mp h a E A b e i f N (CM b.aQ d) c C:=
 Xf n o p d j l q r s c m g t u v w y z _ _ _ _ rfl rfl rfl rfl _ rfl
end
section
open Go Go.RowKit
attribute [local go_sem ↓] Go.wp_at_zero Go.wp_at_succ
section
variable {w:World} {col:Ad} {A:AO} {P:Pl} {q:Nat} {N:AC}
theorem AM.iw{e:C0}(a:AM w col A P q N)(d:Ue w col A.l A.d P N.fr N.nx q N.ct e h):e=A3 (J O 0)/\Dr w col A P q N 1 h:=by
 obtain⟨rfl,f,b,g,i,s,m,n,k,l,c⟩:=d;exact⟨rfl,f,{N with nx:=b,ct:=g,t0:=i},s.mono (λj e=>by unfold Ho at e;exact CB Ω),⟨a.fP s (λj e=>by unfold Ho;omega) l c.eN (lC _),(a.r.ae s (by unfold Ho;omega)).c9 a.a1 c.ed,k,a.t.ae s (by unfold Ho;omega),⟨a.n.g1,by have:=a.n.g2;show N.bX<=_;omega,by have:=a.n.sp;show N.dK<=_;omega,a.n.f1,by have:=a.n.f2;show N.fr<=b;omega,by have:=a.n.f3;show b<=_;omega,by have:=a.n.la;show N.aw<=_;omega⟩⟩,⟨rfl,rfl,(Bp.refl N).bo⟩⟩
theorem Uf(h:AM w col A P q N)(j:q<=1073700000)(b:0<DO P N.fr N.nx)(x:Bt)(c:x.ok)(t:Nat)(d:t<=281474976710656):
  Bx A4 65 #[Am A.l,x.val,J O t] w λe a=>e=A3 (J O 0)/\Dr w col A P q N 1 a:=by
 obtain⟨k,l,f,g⟩:=h.l;exact(dz f g h.sd.bI h.cl h.a1 Ω h.n.f2 (Ψ h.n.f3) b x c t d).mono (λe a i=>h.iw i)
theorem fV(h:AM w col A P q N)(r:q<=1073600000)(x:BitVec 64):
  Bx A4 63 #[Am A.X,J BB (U x)] w λe c=>∃f,e=A3 (BD #[Bk f,J O 0])/\∃b a,Ab Bi w col c b/\AM c b A P (q+1300) a/\a.aw=N.aw/\a.aO=N.aO/\a.fr=N.fr/\a.nx=N.nx/\∀h,a.F h=if h=x then AA else N.F h:=by
 refine(YJ h.x Ω x).mono ?_;rintro e c ⟨rfl,b,g,i,k,l,m,n,s,o,p,hF⟩
 have d:∀j,j=4\/j=5\/j=9->¬Dz 200 j:=λj t e=>by rcases e with e|e<;>omega
 exact⟨_,rfl,b,{N with d0:=k,pg:=g,ct:=i,T:=l,L:=m,B:=n},s.mono (Sc.mono (λj e=>Ω) (jS _)),⟨o,(h.r.ae s (d _ Ω)).c9 h.a1 p.ed,h.l.ae s (d _ Ω),h.t.ae s (d _ Ω),⟨h.n.g1,by have:=h.n.g2;show N.bX<=_;omega,by have:=h.n.sp;show N.dK<=_;omega,h.n.f1,h.n.f2,by have:=h.n.f3;show N.nx<=_;omega,by have:=h.n.la;show N.aw<=_;omega⟩⟩,rfl,rfl,rfl,rfl,hF⟩
end
theorem ZX{A:AO}{N:AC}(k:AM h a A b E N)(o:E<=1073700000)(q:0<DO b N.fr N.nx)(c t I:Nat)(u:t<=281474976710656)(v:Cf h c A b t I)(x:Bt)(w:x.ok)(y z:Nat)(B:Aa h y 31 [Am c])(C:Aa h z 130 x.cells):
  Bx A4 74 #[Am y,Am z] h λe L=>e=A3 (J O 0)/\Dr h a A b E N 1 L:=by
 have H:=zh k;have l:=zh (λ(W:A2) (g:h.grownBy W AA)=>Uf (k.grown g) o q x w t u);have D:=zh v;have M:=zh B;have m:=zh C;obtain⟨dr,hh,r,ag,n⟩:=x;clear k o q u v w B C;unfold Bt.cells at m;unfold Bt.val at l;dsimp only at m l
 go_enter Tryz.func74,Tryz.ntmps74
 go_wp2_with fail;refine A7 (λ_=>True) (.an [] [0,1,2,3,4,5,6,7,8] 9 Ax (.an [] [] 10 Ax (.nil))) Φ Φ ?_;obtain⟨P,F,d⟩:=AZ h;rw[F];have Q:=(M.o.grown d Δ).m 0;have R:=Aa.aq (j:=20) (D.o.grown d) rfl;have S:=Aa.aq (j:=22) (D.o.grown d) rfl;have f:=m.o.grown d Δ;have T:=f.m 0;have U:=f.m 1;have V:=f.m 2;have X:=f.m 3;have Y:=f.m 4;have G:=zh d;clear F d f;refine Ar ?_
 iterate 9 refine Az ?_
 refine Aj ?_;clear Q R S T U V X Y;refine Al ?_;intro K i;refine(l.o P G.o).mono ?_;rintro e w2 ⟨rfl,c',N',s,p,g⟩;have ad:=zh (show Dr h a A b E N 1 w2 from⟨c',N',(Ab.grown H.o.cl G.o).trans s,p,g⟩);clear s p g;dsimp only;refine As i ?_;clear i K;refine Ar ?_;refine Aj ?_;refine Al ?_;intro K i;refine As i ?_;clear i K;refine AK (Z ?_);go_wp2_with fail;go_ret;exact⟨rfl,ad.o⟩
theorem YM{A:AO}{N:AC}(i:AM h a A b E N)(l:E<=1073700000)(m:0<DO b N.fr N.nx)(c t B:Nat)(n:t<=281474976710656)(o:Cf h c A b t B)(q:BitVec 64)(r u:Nat)(v:Aa h r 31 [Am c])(w:Aa h u 22 [J BB (U q)]):
  Bx A4 64 #[Am r,Am u] h λe C=>e=A3 (J O 0)/\Dr h a A b E N 1 C:=by
 have H:=zh i;have k:=zh (λ(W:A2) (g:h.grownBy W AA)=>Uf (i.grown g) l m ⟨BA,q,0,0,0⟩ ⟨rfl,rfl,rfl⟩ t n);have x:=zh o;have D:=zh v;have F:=zh w;clear i l m n o v w;unfold Bt.val at k;dsimp only at k
 go_enter Tryz.func64,Tryz.ntmps64
 go_wp2_with fail;refine A7 (λ_=>True) (.an [] [0,1,2,3,4,5,6,7,8,9] 10 Ax (.an [] [] 11 Ax (.nil))) Φ Φ ?_;obtain⟨G,y,d⟩:=AZ h;rw[y];have I:=(D.o.grown d Δ).m 0;have L:=Aa.aq (j:=20) (x.o.grown d) rfl;have M:=Aa.aq (j:=22) (x.o.grown d) rfl;have P:=(F.o.grown d Δ).m 0;have z:=zh d;clear y d;refine Ar ?_
 iterate 10 refine Az ?_
 refine Aj ?_;clear I L M P;refine Al ?_;intro K f;refine(k.o G z.o).mono ?_;rintro e Q ⟨rfl,R,S,s,p,g⟩;have T:=zh (show Dr h a A b E N 1 Q from⟨R,S,(Ab.grown H.o.cl z.o).trans s,p,g⟩);clear s p g;dsimp only;refine As f ?_;clear f K;refine Ar ?_;refine Aj ?_;refine Al ?_;intro K f;refine As f ?_;clear f K;refine AK (Z ?_);go_wp2_with fail;go_ret;exact⟨rfl,T.o⟩
theorem Zn{A:AO}{N:AC}(f:AM h a A b E N)(n:E<=1073600000)(c t I:Nat)(o:Cf h c A b t I)(m:BitVec 64)(q r:Nat)(u:Aa h q 31 [Am c])(v:Aa h r 22 [J BB (U m)]):
  Bx A4 62 #[Am q,Am r] h λe w=>e=A3 (J O 0)/\∃i d,Ab Bi h a w i/\AM w i A b (E+1300) d/\d.aw=N.aw/\d.aO=N.aO/\d.fr=N.fr/\d.nx=N.nx/\∀f,d.F f=if f=m then AA else N.F f:=by
 have H:=zh f;have L:=zh (λ(W:A2) (g:h.grownBy W AA)=>fV (f.grown g) n m);have M:=zh o;have P:=zh u;have Q:=zh v;clear f n o u v
 go_enter Tryz.func62,Tryz.ntmps62
 go_wp2_with fail;refine A7 (λ_=>True) (.an [] [0,1,2,3,4] 5 Ax (.an [] [6,7,8,9] 10 Ax (.nil))) Φ Φ ?_;obtain⟨R,x,k⟩:=AZ h;rw[x];have S:=(P.o.grown k Δ).m 0;have T:=Aa.aq (j:=18) (M.o.grown k) rfl;have V:=(Q.o.grown k Δ).m 0;have y:=zh k;clear x k;refine Ar ?_
 iterate 5 refine Az ?_
 refine Aj ?_;clear S T V;refine Al ?_;intro K l;refine(L.o R y.o).mono ?_;rintro e z ⟨Y,rfl,i,d,s,p,B,C,D,F,G⟩;have X:=zh (show∃i d,Ab Bi h a z i/\AM z i A b (E+1300) d/\d.aw=N.aw/\d.aO=N.aO/\d.fr=N.fr/\d.nx=N.nx/\∀f,d.F f=if f=m then AA else N.F f from⟨i,d,(Ab.grown H.o.cl y.o).trans s,p,B,C,D,F,G⟩);clear s p B C D F G;dsimp only;refine As l ?_;clear l K;refine Ar ?_
 iterate 4 refine Az ?_
 refine Aj ?_;refine Al ?_;intro K l;refine As l ?_;clear l K;refine AK (Z ?_);go_wp2_with fail;go_ret;exact⟨rfl,X.o⟩
end
section
open Go Go.RowKit
attribute [local go_sem ↓] Go.wp_at_zero Go.wp_at_succ
theorem Xp{A:AO}{N:AC}(q:Ca h a E A b f i e N)(B:Option B0)(C D:Nat)(F:Option B0)(G n:Nat)(I K L l:Nat)(g:BitVec 64)(x:List Nat)(r s:Nat)
  (M:Bx A4 73 #[Am E,V B D C,V F n G] h λd m=>d=A3 (BD #[CR #[Bk Ax,J BB (U g),J O r,J O s,J O n],J O 0])/\Mp h a E A b f i e N g x m)
  (P:Aa h I 31 [Am E])(Q:Aa h K 64 [V B D C])(R:Aa h L 64 [V F n G])(S:Aa h l 130 [Bk Ax,J BB 0,J O 0,J O 0,J O 0])(T:a l=220):
  Bx A4 72 #[Am I,Am K,Am L,Am l] h λd m=>d=A3 (J O 0)/\∃o p k,Ab (CS 221) h a m o/\Ca m o E A b (f+70100) i k p/\Lc b N p g x e k/\k<=e+1/\Aa m l 130 [Bk Ax,J BB (U g),J O r,J O s,J O n]:=by
 have H:=zh q;have W:=zh M;have t:=zh (Y S T);have k0:=P.m 0;have k1:=Q.m 0;have k2:=R.m 0;clear q M P Q R S T
 go_enter Tryz.func72,Tryz.ntmps72
 go_wp2_with fail;refine W.o.mono ?_;rintro d w1 ⟨rfl,u,N1,l1,v,y,X,Z⟩;clear W k0 k1 k2;have c:=v.u t.o.1 (by rw[t.o.2];rintro(q|q)<;>omega)
 have aa:u l=220:=by rw[v.ah _ t.o.1.lt];exact t.o.2
 obtain⟨w,ak,b2,t2⟩:=FI c (Bk Ax) (J BB (U g)) (J O r) (J O s) (J O n);have f0:=c.v 0;have f1:=c.v 1;have f2:=c.v 2;have f3:=c.v 3;have f4:=c.v 4;have v0:=c.m 0;have v1:=c.m 1;have v2:=c.m 2;have v3:=c.m 3;have v4:=c.m 4;have z:Ab (λj=>j=220) w1 u w u:=AG y.p.cl t2 (λj d=>by rw[d];exact aa);have aj:=zh (show∃o p k,Ab (CS 221) h a w o/\Ca w o E A b (f+70100) i k p/\Lc b N p g x e k/\k<=e+1/\Aa w l 130 [Bk Ax,J BB (U g),J O r,J O s,J O n]from⟨u,N1,l1,(v.mono (PK Ω)).trans (z.mono (λj d=>CL Ω)),y.ae z (λj d=>Ω),X,Z,b2⟩);clear v y X Z c aa b2 t2 z;go_wp2_with fail;go_ret;exact⟨rfl,aj.o⟩
abbrev PE(c a d e b:Nat):List Es:=[⟨61,#[Am c],#[]⟩,⟨72,#[],#[Am a,Am d,Am e,Am b]⟩,⟨74,#[],#[Am a,Am b]⟩]
def La(P:Pl)(N f:AC)(h:BitVec 64)(b:List Nat)(a c:Nat):Prop:=c<=a+1/\∃d e,Bp N d/\Lc P d e h b a c/\Bp e f
def Lq(w:A2)(f:Ad)(c:Nat)(A:AO)(P:Pl)(q t g:Nat)(N:AC)(h:BitVec 64)(b:List Nat)(l:Nat)(j:Nat)(W:A2):Prop:=
 match j with
 |0=>W=w
 |1=>∃a d,Ab (CS 221) w f W a/\Ab Bi w f W a/\Ca W a c A P (q+43000) t g d/\Bp N d/\0<DO P d.fr d.nx
 |2=>∃a i k e,Ab (CS 221) w f W a/\Ca W a c A P (q+43000+70100) t e k/\Bp N i/\Lc P i k h b g e/\e<=g+1/\0<DO P k.fr k.nx/\Aa W l 130 (Nq P i h b.length).cells/\(Nq P i h b.length).ok
 |_=>∃a d e,Ab (CS 221) w f W a/\Ca W a c A P (q+43000+70100+1) t e d/\La P N d h b g e
theorem Lq.ae{A:AO}{N:AC}(l:Aw h a)(c:Lq h a E A b e f i N j d k q s):∃g,Ab (CS 221) h a s g:=by
 unfold Lq at c
 split at c
 ·subst c;exact⟨a,Ab.refl l⟩
 ·obtain⟨g,_,c,_⟩:=c;exact⟨g,c⟩
 ·obtain⟨g,_,_,_,c,_⟩:=c;exact⟨g,c⟩
 ·obtain⟨g,_,_,c,_⟩:=c;exact⟨g,c⟩
theorem iA{A:AO}{N:AC}(c:AM h a A b E r)(l:E<=1073700000)(e:r.aw=BJ b N.aw N.aO d.length)(f:r.aO=Ck (DQ b N.aw N.aO d.length) (BJ b N.aw N.aO d.length) d):(Nq b N j d.length).ok:=by
 have g:=c.n.la;rw[e]at g;obtain⟨m,n,o,i⟩:=c.r;have k:=i.dh (BJ b N.aw N.aO d.length);have p:=c.a1.n1;have q:b.aI<=32*493:=mn c.a1.dq Ω;rw[f,CW,jU]at k;unfold Bt.ok;rw[j7 Δ]
 refine⟨?_,?_,?_⟩<;>dsimp only<;>omega
theorem ic{A:AO}{N:AC}(l:Ca h a E A b i e f N)(hq:i<=1073400000)(ag:f<=1000000000)(m:List Nat)(w:Option B0)(y:Nat)(ah:∀x∈m,x<256)(ai:Ai h 1 (V w m.length y) m.length (Ao m))(M:∀k,(V w m.length y).ownBlock=Bn k->a k=0/\k<h.heap.size)
  (c:List Nat)(z:Option B0)(u:Nat)(aj:0<c.length)(ak:c.length<=b.aI)(al:∀x∈c,x<256)(am:c.length<=u)(an:Ai h 1 (V z c.length u) c.length (Ao c))(P:∀k,(V z c.length u).ownBlock=Bn k->a k=0/\k<h.heap.size)
  (v B C n:Nat)(U:Aa h v 31 [Am E])(ao:Aa h B 64 [V w m.length y])(ap:Aa h C 64 [V z c.length u])(X:Aa h n 130 [Bk Ax,J BB 0,J O 0,J O 0,J O 0])(Y:a v=0)(aq:a B=0)(ar:a C=0)(Z:a n=220)
  (I:Option B0)(K:Nat)(hr:Ai h 1 (V I 3 K) 3 ((PE E v B C n).map Es.val))(hn:∀k,(V I 3 K).ownBlock=Bn k->a k=0):
  Bx A4 34 #[V I 3 K] h λD F=>D=A3 (J O 0)/\Lq h a E A b i e f N (CM b.aQ m) c n 3 F:=by
 have o:¬CS 221 0:=by rintro(l|l)<;>omega
 refine(MC I K (PE E v B C n) (Lq h a E A b i e f N (CM b.aQ m) c n) h (show 3<=10 by omega) ?_ ?_ ?_ rfl).mono ?_
 ·rintro j W q;obtain⟨G,s⟩:=q.ae l.p.cl;exact s.aP hr (λk d=>by rw[hn k d];exact o)
 ·intro x hx aI W;simp only[lK,nh,pZ]at hx
  rcases hx with rfl|rfl|rfl<;>rfl
 ·rintro j x L W q;have aJ:j<3:=(jX.1 L).1
  rcases j with _|_|_|j
  ·obtain rfl:=kE L;obtain rfl:W=h:=q;refine(RV l.p Ω E e f l.t l.b l.hc).mono ?_;rintro D F ⟨rfl,G,Q,s,p,g,H⟩;exact⟨rfl,G,Q,s.mono (Io Ω),s,l.next s p,g,H⟩
  ·obtain rfl:=kE L;obtain⟨G,Q,s,sk,r,g,H⟩:=q
   have kb:∀k,k<h.heap.size->a k=0->G k=0/\k<W.heap.size:=λk h1 h2=>⟨by rw[s.ah _ h1];exact h2,jY h1 s.size⟩
   refine(Xp r w y _ z u _ v B C n (CM b.aQ m) c _ _ (ZS r Ω ag m w y ah (s.aP ai (λk d=>by rw[(M k d).1];exact o)) (λk d=>kb k (M k d).2 (M k d).1) c z u aj ak al am (s.aP an (λk d=>by rw[(P k d).1];exact o)) (λk d=>kb k (P k d).2 (P k d).1))
    (s.u U (by rw[Y];exact o)) (s.u ao (by rw[aq];exact o)) (s.u ap (by rw[ar];exact o)) (sk.u X (by rw[Z];rintro(l|l)<;>omega)) (by rw[s.ah _ X.lt];exact Z)).mono ?_
   rintro D F ⟨rfl,R,S,ay,s2,ad,t,aA,T⟩;exact⟨rfl,R,Q,S,ay,s.trans s2,ad,g,t,aA,by rw[t.fr,t.nx];exact H,T,iA ad.p Ω t.la t.bo⟩
  ·obtain rfl:=kE L;obtain⟨G,N1,S,ae,s,r,g,t,H,aC,T,aD⟩:=q;refine(ZX r.p Ω aC E e ae r.t r.b _ aD v n (s.u U (by rw[Y];exact o)) T).mono ?_;rintro D F ⟨rfl,R,N3,s3,p3,g3⟩;exact⟨rfl,R,N3,ae,s.trans (s3.mono (Io Ω)),r.next s3 p3,H,N1,S,g,t,g3⟩
  ·omega
 ·rintro D F ⟨rfl,q⟩;exact⟨rfl,q⟩
end
section
open Go Go.RowKit
attribute [local go_sem ↓] Go.wp_at_zero Go.wp_at_succ
theorem XJ(f g:List Nat)(l:∀x∈f,x<256)(o:∀x∈g,x<256)(n m:Nat)(i:f.length=n)(j:g.length=m)(a b:Option B0)(c d:Nat)(w:A2)(h:Ai w 1 (V a n c) n (Ao f))(k:Ai w 1 (V b m d) m (Ao g)):
  Bx A4 121 #[V a n c,V b m d] w λe p=>e=A3 (Bk (Bs (f=g)))/\w=p:=by
 have q:=KD (c:=c) (by rw[i];exact h);have r:=KD (c:=d) (by rw[j];exact k);rw[i]at q;rw[j]at r;clear h k
 go_enter Tryz.func121,Tryz.ntmps121
 go_wp2_with fail
 have s:((Fo f).toList==(Fo g).toList)=Bs (f=g):=by
  by_cases e:f=g
  ·subst e;simp
  ·rw[jV e,lu]
   exact λh=>e (eh l o h)
 rw[s];go_ret;exact⟨rfl,rfl⟩
end
section
open Go Go.RowKit
theorem fE{A:AO}{N:AC}(c:AM h a A b E N)(n:E<=1073600000)(x:BitVec 64):
  Bx A4 118 #[Am A.X,J BB (U x)] h λe f=>e=A3 (BD #[Lg ((N.F x).getD Af.ad),Bk (N.F x).isSome,J O 0])/\∃d i,Ab Bi h a f d/\AM f d A b (E+3) i/\Bp N i:=by
 refine(ZU c.x Ω x).mono ?_;rintro e f ⟨rfl,d,k,s,l,m⟩
 have g:∀j,j=4\/j=5\/j=9->¬SS 125 j:=λj o e=>by rcases e with e|e<;>omega
 exact⟨rfl,d,{N with ct:=k},s.mono (Sc.mono (λj e=>Ω) Ω),⟨l,(c.r.ae s (g _ Ω)).c9 c.a1 m.ed,c.l.ae s (g _ Ω),c.t.ae s (g _ Ω),⟨c.n.g1,by have:=c.n.g2;show N.bX<=_;omega,by have:=c.n.sp;show N.dK<=_;omega,c.n.f1,c.n.f2,by have:=c.n.f3;show N.nx<=_;omega,by have:=c.n.la;show N.aw<=_;omega⟩⟩,⟨rfl,rfl,(Bp.refl N).bo⟩⟩
structure JR(P:Pl)(N:AC)(r a:Nat)(k v:List Nat)(E:Nat):Prop where
 le:r<=N.aw
 a1:a+(13+k.length+v.length)<=(N.aO r).length
 i2:Dy (N.aO r) a (13+k.length+v.length)=Dk k v E
 k0:1<=k.length
 k1:k.length<=64
 v1:v.length<=4096
 e1:E<=281474976710656
 ks:∀x∈k,x<256
 vs:∀x∈v,x<256
theorem ar(h:E+e<=d.length):Dy (d++z) E e=Dy d E e:=by
 unfold Dy;rw[mM Ω,nk (by rw[kK];omega)]
theorem JR.dz{N:AC}(h:JR b N E e d z f)(g:N.aw<=r.aw)(i:∃a,r.aO E=N.aO E++a):JR b r E e d z f:=by
 obtain⟨a,c⟩:=i;exact⟨j8 h.le g,by rw[c,jU];have:=h.a1;omega,by rw[c,ar h.a1];exact h.i2,h.k0,h.k1,h.v1,h.e1,h.ks,h.vs⟩
theorem dY{A:AO}{N:AC}(g:AM h a A b e N)(B:e<=1073600000)(p:JR b N E f d z i)(v:Cv b N.aw<=E)(n:Nat)(q:13+d.length+z.length=n):
  Bx A4 119 #[Am A.g,CR #[J O E,J O f,J O n]] h λc o=>∃k l,c=A3 (BD #[V k n l,J O 0])/\∃m,Ab Bi h a o m/\AM o m A b e N/\Ai o 1 (V k n l) n (Ao (Dk d z i))/\∀r,(V k n l).ownBlock=Bn r->m r=0:=by
 obtain⟨C,D,w,x⟩:=g.r;have F:=g.n.la;have t:=p.a1;rw[q]at t;refine(Xj w x g.sd.bI g.cl g.a1 Ω E f n v p.le t).mono ?_;rintro c o ⟨k,l,rfl,m,s,u,y⟩;have hcut:=p.i2;rw[q]at hcut;rw[hcut]at u;exact⟨k,l,rfl,m,s.mono (Sc.mono (λj c=>c.elim) (jS _)),g.ae s (λj G=>by rintro(c|c);exact c;omega),u,y⟩
theorem ZP{A:AO}{N:AC}(c:AM h a A b E N)(k:E<=1073600000)(r d n:Nat)(f:¬Cv b N.aw<=r)(g:r<=N.aw):
  Bx A4 119 #[Am A.g,CR #[J O r,J O d,J O n]] h λe i=>e=A3 (BD #[V AA 0 0,J O 13])/\h.grownBy i AA:=by
 obtain⟨l,m,j,o⟩:=c.r;exact V5 j c.cl c.a1 (Ψ c.n.la) r d n f g
structure EI(w:A2)(i:Ad)(c:Nat)(A:AO)(P:Pl)(q t j:Nat)(N:AC)(d:Nat)(e:Option B0)(f b:Nat)(l:List Nat)(h:AC)(a:Ad)(W:A2):Prop where
 ca:Ca W a c A P q t j h
 g:Bp N h
 st:Ab (CS 211) w i W a
 x4:Aa W d 136 [V AA 0 0,V AA 0 0,J O 0]
 c4:a d=210
 ky:Ai W 1 (V e b f) b (Ao l)
 kz:∀k,(V e b f).ownBlock=Bn k->a k=0/\k<W.heap.size
section
variable {w:World} {col:Ad} {c:Nat} {A:AO} {P:Pl} {q q' t lo:Nat} {N N' N'':AC} {b4:Nat} {ka:Option Addr} {kc kn:Nat} {key:List Nat} {cW cW':Ad} {W W':World}
theorem EI.dj(h:EI w col c A P q t lo N b4 ka kc kn key N' cW W)(s:Ab Bi W cW W' cW')(p:AM W' cW' A P q' N'')(g:Bp N' N''):EI w col c A P q' t lo N b4 ka kc kn key N'' cW' W':=
 ⟨h.ca.next s p,h.g.trans g,h.st.trans (s.mono (Io Ω)),s.u h.x4 (by rw[h.c4];exact KM),by rw[s.ah _ h.x4.lt];exact h.c4,s.aP h.ky (λk a=>by rw[(h.kz k a).1];exact EH),λk a=>⟨by rw[s.ah _ (h.kz k a).2];exact(h.kz k a).1,jY (h.kz k a).2 s.size⟩⟩
theorem EI.grown(h:EI w col c A P q t lo N b4 ka kc kn key N' cW W)(g:W.grownBy W' AA):EI w col c A P q t lo N b4 ka kc kn key N' cW W':=h.dj (Ab.grown h.ca.p.cl g) (h.ca.p.grown g) (Bp.refl _)
theorem EI.dB(h:EI w col c A P q t lo N b4 ka kc kn key N' cW W)(g:W.grownBy W' AA)(d:W.heap.size<W'.heap.size):∃b,EI w col c A P q t lo N b4 ka kc kn key N' b W'/\b W.heap.size=210:=by
 have s:Ab (λj=>j=210) W cW W' (AL cW W.heap.size 210):=Cc h.ca.p.cl g (jS _) d rfl;exact⟨_,⟨h.ca.ae s (λj e=>Ω),h.g,h.st.trans (s.mono (λj e=>CL Ω)),h.x4.grown g Δ,by rw[s.ah _ h.x4.lt];exact h.c4,h.ky.grown g Δ,λk a=>⟨by rw[s.ah _ (h.kz k a).2];exact(h.kz k a).1,jY (h.kz k a).2 s.size⟩⟩,AY _ _ _⟩
theorem EI.bT(h:EI w col c A P q t lo N b4 ka kc kn key N' cW W)(d:cW E=210)(f:b4≠E)(b:Ac (λj=>j=E) W W'):EI w col c A P q t lo N b4 ka kc kn key N' cW W':=by
 have s:Ab (λj=>j=210) W cW W' cW:=AG h.ca.p.cl b (λj e=>by rw[e];exact d);exact⟨h.ca.ae s (λj e=>Ω),h.g,h.st.trans (s.mono (λj e=>CL Ω)),b.u h.x4 f,h.c4,s.aP h.ky (λk a=>by rw[(h.kz k a).1];omega),λk a=>⟨(h.kz k a).1,jY (h.kz k a).2 s.size⟩⟩
theorem EI.gN(h:EI w col c A P q t lo N b4 ka kc kn key N' cW W)(a:Ac (λj=>j=b4) W W'):Ab (CS 211) w col W' cW/\Ca W' cW c A P q t lo N':=by
 have s:Ab (λj=>j=210) W cW W' cW:=AG h.ca.p.cl a (λj e=>by rw[e];exact h.c4);exact⟨h.st.trans (s.mono (λj e=>CL Ω)),h.ca.ae s (λj e=>Ω)⟩
theorem Ob{a:TypeId}{b:List BC}(h:Aa W E l n)(k:Aa W e a b)(c:l≠a):E≠e:=λd=>by
 rw[d]at h;unfold Aa at h k;rw[h]at k;injection k with k;injection k with _ k;exact c k
end
end
section
open Go Go.RowKit
attribute [local go_sem ↓] Go.wp_at_zero Go.wp_at_succ
def Uv(P:Pl)(N:AC)(h:List Nat)(c:Bool)(e f g:Int)(b:Bool)(d:Option (List Nat×Nat)):Prop:=
 (c=Ax/\b=Ax/\d=AA)\/(c=BA/\b=Ax/\d=AA/\∃r a s:Nat,e=r/\f=a/\g=s/\¬Cv P N.aw<=r/\r<=N.aw)\/
 (c=BA/\∃(r a:Nat) (k v:List Nat) (E:Nat),e=r/\f=a/\g=((13+k.length+v.length:Nat):Int)/\Cv P N.aw<=r/\JR P N r a k v E/\b=Bs (k=h)/\d=Bn (v,E))
def Tz(w:A2)(l:Ad)(c:Nat)(A:AO)(P:Pl)(q t m:Nat)(N:AC)(b:Bool)(n:Option (List Nat×Nat))(e:C0)(d:A2):Prop:=
 ∃f i o p r g h a E,e=A3 (BD #[CR #[V o r p,V g a h,J O (E:Nat)],Bk b,J O 0])/\Ab (CS 211) w l d f/\Ca d f c A P (q+3) t m i/\Bp N i/\
  ∀v j,n=Bn (v,j)->E=j/\v.length=a/\Ai d 1 (V g a h) a (Ao v)/\∀k,(V g a h).ownBlock=Bn k->f k=0/\k<d.heap.size
theorem Xt{A:AO}{N:AC}(o:Ca h a E A b f e i N)(hq:f<=1073400000)(R:List Nat)(z:Nat)(aV:R.length=z)(ka:Option B0)(kc:Nat)(a6:∀x∈R,x<256)(a7:Ai h 1 (V ka z kc) z (Ao R))(aW:∀k,(V ka z kc).ownBlock=Bn k->a k=0/\k<h.heap.size)
  (hh:BitVec 64)(bm:CM b.aQ R=hh)(is:Bool)(hx:BitVec 64)(er ea es:Int)(bn:(N.F hh).isSome=is)(bo:(N.F hh).getD Af.ad=⟨hx,er,ea,es⟩)(bp:Bool)(bq:Option (List Nat×Nat))(br:Uv b N R is er ea es bp bq):
  Bx A4 69 #[Am E,V ka z kc] h (Tz h a E A b f e i N bp bq):=by
 obtain⟨w1,b2,g1,b1⟩:=Aq h 136 [V AA 0 0,V AA 0 0,J O 0];obtain⟨bs,ba⟩:=Ag (AL a h.heap.size 210)
 have s1:Ab (λj=>j=210) h a w1 bs:=by rw[<-ba];exact Cc o.p.cl g1 (jS _) b1.lt rfl
 have T1:=zh (show EI h a E A b f e i N h.heap.size ka kc z R N bs w1 from⟨o.ae s1 (λj q=>Ω),Bp.refl N,s1.mono (λj q=>CL Ω),b1,by rw[<-ba];exact AY _ _ _,a7.grown g1 Δ,λk hk=>⟨by rw[s1.ah _ (aW k hk).2];exact(aW k hk).1,jY (aW k hk).2 g1.size⟩⟩)
 have HF:=zh (λ(W:A2) (cW:Ad) (q':Nat) (N':AC) (p:AM W cW A b q' N') (b4:q'<=1073600000) (q:N'.F=N.F)=>(by
  have:=fE p b4 hh;rw[q,bo,bn]at this
  exact this:Calls Tryz.prog 118 #[Am A.X,.int .u64 (U hh)] W λq w'=>q=.returned (.tuple #[.agg #[.int .i64 er,.int .i64 ea,.int .i64 es],.bool is,.int .i64 0])/\∃c' bw,Ab Bi W cW w' c'/\AM w' c' A b (q'+3) bw/\Bp N' bw))
 have HH:=zh (λ(W:A2) (hb:Cf W E A b e i) (hr:Ai W 1 (V ka z kc) z (Ao R))=>(by
  have:=Mc hb R ka kc a6 (by rw[aV];exact hr);rw[aV,bm]at this
  exact this:Calls Tryz.prog 59 #[Am E,.slice ka z kc] W λq w'=>q=.returned (.int .u64 (U hh))/\W.grownBy w' none))
 have HQ:=zh hq;have bz:=zh (Y a6 aV);have b9:=zh br;have ct:=zh (show z<=maxLen from a7.2.1);clear o hq aV a6 a7 aW bm bn bo br g1 b1 ba s1
 go_enter Tryz.func69,Tryz.ntmps69
 go_upto_region 1 with fail
 clear b2
 go_cut [7,8,9] (λs7 s8 s9 wx=>∃y cx N',s7=BE (Bn ⟨y,0,AA⟩)/\s8=Bk is/\s9=J O 0/\EI h a E A b (f+3) e i N h.heap.size ka kc z R N' cx wx/\Aa wx y 128 [J O er,J O ea,J O es]/\cx y=210)
 case first=>
  refine A7 (λW=>W.cell? ⟨E,18,AA⟩=Bn (Am A.X)) (.bP [0,1,2,3,4,5] 6 BA (.bP [] 7 Ax (.an [] [8,9,10,11] 12 BA (.an [] [] 13 Ax (.an [] [14] 15 Ax (.nil)))) 12 BA (.an [] [] 7 Ax (.an [] [8,9,10,11] 13 Ax (.an [] [14] 15 Ax (.nil))))) 12 BA (.an [] [] 6 BA (.an [] [] 7 Ax (.an [] [8,9,10,11] 13 Ax (.an [] [14] 15 Ax (.nil)))))) Φ Φ ?_;obtain⟨w2,bB,g2⟩:=AZ w1;rw[bB];have T2:=zh (T1.o.grown g2);clear bB g2 T1;refine Ej (Aa.aq (j:=18) T2.o.ca.b rfl) ?_
  iterate 6 ((apply AB rfl Θ;(· intro wS S;(try have S:=S rfl);(try dsimp only at S);go_simp;(try with_reducible rfl)));refine Ak ?_)
  refine Aj ⟨?_,?_⟩
  ·refine Al ?_;intro K c;refine(HH.o _ T2.o.ca.b T2.o.ky).mono ?_;rintro q w3 ⟨rfl,m⟩;have D:=zh (T2.o.grown m);clear m;dsimp only;refine c _ _ ⟨_,λ_ o=>o,λ_=>(Aa.aq (j:=18) D.o.ca.b rfl),?_⟩;clear c K;refine Ak ?_;refine Ej (Aa.aq (j:=18) D.o.ca.b rfl) ?_;refine Aj ⟨?_,?_⟩
   ·refine Al ?_;intro K c;refine(HF.o _ _ _ _ D.o.ca.p (Ψ HQ.o) D.o.g.f).mono ?_;rintro q X ⟨rfl,cc,NN,C,pp,m⟩;have l:=zh (D.o.dj C pp m);clear C pp m;dsimp only;refine As c ?_;clear c K;refine Ar ?_
    iterate 4 refine Az ?_
    refine Aj ?_;refine Al ?_;intro K c;obtain⟨w5,ak,m,F⟩:=Aq X 128 [J O 0,J O 0,J O 0];rw[ak];obtain⟨cb,tb,kb⟩:=l.o.dB m F.lt;have T5:=zh tb;have d:=zh (show Aa w5 X.heap.size 128 [J O 0,J O 0,J O 0]/\cb X.heap.size=210 from⟨F,kb⟩);clear ak m F tb kb;generalize X.heap.size=y at*;refine c _ _ ⟨_,λ_ o=>o,λ_=>(Aa.aq (j:=18) T5.o.ca.b rfl),?_⟩;clear c K;refine Ak ?_;refine Ar ?_;refine Aj ?_;obtain⟨w9,aF,w,t⟩:=Br d.o.1 (J O er) (J O ea) (J O es);have G:=d.o.1.v 0;have H:=d.o.1.m 0;have I:=d.o.1.v 1;have L:=d.o.1.m 1;have M:=d.o.1.v 2;have P:=d.o.1.m 2;have T9:=zh (T5.o.bT d.o.2 (Ob T5.o.x4 d.o.1 Ξ) t);have B9:=zh w;clear w t;refine Al ?_;intro K c;clear G I M H L P;refine As c ?_;clear c K;refine Ar ?_;refine Az ?_;refine Aj ?_;refine Al ?_;intro K c;refine As c ?_;clear c K;refine AK (Z ?_);go_wp2_with fail
    go_meet
    exact⟨y,_,_,rfl,rfl,rfl,T9.o,B9.o,d.o.2⟩
   ·refine Al ?_;intro K c;obtain⟨X,ak,m,F⟩:=Aq w3 128 [J O 0,J O 0,J O 0];rw[ak];obtain⟨cb,tb,kb⟩:=D.o.dB m F.lt;have l:=zh tb;have d:=zh (show Aa X w3.heap.size 128 [J O 0,J O 0,J O 0]/\cb w3.heap.size=210 from⟨F,kb⟩);clear ak m F tb kb;generalize w3.heap.size=y at*;refine c _ _ ⟨_,λ_ o=>o,λ_=>(Aa.aq (j:=18) l.o.ca.b rfl),?_⟩;clear c K;refine Ak ?_;refine Ar ?_;refine Aj ?_;refine Al ?_;intro K c;refine(HF.o _ _ _ _ l.o.ca.p (Ψ HQ.o) l.o.g.f).mono ?_;rintro q w5 ⟨rfl,cc,NN,C,pp,m⟩;have T5:=zh (l.o.dj C pp m);have d:=zh (show Aa w5 y 128 [J O 0,J O 0,J O 0]/\cc y=210 from⟨C.u d.o.1 (by rw[d.o.2];exact KM),by rw[C.ah _ d.o.1.lt];exact d.o.2⟩);clear C pp m;dsimp only;refine As c ?_;clear c K;refine Ar ?_
    iterate 4 refine Az ?_
    refine Aj ?_;obtain⟨w9,aF,w,t⟩:=Br d.o.1 (J O er) (J O ea) (J O es);have G:=d.o.1.v 0;have H:=d.o.1.m 0;have I:=d.o.1.v 1;have L:=d.o.1.m 1;have M:=d.o.1.v 2;have P:=d.o.1.m 2;have T9:=zh (T5.o.bT d.o.2 (Ob T5.o.x4 d.o.1 Ξ) t);have B9:=zh w;clear w t;refine Al ?_;intro K c;clear G I M H L P;refine As c ?_;clear c K;refine Ar ?_;refine Az ?_;refine Aj ?_;refine Al ?_;intro K c;refine As c ?_;clear c K;refine AK (Z ?_);go_wp2_with fail
    go_meet
    exact⟨y,_,_,rfl,rfl,rfl,T9.o,B9.o,d.o.2⟩
  ·refine Al ?_;intro K c;obtain⟨w3,ak,m,F⟩:=Aq w2 128 [J O 0,J O 0,J O 0];rw[ak];obtain⟨cb,tb,kb⟩:=T2.o.dB m F.lt;have D:=zh tb;have d:=zh (show Aa w3 w2.heap.size 128 [J O 0,J O 0,J O 0]/\cb w2.heap.size=210 from⟨F,kb⟩);clear ak m F tb kb;generalize w2.heap.size=y at*;refine c _ _ ⟨_,λ_ o=>o,λ_=>(Aa.aq (j:=18) D.o.ca.b rfl),?_⟩;clear c K;refine Ak ?_;refine Ar ?_;refine Aj ?_;refine Al ?_;intro K c;refine(HH.o _ D.o.ca.b D.o.ky).mono ?_;rintro q X ⟨rfl,m⟩;have l:=zh (D.o.grown m);have d:=zh (Y (d.o.1.grown m Δ) d.o.2);clear m;dsimp only;refine c _ _ ⟨_,λ_ o=>o,λ_=>(Aa.aq (j:=18) l.o.ca.b rfl),?_⟩;clear c K;refine Ak ?_;refine Ar ?_;refine Aj ?_;refine Al ?_;intro K c;refine(HF.o _ _ _ _ l.o.ca.p (Ψ HQ.o) l.o.g.f).mono ?_;rintro q w5 ⟨rfl,cc,NN,C,pp,m⟩;have T5:=zh (l.o.dj C pp m);have d:=zh (show Aa w5 y 128 [J O 0,J O 0,J O 0]/\cc y=210 from⟨C.u d.o.1 (by rw[d.o.2];exact KM),by rw[C.ah _ d.o.1.lt];exact d.o.2⟩);clear C pp m;dsimp only;refine As c ?_;clear c K;refine Ar ?_
   iterate 4 refine Az ?_
   refine Aj ?_;obtain⟨w9,aF,w,t⟩:=Br d.o.1 (J O er) (J O ea) (J O es);have G:=d.o.1.v 0;have H:=d.o.1.m 0;have I:=d.o.1.v 1;have L:=d.o.1.m 1;have M:=d.o.1.v 2;have P:=d.o.1.m 2;have T9:=zh (T5.o.bT d.o.2 (Ob T5.o.x4 d.o.1 Ξ) t);have B9:=zh w;clear w t;refine Al ?_;intro K c;clear G I M H L P;refine As c ?_;clear c K;refine Ar ?_;refine Az ?_;refine Aj ?_;refine Al ?_;intro K c;refine As c ?_;clear c K;refine AK (Z ?_);go_wp2_with fail
   go_meet
   exact⟨y,_,_,rfl,rfl,rfl,T9.o,B9.o,d.o.2⟩
 case rest=>
  obtain⟨y,cx,N1,rfl,rfl,rfl,hT,hB,bG⟩:=hcut;have T:=zh hT;have B:=zh (Y hB bG);clear hT hB bG;have k0:=B.o.1.m 0;have k1:=B.o.1.m 1;have k2:=B.o.1.m 2;have aw:=Aa.aq (j:=19) T.o.ca.b rfl
  rcases b9.o with⟨rfl,rfl,rfl⟩|⟨rfl,rfl,rfl,r,bH,s,rfl,rfl,rfl,ho,bI⟩|⟨rfl,r,bH,k,v,ax,rfl,rfl,rfl,ho,be,rfl,rfl⟩
  ·clear k0 k1 k2 aw;obtain⟨w9,aF,w,t⟩:=Br T.o.x4 (V AA 0 0) (V AA 0 0) (J O 0);have G:=T.o.x4.v 0;have H:=T.o.x4.m 0;have I:=T.o.x4.v 1;have L:=T.o.x4.m 1;have M:=T.o.x4.v 2;have P:=T.o.x4.m 2;have Q:=zh (Y w (T.o.gN t));have GG:=zh T.o.g;clear w t;go_wp2_with fail;exact Bd (Ly (p:=4) (t:=5) (u:=6) (ty:=136) rfl _ _ h.heap.size _ _ _ _ rfl Q.o.1 qe rfl Φ) rfl ⟨_,_,AA,0,0,AA,0,0,0,rfl,Q.o.2.1,Q.o.2.2,GG.o,λv ax o=>by cases o⟩
  ·have aK:=zh (λ(W:A2) (g:wc.grownBy W AA)=>ZP (T.o.grown g).ca.p (Ψ HQ.o) r bH s (by rw[T.o.g.la];exact ho) (by rw[T.o.g.la];exact bI));clear ho bI;go_wp2_with fail;refine A7 (λ_=>True) (.an [] [0,1,2,3,4] 5 Ax (.an [] [6,7,8,9] 10 Ax (.nil))) Φ Φ ?_;obtain⟨w3,aL,g3⟩:=AZ wc;rw[aL];have G3:=zh g3;clear k0 k1 k2 aw aL g3;have b3:=B.o.1.grown G3.o Δ;have k0:=b3.m 0;have k1:=b3.m 1;have k2:=b3.m 2;have aw:=Aa.aq (j:=19) (T.o.grown G3.o).ca.b rfl;clear b3;refine Ar ?_
   iterate 5 refine Az ?_
   refine Aj ?_;clear k0 k1 k2 aw;refine Al ?_;intro K c;refine(aK.o _ G3.o).mono ?_;rintro q X ⟨rfl,g4⟩;have l:=zh (T.o.grown (Ae G3.o g4));clear g4 aK;dsimp only;refine As c ?_;clear c K;refine Ar ?_
   iterate 4 refine Az ?_
   refine Aj ?_;refine Al ?_;intro K c;refine As c ?_;clear c K;refine AK (Z ?_);obtain⟨w9,aF,w,t⟩:=Br l.o.x4 (V AA 0 0) (V AA 0 0) (J O 0);have G:=l.o.x4.v 0;have H:=l.o.x4.m 0;have I:=l.o.x4.v 1;have L:=l.o.x4.m 1;have M:=l.o.x4.v 2;have P:=l.o.x4.m 2;have Q:=zh (Y w (l.o.gN t));have GG:=zh l.o.g;clear w t;go_wp2_with fail;exact Bd (Ly (p:=4) (t:=5) (u:=6) (ty:=136) rfl _ _ h.heap.size _ _ _ _ rfl Q.o.1 qe rfl Φ) rfl ⟨_,_,AA,0,0,AA,0,0,0,rfl,Q.o.2.1,Q.o.2.2,GG.o,λv ax o=>by cases o⟩
  ·have ay:=zh be;obtain⟨n,hn⟩:=Ag (13+k.length+v.length);have aK:=zh (λ(W:A2) (g:wc.grownBy W AA)=>dY (T.o.grown g).ca.p (Ψ HQ.o) (be.dz (pU T.o.g.la.symm) (T.o.g.bo r)) (by rw[T.o.g.la];exact ho) n hn);have bK:=zh hn;rw[hn]at k2;have bf:=B.o.1;rw[hn]at bf;have B:=zh (Y bf B.o.2);clear ho be hn bf;go_wp2_with fail;refine A7 (λ_=>True) (.an [] [0,1,2,3,4] 5 Ax (.an [] [6,7,8,9] 10 Ax (.nil))) Φ Φ ?_;obtain⟨w3,aL,g3⟩:=AZ wc;rw[aL];have G3:=zh g3;clear k0 k1 k2 aw aL g3;have b3:=B.o.1.grown G3.o Δ;have k0:=b3.m 0;have k1:=b3.m 1;have k2:=b3.m 2;have aw:=Aa.aq (j:=19) (T.o.grown G3.o).ca.b rfl;clear b3;refine Ar ?_
   iterate 5 refine Az ?_
   refine Aj ?_;clear k0 k1 k2 aw;refine Al ?_;intro K c;refine(aK.o _ G3.o).mono ?_;rintro q X ⟨ra,rc,rfl,c4,s4,p4,bN,ci⟩;have l:=zh ((T.o.grown G3.o).dj s4 p4 (Bp.refl _));have hu:=We k v ax ra rc X ay.o.k0 ay.o.k1 ay.o.v1 ay.o.e1 ay.o.ks ay.o.vs (by rw[JG,bK.o];exact bN);rw[JG,bK.o]at hu;have HU:=zh hu;clear s4 p4 bN ci hu aK;dsimp only;refine As c ?_;clear c K;refine Ar ?_
   iterate 4 refine Az ?_
   refine Aj ?_;refine Al ?_;intro K c;refine As c ?_;clear c K;refine AK (Z ?_);go_wp2_with fail;refine HU.o.mono ?_;rintro q w5 ⟨aO,aP,aQ,aR,rfl,bh,bi,g5⟩;obtain⟨w6,cj,g6,b6⟩:=Aq w5 136 [V AA 0 0,V AA 0 0,J O 0];obtain⟨KL,a3⟩:=Ag k.length;obtain⟨VL,a4⟩:=Ag v.length;rw[a3]at bh;rw[a4]at bi;obtain⟨w7,cl,b7,t7⟩:=Br b6 (V aO KL aP) (V aQ VL aR) (J O ax);have G:=b6.v 0;have I:=b6.v 1;have M:=b6.v 2;have H:=b6.m 0;have L:=b6.m 1;have P:=b6.m 2;have g7:=Ac.grown g6 t7 (λj q=>by rw[q];exact jS _);have T7:=zh (l.o.grown (Ae g5 g7));have cn:=zh (AP bh g7);have co:=zh (AP bi g7);have B7:=zh b7;have HL:=zh (Y a3 a4);have C4:=zh (l.o.ca.p.cl);rw[a3,a4];clear g5 g6 b6 b7 t7 g7 bh bi a3 a4 HU;go_wp2_with fail;clear cj cl G I M H L P;refine A7 (λW=>Aa W w5.heap.size 136 [V aO KL aP,V aQ VL aR,J O (ax:Nat)]) (.an [0] [1,2,3,4,5,6,7,8,9,10,11,12] 13 BA (.an [] [14] 15 Ax (.an [] [16] 17 Ax (.nil)))) Φ Φ ?_;obtain⟨w8,bU,g8⟩:=AZ w7;rw[bU];have T8:=zh (T7.o.grown g8);have B8:=zh (B7.o.grown g8 Δ);have cs:=zh (AP cn.o g8);have bV:=zh (AP co.o g8);clear bU g8;refine DK B8.o ?_
   iterate 1 ((apply AB rfl Θ;(· intro wS S;(try have S:=S rfl);(try dsimp only at S);(try(have x0:=S.m 0;have x1:=S.m 1;have x2:=S.m 2));go_simp;(try with_reducible rfl)));refine Ak ?_)
   refine Aj ?_;have x0:=B8.o.m 0
   iterate 12 refine Az ?_
   refine Aj ?_;clear x0;refine Al ?_;intro K c;refine(XJ k R ay.o.ks bz.o.1 KL z HL.o.1 bz.o.2 aO ka aP kc w8 (Ai.aj cs.o) T8.o.ky).mono ?_;rintro q w9 ⟨rfl,rfl⟩;dsimp only;refine c _ _ ⟨_,λ_ o=>o,λ_=>B8.o,?_⟩;clear c K;refine Ak ?_;refine Ar ?_;refine Az ?_;refine Aj ?_;obtain⟨w9,aF,w,t⟩:=Br T8.o.x4 (V aO KL aP) (V aQ VL aR) (J O ax);have G:=T8.o.x4.v 0;have I:=T8.o.x4.v 1;have M:=T8.o.x4.v 2;have H:=T8.o.x4.m 0;have L:=T8.o.x4.m 1;have P:=T8.o.x4.m 2;have Q:=zh (Y w (T8.o.gN t))
   have no:∀k,(V aQ VL aR).ownBlock=Bn k->¬k=h.heap.size:=λk hk q=>by
    have h1:=(bV.o.lt k hk).1;have h2:=l.o.x4.lt;omega
   have bk:=zh (t.aL bV.o no);have GG:=zh T8.o.g;clear w t no;refine Al ?_;intro K c;clear G I M H L P;refine As c ?_;clear c K;refine Ar ?_;refine Az ?_;refine Aj ?_;refine Al ?_;intro K c;refine As c ?_;clear c K;refine AK (Z ?_);go_wp2_with fail
   exact Bd (Ly (p:=4) (t:=5) (u:=6) (ty:=136) rfl _ _ h.heap.size _ _ _ _ rfl Q.o.1 qe rfl Φ) rfl ⟨_,_,aO,aP,KL,aQ,aR,VL,ax,rfl,Q.o.2.1,Q.o.2.2,GG.o,λv' E' o=>by
    injection o with o;injection o with h1 h2;subst h1
    exact⟨h2,HL.o.2,Ai.aj bk.o,λk hk=>⟨C4.o k (bk.o.lt k hk).1,(bk.o.lt k hk).2⟩⟩⟩
def Gd(b:Bool)(a:Option (List Nat×Nat))(t:Nat):Option (List Nat):=
 if b then(match a with|some (v,E)=>if E≠0/\E<=t then AA else Bn v|none=>AA)else AA
def cj(w:A2)(i:Ad)(c:Nat)(A:AO)(P:Pl)(q t j:Nat)(N:AC)(k:Option (List Nat))(e:C0)(b:A2):Prop:=
 ∃d f,Ab (CS 211) w i b d/\Ca b d c A P (q+3) t j f/\Bp N f/\match k with
  |none=>e=A3 (BD #[V AA 0 0,Bk Ax,J O 0])
  |some v=>∃g h a,e=A3 (BD #[V g a h,Bk BA,J O 0])/\v.length=a/\Ai b 1 (V g a h) a (Ao v)
theorem Ys{A:AO}{N:AC}(S:Ca h a e A b i E f N)(C:Nat)(ka:Option B0)(kc:Nat)(ao:1<=C)(ap:C<=64)(T:Bool)(D:Option (List Nat×Nat))(hb:T=BA->D.isSome=BA)
  (ar:Bx A4 69 #[Am e,V ka C kc] h (Tz h a e A b i E f N T D)):
  Bx A4 26 #[Am e,V ka C kc] h (cj h a e A b i E f N (Gd T D E)):=by
 have HR:=zh (Kl S.b);have HN:=zh (Rg C ka kc ao ap h);have aw:=zh ar;have HO:=zh hb;clear S ao ap ar hb
 go_enter Tryz.func26,Tryz.ntmps26
 go_wp2_with fail;refine HR.o.mono ?_;rintro m w0 ⟨rfl,rfl⟩;go_wp2_with fail;refine HN.o.mono ?_;rintro m w0 ⟨rfl,rfl⟩;go_wp2_with fail;refine aw.o.mono ?_;rintro m w1 ⟨o,N1,ax,ay,az,F,G,t,g,rfl,s1,U,g1,H⟩;clear aw HN HR;obtain⟨w2,aP,g2,p⟩:=Aq w1 136 [V AA 0 0,V AA 0 0,J O 0];obtain⟨I,aQ,b3,t3⟩:=Br p (V ax az ay) (V F t G) (J O g);have f0:=p.v 0;have f1:=p.v 1;have f2:=p.v 2;have v0:=p.m 0;have v1:=p.m 1;have v2:=p.m 2;have X:=Ac.grown g2 t3 (λj m=>by rw[m];exact jS _);have u:=zh (U.grown X);have aj:=zh (s1.trans (Ab.grown U.p.cl X));have GG:=zh g1;have B3:=zh b3;have Z3:Hd (o w1.heap.size=0):=zh (U.p.cl _ (jS _));have HV:=zh (λ(v:List Nat) (q:Nat) (ho:D=Bn (v,q))=>(show g=q/\v.length=t/\Ai I 1 (V F t G) t (Ao v)/\∀k,(V F t G).ownBlock=Bn k->o k=0 from⟨(H v q ho).1,(H v q ho).2.1,(H v q ho).2.2.1.grown X Δ,λk hk=>((H v q ho).2.2.2 k hk).1⟩));clear s1 U g1 H g2 p b3 t3 X;go_wp2_with fail;clear aP aQ f0 f1 f2 v0 v1 v2;have w:=B3.o.m 2;have x:=Aa.aq (j:=22) u.o.b rfl
 rcases Bool.eq_false_or_eq_true T with rfl|rfl
 ·obtain⟨⟨v,q⟩,rfl⟩:=qC.1 (HO.o rfl);obtain⟨rfl,aF,aG,aH⟩:=HV.o v q rfl;have ab:=zh (Y aF (Y aG aH));have ac:=zh (λ(W:A2)=>Y3 g E W);clear aF aG aH
  by_cases z:g≠0/\g<=E
  ·have L:=zh (show Gd BA (Bn (v,g)) E=AA by unfold Gd;rw[ke rfl];exact ke z);rw[show(Bs (g≠0/\g<=E))=BA from jT z]at ac;clear z;refine A7 (λ_=>True) (.an [] [0,1,2,3,4,5,6,7,8] 9 Ax (.an [] [] 10 Ax (.nil))) Φ Φ ?_;obtain⟨B,n,d⟩:=AZ I;rw[n];clear w x n;have l:=zh (u.o.grown d);have M:=zh (aj.o.trans (Ab.grown u.o.p.cl d));have B4:=zh (B3.o.grown d Δ);have aI:=zh (ab.o.2.1.grown d Δ);have w:=B4.o.m 2;have x:=Aa.aq (j:=22) l.o.b rfl;clear d;refine Ar ?_
   iterate 9 refine Az ?_
   refine Aj ?_;clear w x;refine Al ?_;intro K c;refine(ac.o B).mono ?_;rintro m r ⟨rfl,rfl⟩;dsimp only;refine As c ?_;clear c K;refine Ar ?_;refine Aj ?_;refine Al ?_;intro K c;refine As c ?_;clear c K;refine AK (Z ?_);go_wp2_with fail;refine(JC l.o.p e E f l.o.b 1 Ω).mono ?_;rintro m r ⟨rfl,y,P⟩;have s:=zh (show Ab (CS 211) h a r o/\Ca r o e A b (i+3) E f N1 from⟨M.o.trans (y.mono (Io Ω)),l.o.next y P⟩);clear y P;go_wp2_with fail;exact Bd (CE rfl _ _ _) rfl ⟨_,_,s.o.1,s.o.2,GG.o,by rw[L.o];exact rfl⟩
  ·have L:=zh (show Gd BA (Bn (v,g)) E=Bn v by unfold Gd;rw[ke rfl];exact j7 z);rw[show(Bs (g≠0/\g<=E))=Ax from jV z]at ac;clear z;refine A7 (λ_=>True) (.an [] [0,1,2,3,4,5,6,7,8] 9 Ax (.an [] [] 10 Ax (.nil))) Φ Φ ?_;obtain⟨B,n,d⟩:=AZ I;rw[n];clear w x n;have l:=zh (u.o.grown d);have M:=zh (aj.o.trans (Ab.grown u.o.p.cl d));have B4:=zh (B3.o.grown d Δ);have aI:=zh (ab.o.2.1.grown d Δ);have w:=B4.o.m 2;have x:=Aa.aq (j:=22) l.o.b rfl;clear d;refine Ar ?_
   iterate 9 refine Az ?_
   refine Aj ?_;clear w x;refine Al ?_;intro K c;refine(ac.o B).mono ?_;rintro m r ⟨rfl,rfl⟩;dsimp only;refine As c ?_;clear c K;refine Ar ?_;refine Aj ?_;refine Al ?_;intro K c;refine As c ?_;clear c K;refine AK (Z ?_);go_wp2_with fail;refine A7 (λW=>Aa W w1.heap.size 136 [V ax az ay,V F t G,J O g]) (.an [0,1] [2] 3 BA (.an [] [4,5] 6 Ax (.nil))) Φ Φ ?_;obtain⟨r,aJ,Q⟩:=AZ B;rw[aJ];have an:=zh (l.o.grown Q);have aZ:=zh (M.o.trans (Ab.grown l.o.p.cl Q));have B5:=zh (B4.o.grown Q Δ);have a0:=zh (aI.o.grown Q Δ);clear aJ Q;refine DK B5.o ?_
   iterate 2 ((apply AB rfl Θ;(· intro wS ae;(try have ae:=ae rfl);(try dsimp only at ae);(try(have x1:=ae.m 1));go_simp;(try with_reducible rfl)));refine Ak ?_)
   refine Aj ?_;refine Az ?_;refine Aj ?_;refine Al ?_;intro K c;refine(JC an.o.p e E f an.o.b 0 Ω).mono ?_;rintro m w6 ⟨rfl,R,p6⟩;have s:=zh (show Ab (CS 211) h a w6 o/\Ca w6 o e A b (i+3) E f N1 from⟨aZ.o.trans (R.mono (Io Ω)),an.o.next R p6⟩);have B6:=zh (R.u B5.o (by rw[Z3.o];exact EH));have a2:=zh (R.aP a0.o (λk hk=>by rw[ab.o.2.2 k hk];exact EH));clear R p6;dsimp only;refine c _ _ ⟨_,λ_ S=>S,λ_=>B6.o,?_⟩;clear c K;refine Ak ?_;refine Ar ?_
   iterate 2 refine Az ?_
   refine Aj ?_;refine Al ?_;intro K c;refine As c ?_;clear c K;refine AK (Z ?_);go_wp2_with fail;exact Bd (CE rfl _ _ _) rfl ⟨_,_,s.o.1,s.o.2,GG.o,by rw[L.o];exact⟨F,G,t,rfl,ab.o.1,a2.o⟩⟩
 ·have L:=zh (show Gd Ax D E=AA from rfl)
  go_quiet (fail)
  obtain⟨B,n⟩:=Ag (I.drewN nq)
  have d:I.grownBy B AA:=by rw[<-n];exact AS _ _ _
  rw[n];have l:=zh (u.o.grown d);have M:=zh (aj.o.trans (Ab.grown u.o.p.cl d));clear w x n d;go_wp2_with fail;refine(JC l.o.p e E f l.o.b 1 Ω).mono ?_;rintro m r ⟨rfl,y,P⟩;have s:=zh (show Ab (CS 211) h a r o/\Ca r o e A b (i+3) E f N1 from⟨M.o.trans (y.mono (Io Ω)),l.o.next y P⟩);clear y P;go_wp2_with fail;exact Bd (CE rfl _ _ _) rfl ⟨_,_,s.o.1,s.o.2,GG.o,by rw[L.o];exact rfl⟩
abbrev Kf:Nat->Prop:=Sc (λj=>1<=j/\j<=8) 200
theorem Jj:¬Kf 0:=by rintro(h|h)<;>omega
def Cs(w:A2)(c:Nat)(d s b:Nat)(P:Pl)(a e f:BC):Prop:=Aa w c 90 (Lo P (Am d) (Am s) a e f (Am b) 0 0)
theorem Cs.iG(c:Cs h E e f i b p g o)(v:BC):∃a,h.setCell ⟨E,18,AA⟩ v=a/\Cs a E e f i b v g o/\Ac (λj=>j=E) h a:=⟨_,rfl,Aa.setCell c 18 _,AF _ _ _ _⟩
theorem Cs.iN(c:Cs h E e f i b g p o)(v:BC):∃a,h.setCell ⟨E,19,AA⟩ v=a/\Cs a E e f i b g v o/\Ac (λj=>j=E) h a:=⟨_,rfl,Aa.setCell c 19 _,AF _ _ _ _⟩
theorem Cs.iH(c:Cs h E e f i b g o p)(v:BC):∃a,h.setCell ⟨E,20,AA⟩ v=a/\Cs a E e f i b g o v/\Ac (λj=>j=E) h a:=⟨_,rfl,Aa.setCell c 20 _,AF _ _ _ _⟩
theorem dU{pg:Ap}(s:SD h a E f b k q pg c)(ac:∀n,pg n=AA)(hq:k<=1073741600)(hb:Cs h e f E i b p g o)(hc:a e=8)(u:Nat)(h8:Aa h u 31 [Am e])(K:a u=0)(z:Nat)(h6:Aa h z 80 [Am E])(ai:a z=0):
  Bx A4 36 #[Am z,Am u] h λd M=>d=A3 (J O 0)/\∃X D v N w x T L B,Ab Kf h a M v/\XF M v X D E f b 0 x (k+6) q N w T L 0 B/\AN b c w/\(∀s,Ba 0 B s=AA)/\Cs M e f E i b (Am X) g o:=by
 have n8:a u=0:=K;have A:=zh (Y hb hc);have P:=zh (Y h8 K);have H:=zh (Y s (Y ac hq));have Q:=zh (Y h6 ai);clear s ac hq h6 ai;clear hb hc h8 K n8
 go_enter Tryz.func36,Tryz.ntmps36
 go_wp2_with fail;refine Dg (λW=>W.cell? ⟨u,0,AA⟩=Bn (Am e)/\W.cell? ⟨z,0,AA⟩=Bn (Am E)) [([0,1],2,BA),([3,4,5,6,7],8,Ax),([],9,Ax)] Φ Φ ?_;obtain⟨w1,aj,g1⟩:=AZ h;rw[aj];have l:=zh g1;clear aj g1;refine BU ⟨(P.o.1.grown l.o Δ).m 0,(Q.o.1.grown l.o Δ).m 0⟩ ?_
 repeat(apply AB rfl Θ;(· intro wS t;(try have t:=t rfl);(try dsimp only at t);(try have k0:=t.1);(try have k1:=t.2);go_simp;(try with_reducible rfl));refine Ak ?_)
 refine Aj ?_;refine AH rfl (λy m=>?_);go_simp;refine(Wn (H.o.1.grown l.o) H.o.2.1 H.o.2.2).mono ?_;rintro d w2 ⟨X,D,rfl,C,ar,au,x,T,L,B,r,R,am,hF⟩
 have F:∀j,j=0\/j=8->¬Dz 200 j:=λj h1 d=>by rcases d with d|d<;>omega
 have S:=zh (show Cs w2 e f E i b p g o from r.u (Aa.grown A.o.1 l.o Δ) (by rw[A.o.2];exact F _ Ω));have C2:Hd (C e=8):=zh (by rw[r.ah _ (Aa.lt (Aa.grown A.o.1 l.o Δ))];exact A.o.2);have U:=(r.u (P.o.1.grown l.o Δ) (by rw[P.o.2];exact F _ Ω)).m 0;have V:=(r.u (Q.o.1.grown l.o Δ) (by rw[Q.o.2];exact F _ Ω)).m 0;dsimp only;refine m _ _ ⟨λ_=>⟨U,V⟩,?_⟩;clear m y;refine BU ⟨U,V⟩ ?_
 repeat(apply AB rfl Θ;(· intro wS t;go_simp;(try with_reducible rfl));refine Ak ?_)
 refine Aj ?_;have f1:=Aa.v S.o 18;have v1:=Aa.aq (j:=18) S.o rfl;obtain⟨G,ay,b3,t3⟩:=S.o.iG (Am X);have I:Ab (λj=>j=8) w2 C G C:=AG r.new t3 (λj d=>by rw[d];exact C2.o);have az:=zh (show∃X D v N w x T L B,Ab Kf h a G v/\XF G v X D E f b 0 x (k+6) q N w T L 0 B/\AN b c w/\(∀s,Ba 0 B s=AA)/\Cs G e f E i b (Am X) g o from⟨X,D,C,ar,au,x,T,L,B,((Ab.grown H.o.1.cl l.o).trans (r.mono (Sc.mono (λj d=>Ω) (jS _)))).trans (I.mono (λj d=>CB Ω)),R.ae I Ω Ω (R.s.d.s.ae I Ω Ω Ω Ω),am,hF,b3⟩);refine AH rfl (λy m=>?_);go_simp;clear r R am hF F U V b3 t3 I ay f1 v1;refine m _ _ ⟨λhf=>(by cases hf),?_⟩;clear m y;refine BG ?_;refine AH rfl (λy m=>?_);go_simp;refine m _ _ ⟨λhf=>(by cases hf),?_⟩;refine Di (Z ?_);clear m y;go_wp2_with fail;go_ret;exact⟨rfl,az.o⟩
theorem aQ{y:Nat}(Q:AD h a E b.ss b.n k c)(R:Aw h a)(s:b.aU)(S:∀i:Nat,i<b.rg*b.rs->c ((b.region+i:Nat):Int)=AJ b.n)(T:Cs h e E f y b g p o)(U:a e=8)(u:Nat)(V:Aa h u 31 [Am e])(I:a u=0)(z A:Nat)(X:Aa h z 35 [Am E])(h3:Aa h A 37 b.cells)(ab:a z=0)(ac:a A=0):
  Bx A4 38 #[Am z,Am A,Am u] h λm K=>m=A3 (J O 0)/\∃n v,Ab (λj=>j=4\/j=8) h a K v/\Ds K v n E b 0 (Gi b) c/\Cs K e E f y b g (Am n) o:=by
 have n8:a u=0:=I;have B:=zh (Y T U);have L:=zh (Y V I);have H:=zh (Y Q (Y R (Y s S)));have t:=zh (Y X (Y h3 (Y ab ac)));clear Q R s S X h3 ab ac;clear T U V I n8
 go_enter Tryz.func38,Tryz.ntmps38
 go_wp2_with fail;refine Dg (λW=>W.cell? ⟨u,0,AA⟩=Bn (Am e)/\W.cell? ⟨z,0,AA⟩=Bn (Am E)/\Aa W A 37 b.cells) [([0,1,2],3,BA),([4,5,6,7,8],9,Ax),([],10,Ax)] Φ Φ ?_;obtain⟨w1,ad,g1⟩:=AZ h;rw[ad];have l:=zh g1;clear ad g1;refine BU ⟨(L.o.1.grown l.o Δ).m 0,(t.o.1.grown l.o Δ).m 0,t.o.2.1.grown l.o Δ⟩ ?_
 repeat(apply AB rfl Θ;(· intro wS d;(try have d:=d rfl);(try dsimp only at d);(try have k0:=d.1);(try have k1:=d.2.1);(try have y0:=d.2.2.m 0);(try have y1:=d.2.2.m 1);(try have C:=d.2.2.m 2);(try have D:=d.2.2.m 3);(try have y4:=d.2.2.m 4);(try have y5:=d.2.2.m 5);(try have y6:=d.2.2.m 6);(try have y7:=d.2.2.m 7);go_simp;(try with_reducible rfl));refine Ak ?_)
 refine Aj ?_;refine AH rfl (λw q=>?_);go_simp;refine(YI (H.o.1.grown l.o) (H.o.2.1.grown l.o) H.o.2.2.1 H.o.2.2.2).mono ?_;rintro m w2 ⟨n,rfl,F,r,r2⟩
 have x:∀j,j=0\/j=8->¬(λj=>j=4) j:=λj h1 m=>Ω
 have M:=zh (show Cs w2 e E f y b g p o from r.u (Aa.grown B.o.1 l.o Δ) (by rw[B.o.2];exact x _ Ω));have C2:Hd (F e=8):=zh (by rw[r.ah _ (Aa.lt (Aa.grown B.o.1 l.o Δ))];exact B.o.2);have N:=(r.u (L.o.1.grown l.o Δ) (by rw[L.o.2];exact x _ Ω)).m 0;have C:=(r.u (t.o.1.grown l.o Δ) (by rw[t.o.2.2.1];exact x _ Ω)).m 0;have D:=r.u (t.o.2.1.grown l.o Δ) (by rw[t.o.2.2.2];exact x _ Ω);dsimp only;refine q _ _ ⟨λ_=>⟨N,C,D⟩,?_⟩;clear q w;refine BU ⟨N,C,D⟩ ?_
 repeat(apply AB rfl Θ;(· intro wS d;go_simp;(try with_reducible rfl));refine Ak ?_)
 refine Aj ?_;have f1:=Aa.v M.o 19;have v1:=Aa.aq (j:=19) M.o rfl;obtain⟨G,ao,b3,t3⟩:=M.o.iN (Am n);have P:Ab (λj=>j=8) w2 F G F:=AG r.new t3 (λj m=>by rw[m];exact C2.o);have ap:=zh (show∃n v,Ab (λj=>j=4\/j=8) h a G v/\Ds G v n E b 0 (Gi b) c/\Cs G e E f y b g (Am n) o from⟨n,F,((Ab.grown H.o.2.1 l.o).trans (r.mono (λj m=>CB m))).trans (P.mono (λj m=>CL m)),r2.ae P Ω,b3⟩);refine AH rfl (λw q=>?_);go_simp;clear r r2 x N C D b3 t3 P ao f1 v1;refine q _ _ ⟨λs=>(by cases s),?_⟩;clear q w;refine BG ?_;refine AH rfl (λw q=>?_);go_simp;refine q _ _ ⟨λs=>(by cases s),?_⟩;refine Di (Z ?_);clear q w;go_wp2_with fail;go_ret;exact⟨rfl,ap.o⟩
theorem eE{y:Nat}(Q:AD h a E b.ss b.n k c)(R:Aw h a)(s:b.aU)(S:∀i:Nat,i<b.lg->c ((2+i:Nat):Int)=AJ b.n)(T:Cs h e E f y b g o p)(U:a e=8)(u:Nat)(V:Aa h u 31 [Am e])(I:a u=0)(z A:Nat)(X:Aa h z 35 [Am E])(h3:Aa h A 37 b.cells)(ab:a z=0)(ac:a A=0):
  Bx A4 40 #[Am z,Am A,Am u] h λn K=>n=A3 (J O 0)/\∃l v,Ab (Sc (λj=>j=5\/j=8) 200) h a K v/\IF K v l E b 1 1 0/\Cs K e E f y b g o (Am l):=by
 have n8:a u=0:=I;have B:=zh (Y T U);have L:=zh (Y V I);have H:=zh (Y Q (Y R (Y s S)));have t:=zh (Y X (Y h3 (Y ab ac)));clear Q R s S X h3 ab ac;clear T U V I n8
 go_enter Tryz.func40,Tryz.ntmps40
 go_wp2_with fail;refine Dg (λW=>W.cell? ⟨u,0,AA⟩=Bn (Am e)/\W.cell? ⟨z,0,AA⟩=Bn (Am E)/\Aa W A 37 b.cells) [([0,1,2],3,BA),([4,5,6,7,8,9,10],11,Ax),([],12,Ax)] Φ Φ ?_;obtain⟨w1,ad,g1⟩:=AZ h;rw[ad];have m:=zh g1;clear ad g1;refine BU ⟨(L.o.1.grown m.o Δ).m 0,(t.o.1.grown m.o Δ).m 0,t.o.2.1.grown m.o Δ⟩ ?_
 repeat(apply AB rfl Θ;(· intro wS d;(try have d:=d rfl);(try dsimp only at d);(try have k0:=d.1);(try have k1:=d.2.1);(try have y0:=d.2.2.m 0);(try have y1:=d.2.2.m 1);(try have C:=d.2.2.m 2);(try have D:=d.2.2.m 3);(try have y4:=d.2.2.m 4);(try have y5:=d.2.2.m 5);(try have y6:=d.2.2.m 6);(try have y7:=d.2.2.m 7);go_simp;(try with_reducible rfl));refine Ak ?_)
 refine Aj ?_;refine AH rfl (λw q=>?_);go_simp;refine(ai (H.o.1.grown m.o) (H.o.2.1.grown m.o) H.o.2.2.1 H.o.2.2.2).mono ?_;rintro n w2 ⟨l,rfl,F,r,r2⟩
 have x:∀j,j=0\/j=8->¬Sc (λj=>j=5) 200 j:=λj h1 n=>by rcases n with n|n<;>omega
 have M:=zh (show Cs w2 e E f y b g o p from r.u (Aa.grown B.o.1 m.o Δ) (by rw[B.o.2];exact x _ Ω));have C2:Hd (F e=8):=zh (by rw[r.ah _ (Aa.lt (Aa.grown B.o.1 m.o Δ))];exact B.o.2);have N:=(r.u (L.o.1.grown m.o Δ) (by rw[L.o.2];exact x _ Ω)).m 0;have C:=(r.u (t.o.1.grown m.o Δ) (by rw[t.o.2.2.1];exact x _ Ω)).m 0;have D:=r.u (t.o.2.1.grown m.o Δ) (by rw[t.o.2.2.2];exact x _ Ω);dsimp only;refine q _ _ ⟨λ_=>⟨N,C,D⟩,?_⟩;clear q w;refine BU ⟨N,C,D⟩ ?_
 repeat(apply AB rfl Θ;(· intro wS d;go_simp;(try with_reducible rfl));refine Ak ?_)
 refine Aj ?_;have f1:=Aa.v M.o 20;have v1:=Aa.aq (j:=20) M.o rfl;obtain⟨G,ap,b3,t3⟩:=M.o.iH (Am l);have P:Ab (λj=>j=8) w2 F G F:=AG r.new t3 (λj n=>by rw[n];exact C2.o);have aq:=zh (show∃l v,Ab (Sc (λj=>j=5\/j=8) 200) h a G v/\IF G v l E b 1 1 0/\Cs G e E f y b g o (Am l)from⟨l,F,((Ab.grown H.o.2.1 m.o).trans (r.mono (Sc.mono (λj n=>Ω) (jS _)))).trans (P.mono (λj n=>CB Ω)),r2.ae P Ω,b3⟩);refine AH rfl (λw q=>?_);go_simp;clear r r2 x N C D b3 t3 P ap f1 v1;refine q _ _ ⟨λs=>(by cases s),?_⟩;clear q w;refine BG ?_;refine AH rfl (λw q=>?_);go_simp;refine q _ _ ⟨λs=>(by cases s),?_⟩;refine Di (Z ?_);clear q w;go_wp2_with fail;go_ret;exact⟨rfl,aq.o⟩
end
section
open Go Go.RowKit
abbrev PP(d b c e a:Nat):List Es:=[⟨35,#[Am d],#[]⟩,⟨36,#[],#[Am e,Am a]⟩,⟨38,#[],#[Am b,Am c,Am a]⟩,⟨40,#[],#[Am b,Am c,Am a]⟩]
abbrev A6:BC:=BE AA
structure iX(P:Pl)(N:AC):Prop where
 f:∀h,N.F h=AA
 la:N.aw=0
 bo:N.aO=Gi P
def UM(w:A2)(l:Ad)(d s b a c:Nat)(P:Pl)(q:Nat)(j:Nat)(W:A2):Prop:=
 ∃e,Ab Kf w l W e/\EL W e b a/\match j with
 |0=>Cs W c d s b P A6 A6 A6/\SD W e s d P q 1 (λ_=>AA) (λ_=>AJ P.n)
 |1=>Cs W c d s b P A6 A6 A6/\SD W e s d P q 1 (λ_=>AA) (λ_=>AJ P.n)
 |2=>∃X D i f k T L B,Cs W c d s b P (Am X) A6 A6/\XF W e X D s d P 0 k (q+6) 1 i f T L 0 B/\AN P (λ_=>AJ P.n) f/\(∀h,Ba 0 B h=AA)
 |3=>∃X D g i f k T L B,Cs W c d s b P (Am X) (Am g) A6/\XF W e X D s d P 0 k (q+6) 1 i f T L 0 B/\AN P (λ_=>AJ P.n) f/\(∀h,Ba 0 B h=AA)/\Ds W e g d P 0 (Gi P) f
 |_=>∃A N,AM W e A P (q+6) N/\Cf W c A P 0 0/\iX P N
theorem gO{H:Nat}(I:SD h a e E b q 1 (λ_=>AA) (λ_=>AJ b.n))(hq:q<=1073741600)(tl:EL h a H k)(Z:Cs h f E e H b A6 A6 A6)(hc:a f=8)
  (s t y p:Nat)(h2:Aa h s 35 [Am E])(h3:Aa h t 37 b.cells)(h6:Aa h y 80 [Am e])(h8:Aa h p 31 [Am f])(k2:a s=0)(k3:a t=0)(k6:a y=0)(k8:a p=0)
  (R:Option B0)(S:Nat)(hr:Ai h 1 (V R 4 S) 4 ((PP E s t y p).map Es.val))(hn:∀U,(V R 4 S).ownBlock=Bn U->a U=0):
  Bx A4 34 #[V R 4 S] h λm z=>m=A3 (J O 0)/\UM h a E e H k f b q 4 z:=by
 have hC:=I.cl
 have n9:¬Kf 9:=by rintro(I|I)<;>omega
 refine(MC R S (PP E s t y p) (UM h a E e H k f b q) h (show 4<=10 by omega) ?_ ?_ ?_ ⟨a,Ab.refl hC,tl,Z,I⟩).mono ?_
 ·rintro j W ⟨A,d,_⟩;exact d.aP hr (λU hk=>by rw[hn U hk];exact Jj)
 ·intro x hx aI W;simp only[lK,nh,pZ]at hx
  rcases hx with rfl|rfl|rfl|rfl<;>rfl
 ·rintro j x K W ⟨A,d,M,C⟩;have aJ:j<4:=(jX.1 K).1;have aq:=d.u h2 (by rw[k2];exact Jj);have ar:=d.u h3 (by rw[k3];exact Jj);have aA:=d.u h6 (by rw[k6];exact Jj);have ae:=d.u h8 (by rw[k8];exact Jj)
  have e2:A s=0:=by rw[d.ah _ h2.lt];exact k2
  have e3:A t=0:=by rw[d.ah _ h3.lt];exact k3
  have e6:A y=0:=by rw[d.ah _ h6.lt];exact k6
  have e8:A p=0:=by rw[d.ah _ h8.lt];exact k8
  have Y:A f=8:=by rw[d.ah _ (Aa.lt Z)];exact hc
  clear hr hn I Z tl h2 h3 h6 h8
  rcases j with _|_|_|_|j
  ·obtain rfl:=kE K;obtain⟨u,F⟩:=C;refine(RW _ _ _ _ _ _ _ F.bI F.cl Ω).mono ?_;rintro m z ⟨rfl,v,c,d2⟩;exact⟨rfl,v,d.trans (c.mono (λj m=>CB Ω)),M.ae c Ω,c.u u (by rw[Y];omega),⟨F.bJ.ae c Ω Ω Ω,d2,c.new,F.a1⟩⟩
  ·obtain rfl:=kE K;obtain⟨u,F⟩:=C;refine(dU F (λ_=>rfl) Ω u Y p ae e8 y aA e6).mono ?_;rintro m z ⟨rfl,X,D,v,N,w,P,T,L,B,c,n,G,hF,Q⟩;exact⟨rfl,v,d.trans c,M.ae c n9,X,D,N,w,P,T,L,B,Q,n,G,hF⟩
  ·obtain rfl:=kE K;obtain⟨X,D,N,w,P,T,L,B,u,n,G,hF⟩:=C;have hf:=n.s.d.s.a1;have aD:=b.eI
   have hz:∀i:Nat,i<b.rg*b.rs->w ((b.region+i:Nat):Int)=AJ b.n:=λi hi=>G _ (CB Ω)
   refine(aQ n.s.d.s.bI n.s.d.s.cl hf hz u Y p ae e8 s t aq ar e2 e3).mono ?_;rintro m z ⟨rfl,g,v,c,r2,Q⟩;exact⟨rfl,v,d.trans (c.mono (λj m=>CB Ω)),M.ae c Ω,X,D,g,N,w,P,T,L,B,Q,n.ae c Ω Ω (n.s.d.s.ae c Ω Ω Ω Ω),G,hF,r2⟩
  ·obtain rfl:=kE K;obtain⟨X,D,g,N,w,P,T,L,B,u,n,G,hF,r⟩:=C;have hf:=n.s.d.s.a1;have aD:=b.eI;have aK:b.region=2+b.lg:=rfl
   have hz:∀i:Nat,i<b.lg->w ((2+i:Nat):Int)=AJ b.n:=λi hi=>G _ (CB Ω)
   have o:∀j,j<=4\/j=6\/j=7\/j=9->¬Sc (λj=>j=5\/j=8) 200 j:=λj h1 m=>by rcases m with m|m<;>omega
   refine(eE n.s.d.s.bI n.s.d.s.cl hf hz u Y p ae e8 s t aq ar e2 e3).mono ?_;rintro m z ⟨rfl,l,v,c,l2,Q⟩
   exact⟨rfl,v,d.trans (c.mono (Sc.mono (λj m=>Ω) (jS _))),M.ae c (o _ Ω),⟨E,e,X,D,g,l,H,k⟩,⟨1,0,0,1,1,0,0,P,N,w,T,L,B,Gi b⟩,
    ⟨n.ae c (o _ Ω) (o _ Ω) (n.s.d.s.ae c (o _ Ω) (o _ Ω) (o _ Ω) (o _ Ω)),r.ae c (o _ Ω),l2,M.ae c (o _ Ω),⟨jS _,mJ (kN _),kN _,jS _,jS _,mJ (kN _),kN _⟩⟩,Q,⟨hF,rfl,rfl⟩⟩
  ·omega
 ·rintro m z ⟨rfl,C⟩;exact⟨rfl,C⟩
end
section
open Go Go.RowKit
attribute [local go_sem ↓] Go.wp_at_zero Go.wp_at_succ
theorem jq{b c d e f i D F G H I J K L j m n q r s t u:BC}(M:Aa h E l [g,o,p,b,c,d,e,f,i,D,F,G,H,I,J,K,L,j,m,n,q,r,s,t,u])(v w x y z A B C:BC):∃a,((((((((h.setCell ⟨E,9,AA⟩ v).setCell ⟨E,10,AA⟩ w).setCell ⟨E,11,AA⟩ x).setCell ⟨E,12,AA⟩ y).setCell ⟨E,13,AA⟩ z).setCell ⟨E,14,AA⟩ A).setCell ⟨E,15,AA⟩ B).setCell ⟨E,16,AA⟩ C)=a/\Aa a E l [g,o,p,b,c,d,e,f,i,v,w,x,y,z,A,B,C,j,m,n,q,r,s,t,u]/\Ac (λk=>k=E) h a:=
 ⟨_,rfl,((((((((M.setCell 9 _).setCell 10 _).setCell 11 _).setCell 12 _).setCell 13 _).setCell 14 _).setCell 15 _).setCell 16 _),((((((((AF _ _ _ _).trans (AF _ _ _ _)).trans (AF _ _ _ _)).trans (AF _ _ _ _)).trans (AF _ _ _ _)).trans (AF _ _ _ _)).trans (AF _ _ _ _)).trans (AF _ _ _ _))⟩
theorem aN(b:AD h a E e f i c):a E=1:=let⟨_,_,_,_,_,_,_,_,b,_⟩:=b;b.cd
theorem Za(n:Nat)(i:Int):Cu (λ_=>AJ n) i (AJ n)=λ_=>AJ n:=by
 funext k
 unfold Cu
 split<;>rfl
def TU(w:A2)(d:Ad)(P:Pl)(e:C0)(a:A2):Prop:=
 ∃c A N b,e=A3 (BD #[Am c,J O 0])/\Ab Ee w d a b/\Ca a b c A P 50000 0 0 N/\(∀h,N.F h=AA)/\N.aw=0/\(∃z,N.aO 0=AJ P.aI++z)
structure GP(w:A2)(f:Ad)(d s:Nat)(P:Pl)(b c e:Nat)(q:Nat)(a:Ad)(W:A2):Prop where
 st:Ab Ee w f W a
 sd:SD W a s d P q 1 (λ_=>AA) (λ_=>AJ P.n)
 h2:Aa W b 35 [Am d]
 h3:Aa W c 37 P.cells
 h6:Aa W e 80 [Am s]
 k2:a b=0
 k3:a c=0
 k6:a e=0
theorem GP.ae{C:Nat->Prop}(c:GP s w E e b f i k x y t)(d:Ab C t y h a)(g:¬C 0)(l:∀j,C j->Ee j)(m:SD h a e E b q 1 (λ_=>AA) (λ_=>AJ b.n)):GP s w E e b f i k q a h:=
 ⟨c.st.trans (d.mono l),m,d.u c.h2 (by rw[c.k2];exact g),d.u c.h3 (by rw[c.k3];exact g),d.u c.h6 (by rw[c.k6];exact g),by rw[d.ah _ c.h2.lt];exact c.k2,by rw[d.ah _ c.h3.lt];exact c.k3,by rw[d.ah _ c.h6.lt];exact c.k6⟩
theorem GP.grown(c:GP h a E e b f i k q w s)(g:s.grownBy t AA):GP h a E e b f i k q w t:=
 c.ae (C:=λ_=>False) (Ab.grown c.sd.cl g) (λc=>c) (λ_ c=>c.elim) (c.sd.grown g)
def Lu(w:A2)(g:Ad)(d s:Nat)(P:Pl)(h i j:Nat)(q:Nat)(f c b a:Nat)(k:List BC)(e:Ad)(W:A2):Prop:=
 GP w g d s P h i j q e W/\EL W e b a/\Aa W c 90 k/\e c=8/\Aa W f 31 [Am c]/\e f=0
theorem GP.bR{c:Nat}(d:GP s w f i b k q x A y t)(g:Ab (λj=>j=8\/j=9) t y h a)(l:EL h a B c)(m:Aa h E 90 n)(o:a E=8)(p:Aa h e 31 [Am E])(r:a e=0):Lu s w f i b k q x A e E B c n a h:=
 ⟨d.ae g Ω (λj u=>CB Ω) (d.sd.ae g Ω Ω Ω Ω),l,m,o,p,r⟩
theorem VS{P:Pl}(hD:AD h a E P.ss P.n 0 (λ_=>AJ P.n))(hC:Aw h a)(hf:P.aU)(hT:EO h)(hG:0<h.heap.size)(bM:a 0=0):
  Bx A4 7 #[Am E,P.val] h (TU h a P):=by
 obtain⟨w1,bN,g1,b1⟩:=Aq h 35 [Am E];obtain⟨w2,cF,g2,b2⟩:=Aq w1 37 [J O P.ss,J O P.n,J O P.rg,J O P.rs,J O P.lg,J O P.dp,J O P.a7,J BB (U P.aQ)];have ak:=Ae g1 g2
 have bR:Bx A4 30 #[Am E,CR #[J O P.ss,J O P.n,J O P.rg,J O P.rs,J O P.lg,J O P.dp,J O P.a7,J BB (U P.aQ)]] w2 λe w'=>∃s,e=A3 (BD #[BE (Bn ⟨s,0,AA⟩),J O 0])/\∃bS,Ab (SS 200) w2 a w' bS/\SD w' bS s E P 0 1 (λ_=>AA) (λ_=>AJ P.n):=
  VZ (hD.grown ak) (hC.grown ak) hf (hT.bg (ak.block _ hG Δ)) (jY hG ak.size) bM
 have bT:=zh bR;have a4:=zh (b1.grown g2 Δ);have bg:=zh b2;have HZ:Hd (w1.heap.size=h.heap.size+1):=zh (by rw[<-bN];simp);have HC:=zh hC;have HF:=zh hf;have cG:=zh ak;have k0:=a4.o.m 0;have p0:=b2.m 0;have p1:=b2.m 1;have p2:=b2.m 2;have p3:=b2.m 3;have p4:=b2.m 4;have p5:=b2.m 5;have p6:=b2.m 6;have p7:=b2.m 7;unfold Pl.val;clear hD hC hf hT hG bM g1 g2 b1 b2 ak bR
 go_enter Tryz.func7,Tryz.ntmps7
 go_wp2_with fail;refine bT.o.mono ?_;rintro e w3 ⟨s,rfl,c3,s3,a6⟩;clear bT bN cF k0 p0 p1 p2 p3 p4 p5 p6 p7;obtain⟨w4,cH,g4,b4⟩:=Aq w3 80 [A6];obtain⟨w5,bq⟩:=Ag (w4.setCell ⟨w3.heap.size,0,AA⟩ (Am s));have b5:=b4.setCell 0 (Am s);rw[bq]at b5;have f0:=b4.v 0;have v0:=b4.m 0;have g5:=Ac.grown g4 (show Ac (λj=>j=w3.heap.size) w4 w5 by rw[<-bq];exact AF _ _ _ _) (λj e=>by rw[e];exact jS _)
 have n0:¬SS 200 0:=by rintro(y|y)<;>omega
 have T5:Hd (GP h a E s P h.heap.size w1.heap.size w3.heap.size 0 c3 w5):=zh ⟨((Ab.grown HC.o cG.o).trans (s3.mono (Sc.mono (λj e=>Ω) Ω))).trans (Ab.grown a6.cl g5),a6.grown g5,(s3.u a4.o (by rw[HC.o _ (jS _)];exact n0)).grown g5 Δ,(s3.u bg.o (by rw[HC.o _ (by rw[HZ.o];omega)];exact n0)).grown g5 Δ,b5,by rw[s3.ah _ a4.o.lt];exact HC.o _ (jS _),by rw[s3.ah _ bg.o.lt];exact HC.o _ (by rw[HZ.o];omega),a6.cl _ (jS _)⟩;clear s3 a6 g4 b4 b5 g5 n0 a4 bg HZ
 go_upto_region 4 with fail
 clear cH bq f0 v0;generalize w3.heap.size=x6 at*;generalize w1.heap.size=x3 at*;obtain⟨x2,bt⟩:=Ag h.heap.size;rw[bt]at T5;rw[bt];clear bt
 go_cut [8] (λq wx=>∃S c b an cx,q=BE (Bn ⟨S,0,AA⟩)/\Lu h a E s P x2 x3 x6 0 S c b an [Am E,J O P.ss,J O P.n,J O P.rg,J O P.rs,J O P.lg,J O P.dp,J O P.a7,J BB (U P.aQ),J O 0,J O 0,J O 0,J O 0,J O 0,J O 0,J O 0,J O 0,Am s,A6,A6,A6,Am b,J O 0,J O 0,Bk Ax] cx wx)
 case first=>
  refine A7 (λW=>w5.grownBy W AA) (.bP [0,1,2] 3 BA (.bP [4] 5 Ax (.an [] [] 6 BA (.an [] [] 7 Ax (.nil))) 6 BA (.an [] [] 5 Ax (.an [] [] 7 Ax (.nil)))) 6 BA (.an [] [] 3 BA (.an [] [4] 5 Ax (.an [] [] 7 Ax (.nil))))) Φ Φ ?_;obtain⟨t,aS,g6⟩:=AZ w5;rw[aS];have G6:=zh g6;clear aS g6;refine Ej G6.o ?_
  iterate 3 ((apply AB rfl Θ;(· intro wS m;(try have m:=m rfl);(try dsimp only at m);(try(have T:=T5.o.grown m;have k0:=T.h2.m 0;have k1:=T.h6.m 0;have p0:=T.h3.m 0;have p1:=T.h3.m 1;have p2:=T.h3.m 2;have p3:=T.h3.m 3;have p4:=T.h3.m 4;have p5:=T.h3.m 5;have p6:=T.h3.m 6;have p7:=T.h3.m 7));go_simp;(try with_reducible rfl)));refine Ak ?_)
  refine Aj ⟨?_,?_⟩
  ·refine Al ?_;intro K d;refine(Se (T5.o.grown G6.o).sd.cl).mono ?_;rintro e n ⟨b,an,rfl,g7,u,s7,bX⟩;have r:=zh (Ae G6.o g7);have aD:=zh ((Ab.grown (C:=λj=>j=9) T5.o.sd.cl G6.o).trans s7);have aE:=zh bX;clear g7 s7 bX;dsimp only;refine d _ _ ⟨_,λ_ y=>y,λ_=>r.o,?_⟩;clear d K;refine Ak ?_;refine Ej r.o ?_
   iterate 1 ((apply AB rfl Θ;(· intro wS m;(try have m:=m rfl);(try dsimp only at m);go_simp;(try with_reducible rfl)));refine Ak ?_)
   refine Aj ⟨?_,?_⟩
   ·refine Al ?_;intro K d;obtain⟨f,aw,g8,b8⟩:=Aq n 90 [Am E,J O P.ss,J O P.n,J O P.rg,J O P.rs,J O P.lg,J O P.dp,J O P.a7,J BB (U P.aQ),J O 0,J O 0,J O 0,J O 0,J O 0,J O 0,J O 0,J O 0,Am s,A6,A6,A6,Am b,J O 0,J O 0,Bk Ax];rw[aw];have w:Ab (λj=>j=8) n u f (AL u n.heap.size 8):=Cc aD.o.new g8 (jS _) b8.lt rfl;obtain⟨c8,bv⟩:=Ag (AL u n.heap.size 8);rw[bv]at w;have G8:=zh (Ae r.o g8);have B8:=zh (show Aa f n.heap.size 90 [Am E,J O P.ss,J O P.n,J O P.rg,J O P.rs,J O P.lg,J O P.dp,J O P.a7,J BB (U P.aQ),J O 0,J O 0,J O 0,J O 0,J O 0,J O 0,J O 0,J O 0,Am s,A6,A6,A6,Am b,J O 0,J O 0,Bk Ax]/\c8 n.heap.size=8 from⟨b8,by rw[<-bv];exact AY _ _ _⟩);have a9:=zh (aE.o.ae w Ω);have bw:=zh ((aD.o.mono (λj e=>CL e)).trans (w.mono (λj e=>show j=8\/j=9 from CB e)));clear aw g8 b8 w bv;generalize n.heap.size=c at*;refine As d ?_;clear d K;refine Ar ?_;refine Aj ?_;refine Al ?_;intro K d;obtain⟨g,M,l,D⟩:=Aq f 31 [A6];rw[M];have G9:=zh (Ae G8.o l);refine d _ _ ⟨_,λ_ y=>y,λ_=>G9.o,?_⟩;clear d K;refine Ak ?_;refine Ar ?_;refine Aj ?_;have f0:=D.v 0;have v0:=D.m 0;obtain⟨ab,G⟩:=Ag (g.setCell ⟨f.heap.size,0,AA⟩ (Am c));have F:=D.setCell 0 (Am c);rw[G]at F
    have ai:Ac (λj=>j=f.heap.size) g ab:=by rw[<-G];exact AF _ _ _ _
    have ax:=Ac.grown l ai (λj e=>by rw[e];exact jS _);have aq:=zh (T5.o.bR (bw.o.trans (Ab.grown bw.o.new ax)) (a9.o.grown ax) (B8.o.1.grown ax Δ) B8.o.2 F (bw.o.new _ (jS _)));clear l D F ai ax M;refine Al ?_;intro K d;clear f0 v0 G;refine As d ?_;clear d K;refine AK (Z ?_);go_wp2_with fail
    go_meet
    exact⟨_,_,_,_,_,rfl,aq.o⟩
   ·refine Al ?_;intro K d;obtain⟨f,aw,g8,b8⟩:=Aq n 31 [A6];rw[aw];have G8:=zh (Ae r.o g8);have X8:Hd (Aa f n.heap.size 31 [A6]/\u n.heap.size=0):=zh ⟨b8,aD.o.new _ (jS _)⟩;have aV:Hd (n.grownBy f AA):=zh g8;clear aw g8 b8;refine d _ _ ⟨_,λ_ y=>y,λ_=>G8.o,?_⟩;clear d K;refine Ak ?_;refine Ar ?_;refine Aj ?_;refine Al ?_;intro K d;obtain⟨g,M,l,D⟩:=Aq f 90 [Am E,J O P.ss,J O P.n,J O P.rg,J O P.rs,J O P.lg,J O P.dp,J O P.a7,J BB (U P.aQ),J O 0,J O 0,J O 0,J O 0,J O 0,J O 0,J O 0,J O 0,Am s,A6,A6,A6,Am b,J O 0,J O 0,Bk Ax];rw[M];have q:Ab (λj=>j=9) w5 c3 f u:=aD.o.trans (Ab.grown aD.o.new aV.o);have w:Ab (λj=>j=8) f u g (AL u f.heap.size 8):=Cc q.new l (jS _) D.lt rfl;obtain⟨Q,aG⟩:=Ag (AL u f.heap.size 8);rw[aG]at w;have G9:=zh (Ae G8.o l);have B9:=zh (show Aa g f.heap.size 90 [Am E,J O P.ss,J O P.n,J O P.rg,J O P.rs,J O P.lg,J O P.dp,J O P.a7,J BB (U P.aQ),J O 0,J O 0,J O 0,J O 0,J O 0,J O 0,J O 0,J O 0,Am s,A6,A6,A6,Am b,J O 0,J O 0,Bk Ax]/\Q f.heap.size=8 from⟨D,by rw[<-aG];exact AY _ _ _⟩);have bx:=zh ((show EL f u b an from aE.o.grown aV.o).ae w Ω);have aI:=zh ((q.mono (λj e=>CL e)).trans (w.mono (λj e=>show j=8\/j=9 from CB e)));have X9:=zh (show Aa g n.heap.size 31 [A6]/\Q n.heap.size=0 from⟨X8.o.1.grown l Δ,by rw[w.ah _ X8.o.1.lt];exact X8.o.2⟩);have cK:=zh (Ae aV.o l);clear M l D w aG q;refine As d ?_;clear d K;refine Ar ?_;refine Aj ?_;have f0:=X9.o.1.v 0;have v0:=X9.o.1.m 0;obtain⟨ab,G⟩:=Ag (g.setCell ⟨n.heap.size,0,AA⟩ (Am f.heap.size));have F:=X9.o.1.setCell 0 (Am f.heap.size);rw[G]at F
    have ai:Ac (λj=>j=n.heap.size) g ab:=by rw[<-G];exact AF _ _ _ _
    have R:Ab (λj=>j=0) g Q ab Q:=AG aI.o.new ai (λj e=>by rw[e];exact X9.o.2);have aW:w5.heap.size<=n.heap.size:=r.o.size;have aq:=zh (T5.o.bR (aI.o.bq ai (λj e=>by rw[e];exact aW)) (bx.o.ae R Ω) (R.u B9.o.1 (by rw[B9.o.2];omega)) B9.o.2 F X9.o.2);clear F ai R aW;refine Al ?_;intro K d;clear f0 v0 G;refine As d ?_;clear d K;refine AK (Z ?_);go_wp2_with fail
    go_meet
    exact⟨_,_,_,_,_,rfl,aq.o⟩
  ·refine Al ?_;intro K d;obtain⟨n,bY,g7,o⟩:=Aq t 31 [A6];rw[bY];have r:=zh (Ae G6.o g7);have X7:Hd (Aa n t.heap.size 31 [A6]/\c3 t.heap.size=0):=zh ⟨o,(T5.o.grown G6.o).sd.cl _ (jS _)⟩;have cL:Hd (t.grownBy n AA):=zh g7;clear bY g7 o;refine d _ _ ⟨_,λ_ y=>y,λ_=>r.o,?_⟩;clear d K;refine Ak ?_;refine Ar ?_;refine Aj ?_;refine Al ?_;intro K d;refine(Se (T5.o.grown r.o).sd.cl).mono ?_;rintro e f ⟨b,an,rfl,g8,u,q,bZ⟩;have G8:=zh (Ae r.o g8);have aD:=zh ((Ab.grown (C:=λj=>j=9) T5.o.sd.cl r.o).trans q);have aE:=zh bZ;have X8:Hd (Aa f t.heap.size 31 [A6]/\u t.heap.size=0):=zh ⟨X7.o.1.grown g8 Δ,by rw[q.ah _ X7.o.1.lt];exact X7.o.2⟩;have aV:Hd (t.grownBy f AA):=zh (Ae cL.o g8);clear g8 q bZ;dsimp only;refine d _ _ ⟨_,λ_ y=>y,λ_=>G8.o,?_⟩;clear d K;refine Ak ?_;refine Ar ?_;refine Az ?_;refine Aj ?_;refine Al ?_;intro K d;obtain⟨g,M,l,D⟩:=Aq f 90 [Am E,J O P.ss,J O P.n,J O P.rg,J O P.rs,J O P.lg,J O P.dp,J O P.a7,J BB (U P.aQ),J O 0,J O 0,J O 0,J O 0,J O 0,J O 0,J O 0,J O 0,Am s,A6,A6,A6,Am b,J O 0,J O 0,Bk Ax];rw[M];have q:Ab (λj=>j=9) w5 c3 f u:=aD.o;have w:Ab (λj=>j=8) f u g (AL u f.heap.size 8):=Cc q.new l (jS _) D.lt rfl;obtain⟨Q,aG⟩:=Ag (AL u f.heap.size 8);rw[aG]at w;have G9:=zh (Ae G8.o l);have B9:=zh (show Aa g f.heap.size 90 [Am E,J O P.ss,J O P.n,J O P.rg,J O P.rs,J O P.lg,J O P.dp,J O P.a7,J BB (U P.aQ),J O 0,J O 0,J O 0,J O 0,J O 0,J O 0,J O 0,J O 0,Am s,A6,A6,A6,Am b,J O 0,J O 0,Bk Ax]/\Q f.heap.size=8 from⟨D,by rw[<-aG];exact AY _ _ _⟩);have bx:=zh ((show EL f u b an from aE.o).ae w Ω);have aI:=zh ((q.mono (λj e=>CL e)).trans (w.mono (λj e=>show j=8\/j=9 from CB e)));have X9:=zh (show Aa g t.heap.size 31 [A6]/\Q t.heap.size=0 from⟨X8.o.1.grown l Δ,by rw[w.ah _ X8.o.1.lt];exact X8.o.2⟩);have cK:=zh (Ae aV.o l);clear M l D w aG q;refine As d ?_;clear d K;refine Ar ?_;refine Aj ?_;have f0:=X9.o.1.v 0;have v0:=X9.o.1.m 0;obtain⟨ab,G⟩:=Ag (g.setCell ⟨t.heap.size,0,AA⟩ (Am f.heap.size));have F:=X9.o.1.setCell 0 (Am f.heap.size);rw[G]at F
   have ai:Ac (λj=>j=t.heap.size) g ab:=by rw[<-G];exact AF _ _ _ _
   have R:Ab (λj=>j=0) g Q ab Q:=AG aI.o.new ai (λj e=>by rw[e];exact X9.o.2);have aW:w5.heap.size<=t.heap.size:=G6.o.size;have aq:=zh (T5.o.bR (aI.o.bq ai (λj e=>by rw[e];exact aW)) (bx.o.ae R Ω) (R.u B9.o.1 (by rw[B9.o.2];omega)) B9.o.2 F X9.o.2);clear F ai R aW;refine Al ?_;intro K d;clear f0 v0 G;refine As d ?_;clear d K;refine AK (Z ?_);go_wp2_with fail
   go_meet
   exact⟨_,_,_,_,_,rfl,aq.o⟩
 case rest=>
  obtain⟨S,c,b,an,cx,rfl,hM⟩:=hcut;obtain⟨mT,b3,mB,mC,m8,ca⟩:=hM;have T:=zh mT;have TL:=zh b3;have B:=zh (Y mB mC);have X:=zh (Y m8 ca);clear mT b3 mB mC m8 ca T5;go_wp2_with fail;refine Dg (λW=>wc.grownBy W AA) [([0,1],2,BA),([3,4,5,6,7],8,Ax)] Φ Φ ?_;obtain⟨t,aS,g6⟩:=AZ wc;rw[aS];have G6:=zh g6;clear aS g6;refine BU G6.o ?_
  repeat(apply AB rfl Θ;(· intro wS m;(try have m:=m rfl);(try dsimp only at m);(try have k0:=(X.o.1.grown m Δ).m 0);(try have p:=T.o.h3.grown m Δ);(try have p0:=p.m 0);(try have p1:=p.m 1);(try have p2:=p.m 2);(try have p3:=p.m 3);(try have p4:=p.m 4);(try have p5:=p.m 5);(try have p6:=p.m 6);(try have p7:=p.m 7);go_simp;(try with_reducible rfl));refine Ak ?_)
  refine Aj ?_
  have cc:Bx A4 32 #[CR #[J O P.ss,J O P.n,J O P.rg,J O P.rs,J O P.lg,J O P.dp,J O P.a7,J BB (U P.aQ)]] t λe w'=>e=A3 (BD #[CR #[J O 2,J O P.region,J O P.aK,J O P.a2,J O P.bi,J O P.ba,J O P.bv,J O P.aI],J O 0])/\t.grownBy w' AA:=IS P HF.o t
  refine AH rfl (λK' d=>?_);go_simp;refine cc.mono ?_;rintro e n ⟨rfl,g7⟩;dsimp only;have r:=zh (Ae G6.o g7);refine d _ _ ⟨λ_=>r.o,?_⟩;clear d K' g7 cc;refine BU r.o ?_
  repeat(apply AB rfl Θ;(· intro wS m;go_simp;(try with_reducible rfl));refine Ak ?_)
  refine Aj ?_;have o:=B.o.1.grown r.o Δ;have T7:=zh (T.o.grown r.o);have aE:=zh (TL.o.grown r.o);have X7:=zh (Y (X.o.1.grown r.o Δ) X.o.2);have C7:Hd (cx c=8):=zh B.o.2;have f9:=o.v 9;have v9:=o.m 9;have cP:=o.v 10;have cQ:=o.m 10;have cR:=o.v 11;have cS:=o.m 11;have cT:=o.v 12;have cU:=o.m 12;have cV:=o.v 13;have cW:=o.m 13;have cX:=o.v 14;have cY:=o.m 14;have cZ:=o.v 15;have c0:=o.m 15;have c1:=o.v 16;have c2:=o.m 16;obtain⟨f,aw,b8,t8⟩:=jq o (J O 2) (J O P.region) (J O P.aK) (J O P.a2) (J O P.bi) (J O P.ba) (J O P.bv) (J O P.aI);have q:Ab (λj=>j=8) n cx f cx:=AG T7.o.sd.cl t8 (λj e=>by rw[e];exact C7.o);have T8:=zh (T7.o.ae q Ω (λj e=>CB Ω) (T7.o.sd.ae q Ω Ω Ω Ω));have a9:=zh (aE.o.ae q Ω);have X8:=zh (Y (q.u X7.o.1 (by rw[X7.o.2];omega)) X7.o.2);have B8:Hd (Cs f c E s b P A6 A6 A6/\cx c=8):=zh ⟨b8,C7.o⟩;refine AH rfl (λK' d=>?_);go_simp;clear o b8 t8 q f9 v9 cP cQ cR cS cT cU cV cW cX cY cZ c0 c1 c2 T7 aE X7 C7 T TL B X
  first|rw[aw]|skip
  clear aw;refine d _ _ ⟨λhf=>(by cases hf),?_⟩;refine Di (Z ?_);clear d K';go_wp2_with fail;have L8:=zh (show Lu h a E s P x2 x3 x6 0 S c b an (Lo P (Am E) (Am s) A6 A6 A6 (Am b) 0 0) cx f from⟨T8.o,a9.o,B8.o.1,B8.o.2,X8.o.1,X8.o.2⟩);clear T8 a9 B8 X8 G6 r
  go_loopg [35] 2 (λk i wr=>i=J O (2 - k:Nat)/\k<=2/\∃cw,Lu h a E s P x2 x3 x6 (2 - k) S c b an (Lo P (Am E) (Am s) A6 A6 A6 (Am b) 0 0) cw wr)
  case atStart=>exact⟨rfl,jS _,cx,L8.o⟩
  case round=>
   obtain⟨rfl,hk,cw,hL⟩:=hrel;have L:=zh hL;clear hL L8
   by_cases h0:gk=0
   ·subst h0;rw[mA]at L⊢;clear hk;have k0:=L.o.1.h2.m 0;obtain⟨g,M,l,D⟩:=Aq wr 95 [.func (.func 35) #[Am E] #[],.func (.func 36) #[] #[Am x6,Am S],.func (.func 38) #[] #[Am x2,Am x3,Am S],.func (.func 40) #[] #[Am x2,Am x3,Am S]];have aX:Ai g 1 (V (Bn ⟨wr.heap.size,0,AA⟩) 4 4) 4 ((PP E x2 x3 x6 S).map Es.val):=Ai.bn D rfl (by unfold maxLen;omega);have H:=L.o.1.grown l;have Q:=L.o.2.2.1.grown l Δ;have y9:=L.o.2.2.2.2.1.grown l Δ;have ci:=gO H.sd Ω (L.o.2.1.grown l) Q L.o.2.2.2.1 x2 x3 x6 S H.h2 H.h3 H.h6 y9 H.k2 H.k3 H.k6 L.o.2.2.2.2.2 (Bn ⟨wr.heap.size,0,AA⟩) 4 aX (λk hk=>by cases hk;exact L.o.1.sd.cl _ (jS _));have cj:=zh ci;have aI:=zh H.st;have C9:=zh (Y Q.lt (Y y9 (Y L.o.2.2.2.1 L.o.2.2.2.2.2)));clear l D aX H Q y9 ci;go_wp2_with fail;refine cj.o.mono ?_;rintro e ab ⟨rfl,ck,R,c4,A,N,cl,bC,cm⟩;clear cj k0 M;have c5:¬Kf 0:=Jj;have bD:=R.u C9.o.2.1 (by rw[C9.o.2.2.2];exact Jj)
    have cn:ck S=0:=by rw[R.ah _ C9.o.2.1.lt];exact C9.o.2.2.2
    have co:ck c=8:=by rw[R.ah _ C9.o.1];exact C9.o.2.2.1
    have c6:=zh (aI.o.trans (R.mono (Sc.mono (λj e=>Ω) Ω)));have c7:=zh cl;have aY:=zh (Y bC co);have bE:=zh (Y bD cn);have FR:=zh cm;have k0:=bD.m 0;have k1:=Aa.aq (j:=20) bC rfl;clear R c4 cl bC cm c5 bD cn co;go_wp2_with fail;refine(QT c7.o).mono ?_;rintro e cp ⟨⟨v,rfl⟩,dq,I,cq,cr,_⟩;have cs:=aY.o.1.ae I (by rw[aY.o.2];exact Nj);have bG:=I.u bE.o.1 (by rw[bE.o.2];exact EH);have c9:=zh (c6.o.trans (I.mono Lf));have da:=zh cq;have bH:=zh cs;have db:=zh bG;have GG:=zh cr;clear k0 k1 I cq cr cs;have k0:=bG.m 0;clear bG;go_wp2_with fail;refine(Re da.o Ω c 0 0 Ω bH.o (by rw[aY.o.2];exact Nj)).mono ?_;rintro e ct ⟨rfl,cu,dd,aZ,cv,ak,_⟩;have cy:=bH.o.ae aZ (by rw[aY.o.2];exact Nj);have cz:=aZ.u db.o (by rw[bE.o.2];exact EH)
    have cA:cu c=8:=by rw[aZ.ah _ (Aa.lt bH.o)];exact aY.o.2
    have gg:=GG.o.trans ak
    have aq:=zh (show∃A N c',Ab Ee h a ct c'/\Ca ct c' c A P 50000 0 0 N/\(∀y,N.F y=AA)/\N.aw=0/\(∃z,N.aO 0=AJ P.aI++z)from
     ⟨A,dd,cu,c9.o.trans (aZ.mono Lf),⟨cv.mono Ω,cy,cA,Ω⟩,λy=>by rw[gg.f];exact FR.o.f y,by rw[gg.la];exact FR.o.la,by
      obtain⟨z,hz⟩:=gg.bo 0
      exact⟨z,by rw[hz,FR.o.bo];rfl⟩⟩)
    clear k0 aZ cv ak cy cA gg;have k0:=cz.m 0;clear cz;go_wp2_with fail;obtain⟨A,N,c',h1,h2,h3,h4,h5⟩:=aq.o;exact Bd (results_tmp2 rfl _ _ _) rfl ⟨c,A,N,c',rfl,h1,h2,h3,h4,h5⟩
   ·obtain⟨i,hi⟩:=Ag (2 - gk);rw[hi]at L⊢;have di:i<2:=Ω;have t1:Bs ((i:Int)<2)=BA:=jT Ω;have t2:Bs (i<2)=BA:=jT di;have a0:Hd (i+1=2 - (gk - 1)/\gk - 1<=2/\gk - 1<gk/\i<2):=zh Ω;have dt:Hd (wrap64 ((i:Int)+1)=((i+1:Nat):Int)):=zh (De rfl Ω);clear hk h0 hi;go_wp2_with fail;refine Dg (λW=>W.cell? ⟨x2,0,AA⟩=Bn (Am E)/\W.cell? ⟨x3,1,AA⟩=Bn (J O P.n)) [([0,1,2,3],4,BA),([],5,Ax),([],6,Ax)] Φ Φ ?_;obtain⟨g,M,l⟩:=AZ wr;rw[M];have H:=zh (L.o.1.grown l);have G9:=zh l;clear M l;refine BU ⟨H.o.h2.m 0,H.o.h3.m 1⟩ ?_
    repeat(apply AB rfl Θ;(· intro wS m;(try have m:=m rfl);(try dsimp only at m);(try have k0:=m.1);(try have k1:=m.2);go_simp;(try with_reducible rfl));refine Ak ?_)
    refine Aj ?_;have dj:=Oi g P.n (Ψ HF.o.n1);refine AH rfl (λK' d=>?_);go_simp;obtain⟨ab,G,ax,F⟩:=Aq g 5 (Ao (AJ P.n));rw[G];have az:=zh (H.o.grown ax);have a1:=zh (Ae G9.o ax);have dk:g.heap.size<ab.heap.size:=F.lt;have aX:Ai ab 1 (V (Bn ⟨g.heap.size,0,AA⟩) P.n P.n) P.n (Ao (AJ P.n)):=Ai.bn F (by simp[Ao,AJ]) (by have:=HF.o.n1;unfold maxLen;omega);have dl:=HF.o.ec;have dm:P.aK=2+P.lg+P.rg*P.rs:=rfl;have dn:=HF.o.fR;have cD:=zh (QW E P.ss P.n i (λ_=>AJ P.n) i (AJ P.n) (Bn ⟨g.heap.size,0,AA⟩) P.n ab cw az.o.sd.bI az.o.sd.cl (Ψ a0.o) Ω Ω (Ei _) (λx hx=>by have:=lN hx;omega) aX (λk hk e=>by cases hk;have h1:=H.o.sd.cl _ (jS g.heap.size);rw[show g.heap.size=E from e]at h1;have h2:=aN az.o.sd.bI;omega));refine d _ _ ⟨λ_=>⟨az.o.h2.m 0,az.o.h3.m 1⟩,?_⟩;clear d K' dj G ax F dk aX dl dm dn;refine BG ?_;refine AH rfl (λK' d=>?_);go_simp;refine cD.o.mono ?_;rintro e cp ⟨rfl,cE,I,bJ⟩;rw[Za]at bJ;dsimp only
    have aq:=zh (show Lu h a E s P x2 x3 x6 (i+1) S c b an (Lo P (Am E) (Am s) A6 A6 A6 (Am b) 0 0) cE cp from
     ⟨az.o.ae I Ω (λj e=>CB Ω) ⟨(az.o.sd.bJ.ae I Ω Ω Ω).mono (lC _),bJ,I.new,az.o.sd.a1⟩,(L.o.2.1.grown a1.o).ae I Ω,I.u (L.o.2.2.1.grown a1.o Δ) (by rw[L.o.2.2.2.1];omega),by rw[I.ah _ (L.o.2.2.1.grown a1.o Δ).lt];exact L.o.2.2.2.1,I.u (L.o.2.2.2.2.1.grown a1.o Δ) (by rw[L.o.2.2.2.2.2];omega),by rw[I.ah _ (L.o.2.2.2.2.1.grown a1.o Δ).lt];exact L.o.2.2.2.2.2⟩)
    refine d _ _ ⟨λhf=>(by cases hf),?_⟩;clear d K' cD I bJ;refine BG ?_;refine AH rfl (λK' d=>?_);go_simp;refine d _ _ ⟨λhf=>(by cases hf),?_⟩;refine Di (Z ?_);clear d K';go_wp2_with fail
    go_roundg (gk - 1)
    case measure=>exact a0.o.2.2.1
    exact⟨by rw[<-a0.o.1,Int.natCast_add];rfl,a0.o.2.1,cE,by rw[<-a0.o.1];exact aq.o⟩
theorem iM{n q r s t:BC}(u:Aa h E l [g,o,p,n,q,r,s,t])(b c d e f i j m:BC):∃a,((((((((h.setCell ⟨E,0,AA⟩ b).setCell ⟨E,1,AA⟩ c).setCell ⟨E,2,AA⟩ d).setCell ⟨E,3,AA⟩ e).setCell ⟨E,4,AA⟩ f).setCell ⟨E,5,AA⟩ i).setCell ⟨E,6,AA⟩ j).setCell ⟨E,7,AA⟩ m)=a/\Aa a E l [b,c,d,e,f,i,j,m]/\Ac (λk=>k=E) h a:=
 ⟨_,rfl,((((((((u.setCell 0 _).setCell 1 _).setCell 2 _).setCell 3 _).setCell 4 _).setCell 5 _).setCell 6 _).setCell 7 _),((((((((AF _ _ _ _).trans (AF _ _ _ _)).trans (AF _ _ _ _)).trans (AF _ _ _ _)).trans (AF _ _ _ _)).trans (AF _ _ _ _)).trans (AF _ _ _ _)).trans (AF _ _ _ _))⟩
theorem Rf(w:A2):
  Bx A4 20 #[] w λe g=>e=A3 (CR #[J O 140,J O 96,J O 5,J O 4,J O 5,J O 3,J O 8,J BB 7])/\w.grownBy g AA:=by
 obtain⟨h,i,b,a⟩:=Aq w 37 [J O 0,J O 0,J O 0,J O 0,J O 0,J O 0,J O 0,J BB 0];have k:=a.v 0;have l:=a.m 0;have m:=a.v 1;have n:=a.m 1;have o:=a.v 2;have q:=a.m 2;have r:=a.v 3;have s:=a.m 3;have t:=a.v 4;have u:=a.m 4;have v:=a.v 5;have x:=a.m 5;have y:=a.v 6;have z:=a.m 6;have A:=a.v 7;have B:=a.m 7;obtain⟨C,D,c,d⟩:=iM a (J O 140) (J O 96) (J O 5) (J O 4) (J O 5) (J O 3) (J O 8) (J BB 7);have f:=zh (Y c (Ac.grown b d (λj e=>by rw[e];exact jS _)));clear c d a b
 go_enter Tryz.func20,Tryz.ntmps20
 go_wp2_with fail;exact Bd (results_cell_row (p:=0) (ty:=37) rfl _ _ w.heap.size _ _ _ _ rfl f.o.1 Tryz.underlying37 rfl Φ) rfl ⟨rfl,f.o.2⟩
end
section
open Go Go.RowKit
attribute [local go_sem ↓] Go.wp_at_zero Go.wp_at_succ
def KQ(k:Int):Nat:=(k%10).toNat
theorem aR(k:Int):(k.tmod 10+10).tmod 10=(KQ k:Int):=by
 unfold KQ;have a:0<=k%10:=Int.emod_nonneg _ Ω;have c:k%10<10:=Int.emod_lt_of_pos _ Ω;rw[Int.toNat_of_nonneg a]
 rcases Int.lt_or_le k 0 with h|h
 ·have b:k.tmod 10= -((-k)%10):=by
   rw[show k= -(-k) by omega,Int.neg_tmod,ln Ω];rw[Int.neg_neg]
  rw[b,ln Ω];omega
 ·rw[ln h,ln Ω];omega
theorem XI(k n:Int)(a b:ByteArray)(_h: -9223372036854775808<=k/\k<=9223372036854775807)(w:A2):
  Bx A4 12 #[CR #[J O k,J O n,BR a,BR b]] w λe i=>e=A3 (J O (KQ k:Nat))/\w.grownBy i AA:=by
 obtain⟨p,q,c,d⟩:=Aq w 48 [J O k,J O n,BR a,BR b];have r:=d.m 0;have f:=aR k
 have j: -10<k.tmod 10/\k.tmod 10<10:=by
  have s:=Int.tmod_lt_of_pos k (show(0:Int)<10 by omega);have t:=Int.lt_tmod_of_pos k (show(0:Int)<10 by omega);omega
 have g:wrap64 (k.tmod 10+10)=k.tmod 10+10:=BL _ Ω;have l:=zh c;have m:=zh f;have o:=zh g;clear c d _h j f g
 go_enter Tryz.func12,Tryz.ntmps12
 go_wp2_with fail;rw[o.o,m.o];go_ret;exact⟨rfl,l.o⟩
end
section
open Go Go.RowKit
attribute [local go_sem ↓] Go.wp_at_zero Go.wp_at_succ
structure CO where
 k:Int
 n:Int
 aN:ByteArray
 val:ByteArray
def CO.ad:CO:=⟨0,0,⟨#[]⟩,⟨#[]⟩⟩
instance:Inhabited CO:=⟨CO.ad⟩
def CO.cells(x:CO):List BC:=[J O x.k,J O x.n,BR x.aN,BR x.val]
def Je(l:List CO):List BC:=l.flatMap CO.cells
theorem Qw(a:List CO)(i:Nat)(x:CO)(b:a[i]?=Bn x):(Je a)[i*4]?=Bn (J O x.k)/\(Je a)[i*4+1]?=Bn (J O x.n)/\(Je a)[i*4+2]?=Bn (BR x.aN)/\(Je a)[i*4+3]?=Bn (BR x.val):=
 ⟨Eh CO.cells 4 (λ_=>rfl) a i 0 _ b Ω,Eh CO.cells 4 (λ_=>rfl) a i 1 _ b Ω,Eh CO.cells 4 (λ_=>rfl) a i 2 _ b Ω,Eh CO.cells 4 (λ_=>rfl) a i 3 _ b Ω⟩
def Em(x:CO):Bool:=Bs (x.aN.size<=100)&&Bs (x.val.size<=400)
def Ig(l:List CO)(a:Nat):Bool:=Bs (l.length<=a)&&l.all Em
theorem Xy(l:List CO)(d:Nat)(A:d<=1000000)(n:Nat)(t:l.length=n)(a:Option B0)(c:Nat)(w:A2)(h:Ai w 4 (V a n c) n (Je l)):
  Bx A4 6 #[V a n c,J O d] w λe Q=>e=A3 (Bk (Ig l d))/\w=Q:=by
 by_cases u:d<n
 ·have s:Bs ((n:Int)>(d:Int))=BA:=jT Ω;have B:Bs (d<n)=BA:=jT u;rw[show Ig l d=Ax by unfold Ig;rw[jV Ω,Bool.false_and]];clear h t A
  go_enter CX,CV
  go_wp2_with fail;go_ret;exact⟨rfl,rfl⟩
 ·have s:Bs ((n:Int)>(d:Int))=Ax:=jV Ω;have B:Bs (d<n)=Ax:=jV u
  have C:Ig l d=l.all Em:=by unfold Ig;rw[jT Ω,nS]
  rw[C];have R:=zh h;have D:=zh t;have S:=zh (show n<=1000000 by omega);clear h t A C u
  go_enter CX,CV
  go_wp2_with fail;clear s B
  go_loopg [5] n (λk i wr=>i=J O (n - k:Nat)/\k<=n/\wr=w/\l.all Em=(l.drop (n - k)).all Em)
  case atStart=>exact⟨Δ,jS _,rfl,by rw[lU];rfl⟩
  case round=>
   obtain⟨rfl,E,rfl,j⟩:=hrel
   by_cases F:gk=0
   ·subst F;rw[mA]at j⊢;have s:Bs ((n:Int)<(n:Int))=Ax:=Δ;have T:=zh (show l.all Em=BA by rw[j,mY (by rw[D.o];exact jS _)];rfl);clear E j;go_wp2_with fail;go_ret;exact⟨by rw[T.o];exact rfl,rfl⟩
   ·obtain⟨i,G⟩:=Ag (n - gk);rw[G]at j⊢;have U:i<n:=Ω;have s:Bs ((i:Int)<(n:Int))=BA:=jT Ω;obtain⟨x,v⟩:∃x,l[i]?=Bn x:=⟨_,jW (by rw[D.o];exact U)⟩;obtain⟨b,o,rfl,y⟩:=R.o.aZ Ω;obtain⟨W,X,H,I⟩:=Qw l i x v;have K:=y _ _ H;have L:=y _ _ I;simp only[<-lw]at K L
    have M:l.drop i=x::l.drop (i+1):=by
     obtain⟨Y,rfl⟩:=jX.1 v;exact nE Y
    have z:=zh (show l.all Em=(Em x&&(l.drop (i+1)).all Em) by rw[j,M];rfl);have p:Hd (i+1=n - (gk - 1)/\gk - 1<=n/\gk - 1<gk/\i<1000000):=zh (Ψ S.o);have Z:Hd (wrap64 ((i:Int)+1)=((i+1:Nat):Int)):=zh (by rw[BL _ (Ψ p.o.2.2.2)];omega);obtain⟨xk,xn,f,m⟩:=x;dsimp only at K L;clear y W X H I M v G E F j
    rcases(show¬f.size<=100\/(f.size<=100/\¬m.size<=400)\/(f.size<=100/\m.size<=400) by omega)with g|⟨g,q⟩|⟨g,q⟩
    ·have N:Bs ((f.size:Int)>100)=BA:=jT Ω;have P:100<f.size:=Ω;have r:=zh (show l.all Em=Ax by rw[z.o];unfold Em;dsimp only;rw[jV g];rfl);clear g;go_wp2_with fail;go_ret;exact⟨by rw[r.o];exact rfl,rfl⟩
    ·have N:Bs ((f.size:Int)>100)=Ax:=jV Ω;have P:¬100<f.size:=Ω;have t3:Bs ((m.size:Int)>400)=BA:=jT Ω;have t4:400<m.size:=Ω;have r:=zh (show l.all Em=Ax by rw[z.o];unfold Em;dsimp only;rw[jV q,qb];rfl);clear g q;go_wp2_with fail;go_ret;exact⟨by rw[r.o];exact rfl,rfl⟩
    ·have N:Bs ((f.size:Int)>100)=Ax:=jV Ω;have P:¬100<f.size:=Ω;have t3:Bs ((m.size:Int)>400)=Ax:=jV Ω;have t4:¬400<m.size:=Ω;have r:=zh (show l.all Em=(l.drop (i+1)).all Em by rw[z.o];unfold Em;dsimp only;rw[jT g,jT q];rfl);clear g q;go_wp2_with fail
     go_roundg (gk - 1)
     case measure=>exact p.o.2.2.1
     exact⟨by rw[<-p.o.1,Z.o],p.o.2.1,rfl,by rw[<-p.o.1];exact r.o⟩
end
section
open Go Go.RowKit
attribute [local go_sem ↓] Go.wp_at_zero Go.wp_at_succ
structure Bc where
 aN:ByteArray
 val:ByteArray
 cF:Bool
 en:Nat
 wh:Nat
 lo:Nat
def Jo(a b:ByteArray):Bool:=a.toList==b.toList
def DL(l:List Bc)(a:ByteArray):Nat->Option Nat
 |0=>AA
 |k+1=>match l[k]? with
  |some x=>if Jo x.aN a then Bn k else DL l a k
  |none=>DL l a k
def I6(t:Nat)(x:Bc):Bool:=Bs (x.en≠0/\x.en<=t)
end
