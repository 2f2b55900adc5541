/- Lemmas. -/
import Derived.Test.YtcedibmdelehdaaGreatDoorG43
namespace Go.Proofs.YtcedibmdelehdaaGreatDoor
set_option maxRecDepth 100000
set_option maxHeartbeats 32000000
open Go.Value renaming slice->J,int->O,bool->Bd,tuple->Bn,pointer->Bx
open Go.IntKind renaming i64->V,u64->Bs
open Go.NoPanic renaming normal->Y
open And renaming intro->Z
open Bool renaming false->Ax,true->Bk
open Go.Ending renaming returned->AA
open Go.Proofs.Tryz renaming prog->A2,underlying130->BD,ntmps52->BL,ntmps26->BR,func52->B0,func26->CA
open Go renaming World->A3,bodyPost_ret->A5,Calls->A7,results_tmp3->BA,Value->BB,Addr->BC
open Option renaming none->A4,some->A6
open Or renaming inl->BE,inr->BZ
variable{f q s:A3}{h c d g l p:Nat}{E t:Ae}{a:Pl}{b r:List Nat}{e:Int->List Nat}{i n o:BB}{j:BitVec 64}{k:Az}
section
open Go Go.RowKit
attribute [local go_sem ↓] Go.wp_at_zero Go.wp_at_succ
theorem Li:¬Bi 210:=by rintro(h|h)<;>omega
structure Lz(P:Pl)(N a:Az)(h:BitVec 64)(b:List Nat)(d e:Nat):Prop where
 la:a.aw=BW P N.aw N.aR b.length
 bo:a.aR=Cv (Ef P N.aw N.aR b.length) (BW P N.aw N.aR b.length) b
 fr:a.fr=N.fr
 nx:a.nx=N.nx
 go:∃c:Bool,e=d+(if c then 1 else 0)/\Jk N.F a.F (IM P N h b.length)/\(c=Ax->GT N.F a.F (CM P a.aw) (IM P N h b.length))
abbrev Nx(P:Pl)(N:Az)(h:BitVec 64)(n:Nat):BG:=⟨Ax,h,BW P N.aw N.aR n,(Ef P N.aw N.aR n (BW P N.aw N.aR n)).length,n⟩
structure Ih(w:A3)(g:Ae)(c:Nat)(A:AI)(P:Pl)(q t h:Nat)(N:Az)(e:Nat)(r a n:Nat)(f:Nat)(i:Option BC)(j:Nat)(d:List Nat)(b:Ae)(W:A3):Prop where
 ca:Ca W b c A P q t h N
 st:Ad (CU 211) w g W b
 x6:Aa W e 130 [Bd Ax,O Bs 0,O V 0,O V 0,O V 0]
 x8:Aa W f 128 [O V r,O V a,O V n]
 ky:Ag W 1 (J i d.length j) d.length (Ar d)
 c6:b e=210
 c8:b f=0
theorem Ih.u{A:AI}{N:Az}{j n k:Nat}{m:Option BC}{o:Nat}(e:Ih f E h A a c d g N l p j n k m o b t q)(i:q.grownBy s A4):Ih f E h A a c d g N l p j n k m o b t s:=
 ⟨e.ca.u i,e.st.trans (Ad.u e.ca.p.cl i),e.x6.u i Δ,e.x8.u i Δ,e.ky.u i Δ,e.c6,e.c8⟩
def MB(w:A3)(i:Ae)(c:Nat)(A:AI)(P:Pl)(q t d:Nat)(N:Az)(h:BitVec 64)(b:List Nat)(e:A3):Prop:=
 ∃f g a,Ad (CU 211) w i e f/\Ca e f c A P (q+70100) t a g/\Lz P N g h b d a/\a<=d+1
theorem Ih.gd{A:AI}{N m:Az}{o:Ae}{lo':Nat}{n:Bool}(r:Ad (CU 211) q t s o)(u:Ad (CU 211) s o f E)(l:Ca f E h A a (c+40+70000) d lo' m)(v:N.bK a b e=k)(i:UU k m (IM a N j b.length) (CM a k.aw) n)(p:lo'=g+(if n then 1 else 0)):MB q t h A a c d g N j b f:=by
 subst v;refine⟨E,m,lo',r.trans u,⟨l.p.mono Ω,l.b,l.c,l.t⟩,⟨i.la,i.bo,i.fr,i.nx,n,p,i.gx,λw=>?_⟩,by rw[p];split<;>omega⟩;rw[i.la];exact i.lx w
theorem Xp{A:AI}{N:Az}(y:Ca f E g A a c d h N)(hq:c<=1073500000)(br:h<=1000000000)(u:List Nat)(F:Option BC)(G:Nat)(bs:∀x∈u,x<256)(bt:Ag f 1 (J F u.length G) u.length (Ar u))(aR:∀k,(J F u.length G).ownBlock=A6 k->E k=0/\k<f.heap.size)
  (b:List Nat)(ba:Option BC)(bc:Nat)(bu:0<b.length)(aS:b.length<=a.aA)(bv:∀x∈b,x<256)(bw:b.length<=bc)(bx:Ag f 1 (J ba b.length bc) b.length (Ar b))(al:∀k,(J ba b.length bc).ownBlock=A6 k->E k=0/\k<f.heap.size)
  (r q n kn:Nat)(hr:BW a N.aw N.aR b.length=r)(ha:(Ef a N.aw N.aR b.length (BW a N.aw N.aR b.length)).length=q)(hn:b.length=n)(bA:u.length=kn)(t:BitVec 64)(bB:Co a.aK u=t):
  A7 A2 73 #[Ak g,J F kn G,J ba n bc] f λe w'=>
   e=AA (Bn #[.agg #[Bd Ax,O Bs (U t),O V r,O V q,O V n],O V 0])/\MB f E g A a c d h N t b w':=by
 obtain⟨w1,aV,g1,b1⟩:=An f 130 [Bd Ax,O Bs 0,O V 0,O V 0,O V 0];obtain⟨aJ,aK⟩:=Af (AN E f.heap.size 210)
 have s1:Ad (λj=>j=210) f E w1 aJ:=by rw[<-aK];exact Cl y.p.cl g1 (jF _) b1.lt rfl
 have h1:=y.ag s1 (λj e=>Ω)
 have aY:∀k,k<f.heap.size->aJ k=E k:=λk I=>by rw[<-aK];exact Bz _ _ Ω
 have H:=zh h1;have S1:=zh (s1.mono (λj e=>show CU 211 j from BZ Ω));have HQ:=zh hq;have cd:=zh br;have HK:=zh (Z bs (Z (bt.u g1 Δ) (λk I=>show aJ k=0 by rw[aY k (aR k I).2];exact(aR k I).1)));have B1:=zh b1;have G1:=zh g1;have HZ:Hd (aJ f.heap.size=210):=zh (by rw[<-aK];exact A0 _ _ _);have a0:=Zs h1.p Ω ba bc b bu aS bv bw (bx.u g1 Δ) (λk I=>by rw[aY k (al k I).2];exact(al k I).1);have ce:=Aa.ap (j:=19) h1.b rfl
 have bE:IM a N t b.length=⟨t,(r:Nat),(q:Nat),(n:Nat)⟩:=by unfold IM;rw[hr]at ha⊢;rw[ha,hn]
 have ER:=zh (λ(w':A3) (c':Ae) (cg:Int->List Nat) (k:AM w' c' A a (c+40) (N.bK a b cg))=>Ys h1.p Ω t aS k);have bG:=zh bE;rw[ha,hr,hn]at a0;have bH:=zh a0;have bI:=zh bB;have bJ:=zh bA;clear hr ha hn a0 bE y hq br bs bt aR bu aS bv bw bx al g1 b1 bB bA aK s1 h1 aY
 go_enter Tryz.func73,Tryz.ntmps73
 go_wp2_with fail;clear aV;refine bH.o.mono ?_;rintro e w2 ⟨rfl,S,bK,s2,p2⟩;clear bH ce;obtain⟨N2,a1⟩:=Af (N.bK a b bK);have er:=ER.o w2 S bK p2;rw[a1]at p2;rw[bG.o]at er;have bL:=zh a1;have ch:=zh er;obtain⟨w3,ci,g3,L⟩:=An w2 128 [O V 0,O V 0,O V 0];obtain⟨w4,cj,b4,t4⟩:=Bq L (O V r) (O V q) (O V n);have X:=L.v 0;have f1:=L.v 1;have f2:=L.v 2;have v0:=L.m 0;have v1:=L.m 1;have v2:=L.m 2;have g4:=Ac.u g3 t4 (λj e=>by rw[e];exact jF _);have aO:=H.o.next s2 p2;have T4:Hd (Ih f E g A a (c+40) d h N2 f.heap.size r q n w2.heap.size F G u S w4):=zh ⟨aO.u g4,(S1.o.trans (s2.mono (IE Ω))).trans (Ad.u aO.p.cl g4),(s2.y B1.o (by rw[HZ.o];exact Li)).u g4 Δ,b4,(s2.aN HK.o.2.1 (λk I=>by rw[HK.o.2.2 k I];exact DR)).u g4 Δ,by rw[s2.ak _ B1.o.lt];exact HZ.o,aO.p.cl _ (jF _)⟩;clear er a1 g3 L b4 t4 g4 aO s2 p2 ER B1
 go_upto_region 4 with fail
 clear ci cj X f1 f2 v0 v1 v2;generalize w2.heap.size=b8 at*
 go_cut [10] (λck wx=>∃v,ck=Bx (A6 ⟨v,0,A4⟩)/\Ih f E g A a (c+40) d h N2 f.heap.size r q n b8 F G u S wx/\Aa wx v 130 [Bd Ax,O Bs (U t),O V r,O V q,O V n]/\S v=0)
 case first=>
  refine AS (λW=>Aa W b8 128 [O V r,O V q,O V n]) (.bN [0,1,3] 2 Bk (.am [4] [] 5 Bk (.am [] [] 6 Ax (.nil))) 5 Bk (.am [] [] 2 Bk (.am [] [4] 6 Ax (.nil)))) Φ Φ ?_;obtain⟨w5,ay,g5⟩:=AP w4;rw[ay];have T5:=zh (T4.o.u g5);clear ay g5;refine DK T5.o.x8 ?_
  iterate 3 ((apply AC rfl Θ;(· intro wS m;(try have m:=m rfl);(try dsimp only at m);(try(have x0:=m.m 0;have x1:=m.m 1;have x2:=m.m 2));go_simp;(try with_reducible rfl)));refine Al ?_)
  refine Aj ⟨?_,?_⟩
  ·have ag:=Mr T5.o.ca.b u F G HK.o.1 T5.o.ky;rw[bI.o,bJ.o]at ag;refine Am ?_;intro K i;refine ag.mono ?_;rintro e w6 ⟨rfl,C⟩;have o:=zh (T5.o.u C);clear ag C;dsimp only;refine i _ _ ⟨_,λ_ y=>y,λ_=>o.o.x8,?_⟩;clear i K;refine Al ?_;refine Dz o.o.x8 ?_
   iterate 1 ((apply AC rfl Θ;(· intro wS m;(try have m:=m rfl);(try dsimp only at m);go_simp;(try with_reducible rfl)));refine Al ?_)
   refine Aj ?_;refine Aj ?_;refine Am ?_;intro K i;obtain⟨w7,bS,M,l⟩:=An w6 130 [Bd Ax,O Bs 0,O V 0,O V 0,O V 0];rw[bS];have T7:=zh (o.o.u M);refine i _ _ ⟨_,λ_ y=>y,λ_=>T7.o.x8,?_⟩;clear i K;refine Al ?_;refine Ap ?_;refine Aj ?_;obtain⟨P,aq,ah,Q⟩:=FM l (Bd Ax) (O Bs (U t)) (O V r) (O V q) (O V n);have X:=l.v 0;have f1:=l.v 1;have f2:=l.v 2;have f3:=l.v 3;have f4:=l.v 4;have v0:=l.m 0;have v1:=l.m 1;have v2:=l.m 2;have v3:=l.m 3;have v4:=l.m 4;have g8:=Ac.u M Q (λj e=>by rw[e];exact jF _);have ai:=zh (show∃v,Bx (A6 ⟨w6.heap.size,0,A4⟩)=Bx (A6 ⟨v,0,A4⟩)/\Ih f E g A a (c+40) d h N2 f.heap.size r q n b8 F G u S P/\Aa P v 130 [Bd Ax,O Bs (U t),O V r,O V q,O V n]/\S v=0 from⟨_,rfl,o.o.u g8,ah,o.o.ca.p.cl _ (jF _)⟩);refine Am ?_;intro K i;clear X f1 f2 f3 f4 v0 v1 v2 v3 v4 aq ah Q g8 bS M l;refine Aq i ?_;clear i K;refine AG (Y ?_);go_wp2_with fail
   go_meet
   exact ai.o
  ·refine Am ?_;intro K i;obtain⟨w6,bU,C,b6⟩:=An w5 130 [Bd Ax,O Bs 0,O V 0,O V 0,O V 0];rw[bU];have o:=zh (T5.o.u C);have C6:Hd (S w5.heap.size=0):=zh (T5.o.ca.p.cl _ (jF _));have B6:=zh b6;have G6:=zh C;clear bU C b6;refine i _ _ ⟨_,λ_ y=>y,λ_=>o.o.x8,?_⟩;clear i K;refine Al ?_;refine Ap ?_;refine Aj ?_;have ag:=Mr o.o.ca.b u F G HK.o.1 o.o.ky;rw[bI.o,bJ.o]at ag;refine Am ?_;intro K i;refine ag.mono ?_;rintro e w7 ⟨rfl,M⟩;have T7:=zh (o.o.u M);have l:=B6.o.u M Δ;have G7:=zh (Ab G6.o M);clear ag M;dsimp only;refine i _ _ ⟨_,λ_ y=>y,λ_=>T7.o.x8,?_⟩;clear i K;refine Al ?_;refine Ap ?_;have x0:=T7.o.x8.m 0;have x1:=T7.o.x8.m 1;have x2:=T7.o.x8.m 2;refine Av ?_;refine Aj ?_;clear x0 x1 x2;obtain⟨P,aq,ah,Q⟩:=FM l (Bd Ax) (O Bs (U t)) (O V r) (O V q) (O V n);have X:=l.v 0;have f1:=l.v 1;have f2:=l.v 2;have f3:=l.v 3;have f4:=l.v 4;have v0:=l.m 0;have v1:=l.m 1;have v2:=l.m 2;have v3:=l.m 3;have v4:=l.m 4;refine Am ?_;intro K i;clear X f1 f2 f3 f4 v0 v1 v2 v3 v4 aq;refine Aq i ?_;clear i K;refine AG (Y ?_);go_wp2_with fail
   go_meet
   exact⟨_,rfl,T5.o.u (Ac.u G7.o Q (λj e=>by rw[e];exact jF _)),ah,C6.o⟩
 case rest=>
  obtain⟨v,rfl,hT,hb,al⟩:=hcut;have T:=zh hT;have B:=zh hb;have bY:=zh al;clear hT hb al T4;go_wp2_with fail;refine Dc (λW=>wc.grownBy W A4) [([0,1,2,3,4,5,6,7,8,9,10,11],12,Bk),([],13,Ax),([14,15,16,17],18,Ax)] Φ Φ ?_;obtain⟨w5,ay,g5⟩:=AP wc;rw[ay];have G5:=zh g5;clear ay g5;refine Cc G5.o ?_
  repeat(apply AC rfl Θ;(· intro wS m;(try have m:=m rfl);(try dsimp only at m);(try have kW:=(T.o.ca.u m).b);(try have kx:=Aa.ap (j:=18) kW rfl);(try have kg:=Aa.ap (j:=19) kW rfl);(try have k8:=T.o.x8.u m Δ);(try have x0:=k8.m 0);(try have x1:=k8.m 1);(try have x2:=k8.m 2);(try have kb:=(B.o.u m Δ).m 1);go_simp;(try with_reducible rfl));refine Al ?_)
  refine Aj ?_
  have bd:∀W,wc.grownBy W A4->A7 A2 48 #[Ak A.g] W λe w'=>e=AA (O V (CM a N2.aw:Nat))/\W.grownBy w' A4:=λW be=>by
   obtain⟨rv,rp,r1,r2⟩:=(T.o.ca.u be).p.r;exact NV r1 T.o.ca.p.a2 (by have:=T.o.ca.p.n.la;have:=HQ.o;omega)
  have bf:=zh (λ(W:A3) (be:wc.grownBy W A4)=>fq (T.o.ca.u be).p (Ψ HQ.o) ⟨t,(r:Nat),(q:Nat),(n:Nat)⟩ ch.o (CM a N2.aw:Nat));obtain⟨ol,bg⟩:=Af (CM a N2.aw);rw[bg]at bd bf;have cp:=zh bg;refine AE rfl (λK' i=>?_);go_simp;refine(bd _ G5.o).mono ?_;rintro e w6 ⟨rfl,C⟩;have G6:=zh (Ab G5.o C);clear bd C bg;dsimp only;refine i _ _ ⟨λ_=>G6.o,?_⟩;clear i K';refine Bt ?_;refine AE rfl (λK' i=>?_);go_simp;refine(bf.o _ G6.o).mono ?_;rintro e w7 ⟨cq,rfl,z,N7,s7,p7,px⟩;dsimp only;have o:=T.o.u G6.o;have b2:=o.ca.next s7 p7;have R:=zh (show Aa w7 v 130 _/\z v=0 from⟨s7.y (B.o.u G6.o Δ) (by rw[bY.o];exact DR),by rw[s7.ak _ (B.o.u G6.o Δ).lt];exact bY.o⟩);have s:=zh (show Aa w7 f.heap.size 130 _/\z f.heap.size=210 from⟨s7.y o.x6 (by rw[o.c6];exact Li),by rw[s7.ak _ o.x6.lt];exact o.c6⟩);have b3:=zh (o.st.trans (s7.mono (IE Ω)));have D:=zh b2;rw[<-bG.o, <-cp.o]at px;have PX:=zh px;clear s7 p7 px o b2 bf;refine i _ _ ⟨λhf=>(by cases hf),?_⟩;clear i K';refine Mg Θ ?_
  repeat(apply AC rfl Θ;(· intro wS m;go_simp;(try with_reducible rfl));refine Al ?_)
  refine Aj ?_;refine AE rfl (λK' i=>?_);go_simp;refine i _ _ ⟨λhf=>(by cases hf),?_⟩;refine De (Y ?_);clear i K'
  cases cq
  ·have z0:=R.o.1.m 0;have z1:=R.o.1.m 1;have z2:=R.o.1.m 2;have z3:=R.o.1.m 3;have z4:=R.o.1.m 4;have X:=s.o.1.v 0;have v0:=s.o.1.m 0;have f1:=s.o.1.v 1;have v1:=s.o.1.m 1;have f2:=s.o.1.v 2;have v2:=s.o.1.m 2;have f3:=s.o.1.v 3;have v3:=s.o.1.m 3;have f4:=s.o.1.v 4;have v4:=s.o.1.m 4;go_wp2_with fail;obtain⟨w9,bk,b9,t9⟩:=FM s.o.1 (Bd Ax) (O Bs (U t)) (O V r) (O V q) (O V n);rw[bk];have s9:Ad (λj=>j=210) w7 z w9 z:=AL D.o.p.cl t9 (λj e=>by rw[e];exact s.o.2);have ai:=zh (Z b9 (Ih.gd (lo':=h) b3.o (s9.mono (λj e=>BZ Ω)) (D.o.ag s9 (λj e=>Ω)) bL.o PX.o rfl));exact A5 (BQ (p:=6) (t:=7) (ty:=130) rfl _ _ f.heap.size _ _ _ _ rfl ai.o.1 BD rfl Φ) rfl ⟨rfl,ai.o.2⟩
  ·have cw:=Aa.ap (j:=23) D.o.b rfl;have cx:=Aa.v D.o.b 23
   have b7:wrap64 ((h:Int)+1)=((h+1:Nat):Int):=by rw[IntWalk.wrap64_in _ (Ψ cd.o)];omega
   obtain⟨l1,bn⟩:=Af (h+1)
   have aV:wrap64 ((h:Int)+1)=(l1:Int):=by rw[<-bn];exact b7
   have cy:Hd (l1=h+1):=zh bn.symm;clear b7 bn
   go_upto_region 8 with fail
   obtain⟨P,aq,ah,Q⟩:=D.o.b.iC l1;rw[aq];have bo:=D.o.bj ah Q D.o.t;have s8:Ad (λj=>j=8) w7 z P z:=AL D.o.p.cl Q (λj e=>by rw[e];exact D.o.c);have X8:=zh (show Aa P v 130 _/\z v=0 from⟨s8.y R.o.1 (by rw[R.o.2];omega),R.o.2⟩);have w:=zh (show Aa P f.heap.size 130 _/\z f.heap.size=210 from⟨s8.y s.o.1 (by rw[s.o.2];omega),s.o.2⟩);have C8:=zh bo.2;have S8:=zh (bo.1.mono (λj e=>show CU 211 j from BE Ω));clear cw cx aV aq ah Q bo s8;have z0:=X8.o.1.m 0;have z1:=X8.o.1.m 1;have z2:=X8.o.1.m 2;have z3:=X8.o.1.m 3;have z4:=X8.o.1.m 4;have X:=w.o.1.v 0;have v0:=w.o.1.m 0;have f1:=w.o.1.v 1;have v1:=w.o.1.m 1;have f2:=w.o.1.v 2;have v2:=w.o.1.m 2;have f3:=w.o.1.v 3;have v3:=w.o.1.m 3;have f4:=w.o.1.v 4;have v4:=w.o.1.m 4;go_wp2_with fail;obtain⟨w9,bk,b9,t9⟩:=FM w.o.1 (Bd Ax) (O Bs (U t)) (O V r) (O V q) (O V n);rw[bk];have s9:Ad (λj=>j=210) P z w9 z:=AL C8.o.p.cl t9 (λj e=>by rw[e];exact w.o.2);have ai:=zh (Z b9 (Ih.gd (lo':=l1) b3.o (S8.o.trans (s9.mono (λj e=>BZ Ω))) (C8.o.ag s9 (λj e=>Ω)) bL.o PX.o cy.o));exact A5 (BQ (p:=6) (t:=7) (ty:=130) rfl _ _ f.heap.size _ _ _ _ rfl ai.o.1 BD rfl Φ) rfl ⟨rfl,ai.o.2⟩
theorem Z7{A:AI}{N:Az}(o:Ca f E h A a c g d N)(p:c<=1073500000)(q:d<=1000000000)(i:List Nat)(l:Option BC)(m:Nat)(r:∀x∈i,x<256)(s:Ag f 1 (J l i.length m) i.length (Ar i))(t:∀k,(J l i.length m).ownBlock=A6 k->E k=0/\k<f.heap.size)
  (b:List Nat)(n:Option BC)(j:Nat)(u:0<b.length)(v:b.length<=a.aA)(w:∀x∈b,x<256)(y:b.length<=j)(z:Ag f 1 (J n b.length j) b.length (Ar b))(B:∀k,(J n b.length j).ownBlock=A6 k->E k=0/\k<f.heap.size):
  A7 A2 73 #[Ak h,J l i.length m,J n b.length j] f λe C=>
   e=AA (Bn #[(Nx a N (Co a.aK i) b.length).val,O V 0])/\MB f E h A a c g d N (Co a.aK i) b C:=
 Xp o p q i l m r s t b n j u v w y z B _ _ _ _ rfl rfl rfl rfl _ rfl
end
section
open Go Go.RowKit
attribute [local go_sem ↓] Go.wp_at_zero Go.wp_at_succ
section
variable {w:World} {col:Ae} {A:AI} {P:Pl} {q:Nat} {N:Az}
theorem AM.g4{e:Ending}(h:AM w col A P q N)(c:Pt w col A.l A.d P N.fr N.nx q N.ct e f):e=AA (O V 0)/\CY w col A P q N 1 f:=by
 obtain⟨rfl,d,a,g,i,s,m,n,k,l,b⟩:=c;exact⟨rfl,d,{N with nx:=a,ct:=g,t0:=i},s.mono (λj e=>by unfold Hb at e;exact BE Ω),⟨h.fo s (λj e=>by unfold Hb;omega) l b.ew (j9 _),(h.r.ag s (by unfold Hb;omega)).dk h.a2 b.ei,k,h.t.ag s (by unfold Hb;omega),⟨h.n.g1,by have:=h.n.g2;show N.bY<=_;omega,by have:=h.n.sp;show N.dC<=_;omega,h.n.f1,by have:=h.n.f2;show N.fr<=a;omega,by have:=h.n.f3;show a<=_;omega,by have:=h.n.la;show N.aw<=_;omega⟩⟩,⟨rfl,rfl,(Bj.refl N).bo⟩⟩
theorem Up(h:AM w col A P q N)(j:q<=1073700000)(b:0<Cy P N.fr N.nx)(x:BG)(c:x.ok)(t:Nat)(d:t<=281474976710656):
  A7 A2 65 #[Ak A.l,x.val,O V t] w λe a=>e=AA (O V 0)/\CY w col A P q N 1 a:=by
 obtain⟨k,l,f,g⟩:=h.l;exact(dH f g h.sd.bH h.cl h.a2 Ω h.n.f2 (Ψ h.n.f3) b x c t d).mono (λe a i=>h.g4 i)
theorem YS(h:AM w col A P q N)(i:q<=1073700000)(b:0<Cy P N.fr N.nx)(t:Nat)(c:t<=281474976710656):
  A7 A2 100 #[Ak A.l,O V t] w λe a=>e=AA (O V 0)/\CY w col A P q N 1 a:=by
 obtain⟨j,k,d,f⟩:=h.l;exact(XG d f h.sd.bH h.cl h.a2 Ω h.n.f2 (Ψ h.n.f3) b t c).mono (λe a g=>h.g4 g)
theorem fX(h:AM w col A P q N)(r:q<=1073600000)(x:BitVec 64):
  A7 A2 63 #[Ak A.X,O Bs (U x)] w λe c=>∃f,e=AA (Bn #[Bd f,O V 0])/\∃b a,Ad Bi w col c b/\AM c b A P (q+1300) a/\a.aw=N.aw/\a.aR=N.aR/\a.fr=N.fr/\a.nx=N.nx/\∀h,a.F h=if h=x then A4 else N.F h:=by
 refine(YV h.x Ω x).mono ?_;rintro e c ⟨rfl,b,g,i,k,l,m,n,s,o,p,hF⟩
 have d:∀j,j=4\/j=5\/j=9->¬DO 200 j:=λj t e=>by rcases e with e|e<;>omega
 exact⟨_,rfl,b,{N with d3:=k,pg:=g,ct:=i,T:=l,L:=m,B:=n},s.mono (Sc.mono (λj e=>Ω) (jF _)),⟨o,(h.r.ag s (d _ Ω)).dk h.a2 p.ei,h.l.ag s (d _ Ω),h.t.ag s (d _ Ω),⟨h.n.g1,by have:=h.n.g2;show N.bY<=_;omega,by have:=h.n.sp;show N.dC<=_;omega,h.n.f1,h.n.f2,by have:=h.n.f3;show N.nx<=_;omega,by have:=h.n.la;show N.aw<=_;omega⟩⟩,rfl,rfl,rfl,rfl,hF⟩
end
theorem cH{A:AI}{N:Az}(i:AM f E A a h N)(k:h<=1073700000)(l:0<Cy a N.fr N.nx)(c t w:Nat)(m:t<=281474976710656)(n:Ce f c A a t w)(o:Nat)(q:Aa f o 31 [Ak c]):
  A7 A2 99 #[Ak o] f λe x=>e=AA (O V 0)/\CY f E A a h N 1 x:=by
 have H:=zh i;have y:=zh (λ(W:A3) (g:f.grownBy W A4)=>YS (i.u g) k l t m);have r:=zh n;have z:=zh q;clear i k l m n q
 go_enter Tryz.func99,Tryz.ntmps99
 go_wp2_with fail;refine AS (λ_=>True) (.am [] [0,1,2,3,4,5,6,7] 8 Ax (.am [] [] 9 Ax (.nil))) Φ Φ ?_;obtain⟨B,u,b⟩:=AP f;rw[u];have C:=(z.o.u b Δ).m 0;have D:=Aa.ap (j:=20) (r.o.u b) rfl;have F:=Aa.ap (j:=22) (r.o.u b) rfl;have v:=zh b;clear u b;refine Ap ?_
 iterate 8 refine Av ?_
 refine Aj ?_;clear C D F;refine Am ?_;intro K d;refine(y.o B v.o).mono ?_;rintro e G ⟨rfl,I,J,s,p,g⟩;have L:=zh (show CY f E A a h N 1 G from⟨I,J,(Ad.u H.o.cl v.o).trans s,p,g⟩);clear s p g;dsimp only;refine Aq d ?_;clear d K;refine Ap ?_;refine Aj ?_;refine Am ?_;intro K d;refine Aq d ?_;clear d K;refine AG (Y ?_);go_wp2_with fail;go_ret;exact⟨rfl,L.o⟩
theorem ah{A:AI}{N:Az}(k:AM f E A a h N)(o:h<=1073700000)(q:0<Cy a N.fr N.nx)(c t I:Nat)(u:t<=281474976710656)(v:Ce f c A a t I)(x:BG)(w:x.ok)(y z:Nat)(B:Aa f y 31 [Ak c])(C:Aa f z 130 x.cells):
  A7 A2 74 #[Ak y,Ak z] f λe J=>e=AA (O V 0)/\CY f E A a h N 1 J:=by
 have H:=zh k;have l:=zh (λ(W:A3) (g:f.grownBy W A4)=>Up (k.u g) o q x w t u);have D:=zh v;have L:=zh B;have m:=zh C;obtain⟨dr,hh,r,ag,n⟩:=x;clear k o q u v w B C;unfold BG.cells at m;unfold BG.val at l;dsimp only at m l
 go_enter Tryz.func74,Tryz.ntmps74
 go_wp2_with fail;refine AS (λ_=>True) (.am [] [0,1,2,3,4,5,6,7,8] 9 Ax (.am [] [] 10 Ax (.nil))) Φ Φ ?_;obtain⟨M,F,b⟩:=AP f;rw[F];have P:=(L.o.u b Δ).m 0;have Q:=Aa.ap (j:=20) (D.o.u b) rfl;have R:=Aa.ap (j:=22) (D.o.u b) rfl;have d:=m.o.u b Δ;have S:=d.m 0;have T:=d.m 1;have U:=d.m 2;have X:=d.m 3;have Z:=d.m 4;have G:=zh b;clear F b d;refine Ap ?_
 iterate 9 refine Av ?_
 refine Aj ?_;clear P Q R S T U X Z;refine Am ?_;intro K i;refine(l.o M G.o).mono ?_;rintro e w2 ⟨rfl,c',N',s,p,g⟩;have ad:=zh (show CY f E A a h N 1 w2 from⟨c',N',(Ad.u H.o.cl G.o).trans s,p,g⟩);clear s p g;dsimp only;refine Aq i ?_;clear i K;refine Ap ?_;refine Aj ?_;refine Am ?_;intro K i;refine Aq i ?_;clear i K;refine AG (Y ?_);go_wp2_with fail;go_ret;exact⟨rfl,ad.o⟩
theorem YY{A:AI}{N:Az}(i:AM f E A a h N)(l:h<=1073700000)(m:0<Cy a N.fr N.nx)(c t B:Nat)(n:t<=281474976710656)(o:Ce f c A a t B)(q:BitVec 64)(r u:Nat)(v:Aa f r 31 [Ak c])(w:Aa f u 22 [O Bs (U q)]):
  A7 A2 64 #[Ak r,Ak u] f λe C=>e=AA (O V 0)/\CY f E A a h N 1 C:=by
 have H:=zh i;have k:=zh (λ(W:A3) (g:f.grownBy W A4)=>Up (i.u g) l m ⟨Bk,q,0,0,0⟩ ⟨rfl,rfl,rfl⟩ t n);have x:=zh o;have D:=zh v;have F:=zh w;clear i l m n o v w;unfold BG.val at k;dsimp only at k
 go_enter Tryz.func64,Tryz.ntmps64
 go_wp2_with fail;refine AS (λ_=>True) (.am [] [0,1,2,3,4,5,6,7,8,9] 10 Ax (.am [] [] 11 Ax (.nil))) Φ Φ ?_;obtain⟨G,y,b⟩:=AP f;rw[y];have I:=(D.o.u b Δ).m 0;have J:=Aa.ap (j:=20) (x.o.u b) rfl;have L:=Aa.ap (j:=22) (x.o.u b) rfl;have M:=(F.o.u b Δ).m 0;have z:=zh b;clear y b;refine Ap ?_
 iterate 10 refine Av ?_
 refine Aj ?_;clear I J L M;refine Am ?_;intro K d;refine(k.o G z.o).mono ?_;rintro e P ⟨rfl,Q,R,s,p,g⟩;have S:=zh (show CY f E A a h N 1 P from⟨Q,R,(Ad.u H.o.cl z.o).trans s,p,g⟩);clear s p g;dsimp only;refine Aq d ?_;clear d K;refine Ap ?_;refine Aj ?_;refine Am ?_;intro K d;refine Aq d ?_;clear d K;refine AG (Y ?_);go_wp2_with fail;go_ret;exact⟨rfl,S.o⟩
theorem Zy{A:AI}{N:Az}(d:AM f E A a h N)(n:h<=1073600000)(c t I:Nat)(o:Ce f c A a t I)(m:BitVec 64)(q r:Nat)(u:Aa f q 31 [Ak c])(v:Aa f r 22 [O Bs (U m)]):
  A7 A2 62 #[Ak q,Ak r] f λe w=>e=AA (O V 0)/\∃i b,Ad Bi f E w i/\AM w i A a (h+1300) b/\b.aw=N.aw/\b.aR=N.aR/\b.fr=N.fr/\b.nx=N.nx/\∀d,b.F d=if d=m then A4 else N.F d:=by
 have H:=zh d;have J:=zh (λ(W:A3) (g:f.grownBy W A4)=>fX (d.u g) n m);have L:=zh o;have M:=zh u;have P:=zh v;clear d n o u v
 go_enter Tryz.func62,Tryz.ntmps62
 go_wp2_with fail;refine AS (λ_=>True) (.am [] [0,1,2,3,4] 5 Ax (.am [] [6,7,8,9] 10 Ax (.nil))) Φ Φ ?_;obtain⟨Q,x,k⟩:=AP f;rw[x];have R:=(M.o.u k Δ).m 0;have S:=Aa.ap (j:=18) (L.o.u k) rfl;have T:=(P.o.u k Δ).m 0;have y:=zh k;clear x k;refine Ap ?_
 iterate 5 refine Av ?_
 refine Aj ?_;clear R S T;refine Am ?_;intro K l;refine(J.o Q y.o).mono ?_;rintro e z ⟨Z,rfl,i,b,s,p,B,C,D,F,G⟩;have X:=zh (show∃i b,Ad Bi f E z i/\AM z i A a (h+1300) b/\b.aw=N.aw/\b.aR=N.aR/\b.fr=N.fr/\b.nx=N.nx/\∀d,b.F d=if d=m then A4 else N.F d from⟨i,b,(Ad.u H.o.cl y.o).trans s,p,B,C,D,F,G⟩);clear s p B C D F G;dsimp only;refine Aq l ?_;clear l K;refine Ap ?_
 iterate 4 refine Av ?_
 refine Aj ?_;refine Am ?_;intro K l;refine Aq l ?_;clear l K;refine AG (Y ?_);go_wp2_with fail;go_ret;exact⟨rfl,X.o⟩
end
section
open Go Go.RowKit
attribute [local go_sem ↓] Go.wp_at_zero Go.wp_at_succ
theorem XD{A:AI}{N:Az}(s:Ca f E h A a d g c N)(B:Option BC)(C D:Nat)(F:Option BC)(G n:Nat)(I K L m:Nat)(k:BitVec 64)(b:List Nat)(r t:Nat)
  (M:A7 A2 73 #[Ak h,J B D C,J F n G] f λe o=>e=AA (Bn #[.agg #[Bd Ax,O Bs (U k),O V r,O V t,O V n],O V 0])/\MB f E h A a d g c N k b o)
  (P:Aa f I 31 [Ak h])(Q:Aa f K 64 [J B D C])(R:Aa f L 64 [J F n G])(S:Aa f m 130 [Bd Ax,O Bs 0,O V 0,O V 0,O V 0])(T:E m=220):
  A7 A2 72 #[Ak I,Ak K,Ak L,Ak m] f λe o=>e=AA (O V 0)/\∃p q l,Ad (CU 221) f E o p/\Ca o p h A a (d+70100) g l q/\Lz a N q k b c l/\l<=c+1/\Aa o m 130 [Bd Ax,O Bs (U k),O V r,O V t,O V n]:=by
 have H:=zh s;have W:=zh M;have u:=zh (Z S T);have k0:=P.m 0;have k1:=Q.m 0;have k2:=R.m 0;clear s M P Q R S T
 go_enter Tryz.func72,Tryz.ntmps72
 go_wp2_with fail;refine W.o.mono ?_;rintro e w1 ⟨rfl,v,N1,l1,w,y,X,Y⟩;clear W k0 k1 k2;have i:=w.y u.o.1 (by rw[u.o.2];rintro(s|s)<;>omega)
 have aa:v m=220:=by rw[w.ak _ u.o.1.lt];exact u.o.2
 obtain⟨x,ak,b2,t2⟩:=FM i (Bd Ax) (O Bs (U k)) (O V r) (O V t) (O V n);have f0:=i.v 0;have f1:=i.v 1;have f2:=i.v 2;have f3:=i.v 3;have f4:=i.v 4;have v0:=i.m 0;have v1:=i.m 1;have v2:=i.m 2;have v3:=i.m 3;have v4:=i.m 4;have z:Ad (λj=>j=220) w1 v x v:=AL y.p.cl t2 (λj e=>by rw[e];exact aa);have aj:=zh (show∃p q l,Ad (CU 221) f E x p/\Ca x p h A a (d+70100) g l q/\Lz a N q k b c l/\l<=c+1/\Aa x m 130 [Bd Ax,O Bs (U k),O V r,O V t,O V n]from⟨v,N1,l1,(w.mono (LI Ω)).trans (z.mono (λj e=>BZ Ω)),y.ag z (λj e=>Ω),X,Y,b2⟩);clear w y X Y i aa b2 t2 z;go_wp2_with fail;go_ret;exact⟨rfl,aj.o⟩
abbrev PO(c a d e b:Nat):List DP:=[⟨61,#[Ak c],#[]⟩,⟨72,#[],#[Ak a,Ak d,Ak e,Ak b]⟩,⟨74,#[],#[Ak a,Ak b]⟩]
def Ly(P:Pl)(N f:Az)(h:BitVec 64)(b:List Nat)(a c:Nat):Prop:=c<=a+1/\∃d e,Bj N d/\Lz P d e h b a c/\Bj e f
def LQ(w:A3)(f:Ae)(c:Nat)(A:AI)(P:Pl)(q t g:Nat)(N:Az)(h:BitVec 64)(b:List Nat)(l:Nat)(j:Nat)(W:A3):Prop:=
 match j with
 |0=>W=w
 |1=>∃a d,Ad (CU 221) w f W a/\Ad Bi w f W a/\Ca W a c A P (q+43000) t g d/\Bj N d/\0<Cy P d.fr d.nx
 |2=>∃a i k e,Ad (CU 221) w f W a/\Ca W a c A P (q+43000+70100) t e k/\Bj N i/\Lz P i k h b g e/\e<=g+1/\0<Cy P k.fr k.nx/\Aa W l 130 (Nx P i h b.length).cells/\(Nx P i h b.length).ok
 |_=>∃a d e,Ad (CU 221) w f W a/\Ca W a c A P (q+43000+70100+1) t e d/\Ly P N d h b g e
theorem LQ.ag{A:AI}{N:Az}(i:AD f E)(s:LQ f E h A a c d g N j b l p q):∃e,Ad (CU 221) f E q e:=by
 unfold LQ at s
 split at s
 ·subst s;exact⟨E,Ad.refl i⟩
 ·obtain⟨e,_,s,_⟩:=s;exact⟨e,s⟩
 ·obtain⟨e,_,_,_,s,_⟩:=s;exact⟨e,s⟩
 ·obtain⟨e,_,_,s,_⟩:=s;exact⟨e,s⟩
theorem iz{A:AI}{N:Az}(c:AM f E A a h k)(m:h<=1073700000)(d:k.aw=BW a N.aw N.aR b.length)(e:k.aR=Cv (Ef a N.aw N.aR b.length) (BW a N.aw N.aR b.length) b):(Nx a N j b.length).ok:=by
 have g:=c.n.la;rw[d]at g;obtain⟨n,o,p,i⟩:=c.r;have l:=i.dg (BW a N.aw N.aR b.length);have q:=c.a2.n1;have r:a.aA<=32*493:=ln c.a2.cQ Ω;rw[e,Dp,jI]at l;unfold BG.ok;rw[jN Δ]
 refine⟨?_,?_,?_⟩<;>dsimp only<;>omega
theorem ia{A:AI}{N:Az}(l:Ca f E h A a g c d N)(hq:g<=1073400000)(ag:d<=1000000000)(m:List Nat)(w:Option BC)(y:Nat)(ai:∀x∈m,x<256)(aj:Ag f 1 (J w m.length y) m.length (Ar m))(M:∀k,(J w m.length y).ownBlock=A6 k->E k=0/\k<f.heap.size)
  (b:List Nat)(z:Option BC)(u:Nat)(ak:0<b.length)(al:b.length<=a.aA)(am:∀x∈b,x<256)(an:b.length<=u)(ao:Ag f 1 (J z b.length u) b.length (Ar b))(P:∀k,(J z b.length u).ownBlock=A6 k->E k=0/\k<f.heap.size)
  (v B C n:Nat)(U:Aa f v 31 [Ak h])(ap:Aa f B 64 [J w m.length y])(aq:Aa f C 64 [J z b.length u])(X:Aa f n 130 [Bd Ax,O Bs 0,O V 0,O V 0,O V 0])(Y:E v=0)(ar:E B=0)(au:E C=0)(Z:E n=220)
  (I:Option BC)(K:Nat)(hr:Ag f 1 (J I 3 K) 3 ((PO h v B C n).map DP.val))(hn:∀k,(J I 3 K).ownBlock=A6 k->E k=0):
  A7 A2 34 #[J I 3 K] f λe D=>e=AA (O V 0)/\LQ f E h A a g c d N (Co a.aK m) b n 3 D:=by
 have o:¬CU 221 0:=by rintro(l|l)<;>omega
 refine(K5 I K (PO h v B C n) (LQ f E h A a g c d N (Co a.aK m) b n) f (show 3<=10 by omega) ?_ ?_ ?_ rfl).mono ?_
 ·rintro j W q;obtain⟨F,s⟩:=q.ag l.p.cl;exact s.aN hr (λk i=>by rw[hn k i];exact o)
 ·intro x hx aJ W;simp only[kZ,lY,oD]at hx
  rcases hx with rfl|rfl|rfl<;>rfl
 ·rintro j x L W q;have aK:j<3:=(jL.1 L).1
  rcases j with _|_|_|j
  ·obtain rfl:=jV L;obtain rfl:W=f:=q;refine(Si l.p Ω h c d l.t l.b l.hc).mono ?_;rintro e D ⟨rfl,F,Q,s,p,G,H⟩;exact⟨rfl,F,Q,s.mono (IE Ω),s,l.next s p,G,H⟩
  ·obtain rfl:=jV L;obtain⟨F,Q,s,sk,r,G,H⟩:=q
   have kb:∀k,k<f.heap.size->E k=0->F k=0/\k<W.heap.size:=λk h1 h2=>⟨by rw[s.ak _ h1];exact h2,jJ h1 s.aQ⟩
   refine(XD r w y _ z u _ v B C n (Co a.aK m) b _ _ (Z7 r Ω ag m w y ai (s.aN aj (λk i=>by rw[(M k i).1];exact o)) (λk i=>kb k (M k i).2 (M k i).1) b z u ak al am an (s.aN ao (λk i=>by rw[(P k i).1];exact o)) (λk i=>kb k (P k i).2 (P k i).1))
    (s.y U (by rw[Y];exact o)) (s.y ap (by rw[ar];exact o)) (s.y aq (by rw[au];exact o)) (sk.y X (by rw[Z];rintro(l|l)<;>omega)) (by rw[s.ak _ X.lt];exact Z)).mono ?_
   rintro e D ⟨rfl,R,S,az,s2,ad,t,aB,T⟩;exact⟨rfl,R,Q,S,az,s.trans s2,ad,G,t,aB,by rw[t.fr,t.nx];exact H,T,iz ad.p Ω t.la t.bo⟩
  ·obtain rfl:=jV L;obtain⟨F,N1,S,ae,s,r,G,t,H,aD,T,aE⟩:=q;refine(ah r.p Ω aD h c ae r.t r.b _ aE v n (s.y U (by rw[Y];exact o)) T).mono ?_;rintro e D ⟨rfl,R,N3,s3,p3,g3⟩;exact⟨rfl,R,N3,ae,s.trans (s3.mono (IE Ω)),r.next s3 p3,H,N1,S,G,t,g3⟩
  ·omega
 ·rintro e D ⟨rfl,q⟩;exact⟨rfl,q⟩
theorem Xm{A:AI}{N:Az}(b:AM f E A a h N)(n:h<=1073700000):
  A7 A2 90 #[Bx (A6 ⟨A.g,0,A4⟩)] f λe g=>e=AA (O V 0)/\∃c d,Ad Bi f E g c/\AM g c A a (h+1) d/\Bj N d/\d.fr=N.fr/\d.nx=N.nx:=by
 have o:=b.n.la;refine(NW b.r b.sd.bH b.cl b.a2 Ω Ω).mono ?_;rintro e g ⟨rfl,c,i,s,k,l,m⟩;refine⟨rfl,c,{N with ct:=i,aR:=Eg a N.aw N.aR},s.mono (λj e=>by unfold Bp at e;exact BE Ω),⟨b.fo s (λj e=>by unfold Bp;omega) k m.ew (j9 _),l,b.l.ag s (by unfold Bp;omega),b.t.ag s (by unfold Bp;omega),⟨b.n.g1,by have:=b.n.g2;show N.bY<=_;omega,by have:=b.n.sp;show N.dC<=_;omega,b.n.f1,b.n.f2,by have:=b.n.f3;show N.nx<=_;omega,by show N.aw<=_;omega⟩⟩,⟨rfl,rfl,NZ a N.aw N.aR⟩,rfl,rfl⟩
abbrev PP(A:AI)(a:Nat):List DP:=[⟨90,#[Ak A.g],#[]⟩,⟨99,#[],#[Ak a]⟩,⟨35,#[Ak A.d],#[]⟩]
def jp(w:A3)(c:Ae)(A:AI)(P:Pl)(q:Nat)(N:Az)(j:Nat)(W:A3):Prop:=
 ∃b a,Ad Bi w c W b/\AM W b A P (q+j) a/\Bj N a/\(j<=1->0<Cy P a.fr a.nx)
theorem gY{A:AI}{N:Az}(q:AM f E A a h N)(Q:h<=1073400000)(r:0<Cy a N.fr N.nx)(c t B:Nat)(D:t<=281474976710656)(F:Ce f c A a t B)(G:¬Bi (E c))
  (b:Nat)(H:Aa f b 31 [Ak c])(I:¬Bi (E b))
  (u:Option BC)(v:Nat)(K:Ag f 1 (J u 3 v) 3 ((PP A b).map DP.val))(L:∀k,(J u 3 v).ownBlock=A6 k->¬Bi (E k)):
  A7 A2 34 #[J u 3 v] f λe d=>e=AA (O V 0)/\CY f E A a h N 3 d:=by
 refine(K5 u v (PP A b) (jp f E A a h N) f (show 3<=10 by omega) ?_ ?_ ?_ ⟨E,N,Ad.refl q.cl,q,Bj.refl N,λ_=>r⟩).mono ?_
 ·rintro j W ⟨y,z,s,_⟩;exact s.aN K L
 ·intro x C R W;simp only[kZ,lY,oD]at C
  rcases C with rfl|rfl|rfl<;>rfl
 ·rintro j x w W ⟨y,z,s,p,g,r⟩;have S:j<3:=(jL.1 w).1
  rcases j with _|_|_|j
  ·obtain rfl:=jV w;refine(Xm p Ω).mono ?_;rintro e d ⟨rfl,i,l,m,n,o,M,P⟩;exact⟨rfl,i,l,s.trans m,n,g.trans o,λ_=>by rw[M,P];exact r Ω⟩
  ·obtain rfl:=jV w;refine(cH p Ω (r Ω) c t B D (F.ag s G) b (s.y H I)).mono ?_;rintro e d ⟨rfl,i,l,m,n,o⟩;exact⟨rfl,i,l,s.trans m,n,g.trans o,λq=>Ω⟩
  ·obtain rfl:=jV w;refine(Po p Ω).mono ?_;rintro e d ⟨rfl,i,l,m,n,o⟩;exact⟨rfl,i,l,s.trans m,n.mono Ω,g.trans o,λq=>Ω⟩
  ·omega
 ·rintro e d ⟨rfl,y,z,s,p,g,_⟩;exact⟨rfl,y,z,s,p,g⟩
def Pq(w:A3)(e:Ae)(c:Nat)(A:AI)(P:Pl)(q t f:Nat)(N:Az)(a:A3):Prop:=
 ∃b d,Ad Eh w e a b/\Ca a b c A P (q+43000) t f d/\Bj N d
theorem XY{A:AI}{N:Az}(o:Ca f E h A a g c d N)(hq:g<=1073400000):
  A7 A2 52 #[Ak h] f λe w'=>e=AA (O V 0)/\Pq f E h A a g c d N w':=by
 obtain⟨w1,ai,v,L⟩:=An f 31 [Ak h];have I:=zh (Fg (o.u v).b);obtain⟨pv,xs,l1,l2⟩:=o.p.l;have M:=KH (l1.u v) o.p.a2 o.p.n.f2 (Ψ o.p.n.f3);obtain⟨LF,P⟩:=Af (Cy a N.fr N.nx);rw[P]at M;have K:=zh M;have az:=zh P;have Q:=L.m 0;have R:=Aa.ap (j:=20) (o.u v).b rfl;have G1:=zh v;have B1:=zh L;have H:=zh o;have HQ:=zh hq;clear v L o hq l1 l2 M P
 by_cases h0:LF=0
 ·subst h0
  go_enter B0,BL
  go_wp2_with fail;refine I.o.mono ?_;rintro e w0 ⟨rfl,rfl⟩;go_wp2_with fail;refine K.o.mono ?_;rintro e S ⟨rfl,q⟩;have T:=zh (Ab G1.o q);have U:=zh (B1.o.u q Δ);clear q Q R K I ai;go_wp2_with fail;refine Dc (λW=>W.cell? ⟨f.heap.size,0,A4⟩=A6 (Ak h)) [([0,1],2,Bk),([],3,Ax),([],4,Ax)] Φ Φ ?_;obtain⟨w,x,r⟩:=AP S;rw[x];have p:=zh (Ab T.o r);have u:=zh (U.o.u r Δ);clear x r;refine Cc (u.o.m 0) ?_
  repeat(apply AC rfl Θ;(· intro wS l;(try have l:=l rfl);(try dsimp only at l);go_simp;(try with_reducible rfl));refine Al ?_)
  refine Aj ?_;refine AE rfl (λi b=>?_);go_simp;have y:=zh (H.o.u p.o);refine(Mn y.o.p (Ψ HQ.o) h c d y.o.t y.o.b y.o.hc).mono ?_;rintro e w7 ⟨rfl,X,Z,m,z,B,_⟩;dsimp only;have n:=zh (y.o.next m z);have aa:=zh ((Ad.u H.o.p.cl p.o).trans m);have DG:=zh B;have ac:=(m.y u.o (by rw[H.o.p.cl _ (jF _)];exact DR)).m 0;clear m z B;refine b _ _ ⟨λ_=>ac,?_⟩;clear b i;refine Bt ?_;refine AE rfl (λi b=>?_);go_simp;refine(Io n.o.p h c d n.o.b 4 Ω).mono ?_;rintro e w8 ⟨rfl,s,C⟩;dsimp only;have ae:=zh (show Pq f E h A a g c d N w8 from⟨X,Z,(aa.o.trans s).mono IN,n.o.next s C,DG.o⟩);clear s C;refine b _ _ ⟨λt=>(by cases t),?_⟩;clear b i;refine Bt ?_;refine AE rfl (λi b=>?_);go_simp;refine b _ _ ⟨λt=>(by cases t),?_⟩;refine De (Y ?_);clear b i;go_wp2_with fail;go_ret;exact⟨rfl,ae.o⟩
 ·have d1:(((LF:Nat):Int)==0)=Ax:=by simp;omega
  have aE:=zh (show 0<Cy a N.fr N.nx by rw[az.o];omega)
  go_enter B0,BL
  go_wp2_with fail;refine I.o.mono ?_;rintro e w0 ⟨rfl,rfl⟩;go_wp2_with fail;refine K.o.mono ?_;rintro e S ⟨rfl,q⟩;have T:=zh (Ab G1.o q);have U:=zh (B1.o.u q Δ);clear q Q R K I ai;go_wp2_with fail;refine Dc (λW=>W.cell? ⟨f.heap.size,0,A4⟩=A6 (Ak h)/\W.cell? ⟨h,0,A4⟩=A6 (Ak A.d)/\W.cell? ⟨h,19,A4⟩=A6 (Ak A.g)) [([0,1,2,3,4,5,6,7,8,9,10,11],12,Bk),([],13,Bk),([],14,Ax),([],15,Ax)] Φ Φ ?_;obtain⟨w,x,r⟩:=AP S;rw[x];have p:=zh (Ab T.o r);have u:=zh (U.o.u r Δ);clear x r;have ao:=zh (λ(W:A3) (af:w.grownBy W A4)=>(show W.cell? ⟨f.heap.size,0,A4⟩=A6 (Ak h)/\W.cell? ⟨h,0,A4⟩=A6 (Ak A.d)/\W.cell? ⟨h,19,A4⟩=A6 (Ak A.g)from⟨(u.o.u af Δ).m 0,Aa.ap (j:=0) (H.o.u (Ab p.o af)).b rfl,Aa.ap (j:=19) (H.o.u (Ab p.o af)).b rfl⟩));refine Cc (ao.o _ (Bo _ _)) ?_
  repeat(apply AC rfl Θ;(· intro wS l;(try have l:=l rfl);(try dsimp only at l);(try have Q:=l.1);(try have R:=l.2.1);(try have k2:=l.2.2);go_simp;(try with_reducible rfl));refine Al ?_)
  refine Aj ?_;refine AE rfl (λi b=>?_);go_simp;obtain⟨w6,ap,g6,b6⟩:=An w 95 [.func (.func 90) #[Ak A.g] #[],.func (.func 99) #[] #[Ak f.heap.size],.func (.func 35) #[Ak A.d] #[]];rw[ap];have D:=zh g6;have au:Ag w6 1 (J (A6 ⟨w.heap.size,0,A4⟩) 3 3) 3 ((PP A f.heap.size).map DP.val):=Ag.bq b6 rfl (by unfold maxLen;omega);have F:=zh (H.o.u (Ab p.o D.o));have av:f.heap.size<=w.heap.size:=p.o.size;have ag:=H.o.p.cl;have aw:=zh (gY F.o.p HQ.o aE.o h c d F.o.t F.o.b F.o.hc f.heap.size (u.o.u D.o Δ) (by rw[ag _ (jF _)];exact DR) _ 3 au (λk hk=>by cases hk;rw[ag _ av];exact DR));refine b _ _ ⟨λ_=>ao.o _ D.o,?_⟩;clear b i ap g6 b6 au av ag;refine Bt ?_;refine AE rfl (λi b=>?_);go_simp;refine aw.o.mono ?_;rintro e w7 ⟨rfl,X,Z,m,z,B⟩;dsimp only;have n:=zh (F.o.next m z);have aa:=zh ((Ad.u H.o.p.cl (Ab p.o D.o)).trans m);have DG:=zh B;have ac:=(m.y (u.o.u D.o Δ) (by rw[H.o.p.cl _ (jF _)];exact DR)).m 0;clear aw m z B;refine b _ _ ⟨λ_=>⟨ac,Aa.ap (j:=0) n.o.b rfl,Aa.ap (j:=19) n.o.b rfl⟩,?_⟩;clear b i;refine Bt ?_;refine AE rfl (λi b=>?_);go_simp;refine(Io n.o.p h c d n.o.b 4 Ω).mono ?_;rintro e w8 ⟨rfl,s,C⟩;dsimp only;have G:=n.o.next s C;have ae:=zh (show Pq f E h A a g c d N w8 from⟨X,Z,(aa.o.trans s).mono IN,⟨G.p.mono Ω,G.b,G.c,G.t⟩,DG.o⟩);clear s C G;refine b _ _ ⟨λt=>(by cases t),?_⟩;clear b i;refine Bt ?_;refine AE rfl (λi b=>?_);go_simp;refine b _ _ ⟨λt=>(by cases t),?_⟩;refine De (Y ?_);clear b i;go_wp2_with fail;go_ret;exact⟨rfl,ae.o⟩
end
section
open Go Go.RowKit
attribute [local go_sem ↓] Go.wp_at_zero Go.wp_at_succ
theorem XV(f g:List Nat)(l:∀x∈f,x<256)(o:∀x∈g,x<256)(n m:Nat)(i:f.length=n)(j:g.length=m)(a b:Option BC)(c d:Nat)(w:A3)(h:Ag w 1 (J a n c) n (Ar f))(k:Ag w 1 (J b m d) m (Ar g)):
  A7 A2 121 #[J a n c,J b m d] w λe p=>e=AA (Bd (decide (f=g)))/\w=p:=by
 have q:=Jc (c:=c) (by rw[i];exact h);have r:=Jc (c:=d) (by rw[j];exact k);rw[i]at q;rw[j]at r;clear h k
 go_enter Tryz.func121,Tryz.ntmps121
 go_wp2_with fail
 have s:((Di f).toList==(Di g).toList)=decide (f=g):=by
  by_cases e:f=g
  ·subst e;simp
  ·rw[jH e,kN]
   exact λh=>e (eo l o h)
 rw[s];go_ret;exact⟨rfl,rfl⟩
end
section
open Go Go.RowKit
theorem fF{A:AI}{N:Az}(b:AM f E A a h N)(n:h<=1073600000)(x:BitVec 64):
  A7 A2 118 #[Ak A.X,O Bs (U x)] f λe d=>e=AA (Bn #[LH ((N.F x).getD Ah.af),Bd (N.F x).isSome,O V 0])/\∃c i,Ad Bi f E d c/\AM d c A a (h+3) i/\Bj N i:=by
 refine(ae b.x Ω x).mono ?_;rintro e d ⟨rfl,c,k,s,l,m⟩
 have g:∀j,j=4\/j=5\/j=9->¬SS 125 j:=λj o e=>by rcases e with e|e<;>omega
 exact⟨rfl,c,{N with ct:=k},s.mono (Sc.mono (λj e=>Ω) Ω),⟨l,(b.r.ag s (g _ Ω)).dk b.a2 m.ei,b.l.ag s (g _ Ω),b.t.ag s (g _ Ω),⟨b.n.g1,by have:=b.n.g2;show N.bY<=_;omega,by have:=b.n.sp;show N.dC<=_;omega,b.n.f1,b.n.f2,by have:=b.n.f3;show N.nx<=_;omega,by have:=b.n.la;show N.aw<=_;omega⟩⟩,⟨rfl,rfl,(Bj.refl N).bo⟩⟩
structure J9(P:Pl)(N:Az)(r a:Nat)(k v:List Nat)(E:Nat):Prop where
 le:r<=N.aw
 a2:a+(13+k.length+v.length)<=(N.aR r).length
 iL:DN (N.aR r) a (13+k.length+v.length)=DB k v E
 k0:1<=k.length
 k1:k.length<=64
 v1:v.length<=4096
 e1:E<=281474976710656
 ks:∀x∈k,x<256
 vs:∀x∈v,x<256
theorem aI(a:h+c<=b.length):DN (b++r) h c=DN b h c:=by
 unfold DN;rw[mb Ω,mJ (by rw[j0];omega)]
theorem J9.dD{N:Az}(e:J9 a N h c b r d)(g:N.aw<=k.aw)(i:∃z,k.aR h=N.aR h++z):J9 a k h c b r d:=by
 obtain⟨z,f⟩:=i;exact⟨jM e.le g,by rw[f,jI];have:=e.a2;omega,by rw[f,aI e.a2];exact e.iL,e.k0,e.k1,e.v1,e.e1,e.ks,e.vs⟩
theorem ee{A:AI}{N:Az}(i:AM f E A a c N)(B:c<=1073600000)(p:J9 a N h d b r g)(w:CM a N.aw<=h)(n:Nat)(q:13+b.length+r.length=n):
  A7 A2 119 #[Ak A.g,.agg #[O V h,O V d,O V n]] f λe o=>∃k l,e=AA (Bn #[J k n l,O V 0])/\∃m,Ad Bi f E o m/\AM o m A a c N/\Ag o 1 (J k n l) n (Ar (DB b r g))/\∀t,(J k n l).ownBlock=A6 t->m t=0:=by
 obtain⟨C,D,x,y⟩:=i.r;have F:=i.n.la;have u:=p.a2;rw[q]at u;refine(Xu x y i.sd.bH i.cl i.a2 Ω h d n w p.le u).mono ?_;rintro e o ⟨k,l,rfl,m,s,v,z⟩;have hcut:=p.iL;rw[q]at hcut;rw[hcut]at v;exact⟨k,l,rfl,m,s.mono (Sc.mono (λj e=>e.elim) (jF _)),i.ag s (λj G=>by rintro(e|e);exact e;omega),v,z⟩
theorem Z0{A:AI}{N:Az}(b:AM f E A a h N)(k:h<=1073600000)(r c n:Nat)(d:¬CM a N.aw<=r)(g:r<=N.aw):
  A7 A2 119 #[Ak A.g,.agg #[O V r,O V c,O V n]] f λe i=>e=AA (Bn #[J A4 0 0,O V 13])/\f.grownBy i A4:=by
 obtain⟨l,m,j,o⟩:=b.r;exact We j b.cl b.a2 (Ψ b.n.la) r c n d g
structure EL(w:A3)(i:Ae)(c:Nat)(A:AI)(P:Pl)(q t j:Nat)(N:Az)(d:Nat)(e:Option BC)(f b:Nat)(l:List Nat)(h:Az)(a:Ae)(W:A3):Prop where
 ca:Ca W a c A P q t j h
 g:Bj N h
 st:Ad (CU 211) w i W a
 x4:Aa W d 136 [J A4 0 0,J A4 0 0,O V 0]
 c4:a d=210
 ky:Ag W 1 (J e b f) b (Ar l)
 kz:∀k,(J e b f).ownBlock=A6 k->a k=0/\k<W.heap.size
section
variable {w:World} {col:Ae} {c:Nat} {A:AI} {P:Pl} {q q' t lo:Nat} {N N' N'':Az} {b4:Nat} {ka:Option Addr} {kc kn:Nat} {key:List Nat} {cW cW':Ae} {W W':World}
theorem EL.cT(h:EL w col c A P q t lo N b4 ka kc kn key N' cW W)(s:Ad Bi W cW W' cW')(p:AM W' cW' A P q' N'')(g:Bj N' N''):EL w col c A P q' t lo N b4 ka kc kn key N'' cW' W':=
 ⟨h.ca.next s p,h.g.trans g,h.st.trans (s.mono (IE Ω)),s.y h.x4 (by rw[h.c4];exact Li),by rw[s.ak _ h.x4.lt];exact h.c4,s.aN h.ky (λk a=>by rw[(h.kz k a).1];exact DR),λk a=>⟨by rw[s.ak _ (h.kz k a).2];exact(h.kz k a).1,jJ (h.kz k a).2 s.aQ⟩⟩
theorem EL.u(h:EL w col c A P q t lo N b4 ka kc kn key N' cW W)(g:W.grownBy W' A4):EL w col c A P q t lo N b4 ka kc kn key N' cW W':=h.cT (Ad.u h.ca.p.cl g) (h.ca.p.u g) (Bj.refl _)
theorem EL.cC(h:EL w col c A P q t lo N b4 ka kc kn key N' cW W)(g:W.grownBy W' A4)(d:W.heap.size<W'.heap.size):∃b,EL w col c A P q t lo N b4 ka kc kn key N' b W'/\b W.heap.size=210:=by
 have s:Ad (λj=>j=210) W cW W' (AN cW W.heap.size 210):=Cl h.ca.p.cl g (jF _) d rfl;exact⟨_,⟨h.ca.ag s (λj e=>Ω),h.g,h.st.trans (s.mono (λj e=>BZ Ω)),h.x4.u g Δ,by rw[s.ak _ h.x4.lt];exact h.c4,h.ky.u g Δ,λk a=>⟨by rw[s.ak _ (h.kz k a).2];exact(h.kz k a).1,jJ (h.kz k a).2 s.aQ⟩⟩,A0 _ _ _⟩
theorem EL.bj(a:EL w col c A P q t lo N b4 ka kc kn key N' cW W)(f:cW h=210)(g:b4≠h)(d:Ac (λj=>j=h) W W'):EL w col c A P q t lo N b4 ka kc kn key N' cW W':=by
 have s:Ad (λj=>j=210) W cW W' cW:=AL a.ca.p.cl d (λj e=>by rw[e];exact f);exact⟨a.ca.ag s (λj e=>Ω),a.g,a.st.trans (s.mono (λj e=>BZ Ω)),d.y a.x4 g,a.c4,s.aN a.ky (λk b=>by rw[(a.kz k b).1];omega),λk b=>⟨(a.kz k b).1,jJ (a.kz k b).2 s.aQ⟩⟩
theorem EL.gE(h:EL w col c A P q t lo N b4 ka kc kn key N' cW W)(a:Ac (λj=>j=b4) W W'):Ad (CU 211) w col W' cW/\Ca W' cW c A P q t lo N':=by
 have s:Ad (λj=>j=210) W cW W' cW:=AL h.ca.p.cl a (λj e=>by rw[e];exact h.c4);exact⟨h.st.trans (s.mono (λj e=>BZ Ω)),h.ca.ag s (λj e=>Ω)⟩
theorem Om{T b:TypeId}{d f:List BB}(a:Aa W h T d)(k:Aa W c b f)(g:T≠b):h≠c:=λe=>by
 rw[e]at a;unfold Aa at a k;rw[a]at k;injection k with k;injection k with _ k;exact g k
end
end
section
open Go Go.RowKit
attribute [local go_sem ↓] Go.wp_at_zero Go.wp_at_succ
def UJ(P:Pl)(N:Az)(h:List Nat)(c:Bool)(e f g:Int)(b:Bool)(d:Option (List Nat×Nat)):Prop:=
 (c=Ax/\b=Ax/\d=A4)\/(c=Bk/\b=Ax/\d=A4/\∃r a s:Nat,e=r/\f=a/\g=s/\¬CM P N.aw<=r/\r<=N.aw)\/
 (c=Bk/\∃(r a:Nat) (k v:List Nat) (E:Nat),e=r/\f=a/\g=((13+k.length+v.length:Nat):Int)/\CM P N.aw<=r/\J9 P N r a k v E/\b=decide (k=h)/\d=A6 (v,E))
def TQ(w:A3)(l:Ae)(c:Nat)(A:AI)(P:Pl)(q t m:Nat)(N:Az)(b:Bool)(n:Option (List Nat×Nat))(e:Ending)(d:A3):Prop:=
 ∃f i o p r g h a E,e=AA (Bn #[.agg #[J o r p,J g a h,O V (E:Nat)],Bd b,O V 0])/\Ad (CU 211) w l d f/\Ca d f c A P (q+3) t m i/\Bj N i/\
  ∀v j,n=A6 (v,j)->E=j/\v.length=a/\Ag d 1 (J g a h) a (Ar v)/\∀k,(J g a h).ownBlock=A6 k->f k=0/\k<d.heap.size
theorem XH{A:AI}{N:Az}(q:Ca f E h A a d c g N)(hq:d<=1073400000)(R:List Nat)(z:Nat)(aV:R.length=z)(ka:Option BC)(kc:Nat)(a6:∀x∈R,x<256)(a7:Ag f 1 (J ka z kc) z (Ar R))(aW:∀k,(J ka z kc).ownBlock=A6 k->E k=0/\k<f.heap.size)
  (hh:BitVec 64)(bn:Co a.aK R=hh)(is:Bool)(hx:BitVec 64)(er ea es:Int)(bo:(N.F hh).isSome=is)(bp:(N.F hh).getD Ah.af=⟨hx,er,ea,es⟩)(b:Bool)(bq:Option (List Nat×Nat))(br:UJ a N R is er ea es b bq):
  A7 A2 69 #[Ak h,J ka z kc] f (TQ f E h A a d c g N b bq):=by
 obtain⟨w1,b2,g1,b1⟩:=An f 136 [J A4 0 0,J A4 0 0,O V 0];obtain⟨bs,ba⟩:=Af (AN E f.heap.size 210)
 have s1:Ad (λj=>j=210) f E w1 bs:=by rw[<-ba];exact Cl q.p.cl g1 (jF _) b1.lt rfl
 have T1:=zh (show EL f E h A a d c g N f.heap.size ka kc z R N bs w1 from⟨q.ag s1 (λj e=>Ω),Bj.refl N,s1.mono (λj e=>BZ Ω),b1,by rw[<-ba];exact A0 _ _ _,a7.u g1 Δ,λk hk=>⟨by rw[s1.ak _ (aW k hk).2];exact(aW k hk).1,jJ (aW k hk).2 g1.size⟩⟩)
 have HF:=zh (λ(W:A3) (cW:Ae) (q':Nat) (N':Az) (p:AM W cW A a q' N') (b4:q'<=1073600000) (e:N'.F=N.F)=>(by
  have:=fF p b4 hh;rw[e,bp,bo]at this
  exact this:Calls Tryz.prog 118 #[Ak A.X,.int .u64 (U hh)] W λe w'=>e=.returned (.tuple #[.agg #[.int .i64 er,.int .i64 ea,.int .i64 es],.bool is,.int .i64 0])/\∃c' bw,Ad Bi W cW w' c'/\AM w' c' A a (q'+3) bw/\Bj N' bw))
 have HH:=zh (λ(W:A3) (hb:Ce W h A a c g) (hr:Ag W 1 (J ka z kc) z (Ar R))=>(by
  have:=Mr hb R ka kc a6 (by rw[aV];exact hr);rw[aV,bn]at this
  exact this:Calls Tryz.prog 59 #[Ak h,.slice ka z kc] W λe w'=>e=.returned (.int .u64 (U hh))/\W.grownBy w' none))
 have HQ:=zh hq;have bz:=zh (Z a6 aV);have b9:=zh br;have ct:=zh (show z<=maxLen from a7.2.1);clear q hq aV a6 a7 aW bn bo bp br g1 b1 ba s1
 go_enter Tryz.func69,Tryz.ntmps69
 go_upto_region 1 with fail
 clear b2
 go_cut [7,8,9] (λs7 s8 s9 wx=>∃y cx N',s7=Bx (A6 ⟨y,0,A4⟩)/\s8=Bd is/\s9=O V 0/\EL f E h A a (d+3) c g N f.heap.size ka kc z R N' cx wx/\Aa wx y 128 [O V er,O V ea,O V es]/\cx y=210)
 case first=>
  refine AS (λW=>W.cell? ⟨h,18,A4⟩=A6 (Ak A.X)) (.bN [0,1,2,3,4,5] 6 Bk (.bN [] 7 Ax (.am [] [8,9,10,11] 12 Bk (.am [] [] 13 Ax (.am [] [14] 15 Ax (.nil)))) 12 Bk (.am [] [] 7 Ax (.am [] [8,9,10,11] 13 Ax (.am [] [14] 15 Ax (.nil))))) 12 Bk (.am [] [] 6 Bk (.am [] [] 7 Ax (.am [] [8,9,10,11] 13 Ax (.am [] [14] 15 Ax (.nil)))))) Φ Φ ?_;obtain⟨w2,bB,g2⟩:=AP w1;rw[bB];have T2:=zh (T1.o.u g2);clear bB g2 T1;refine DK (Aa.ap (j:=18) T2.o.ca.b rfl) ?_
  iterate 6 ((apply AC rfl Θ;(· intro wS S;(try have S:=S rfl);(try dsimp only at S);go_simp;(try with_reducible rfl)));refine Al ?_)
  refine Aj ⟨?_,?_⟩
  ·refine Am ?_;intro K i;refine(HH.o _ T2.o.ca.b T2.o.ky).mono ?_;rintro e w3 ⟨rfl,o⟩;have D:=zh (T2.o.u o);clear o;dsimp only;refine i _ _ ⟨_,λ_ q=>q,λ_=>(Aa.ap (j:=18) D.o.ca.b rfl),?_⟩;clear i K;refine Al ?_;refine DK (Aa.ap (j:=18) D.o.ca.b rfl) ?_;refine Aj ⟨?_,?_⟩
   ·refine Am ?_;intro K i;refine(HF.o _ _ _ _ D.o.ca.p (Ψ HQ.o) D.o.g.f).mono ?_;rintro e X ⟨rfl,cc,NN,C,pp,o⟩;have m:=zh (D.o.cT C pp o);clear C pp o;dsimp only;refine Aq i ?_;clear i K;refine Ap ?_
    iterate 4 refine Av ?_
    refine Aj ?_;refine Am ?_;intro K i;obtain⟨w5,ak,o,F⟩:=An X 128 [O V 0,O V 0,O V 0];rw[ak];obtain⟨cb,tb,kb⟩:=m.o.cC o F.lt;have T5:=zh tb;have l:=zh (show Aa w5 X.heap.size 128 [O V 0,O V 0,O V 0]/\cb X.heap.size=210 from⟨F,kb⟩);clear ak o F tb kb;generalize X.heap.size=y at*;refine i _ _ ⟨_,λ_ q=>q,λ_=>(Aa.ap (j:=18) T5.o.ca.b rfl),?_⟩;clear i K;refine Al ?_;refine Ap ?_;refine Aj ?_;obtain⟨w9,aF,w,t⟩:=Bq l.o.1 (O V er) (O V ea) (O V es);have G:=l.o.1.v 0;have H:=l.o.1.m 0;have I:=l.o.1.v 1;have L:=l.o.1.m 1;have M:=l.o.1.v 2;have P:=l.o.1.m 2;have T9:=zh (T5.o.bj l.o.2 (Om T5.o.x4 l.o.1 Ξ) t);have B9:=zh w;clear w t;refine Am ?_;intro K i;clear G I M H L P;refine Aq i ?_;clear i K;refine Ap ?_;refine Av ?_;refine Aj ?_;refine Am ?_;intro K i;refine Aq i ?_;clear i K;refine AG (Y ?_);go_wp2_with fail
    go_meet
    exact⟨y,_,_,rfl,rfl,rfl,T9.o,B9.o,l.o.2⟩
   ·refine Am ?_;intro K i;obtain⟨X,ak,o,F⟩:=An w3 128 [O V 0,O V 0,O V 0];rw[ak];obtain⟨cb,tb,kb⟩:=D.o.cC o F.lt;have m:=zh tb;have l:=zh (show Aa X w3.heap.size 128 [O V 0,O V 0,O V 0]/\cb w3.heap.size=210 from⟨F,kb⟩);clear ak o F tb kb;generalize w3.heap.size=y at*;refine i _ _ ⟨_,λ_ q=>q,λ_=>(Aa.ap (j:=18) m.o.ca.b rfl),?_⟩;clear i K;refine Al ?_;refine Ap ?_;refine Aj ?_;refine Am ?_;intro K i;refine(HF.o _ _ _ _ m.o.ca.p (Ψ HQ.o) m.o.g.f).mono ?_;rintro e w5 ⟨rfl,cc,NN,C,pp,o⟩;have T5:=zh (m.o.cT C pp o);have l:=zh (show Aa w5 y 128 [O V 0,O V 0,O V 0]/\cc y=210 from⟨C.y l.o.1 (by rw[l.o.2];exact Li),by rw[C.ak _ l.o.1.lt];exact l.o.2⟩);clear C pp o;dsimp only;refine Aq i ?_;clear i K;refine Ap ?_
    iterate 4 refine Av ?_
    refine Aj ?_;obtain⟨w9,aF,w,t⟩:=Bq l.o.1 (O V er) (O V ea) (O V es);have G:=l.o.1.v 0;have H:=l.o.1.m 0;have I:=l.o.1.v 1;have L:=l.o.1.m 1;have M:=l.o.1.v 2;have P:=l.o.1.m 2;have T9:=zh (T5.o.bj l.o.2 (Om T5.o.x4 l.o.1 Ξ) t);have B9:=zh w;clear w t;refine Am ?_;intro K i;clear G I M H L P;refine Aq i ?_;clear i K;refine Ap ?_;refine Av ?_;refine Aj ?_;refine Am ?_;intro K i;refine Aq i ?_;clear i K;refine AG (Y ?_);go_wp2_with fail
    go_meet
    exact⟨y,_,_,rfl,rfl,rfl,T9.o,B9.o,l.o.2⟩
  ·refine Am ?_;intro K i;obtain⟨w3,ak,o,F⟩:=An w2 128 [O V 0,O V 0,O V 0];rw[ak];obtain⟨cb,tb,kb⟩:=T2.o.cC o F.lt;have D:=zh tb;have l:=zh (show Aa w3 w2.heap.size 128 [O V 0,O V 0,O V 0]/\cb w2.heap.size=210 from⟨F,kb⟩);clear ak o F tb kb;generalize w2.heap.size=y at*;refine i _ _ ⟨_,λ_ q=>q,λ_=>(Aa.ap (j:=18) D.o.ca.b rfl),?_⟩;clear i K;refine Al ?_;refine Ap ?_;refine Aj ?_;refine Am ?_;intro K i;refine(HH.o _ D.o.ca.b D.o.ky).mono ?_;rintro e X ⟨rfl,o⟩;have m:=zh (D.o.u o);have l:=zh (Z (l.o.1.u o Δ) l.o.2);clear o;dsimp only;refine i _ _ ⟨_,λ_ q=>q,λ_=>(Aa.ap (j:=18) m.o.ca.b rfl),?_⟩;clear i K;refine Al ?_;refine Ap ?_;refine Aj ?_;refine Am ?_;intro K i;refine(HF.o _ _ _ _ m.o.ca.p (Ψ HQ.o) m.o.g.f).mono ?_;rintro e w5 ⟨rfl,cc,NN,C,pp,o⟩;have T5:=zh (m.o.cT C pp o);have l:=zh (show Aa w5 y 128 [O V 0,O V 0,O V 0]/\cc y=210 from⟨C.y l.o.1 (by rw[l.o.2];exact Li),by rw[C.ak _ l.o.1.lt];exact l.o.2⟩);clear C pp o;dsimp only;refine Aq i ?_;clear i K;refine Ap ?_
   iterate 4 refine Av ?_
   refine Aj ?_;obtain⟨w9,aF,w,t⟩:=Bq l.o.1 (O V er) (O V ea) (O V es);have G:=l.o.1.v 0;have H:=l.o.1.m 0;have I:=l.o.1.v 1;have L:=l.o.1.m 1;have M:=l.o.1.v 2;have P:=l.o.1.m 2;have T9:=zh (T5.o.bj l.o.2 (Om T5.o.x4 l.o.1 Ξ) t);have B9:=zh w;clear w t;refine Am ?_;intro K i;clear G I M H L P;refine Aq i ?_;clear i K;refine Ap ?_;refine Av ?_;refine Aj ?_;refine Am ?_;intro K i;refine Aq i ?_;clear i K;refine AG (Y ?_);go_wp2_with fail
   go_meet
   exact⟨y,_,_,rfl,rfl,rfl,T9.o,B9.o,l.o.2⟩
 case rest=>
  obtain⟨y,cx,N1,rfl,rfl,rfl,hT,hB,bG⟩:=hcut;have T:=zh hT;have B:=zh (Z hB bG);clear hT hB bG;have k0:=B.o.1.m 0;have k1:=B.o.1.m 1;have k2:=B.o.1.m 2;have aw:=Aa.ap (j:=19) T.o.ca.b rfl
  rcases b9.o with⟨rfl,rfl,rfl⟩|⟨rfl,rfl,rfl,r,bH,s,rfl,rfl,rfl,ho,bI⟩|⟨rfl,r,bH,k,v,ax,rfl,rfl,rfl,ho,be,rfl,rfl⟩
  ·clear k0 k1 k2 aw;obtain⟨w9,aF,w,t⟩:=Bq T.o.x4 (J A4 0 0) (J A4 0 0) (O V 0);have G:=T.o.x4.v 0;have H:=T.o.x4.m 0;have I:=T.o.x4.v 1;have L:=T.o.x4.m 1;have M:=T.o.x4.v 2;have P:=T.o.x4.m 2;have Q:=zh (Z w (T.o.gE t));have GG:=zh T.o.g;clear w t;go_wp2_with fail;exact A5 (LX (p:=4) (t:=5) (u:=6) (ty:=136) rfl _ _ f.heap.size _ _ _ _ rfl Q.o.1 pH rfl Φ) rfl ⟨_,_,A4,0,0,A4,0,0,0,rfl,Q.o.2.1,Q.o.2.2,GG.o,λv ax q=>by cases q⟩
  ·have aK:=zh (λ(W:A3) (bf:wc.grownBy W A4)=>Z0 (T.o.u bf).ca.p (Ψ HQ.o) r bH s (by rw[T.o.g.la];exact ho) (by rw[T.o.g.la];exact bI));clear ho bI;go_wp2_with fail;refine AS (λ_=>True) (.am [] [0,1,2,3,4] 5 Ax (.am [] [6,7,8,9] 10 Ax (.nil))) Φ Φ ?_;obtain⟨w3,aL,g3⟩:=AP wc;rw[aL];have G3:=zh g3;clear k0 k1 k2 aw aL g3;have b3:=B.o.1.u G3.o Δ;have k0:=b3.m 0;have k1:=b3.m 1;have k2:=b3.m 2;have aw:=Aa.ap (j:=19) (T.o.u G3.o).ca.b rfl;clear b3;refine Ap ?_
   iterate 5 refine Av ?_
   refine Aj ?_;clear k0 k1 k2 aw;refine Am ?_;intro K i;refine(aK.o _ G3.o).mono ?_;rintro e X ⟨rfl,g4⟩;have m:=zh (T.o.u (Ab G3.o g4));clear g4 aK;dsimp only;refine Aq i ?_;clear i K;refine Ap ?_
   iterate 4 refine Av ?_
   refine Aj ?_;refine Am ?_;intro K i;refine Aq i ?_;clear i K;refine AG (Y ?_);obtain⟨w9,aF,w,t⟩:=Bq m.o.x4 (J A4 0 0) (J A4 0 0) (O V 0);have G:=m.o.x4.v 0;have H:=m.o.x4.m 0;have I:=m.o.x4.v 1;have L:=m.o.x4.m 1;have M:=m.o.x4.v 2;have P:=m.o.x4.m 2;have Q:=zh (Z w (m.o.gE t));have GG:=zh m.o.g;clear w t;go_wp2_with fail;exact A5 (LX (p:=4) (t:=5) (u:=6) (ty:=136) rfl _ _ f.heap.size _ _ _ _ rfl Q.o.1 pH rfl Φ) rfl ⟨_,_,A4,0,0,A4,0,0,0,rfl,Q.o.2.1,Q.o.2.2,GG.o,λv ax q=>by cases q⟩
  ·have ay:=zh be;obtain⟨n,hn⟩:=Af (13+k.length+v.length);have aK:=zh (λ(W:A3) (bf:wc.grownBy W A4)=>ee (T.o.u bf).ca.p (Ψ HQ.o) (be.dD (nU T.o.g.la.symm) (T.o.g.bo r)) (by rw[T.o.g.la];exact ho) n hn);have bK:=zh hn;rw[hn]at k2;have bg:=B.o.1;rw[hn]at bg;have B:=zh (Z bg B.o.2);clear ho be hn bg;go_wp2_with fail;refine AS (λ_=>True) (.am [] [0,1,2,3,4] 5 Ax (.am [] [6,7,8,9] 10 Ax (.nil))) Φ Φ ?_;obtain⟨w3,aL,g3⟩:=AP wc;rw[aL];have G3:=zh g3;clear k0 k1 k2 aw aL g3;have b3:=B.o.1.u G3.o Δ;have k0:=b3.m 0;have k1:=b3.m 1;have k2:=b3.m 2;have aw:=Aa.ap (j:=19) (T.o.u G3.o).ca.b rfl;clear b3;refine Ap ?_
   iterate 5 refine Av ?_
   refine Aj ?_;clear k0 k1 k2 aw;refine Am ?_;intro K i;refine(aK.o _ G3.o).mono ?_;rintro e X ⟨ra,rc,rfl,c4,s4,p4,bN,ci⟩;have m:=zh ((T.o.u G3.o).cT s4 p4 (Bj.refl _));have hu:=Wl k v ax ra rc X ay.o.k0 ay.o.k1 ay.o.v1 ay.o.e1 ay.o.ks ay.o.vs (by rw[JT,bK.o];exact bN);rw[JT,bK.o]at hu;have HU:=zh hu;clear s4 p4 bN ci hu aK;dsimp only;refine Aq i ?_;clear i K;refine Ap ?_
   iterate 4 refine Av ?_
   refine Aj ?_;refine Am ?_;intro K i;refine Aq i ?_;clear i K;refine AG (Y ?_);go_wp2_with fail;refine HU.o.mono ?_;rintro e w5 ⟨aO,aP,aQ,aR,rfl,bi,bj,g5⟩;obtain⟨w6,cj,g6,b6⟩:=An w5 136 [J A4 0 0,J A4 0 0,O V 0];obtain⟨KL,a3⟩:=Af k.length;obtain⟨VL,a4⟩:=Af v.length;rw[a3]at bi;rw[a4]at bj;obtain⟨w7,cl,b7,t7⟩:=Bq b6 (J aO KL aP) (J aQ VL aR) (O V ax);have G:=b6.v 0;have I:=b6.v 1;have M:=b6.v 2;have H:=b6.m 0;have L:=b6.m 1;have P:=b6.m 2;have g7:=Ac.u g6 t7 (λj e=>by rw[e];exact jF _);have T7:=zh (m.o.u (Ab g5 g7));have cn:=zh (AV bi g7);have co:=zh (AV bj g7);have B7:=zh b7;have HL:=zh (Z a3 a4);have C4:=zh (m.o.ca.p.cl);rw[a3,a4];clear g5 g6 b6 b7 t7 g7 bi bj a3 a4 HU;go_wp2_with fail;clear cj cl G I M H L P;refine AS (λW=>Aa W w5.heap.size 136 [J aO KL aP,J aQ VL aR,O V (ax:Nat)]) (.am [0] [1,2,3,4,5,6,7,8,9,10,11,12] 13 Bk (.am [] [14] 15 Ax (.am [] [16] 17 Ax (.nil)))) Φ Φ ?_;obtain⟨w8,bU,g8⟩:=AP w7;rw[bU];have T8:=zh (T7.o.u g8);have B8:=zh (B7.o.u g8 Δ);have cs:=zh (AV cn.o g8);have bV:=zh (AV co.o g8);clear bU g8;refine Dz B8.o ?_
   iterate 1 ((apply AC rfl Θ;(· intro wS S;(try have S:=S rfl);(try dsimp only at S);(try(have x0:=S.m 0;have x1:=S.m 1;have x2:=S.m 2));go_simp;(try with_reducible rfl)));refine Al ?_)
   refine Aj ?_;have x0:=B8.o.m 0
   iterate 12 refine Av ?_
   refine Aj ?_;clear x0;refine Am ?_;intro K i;refine(XV k R ay.o.ks bz.o.1 KL z HL.o.1 bz.o.2 aO ka aP kc w8 (Ag.ai cs.o) T8.o.ky).mono ?_;rintro e w9 ⟨rfl,rfl⟩;dsimp only;refine i _ _ ⟨_,λ_ q=>q,λ_=>B8.o,?_⟩;clear i K;refine Al ?_;refine Ap ?_;refine Av ?_;refine Aj ?_;obtain⟨w9,aF,w,t⟩:=Bq T8.o.x4 (J aO KL aP) (J aQ VL aR) (O V ax);have G:=T8.o.x4.v 0;have I:=T8.o.x4.v 1;have M:=T8.o.x4.v 2;have H:=T8.o.x4.m 0;have L:=T8.o.x4.m 1;have P:=T8.o.x4.m 2;have Q:=zh (Z w (T8.o.gE t))
   have no:∀k,(J aQ VL aR).ownBlock=A6 k->¬k=f.heap.size:=λk hk e=>by
    have h1:=(bV.o.lt k hk).1;have h2:=m.o.x4.lt;omega
   have bl:=zh (t.aT bV.o no);have GG:=zh T8.o.g;clear w t no;refine Am ?_;intro K i;clear G I M H L P;refine Aq i ?_;clear i K;refine Ap ?_;refine Av ?_;refine Aj ?_;refine Am ?_;intro K i;refine Aq i ?_;clear i K;refine AG (Y ?_);go_wp2_with fail
   exact A5 (LX (p:=4) (t:=5) (u:=6) (ty:=136) rfl _ _ f.heap.size _ _ _ _ rfl Q.o.1 pH rfl Φ) rfl ⟨_,_,aO,aP,KL,aQ,aR,VL,ax,rfl,Q.o.2.1,Q.o.2.2,GG.o,λv' E' q=>by
    injection q with q;injection q with h1 h2;subst h1
    exact⟨h2,HL.o.2,Ag.ai bl.o,λk hk=>⟨C4.o k (bl.o.lt k hk).1,(bl.o.lt k hk).2⟩⟩⟩
def Gq(b:Bool)(a:Option (List Nat×Nat))(t:Nat):Option (List Nat):=
 if b then(match a with|some (v,E)=>if E≠0/\E<=t then A4 else A6 v|none=>A4)else A4
def cN(w:A3)(i:Ae)(c:Nat)(A:AI)(P:Pl)(q t j:Nat)(N:Az)(k:Option (List Nat))(e:Ending)(b:A3):Prop:=
 ∃d f,Ad (CU 211) w i b d/\Ca b d c A P (q+3) t j f/\Bj N f/\match k with
  |none=>e=AA (Bn #[J A4 0 0,Bd Ax,O V 0])
  |some v=>∃g h a,e=AA (Bn #[J g a h,Bd Bk,O V 0])/\v.length=a/\Ag b 1 (J g a h) a (Ar v)
theorem ff{A:AI}(g:Ce f h A a c d)(b:Nat)(i:Option BC)(j:Nat)(k:b<1\/64<b)(l:b<=maxLen):
  A7 A2 26 #[Ak h,J i b j] f λe m=>e=AA (Bn #[J A4 0 0,Bd Ax,O V 10])/\f=m:=by
 have n:=zh (Fg g);have o:=zh (Sr b i j k l f);clear g k l
 go_enter CA,BR
 go_wp2_with fail;refine n.o.mono ?_;rintro e p ⟨rfl,rfl⟩;go_wp2_with fail;refine o.o.mono ?_;rintro e p ⟨rfl,rfl⟩;go_wp2_with fail;exact A5 (BA rfl _ _ _) rfl ⟨rfl,rfl⟩
theorem YC{A:AI}{N:Az}(T:Ca f E c A a g h d N)(D:Nat)(ka:Option BC)(kc:Nat)(ao:1<=D)(ap:D<=64)(b:Bool)(F:Option (List Nat×Nat))(hb:b=Bk->F.isSome=Bk)
  (ar:A7 A2 69 #[Ak c,J ka D kc] f (TQ f E c A a g h d N b F)):
  A7 A2 26 #[Ak c,J ka D kc] f (cN f E c A a g h d N (Gq b F h)):=by
 have HR:=zh (Fg T.b);have HN:=zh (Rp D ka kc ao ap f);have aw:=zh ar;have HO:=zh hb;clear T ao ap ar hb
 go_enter CA,BR
 go_wp2_with fail;refine HR.o.mono ?_;rintro e w0 ⟨rfl,rfl⟩;go_wp2_with fail;refine HN.o.mono ?_;rintro e w0 ⟨rfl,rfl⟩;go_wp2_with fail;refine aw.o.mono ?_;rintro e w1 ⟨p,N1,ax,ay,az,G,H,u,m,rfl,s1,U,g1,I⟩;clear aw HN HR;obtain⟨w2,aP,g2,q⟩:=An w1 136 [J A4 0 0,J A4 0 0,O V 0];obtain⟨L,aQ,b3,t3⟩:=Bq q (J ax az ay) (J G u H) (O V m);have f0:=q.v 0;have f1:=q.v 1;have f2:=q.v 2;have v0:=q.m 0;have v1:=q.m 1;have v2:=q.m 2;have X:=Ac.u g2 t3 (λj e=>by rw[e];exact jF _);have w:=zh (U.u X);have aj:=zh (s1.trans (Ad.u U.p.cl X));have GG:=zh g1;have B3:=zh b3;have Z3:Hd (p w1.heap.size=0):=zh (U.p.cl _ (jF _));have HV:=zh (λ(v:List Nat) (r:Nat) (ho:F=A6 (v,r))=>(show m=r/\v.length=u/\Ag L 1 (J G u H) u (Ar v)/\∀k,(J G u H).ownBlock=A6 k->p k=0 from⟨(I v r ho).1,(I v r ho).2.1,(I v r ho).2.2.1.u X Δ,λk hk=>((I v r ho).2.2.2 k hk).1⟩));clear s1 U g1 I g2 q b3 t3 X;go_wp2_with fail;clear aP aQ f0 f1 f2 v0 v1 v2;have x:=B3.o.m 2;have y:=Aa.ap (j:=22) w.o.b rfl
 rcases Bool.eq_false_or_eq_true b with rfl|rfl
 ·obtain⟨⟨v,r⟩,rfl⟩:=pZ.1 (HO.o rfl);obtain⟨rfl,aF,aG,aH⟩:=HV.o v r rfl;have ab:=zh (Z aF (Z aG aH));have ac:=zh (λ(W:A3)=>Zj m h W);clear aF aG aH
  by_cases B:m≠0/\m<=h
  ·have M:=zh (show Gq Bk (A6 (v,m)) h=A4 by unfold Gq;rw[jP rfl];exact jP B);rw[show(decide (m≠0/\m<=h))=Bk from jG B]at ac;clear B;refine AS (λ_=>True) (.am [] [0,1,2,3,4,5,6,7,8] 9 Ax (.am [] [] 10 Ax (.nil))) Φ Φ ?_;obtain⟨C,o,l⟩:=AP L;rw[o];clear x y o;have n:=zh (w.o.u l);have P:=zh (aj.o.trans (Ad.u w.o.p.cl l));have B4:=zh (B3.o.u l Δ);have aI:=zh (ab.o.2.1.u l Δ);have x:=B4.o.m 2;have y:=Aa.ap (j:=22) n.o.b rfl;clear l;refine Ap ?_
   iterate 9 refine Av ?_
   refine Aj ?_;clear x y;refine Am ?_;intro K i;refine(ac.o C).mono ?_;rintro e s ⟨rfl,rfl⟩;dsimp only;refine Aq i ?_;clear i K;refine Ap ?_;refine Aj ?_;refine Am ?_;intro K i;refine Aq i ?_;clear i K;refine AG (Y ?_);go_wp2_with fail;refine(Io n.o.p c h d n.o.b 1 Ω).mono ?_;rintro e s ⟨rfl,z,Q⟩;have t:=zh (show Ad (CU 211) f E s p/\Ca s p c A a (g+3) h d N1 from⟨P.o.trans (z.mono (IE Ω)),n.o.next z Q⟩);clear z Q;go_wp2_with fail;exact A5 (BA rfl _ _ _) rfl ⟨_,_,t.o.1,t.o.2,GG.o,by rw[M.o];exact rfl⟩
  ·have M:=zh (show Gq Bk (A6 (v,m)) h=A6 v by unfold Gq;rw[jP rfl];exact jN B);rw[show(decide (m≠0/\m<=h))=Ax from jH B]at ac;clear B;refine AS (λ_=>True) (.am [] [0,1,2,3,4,5,6,7,8] 9 Ax (.am [] [] 10 Ax (.nil))) Φ Φ ?_;obtain⟨C,o,l⟩:=AP L;rw[o];clear x y o;have n:=zh (w.o.u l);have P:=zh (aj.o.trans (Ad.u w.o.p.cl l));have B4:=zh (B3.o.u l Δ);have aI:=zh (ab.o.2.1.u l Δ);have x:=B4.o.m 2;have y:=Aa.ap (j:=22) n.o.b rfl;clear l;refine Ap ?_
   iterate 9 refine Av ?_
   refine Aj ?_;clear x y;refine Am ?_;intro K i;refine(ac.o C).mono ?_;rintro e s ⟨rfl,rfl⟩;dsimp only;refine Aq i ?_;clear i K;refine Ap ?_;refine Aj ?_;refine Am ?_;intro K i;refine Aq i ?_;clear i K;refine AG (Y ?_);go_wp2_with fail;refine AS (λW=>Aa W w1.heap.size 136 [J ax az ay,J G u H,O V m]) (.am [0,1] [2] 3 Bk (.am [] [4,5] 6 Ax (.nil))) Φ Φ ?_;obtain⟨s,aJ,R⟩:=AP C;rw[aJ];have an:=zh (n.o.u R);have aZ:=zh (P.o.trans (Ad.u n.o.p.cl R));have B5:=zh (B4.o.u R Δ);have a0:=zh (aI.o.u R Δ);clear aJ R;refine Dz B5.o ?_
   iterate 2 ((apply AC rfl Θ;(· intro wS ae;(try have ae:=ae rfl);(try dsimp only at ae);(try(have x1:=ae.m 1));go_simp;(try with_reducible rfl)));refine Al ?_)
   refine Aj ?_;refine Av ?_;refine Aj ?_;refine Am ?_;intro K i;refine(Io an.o.p c h d an.o.b 0 Ω).mono ?_;rintro e w6 ⟨rfl,S,p6⟩;have t:=zh (show Ad (CU 211) f E w6 p/\Ca w6 p c A a (g+3) h d N1 from⟨aZ.o.trans (S.mono (IE Ω)),an.o.next S p6⟩);have B6:=zh (S.y B5.o (by rw[Z3.o];exact DR));have a2:=zh (S.aN a0.o (λk hk=>by rw[ab.o.2.2 k hk];exact DR));clear S p6;dsimp only;refine i _ _ ⟨_,λ_ T=>T,λ_=>B6.o,?_⟩;clear i K;refine Al ?_;refine Ap ?_
   iterate 2 refine Av ?_
   refine Aj ?_;refine Am ?_;intro K i;refine Aq i ?_;clear i K;refine AG (Y ?_);go_wp2_with fail;exact A5 (BA rfl _ _ _) rfl ⟨_,_,t.o.1,t.o.2,GG.o,by rw[M.o];exact⟨G,H,u,rfl,ab.o.1,a2.o⟩⟩
 ·have M:=zh (show Gq Ax F h=A4 from rfl)
  go_quiet (fail)
  obtain⟨C,o⟩:=Af (L.drewN nq)
  have l:L.grownBy C A4:=by rw[<-o];exact AZ _ _ _
  rw[o];have n:=zh (w.o.u l);have P:=zh (aj.o.trans (Ad.u w.o.p.cl l));clear x y o l;go_wp2_with fail;refine(Io n.o.p c h d n.o.b 1 Ω).mono ?_;rintro e s ⟨rfl,z,Q⟩;have t:=zh (show Ad (CU 211) f E s p/\Ca s p c A a (g+3) h d N1 from⟨P.o.trans (z.mono (IE Ω)),n.o.next z Q⟩);clear z Q;go_wp2_with fail;exact A5 (BA rfl _ _ _) rfl ⟨_,_,t.o.1,t.o.2,GG.o,by rw[M.o];exact rfl⟩
abbrev Kt:Nat->Prop:=Sc (λj=>1<=j/\j<=8) 200
theorem Jw:¬Kt 0:=by rintro(h|h)<;>omega
def CH(w:A3)(c:Nat)(d s b:Nat)(P:Pl)(a e f:BB):Prop:=Aa w c 90 (LO P (Ak d) (Ak s) a e f (Ak b) 0 0)
theorem CH.iq(e:CH f h c d g a o i n)(v:BB):∃b,f.setCell ⟨h,18,A4⟩ v=b/\CH b h c d g a v i n/\Ac (λj=>j=h) f b:=⟨_,rfl,Aa.setCell e 18 _,Ay _ _ _ _⟩
theorem CH.iy(e:CH f h c d g a i o n)(v:BB):∃b,f.setCell ⟨h,19,A4⟩ v=b/\CH b h c d g a i v n/\Ac (λj=>j=h) f b:=⟨_,rfl,Aa.setCell e 19 _,Ay _ _ _ _⟩
theorem CH.ir(e:CH f h c d g a i n o)(v:BB):∃b,f.setCell ⟨h,20,A4⟩ v=b/\CH b h c d g a i n v/\Ac (λj=>j=h) f b:=⟨_,rfl,Aa.setCell e 20 _,Ay _ _ _ _⟩
theorem dY{pg:As}(r:SD f E h d a l p pg e)(ab:∀ao,pg ao=A4)(hq:l<=1073741600)(hb:CH f c d h g a o i n)(hc:E c=8)(t:Nat)(h8:Aa f t 31 [Ak c])(I:E t=0)(y:Nat)(h6:Aa f y 80 [Ak h])(ah:E y=0):
  A7 A2 36 #[Ak y,Ak t] f λb J=>b=AA (O V 0)/\∃X D u K v w T L B,Ad Kt f E J u/\XF J u X D h d a 0 w (l+6) p K v T L 0 B/\AR a e v/\(∀r,Bh 0 B r=A4)/\CH J c d h g a (Ak X) i n:=by
 have n8:E t=0:=I;have z:=zh (Z hb hc);have M:=zh (Z h8 I);have H:=zh (Z r (Z ab hq));have N:=zh (Z h6 ah);clear r ab hq h6 ah;clear hb hc h8 I n8
 go_enter Tryz.func36,Tryz.ntmps36
 go_wp2_with fail;refine Dc (λW=>W.cell? ⟨t,0,A4⟩=A6 (Ak c)/\W.cell? ⟨y,0,A4⟩=A6 (Ak h)) [([0,1],2,Bk),([3,4,5,6,7],8,Ax),([],9,Ax)] Φ Φ ?_;obtain⟨w1,ai,g1⟩:=AP f;rw[ai];have k:=zh g1;clear ai g1;refine Cc ⟨(M.o.1.u k.o Δ).m 0,(N.o.1.u k.o Δ).m 0⟩ ?_
 repeat(apply AC rfl Θ;(· intro wS s;(try have s:=s rfl);(try dsimp only at s);(try have k0:=s.1);(try have k1:=s.2);go_simp;(try with_reducible rfl));refine Al ?_)
 refine Aj ?_;refine AE rfl (λx m=>?_);go_simp;refine(Ws (H.o.1.u k.o) H.o.2.1 H.o.2.2).mono ?_;rintro b w2 ⟨X,D,rfl,A,ar,au,w,T,L,B,q,P,al,hF⟩
 have C:∀j,j=0\/j=8->¬DO 200 j:=λj h1 b=>by rcases b with b|b<;>omega
 have Q:=zh (show CH w2 c d h g a o i n from q.y (Aa.u z.o.1 k.o Δ) (by rw[z.o.2];exact C _ Ω));have C2:Hd (A c=8):=zh (by rw[q.ak _ (Aa.lt (Aa.u z.o.1 k.o Δ))];exact z.o.2);have R:=(q.y (M.o.1.u k.o Δ) (by rw[M.o.2];exact C _ Ω)).m 0;have S:=(q.y (N.o.1.u k.o Δ) (by rw[N.o.2];exact C _ Ω)).m 0;dsimp only;refine m _ _ ⟨λ_=>⟨R,S⟩,?_⟩;clear m x;refine Cc ⟨R,S⟩ ?_
 repeat(apply AC rfl Θ;(· intro wS s;go_simp;(try with_reducible rfl));refine Al ?_)
 refine Aj ?_;have f1:=Aa.v Q.o 18;have v1:=Aa.ap (j:=18) Q.o rfl;obtain⟨F,ay,b3,t3⟩:=Q.o.iq (Ak X);have G:Ad (λj=>j=8) w2 A F A:=AL q.new t3 (λj b=>by rw[b];exact C2.o);have az:=zh (show∃X D u K v w T L B,Ad Kt f E F u/\XF F u X D h d a 0 w (l+6) p K v T L 0 B/\AR a e v/\(∀r,Bh 0 B r=A4)/\CH F c d h g a (Ak X) i n from⟨X,D,A,ar,au,w,T,L,B,((Ad.u H.o.1.cl k.o).trans (q.mono (Sc.mono (λj b=>Ω) (jF _)))).trans (G.mono (λj b=>BE Ω)),P.ag G Ω Ω (P.s.d.s.ag G Ω Ω Ω Ω),al,hF,b3⟩);refine AE rfl (λx m=>?_);go_simp;clear q P al hF C R S b3 t3 G ay f1 v1;refine m _ _ ⟨λU=>(by cases U),?_⟩;clear m x;refine Bt ?_;refine AE rfl (λx m=>?_);go_simp;refine m _ _ ⟨λU=>(by cases U),?_⟩;refine De (Y ?_);clear m x;go_wp2_with fail;go_ret;exact⟨rfl,az.o⟩
theorem aX{y:BB}(P:AF f E h a.ss a.n l e)(Q:AD f E)(s:a.aY)(R:∀i:Nat,i<a.rg*a.rs->e ((a.region+i:Nat):Int)=AO a.n)(S:CH f c h d g a y o n)(T:E c=8)(u:Nat)(U:Aa f u 31 [Ak c])(I:E u=0)(z A:Nat)(X:Aa f z 35 [Ak h])(h3:Aa f A 37 a.cells)(ab:E z=0)(ac:E A=0):
  A7 A2 38 #[Ak z,Ak A,Ak u] f λm J=>m=AA (O V 0)/\∃p v,Ad (λj=>j=4\/j=8) f E J v/\DJ J v p h a 0 (Gu a) e/\CH J c h d g a y (Ak p) n:=by
 have n8:E u=0:=I;have B:=zh (Z S T);have K:=zh (Z U I);have H:=zh (Z P (Z Q (Z s R)));have t:=zh (Z X (Z h3 (Z ab ac)));clear P Q s R X h3 ab ac;clear S T U I n8
 go_enter Tryz.func38,Tryz.ntmps38
 go_wp2_with fail;refine Dc (λW=>W.cell? ⟨u,0,A4⟩=A6 (Ak c)/\W.cell? ⟨z,0,A4⟩=A6 (Ak h)/\Aa W A 37 a.cells) [([0,1,2],3,Bk),([4,5,6,7,8],9,Ax),([],10,Ax)] Φ Φ ?_;obtain⟨w1,ad,g1⟩:=AP f;rw[ad];have k:=zh g1;clear ad g1;refine Cc ⟨(K.o.1.u k.o Δ).m 0,(t.o.1.u k.o Δ).m 0,t.o.2.1.u k.o Δ⟩ ?_
 repeat(apply AC rfl Θ;(· intro wS b;(try have b:=b rfl);(try dsimp only at b);(try have k0:=b.1);(try have k1:=b.2.1);(try have y0:=b.2.2.m 0);(try have y1:=b.2.2.m 1);(try have C:=b.2.2.m 2);(try have D:=b.2.2.m 3);(try have y4:=b.2.2.m 4);(try have y5:=b.2.2.m 5);(try have y6:=b.2.2.m 6);(try have y7:=b.2.2.m 7);go_simp;(try with_reducible rfl));refine Al ?_)
 refine Aj ?_;refine AE rfl (λw q=>?_);go_simp;refine(YU (H.o.1.u k.o) (H.o.2.1.u k.o) H.o.2.2.1 H.o.2.2.2).mono ?_;rintro m w2 ⟨p,rfl,F,r,r2⟩
 have x:∀j,j=0\/j=8->¬(λj=>j=4) j:=λj h1 m=>Ω
 have L:=zh (show CH w2 c h d g a y o n from r.y (Aa.u B.o.1 k.o Δ) (by rw[B.o.2];exact x _ Ω));have C2:Hd (F c=8):=zh (by rw[r.ak _ (Aa.lt (Aa.u B.o.1 k.o Δ))];exact B.o.2);have M:=(r.y (K.o.1.u k.o Δ) (by rw[K.o.2];exact x _ Ω)).m 0;have C:=(r.y (t.o.1.u k.o Δ) (by rw[t.o.2.2.1];exact x _ Ω)).m 0;have D:=r.y (t.o.2.1.u k.o Δ) (by rw[t.o.2.2.2];exact x _ Ω);dsimp only;refine q _ _ ⟨λ_=>⟨M,C,D⟩,?_⟩;clear q w;refine Cc ⟨M,C,D⟩ ?_
 repeat(apply AC rfl Θ;(· intro wS b;go_simp;(try with_reducible rfl));refine Al ?_)
 refine Aj ?_;have f1:=Aa.v L.o 19;have v1:=Aa.ap (j:=19) L.o rfl;obtain⟨G,ao,b3,t3⟩:=L.o.iy (Ak p);have N:Ad (λj=>j=8) w2 F G F:=AL r.new t3 (λj m=>by rw[m];exact C2.o);have ap:=zh (show∃p v,Ad (λj=>j=4\/j=8) f E G v/\DJ G v p h a 0 (Gu a) e/\CH G c h d g a y (Ak p) n from⟨p,F,((Ad.u H.o.2.1 k.o).trans (r.mono (λj m=>BE m))).trans (N.mono (λj m=>BZ m)),r2.ag N Ω,b3⟩);refine AE rfl (λw q=>?_);go_simp;clear r r2 x M C D b3 t3 N ao f1 v1;refine q _ _ ⟨λs=>(by cases s),?_⟩;clear q w;refine Bt ?_;refine AE rfl (λw q=>?_);go_simp;refine q _ _ ⟨λs=>(by cases s),?_⟩;refine De (Y ?_);clear q w;go_wp2_with fail;go_ret;exact⟨rfl,ap.o⟩
theorem eC{y:BB}(P:AF f E h a.ss a.n l e)(Q:AD f E)(s:a.aY)(R:∀i:Nat,i<a.lg->e ((2+i:Nat):Int)=AO a.n)(S:CH f c h d g a y n o)(T:E c=8)(u:Nat)(U:Aa f u 31 [Ak c])(I:E u=0)(z A:Nat)(X:Aa f z 35 [Ak h])(h3:Aa f A 37 a.cells)(ab:E z=0)(ac:E A=0):
  A7 A2 40 #[Ak z,Ak A,Ak u] f λm J=>m=AA (O V 0)/\∃p v,Ad (Sc (λj=>j=5\/j=8) 200) f E J v/\IU J v p h a 1 1 0/\CH J c h d g a y n (Ak p):=by
 have n8:E u=0:=I;have B:=zh (Z S T);have K:=zh (Z U I);have H:=zh (Z P (Z Q (Z s R)));have t:=zh (Z X (Z h3 (Z ab ac)));clear P Q s R X h3 ab ac;clear S T U I n8
 go_enter Tryz.func40,Tryz.ntmps40
 go_wp2_with fail;refine Dc (λW=>W.cell? ⟨u,0,A4⟩=A6 (Ak c)/\W.cell? ⟨z,0,A4⟩=A6 (Ak h)/\Aa W A 37 a.cells) [([0,1,2],3,Bk),([4,5,6,7,8,9,10],11,Ax),([],12,Ax)] Φ Φ ?_;obtain⟨w1,ad,g1⟩:=AP f;rw[ad];have k:=zh g1;clear ad g1;refine Cc ⟨(K.o.1.u k.o Δ).m 0,(t.o.1.u k.o Δ).m 0,t.o.2.1.u k.o Δ⟩ ?_
 repeat(apply AC rfl Θ;(· intro wS b;(try have b:=b rfl);(try dsimp only at b);(try have k0:=b.1);(try have k1:=b.2.1);(try have y0:=b.2.2.m 0);(try have y1:=b.2.2.m 1);(try have C:=b.2.2.m 2);(try have D:=b.2.2.m 3);(try have y4:=b.2.2.m 4);(try have y5:=b.2.2.m 5);(try have y6:=b.2.2.m 6);(try have y7:=b.2.2.m 7);go_simp;(try with_reducible rfl));refine Al ?_)
 refine Aj ?_;refine AE rfl (λw q=>?_);go_simp;refine(aE (H.o.1.u k.o) (H.o.2.1.u k.o) H.o.2.2.1 H.o.2.2.2).mono ?_;rintro m w2 ⟨p,rfl,F,r,r2⟩
 have x:∀j,j=0\/j=8->¬Sc (λj=>j=5) 200 j:=λj h1 m=>by rcases m with m|m<;>omega
 have L:=zh (show CH w2 c h d g a y n o from r.y (Aa.u B.o.1 k.o Δ) (by rw[B.o.2];exact x _ Ω));have C2:Hd (F c=8):=zh (by rw[r.ak _ (Aa.lt (Aa.u B.o.1 k.o Δ))];exact B.o.2);have M:=(r.y (K.o.1.u k.o Δ) (by rw[K.o.2];exact x _ Ω)).m 0;have C:=(r.y (t.o.1.u k.o Δ) (by rw[t.o.2.2.1];exact x _ Ω)).m 0;have D:=r.y (t.o.2.1.u k.o Δ) (by rw[t.o.2.2.2];exact x _ Ω);dsimp only;refine q _ _ ⟨λ_=>⟨M,C,D⟩,?_⟩;clear q w;refine Cc ⟨M,C,D⟩ ?_
 repeat(apply AC rfl Θ;(· intro wS b;go_simp;(try with_reducible rfl));refine Al ?_)
 refine Aj ?_;have f1:=Aa.v L.o 20;have v1:=Aa.ap (j:=20) L.o rfl;obtain⟨G,ao,b3,t3⟩:=L.o.ir (Ak p);have N:Ad (λj=>j=8) w2 F G F:=AL r.new t3 (λj m=>by rw[m];exact C2.o);have ap:=zh (show∃p v,Ad (Sc (λj=>j=5\/j=8) 200) f E G v/\IU G v p h a 1 1 0/\CH G c h d g a y n (Ak p)from⟨p,F,((Ad.u H.o.2.1 k.o).trans (r.mono (Sc.mono (λj m=>Ω) (jF _)))).trans (N.mono (λj m=>BE Ω)),r2.ag N Ω,b3⟩);refine AE rfl (λw q=>?_);go_simp;clear r r2 x M C D b3 t3 N ao f1 v1;refine q _ _ ⟨λs=>(by cases s),?_⟩;clear q w;refine Bt ?_;refine AE rfl (λw q=>?_);go_simp;refine q _ _ ⟨λs=>(by cases s),?_⟩;refine De (Y ?_);clear q w;go_wp2_with fail;go_ret;exact⟨rfl,ap.o⟩
end
section
open Go Go.RowKit
abbrev Qc(d b c e a:Nat):List DP:=[⟨35,#[Ak d],#[]⟩,⟨36,#[],#[Ak e,Ak a]⟩,⟨38,#[],#[Ak b,Ak c,Ak a]⟩,⟨40,#[],#[Ak b,Ak c,Ak a]⟩]
abbrev Be:BB:=Bx A4
structure iU(P:Pl)(N:Az):Prop where
 f:∀h,N.F h=A4
 la:N.aw=0
 bo:N.aR=Gu P
def U1(w:A3)(l:Ae)(d s b a c:Nat)(P:Pl)(q:Nat)(j:Nat)(W:A3):Prop:=
 ∃e,Ad Kt w l W e/\EO W e b a/\match j with
 |0=>CH W c d s b P Be Be Be/\SD W e s d P q 1 (λ_=>A4) (λ_=>AO P.n)
 |1=>CH W c d s b P Be Be Be/\SD W e s d P q 1 (λ_=>A4) (λ_=>AO P.n)
 |2=>∃X D i f k T L B,CH W c d s b P (Ak X) Be Be/\XF W e X D s d P 0 k (q+6) 1 i f T L 0 B/\AR P (λ_=>AO P.n) f/\(∀h,Bh 0 B h=A4)
 |3=>∃X D g i f k T L B,CH W c d s b P (Ak X) (Ak g) Be/\XF W e X D s d P 0 k (q+6) 1 i f T L 0 B/\AR P (λ_=>AO P.n) f/\(∀h,Bh 0 B h=A4)/\DJ W e g d P 0 (Gu P) f
 |_=>∃A N,AM W e A P (q+6) N/\Ce W c A P 0 0/\iU P N
theorem gO(H:SD f E c h a p 1 (λ_=>A4) (λ_=>AO a.n))(hq:p<=1073741600)(tl:EO f E g l)(U:CH f d h c g a Be Be Be)(hc:E d=8)
  (s t y q:Nat)(Y:Aa f s 35 [Ak h])(Z:Aa f t 37 a.cells)(h6:Aa f y 80 [Ak c])(h8:Aa f q 31 [Ak d])(k2:E s=0)(k3:E t=0)(k6:E y=0)(k8:E q=0)
  (Q:Option BC)(R:Nat)(hr:Ag f 1 (J Q 4 R) 4 ((Qc h s t y q).map DP.val))(hn:∀k,(J Q 4 R).ownBlock=A6 k->E k=0):
  A7 A2 34 #[J Q 4 R] f λe z=>e=AA (O V 0)/\U1 f E h c g l d a p 4 z:=by
 have hC:=H.cl
 have n9:¬Kt 9:=by rintro(H|H)<;>omega
 refine(K5 Q R (Qc h s t y q) (U1 f E h c g l d a p) f (show 4<=10 by omega) ?_ ?_ ?_ ⟨E,Ad.refl hC,tl,U,H⟩).mono ?_
 ·rintro j W ⟨A,m,_⟩;exact m.aN hr (λk hk=>by rw[hn k hk];exact Jw)
 ·intro x hx aI W;simp only[kZ,lY,oD]at hx
  rcases hx with rfl|rfl|rfl|rfl<;>rfl
 ·rintro j x I W ⟨A,m,K,C⟩;have aJ:j<4:=(jL.1 I).1;have ap:=m.y Y (by rw[k2];exact Jw);have aq:=m.y Z (by rw[k3];exact Jw);have az:=m.y h6 (by rw[k6];exact Jw);have ac:=m.y h8 (by rw[k8];exact Jw)
  have e2:A s=0:=by rw[m.ak _ Y.lt];exact k2
  have e3:A t=0:=by rw[m.ak _ Z.lt];exact k3
  have e6:A y=0:=by rw[m.ak _ h6.lt];exact k6
  have e8:A q=0:=by rw[m.ak _ h8.lt];exact k8
  have S:A d=8:=by rw[m.ak _ (Aa.lt U)];exact hc
  clear hr hn H U tl Y Z h6 h8
  rcases j with _|_|_|_|j
  ·obtain rfl:=jV I;obtain⟨u,F⟩:=C;refine(Sj _ _ _ _ _ _ _ F.bH F.cl Ω).mono ?_;rintro e z ⟨rfl,v,b,d2⟩;exact⟨rfl,v,m.trans (b.mono (λj e=>BE Ω)),K.ag b Ω,b.y u (by rw[S];omega),⟨F.bM.ag b Ω Ω Ω,d2,b.new,F.a2⟩⟩
  ·obtain rfl:=jV I;obtain⟨u,F⟩:=C;refine(dY F (λ_=>rfl) Ω u S q ac e8 y az e6).mono ?_;rintro e z ⟨rfl,X,D,v,M,w,N,T,L,B,b,n,G,hF,P⟩;exact⟨rfl,v,m.trans b,K.ag b n9,X,D,M,w,N,T,L,B,P,n,G,hF⟩
  ·obtain rfl:=jV I;obtain⟨X,D,M,w,N,T,L,B,u,n,G,hF⟩:=C;have hf:=n.s.d.s.a2;have aC:=a.eI
   have hz:∀i:Nat,i<a.rg*a.rs->w ((a.region+i:Nat):Int)=AO a.n:=λi hi=>G _ (BE Ω)
   refine(aX n.s.d.s.bH n.s.d.s.cl hf hz u S q ac e8 s t ap aq e2 e3).mono ?_;rintro e z ⟨rfl,ag,v,b,r2,P⟩;exact⟨rfl,v,m.trans (b.mono (λj e=>BE Ω)),K.ag b Ω,X,D,ag,M,w,N,T,L,B,P,n.ag b Ω Ω (n.s.d.s.ag b Ω Ω Ω Ω),G,hF,r2⟩
  ·obtain rfl:=jV I;obtain⟨X,D,ag,M,w,N,T,L,B,u,n,G,hF,r⟩:=C;have hf:=n.s.d.s.a2;have aC:=a.eI;have aK:a.region=2+a.lg:=rfl
   have hz:∀i:Nat,i<a.lg->w ((2+i:Nat):Int)=AO a.n:=λi hi=>G _ (BE Ω)
   have o:∀j,j<=4\/j=6\/j=7\/j=9->¬Sc (λj=>j=5\/j=8) 200 j:=λj h1 e=>by rcases e with e|e<;>omega
   refine(eC n.s.d.s.bH n.s.d.s.cl hf hz u S q ac e8 s t ap aq e2 e3).mono ?_;rintro e z ⟨rfl,aF,v,b,l2,P⟩
   exact⟨rfl,v,m.trans (b.mono (Sc.mono (λj e=>Ω) (jF _))),K.ag b (o _ Ω),⟨h,c,X,D,ag,aF,g,l⟩,⟨1,0,0,1,1,0,0,N,M,w,T,L,B,Gu a⟩,
    ⟨n.ag b (o _ Ω) (o _ Ω) (n.s.d.s.ag b (o _ Ω) (o _ Ω) (o _ Ω) (o _ Ω)),r.ag b (o _ Ω),l2,K.ag b (o _ Ω),⟨jF _,mG (ke _),ke _,jF _,jF _,mG (ke _),ke _⟩⟩,P,⟨hF,rfl,rfl⟩⟩
  ·omega
 ·rintro e z ⟨rfl,C⟩;exact⟨rfl,C⟩
end
