/- Lemmas. -/
import Derived.Test.YtcedibmdelehdaaGreatDoorG45
namespace Go.Proofs.YtcedibmdelehdaaGreatDoor
set_option maxRecDepth 100000
set_option maxHeartbeats 32000000
open Go.Value renaming slice->E,int->O,string->Ax,bool->Bn,ownBlock->BB
open And renaming intro->J
open Go.IntKind renaming i64->V,u64->BD
open Option renaming none->AA,some->BA
open Go.Proofs.Tryz renaming underlying41->A2,prog->BL
open Go renaming results_cell_row->Bd,maxLen->Bk,bodyPost_ret->Bs,World->BE
open Bool renaming false->Bx,true->BC
variable{f:Option Addr}{h c d e:BE}{Y:BitVec 64}{Z:List AQ}{a g i j k l:Nat}{b:Value}
section
open Go Go.RowKit
attribute [local go_sem ↓] Go.wp_at_zero Go.wp_at_succ
theorem gV:(BL.info? 53).map (λi=>(i.zero,i.size,i.bytes))=BA (BA (.agg #[Ax ⟨#[]⟩,Ax ⟨#[]⟩,Bn Bx,O V 0,O V 0,O V 0,Bn Bx]),7,72):=Φ
theorem JV(l:List AQ):∀u∈Cw l,u.oneCell'=BC:=by
 intro u b;obtain⟨x,_,a⟩:=ny.1 b;simp only[AQ.cells,kZ,lY,oD]at a
 rcases a with rfl|rfl|rfl|rfl|rfl|rfl|rfl<;>rfl
theorem OI(l:List AQ)(x:AQ):Cw (l++[x])=Cw l++x.cells:=by simp[Cw]
theorem NS(x:AQ):Cw [x]=x.cells:=by simp[Cw]
theorem Hw{T:TypeId}{l m n o p:Value}(q:Aa h a T [b,l,m,n,o,p])(d e f g i j:Value):∃c,((((((h.setCell ⟨a,0,AA⟩ d).setCell ⟨a,1,AA⟩ e).setCell ⟨a,2,AA⟩ f).setCell ⟨a,3,AA⟩ g).setCell ⟨a,4,AA⟩ i).setCell ⟨a,5,AA⟩ j)=c/\Aa c a T [d,e,f,g,i,j]/\Ac (λk=>k=a) h c:=
 ⟨_,rfl,((((((q.setCell 0 _).setCell 1 _).setCell 2 _).setCell 3 _).setCell 4 _).setCell 5 _),((((((Ay _ _ _ _).trans (Ay _ _ _ _)).trans (Ay _ _ _ _)).trans (Ay _ _ _ _)).trans (Ay _ _ _ _)).trans (Ay _ _ _ _))⟩
structure JC(w c:BE)(d:Nat)(l:List AQ)(n t e f:Nat)(h:BitVec 64)(a:Option Addr)(b:Nat)(W:BE):Prop where
 b2:Aa W w.heap.size 41 [O V t,O V e,O V f,O BD (U h),E a n b,O V 0]
 b4:Aa W d 41 [O V 0,O V 0,O V 0,O BD 0,E AA 0 0,O V 0]
 rd:Ag W 7 (E a n b) n (Cw l)
 g:w.grownBy W AA
 g3:c.grownBy W AA
theorem JC.u(b:JC h c a Z g i j k Y f l d)(m:d.grownBy e AA):JC h c a Z g i j k Y f l e:=
 ⟨b.b2.u m Δ,b.b4.u m Δ,b.rd.u m Δ,Ab b.g m,Ab b.g3 m⟩
theorem JC.bK(n:JC c h a Z g j k l Y f i d)(r:c.heap.size<h.heap.size/\a<h.heap.size/\c.heap.size<a){m:Nat}{s:List Value}(o:d.ownsRow h.heap.size 53 7 b m s)(p:d.grownBy e b.ownBlock)(t:Cw Z≠[]->∀q,b.ownBlock=BA q->(E f g i).ownBlock≠BA q):JC c h a Z g j k l Y f i e:=
 ⟨Ho h.heap.size p (Hj o) n.b2 r.1,Ho h.heap.size p (Hj o) n.b4 r.2.1,n.rd.bb (λu q v w=>p.block q w (λx=>t u q x.symm v)),DT n.g o Ω p,DT n.g3 o (jF _) p⟩
theorem KY(t Y Z:Nat)(aa:BitVec 64)(l:List AQ)(n:Nat)(hn:l.length=n)(hm:n<=1000000)(oa:Option Addr)(oc:Nat)(x:AQ)(w:BE)(h:Ag w 7 (E oa n oc) n (Cw l)):
  Calls BL 14 #[GZ t Y Z aa (E oa n oc) 0,.agg #[Ax x.aO,Ax x.val,Bn x.cq,O V x.en,O V x.wh,O V x.lo,Bn Bx]] w λe w'=>∃aW aX,e=.returned (GZ t Y Z aa (E aW (n+1) aX) 0)/\Ag w' 7 (E aW (n+1) aX) (n+1) (Cw (l++[x]))/\(∀b,(E aW (n+1) aX).ownBlock=BA b->w.heap.size<=b/\b<w'.heap.size)/\w.grownBy w' AA:=by
 obtain⟨G,H,I,L,M,N⟩:=x;dsimp only;obtain⟨i0,ap,aq,ar,au⟩:=info_parts gV;obtain⟨w1,bv,g1,b1⟩:=An w 41 [O V t,O V Y,O V Z,O BD (U aa),E oa n oc,O V 0];obtain⟨w2,bw,g2,b2⟩:=An w1 53 [Ax G,Ax H,Bn I,O V L,O V M,O V N,Bn Bx];obtain⟨q,bx,g3,b3⟩:=An w2 41 [O V 0,O V 0,O V 0,O BD 0,E AA 0 0,O V 0];have a7:w.heap.size<q.heap.size/\w2.heap.size<q.heap.size/\w.heap.size<w2.heap.size:=⟨jJ b1.lt (Ab g2 g3).size,b3.lt,jJ b1.lt g2.size⟩;have aR:=Ab g2 g3;have A3:Hd (JC w q w2.heap.size l n t Y Z aa oa oc q):=zh ⟨b1.u aR Δ,b3,h.u (Ab g1 aR) Δ,Ab g1 aR,Bo _ _⟩;have X3:=zh (b2.u g3 Δ);have g:=zh a7;have P:=zh (J hn hm)
 have HO:Hd (∀b,(E oa n oc).ownBlock=BA b->Cw l≠[]->b<w.heap.size):=zh λb f am=>h.lt am b f
 have HR:=zh h;clear h hn hm g1 g2 g3 aR b1 b2 b3 a7
 go_enter Tryz.func14,Tryz.ntmps14
 go_wp2_with fail;refine AS (λW=>q.grownBy W AA) (.bN [1,2,4] 0 BC (.bN [] 3 BC (.am [] [] 5 BC (.am [] [] 6 BC (.am [] [7] 8 Bx (.nil)))) 5 BC (.am [] [] 3 BC (.am [] [] 6 BC (.am [] [7] 8 Bx (.nil))))) 5 BC (.am [] [] 0 BC (.am [] [] 3 BC (.am [] [] 6 BC (.am [] [7] 8 Bx (.nil)))))) Φ Φ ?_;obtain⟨w4,a9,g4⟩:=AP q;rw[a9];have A4:=zh (A3.o.u g4);have Y3:=zh (J (A3.o.b2.m 4) (J (X3.o.m 0) (J (X3.o.m 1) (J (X3.o.m 2) (J (X3.o.m 3) (J (X3.o.m 4) (J (X3.o.m 5) (X3.o.m 6))))))));clear a9 g4 bv bw bx;refine DK A4.o.g3 ?_
 iterate 3 ((apply AC rfl Θ;(· intro wS R;(try have R:=R rfl);(try dsimp only at R);(try(have c4:=R.cell Y3.o.1 Δ;have y0:=R.cell Y3.o.2.1 Δ;have y1:=R.cell Y3.o.2.2.1 Δ;have y2:=R.cell Y3.o.2.2.2.1 Δ;have y3:=R.cell Y3.o.2.2.2.2.1 Δ;have y4:=R.cell Y3.o.2.2.2.2.2.1 Δ;have y5:=R.cell Y3.o.2.2.2.2.2.2.1 Δ;have y6:=R.cell Y3.o.2.2.2.2.2.2.2 Δ));go_simp;(try with_reducible rfl)));refine Al ?_)
 refine Aj ⟨?_,?_⟩
 ·refine Am ?_;intro K d;obtain⟨w5,ay,g5,b5⟩:=An w4 53 [];rw[ay];have A5:=zh (A4.o.u g5);have aB:q.heap.size<=w4.heap.size:=A4.o.g3.size;have aC:Hd (w5.ownsRow q.heap.size 53 7 (E (BA ⟨w4.heap.size,0,AA⟩) 0 0) 0 []):=zh (JI b5 aB (jF _) (ke _) rfl rfl rfl);clear ay g5 b5 aB;refine d _ _ ⟨_,λ_ h=>h,λ_=>A5.o.g3,?_⟩;clear d K;refine Al ?_;refine DK A5.o.g3 ?_;refine Aj ⟨?_,?_⟩
  ·refine AE rfl (λK d=>?_);refine Gh Θ _ _ 39 Θ q.heap.size 53 i0 _ 7 72 ni ap aq ar au rfl Ξ (v:=E (BA ⟨w4.heap.size,0,AA⟩) 0 0) Θ aC.o Θ A5.o.rd (JV l) (by have:=P.o;unfold Bk;omega) (Ψ P.o) A5.o.g3.size ?_;intro v' w6 o6 g6 _;rw[lN,jX]at o6;obtain⟨a3,c3,rfl⟩:=(Ag.ai o6).slice
   have Q:=zh (A5.o.bK g.o aC.o g6 (λam b f hv=>by
    have h1:=(aC.o.lt b f).1;have h2:=g.o;have:=HO.o b hv am
    omega))
   have O6:=zh o6;clear o6 g6;refine d _ _ ⟨_,λ_ h=>h,λ_=>Q.o.g3,?_⟩;clear d K;refine Al ?_;refine Ap ?_;refine Aj ?_;refine Am ?_;intro K d;obtain⟨w7,be,S,b7⟩:=An w6 53 [Ax G,Ax H,Bn I,O V L,O V M,O V N,Bn Bx];rw[be];have r:=zh (Q.o.u S);have B7:=zh b7;have s:=zh (AV O6.o S);clear be S b7;refine d _ _ ⟨_,λ_ h=>h,λ_=>r.o.g3,?_⟩;clear d K;refine Al ?_;refine Ap ?_;refine Aj ?_;refine AE rfl (λK d=>?_);refine Gh Θ _ _ 39 Θ q.heap.size 53 i0 _ 7 72 ni ap aq ar au rfl Ξ (v:=E a3 n c3) Θ s.o Θ (Ag.bq (sz:=7) (n:=1) (c:=1) B7.o rfl (by unfold Bk;omega)) (λu hu=>JV [⟨G,H,I,L,M,N⟩] u (by rw[NS];exact hu)) (by have:=P.o;unfold Bk;omega) (Ψ P.o) r.o.g3.size ?_;intro v' w8 T y _;obtain⟨i,k,rfl⟩:=(Ag.ai T).slice;have o:=zh (J (Ho q.heap.size y (Hj s.o) r.o.b2 (Ψ g.o)) (J (Ho q.heap.size y (Hj s.o) r.o.b4 (Ψ g.o)) (J (DT r.o.g s.o (Ψ g.o) y) (J (DT r.o.g3 s.o (jF _) y) T))));clear T y;refine d _ _ ⟨_,λ_ h=>h,λ_=>o.o.2.2.2.1,?_⟩;clear d K;refine Al ?_;refine Ap ?_;have c4:=o.o.1.m 4;have f4:=o.o.1.v 4;refine Av ?_;refine Aj ?_;refine Am ?_;intro K d;obtain⟨w9,C⟩:=Af (w8.setCell ⟨w.heap.size,4,AA⟩ (E i (n+1) k))
   have z:Ac (λj=>j=w.heap.size) w8 w9:=by rw[<-C];exact Ay _ _ _ _
   have m:=o.o.1.setCell 4 (E i (n+1) k);rw[C]at m;rw[C];have a:=z.y o.o.2.1 (pq g.o.2.2);obtain⟨A,bg,aj,D⟩:=Hw a (O V t) (O V Y) (O V Z) (O BD (U aa)) (E i (n+1) k) (O V 0);have X:=o.o.2.2.2.2
   have B:=λb f=>X.lt b f
   have rd:Ag A 7 (E i (n+1) k) (n+1) (Cw (l++[⟨G,H,I,L,M,N⟩])):=by
    rw[OI];exact D.aN (z.aN (Ag.ai X) (λb f=>by have:=(B b f).1;have:=g.o;omega)) (λb f=>by have:=(B b f).1;have:=g.o;omega)
   have gz:=g.o;have F:=zh (show Aa A w2.heap.size 41 [O V t,O V Y,O V Z,O BD (U aa),E i (n+1) k,O V 0]/\Ag A 7 (E i (n+1) k) (n+1) (Cw (l++[⟨G,H,I,L,M,N⟩]))/\(∀b,(E i (n+1) k).ownBlock=BA b->w.heap.size<=b/\b<A.heap.size)/\w.grownBy A AA from⟨aj,rd,λb f=>⟨Ψ ((B b f).1),jJ (B b f).2 (jM z.aQ D.aQ)⟩,Ac.u (Ac.u o.o.2.2.1 z (λj e=>Ω)) D (λj e=>Ω)⟩);have u0:=m.m 0;have v0:=a.m 0;have k0:=a.v 0;have u1:=m.m 1;have v1:=a.m 1;have k1:=a.v 1;have u2:=m.m 2;have v2:=a.m 2;have k2:=a.v 2;have u3:=m.m 3;have v3:=a.m 3;have k3:=a.v 3;have u4:=m.m 4;have v4:=a.m 4;have k4:=a.v 4;have u5:=m.m 5;have v5:=a.m 5;have k5:=a.v 5;clear m a z D aj X B rd gz c4 f4 C;refine Aq d ?_;clear d K;refine AG (NoPanic.normal ?_);go_wp2_with fail;exact Bs (Bd (p:=4) (ty:=41) rfl _ _ w2.heap.size _ _ _ _ rfl F.o.1 A2 rfl Φ) rfl ⟨i,k,rfl,F.o.2.1,F.o.2.2.1,F.o.2.2.2⟩
  ·refine Am ?_;intro K d;obtain⟨w6,aM,g6,b6⟩:=An w5 53 [Ax G,Ax H,Bn I,O V L,O V M,O V N,Bn Bx];rw[aM];have Q:=zh (A5.o.u g6);have B6:=zh b6;have an:=zh (AV aC.o g6);have NB:Hd (w4.heap.size≠w5.heap.size):=zh (mq (aC.o.lt _ rfl).2);clear aM g6 b6;refine d _ _ ⟨_,λ_ h=>h,λ_=>Q.o.g3,?_⟩;clear d K;refine Al ?_;refine Ap ?_;refine Aj ?_;refine AE rfl (λK d=>?_);refine Gh Θ _ _ 39 Θ q.heap.size 53 i0 _ 7 72 ni ap aq ar au rfl Ξ (v:=E (BA ⟨w4.heap.size,0,AA⟩) 0 0) Θ an.o Θ Q.o.rd (JV l) (by have:=P.o;unfold Bk;omega) (Ψ P.o) Q.o.g3.size ?_;intro v' w7 o7 S _;rw[lN,jX]at o7;obtain⟨a3,c3,rfl⟩:=(Ag.ai o7).slice
   have r:=zh (Q.o.bK g.o an.o S (λam b f hv=>by
    have h1:=(an.o.lt b f).1;have h2:=g.o;have:=HO.o b hv am
    omega))
   have s:=zh o7;have B7:=zh (B6.o.u S (λe=>NB.o (by simpa[BB]using e.symm)));clear o7 S;refine d _ _ ⟨_,λ_ h=>h,λ_=>r.o.g3,?_⟩;clear d K;refine Al ?_;refine Ap ?_;refine Aj ?_;refine AE rfl (λK d=>?_);refine Gh Θ _ _ 39 Θ q.heap.size 53 i0 _ 7 72 ni ap aq ar au rfl Ξ (v:=E a3 n c3) Θ s.o Θ (Ag.bq (sz:=7) (n:=1) (c:=1) B7.o rfl (by unfold Bk;omega)) (λu hu=>JV [⟨G,H,I,L,M,N⟩] u (by rw[NS];exact hu)) (by have:=P.o;unfold Bk;omega) (Ψ P.o) r.o.g3.size ?_;intro v' w8 T y _;obtain⟨i,k,rfl⟩:=(Ag.ai T).slice;have o:=zh (J (Ho q.heap.size y (Hj s.o) r.o.b2 (Ψ g.o)) (J (Ho q.heap.size y (Hj s.o) r.o.b4 (Ψ g.o)) (J (DT r.o.g s.o (Ψ g.o) y) (J (DT r.o.g3 s.o (jF _) y) T))));clear T y;refine d _ _ ⟨_,λ_ h=>h,λ_=>o.o.2.2.2.1,?_⟩;clear d K;refine Al ?_;refine Ap ?_;have c4:=o.o.1.m 4;have f4:=o.o.1.v 4;refine Av ?_;refine Aj ?_;refine Am ?_;intro K d;obtain⟨w9,C⟩:=Af (w8.setCell ⟨w.heap.size,4,AA⟩ (E i (n+1) k))
   have z:Ac (λj=>j=w.heap.size) w8 w9:=by rw[<-C];exact Ay _ _ _ _
   have m:=o.o.1.setCell 4 (E i (n+1) k);rw[C]at m;rw[C];have a:=z.y o.o.2.1 (pq g.o.2.2);obtain⟨A,bg,aj,D⟩:=Hw a (O V t) (O V Y) (O V Z) (O BD (U aa)) (E i (n+1) k) (O V 0);have X:=o.o.2.2.2.2
   have B:=λb f=>X.lt b f
   have rd:Ag A 7 (E i (n+1) k) (n+1) (Cw (l++[⟨G,H,I,L,M,N⟩])):=by
    rw[OI];exact D.aN (z.aN (Ag.ai X) (λb f=>by have:=(B b f).1;have:=g.o;omega)) (λb f=>by have:=(B b f).1;have:=g.o;omega)
   have gz:=g.o;have F:=zh (show Aa A w2.heap.size 41 [O V t,O V Y,O V Z,O BD (U aa),E i (n+1) k,O V 0]/\Ag A 7 (E i (n+1) k) (n+1) (Cw (l++[⟨G,H,I,L,M,N⟩]))/\(∀b,(E i (n+1) k).ownBlock=BA b->w.heap.size<=b/\b<A.heap.size)/\w.grownBy A AA from⟨aj,rd,λb f=>⟨Ψ ((B b f).1),jJ (B b f).2 (jM z.aQ D.aQ)⟩,Ac.u (Ac.u o.o.2.2.1 z (λj e=>Ω)) D (λj e=>Ω)⟩);have u0:=m.m 0;have v0:=a.m 0;have k0:=a.v 0;have u1:=m.m 1;have v1:=a.m 1;have k1:=a.v 1;have u2:=m.m 2;have v2:=a.m 2;have k2:=a.v 2;have u3:=m.m 3;have v3:=a.m 3;have k3:=a.v 3;have u4:=m.m 4;have v4:=a.m 4;have k4:=a.v 4;have u5:=m.m 5;have v5:=a.m 5;have k5:=a.v 5;clear m a z D aj X B rd gz c4 f4 C;refine Aq d ?_;clear d K;refine AG (NoPanic.normal ?_);go_wp2_with fail;exact Bs (Bd (p:=4) (ty:=41) rfl _ _ w2.heap.size _ _ _ _ rfl F.o.1 A2 rfl Φ) rfl ⟨i,k,rfl,F.o.2.1,F.o.2.2.1,F.o.2.2.2⟩
 ·refine Am ?_;intro K d;obtain⟨w5,ay,g5,b5⟩:=An w4 53 [Ax G,Ax H,Bn I,O V L,O V M,O V N,Bn Bx];rw[ay];have A5:=zh (A4.o.u g5);have B5:=zh b5;clear ay g5 b5;refine d _ _ ⟨_,λ_ h=>h,λ_=>A5.o.g3,?_⟩;clear d K;refine Al ?_;refine Ap ?_;refine Aj ?_;refine Am ?_;intro K d;obtain⟨w6,aM,g6,b6⟩:=An w5 53 [];rw[aM];have Q:=zh (A5.o.u g6);have aB:q.heap.size<=w5.heap.size:=A5.o.g3.size;have an:Hd (w6.ownsRow q.heap.size 53 7 (E (BA ⟨w5.heap.size,0,AA⟩) 0 0) 0 []):=zh (JI b6 aB (jF _) (ke _) rfl rfl rfl);have B6:=zh (B5.o.u g6 Δ);have NB:Hd (w5.heap.size≠w4.heap.size):=zh (pq B5.o.lt);clear aM g6 b6 aB;refine d _ _ ⟨_,λ_ h=>h,λ_=>Q.o.g3,?_⟩;clear d K;refine Al ?_;refine Ap ?_;refine Aj ?_;refine AE rfl (λK d=>?_);refine Gh Θ _ _ 39 Θ q.heap.size 53 i0 _ 7 72 ni ap aq ar au rfl Ξ (v:=E (BA ⟨w5.heap.size,0,AA⟩) 0 0) Θ an.o Θ Q.o.rd (JV l) (by have:=P.o;unfold Bk;omega) (Ψ P.o) Q.o.g3.size ?_;intro v' w7 o7 S _;rw[lN,jX]at o7;obtain⟨a3,c3,rfl⟩:=(Ag.ai o7).slice
  have r:=zh (Q.o.bK g.o an.o S (λam b f hv=>by
   have h1:=(an.o.lt b f).1;have h2:=g.o;have:=HO.o b hv am
   omega))
  have s:=zh o7;have B7:=zh (B6.o.u S (λe=>NB.o (by simpa[BB]using e.symm)));clear o7 S;refine d _ _ ⟨_,λ_ h=>h,λ_=>r.o.g3,?_⟩;clear d K;refine Al ?_;refine Ap ?_;refine Aj ?_;refine AE rfl (λK d=>?_);refine Gh Θ _ _ 39 Θ q.heap.size 53 i0 _ 7 72 ni ap aq ar au rfl Ξ (v:=E a3 n c3) Θ s.o Θ (Ag.bq (sz:=7) (n:=1) (c:=1) B7.o rfl (by unfold Bk;omega)) (λu hu=>JV [⟨G,H,I,L,M,N⟩] u (by rw[NS];exact hu)) (by have:=P.o;unfold Bk;omega) (Ψ P.o) r.o.g3.size ?_;intro v' w8 T y _;obtain⟨i,k,rfl⟩:=(Ag.ai T).slice;have o:=zh (J (Ho q.heap.size y (Hj s.o) r.o.b2 (Ψ g.o)) (J (Ho q.heap.size y (Hj s.o) r.o.b4 (Ψ g.o)) (J (DT r.o.g s.o (Ψ g.o) y) (J (DT r.o.g3 s.o (jF _) y) T))));clear T y;refine d _ _ ⟨_,λ_ h=>h,λ_=>o.o.2.2.2.1,?_⟩;clear d K;refine Al ?_;refine Ap ?_;have c4:=o.o.1.m 4;have f4:=o.o.1.v 4;refine Av ?_;refine Aj ?_;refine Am ?_;intro K d;obtain⟨w9,C⟩:=Af (w8.setCell ⟨w.heap.size,4,AA⟩ (E i (n+1) k))
  have z:Ac (λj=>j=w.heap.size) w8 w9:=by rw[<-C];exact Ay _ _ _ _
  have m:=o.o.1.setCell 4 (E i (n+1) k);rw[C]at m;rw[C];have a:=z.y o.o.2.1 (pq g.o.2.2);obtain⟨A,bg,aj,D⟩:=Hw a (O V t) (O V Y) (O V Z) (O BD (U aa)) (E i (n+1) k) (O V 0);have X:=o.o.2.2.2.2
  have B:=λb f=>X.lt b f
  have rd:Ag A 7 (E i (n+1) k) (n+1) (Cw (l++[⟨G,H,I,L,M,N⟩])):=by
   rw[OI];exact D.aN (z.aN (Ag.ai X) (λb f=>by have:=(B b f).1;have:=g.o;omega)) (λb f=>by have:=(B b f).1;have:=g.o;omega)
  have gz:=g.o;have F:=zh (show Aa A w2.heap.size 41 [O V t,O V Y,O V Z,O BD (U aa),E i (n+1) k,O V 0]/\Ag A 7 (E i (n+1) k) (n+1) (Cw (l++[⟨G,H,I,L,M,N⟩]))/\(∀b,(E i (n+1) k).ownBlock=BA b->w.heap.size<=b/\b<A.heap.size)/\w.grownBy A AA from⟨aj,rd,λb f=>⟨Ψ ((B b f).1),jJ (B b f).2 (jM z.aQ D.aQ)⟩,Ac.u (Ac.u o.o.2.2.1 z (λj e=>Ω)) D (λj e=>Ω)⟩);have u0:=m.m 0;have v0:=a.m 0;have k0:=a.v 0;have u1:=m.m 1;have v1:=a.m 1;have k1:=a.v 1;have u2:=m.m 2;have v2:=a.m 2;have k2:=a.v 2;have u3:=m.m 3;have v3:=a.m 3;have k3:=a.v 3;have u4:=m.m 4;have v4:=a.m 4;have k4:=a.v 4;have u5:=m.m 5;have v5:=a.m 5;have k5:=a.v 5;clear m a z D aj X B rd gz c4 f4 C;refine Aq d ?_;clear d K;refine AG (NoPanic.normal ?_);go_wp2_with fail;exact Bs (Bd (p:=4) (ty:=41) rfl _ _ w2.heap.size _ _ _ _ rfl F.o.1 A2 rfl Φ) rfl ⟨i,k,rfl,F.o.2.1,F.o.2.2.1,F.o.2.2.2⟩
end
