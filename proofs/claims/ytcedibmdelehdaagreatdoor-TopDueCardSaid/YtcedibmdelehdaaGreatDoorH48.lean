/- Lemmas. -/
import Derived.Test.YtcedibmdelehdaaGreatDoorH39
import Derived.Test.YtcedibmdelehdaaGreatDoorH46
import Derived.Test.YtcedibmdelehdaaGreatDoorH47
namespace Go.Proofs.YtcedibmdelehdaaGreatDoor
set_option maxRecDepth 100000
set_option maxHeartbeats 32000000
open Go.Value renaming int->J,slice->A2,pointer->A4,bool->B0,tuple->B5,ownBlock->CE,oneCell'->CL,agg->CX,map->C1
open Go.IntKind renaming i64->V
open And renaming intro->Z
open Option renaming none->Ax,some->AA
open Go.Proofs.Tryz renaming prog->A3,underlying68->B9,results67->CR
open Go renaming World->Bd,callsIn_wide->BC,run_takeDeferred->BR,Value->B2,Calls->B3,callsIn_of_wp_marks->B4,maxLen->CB,Addr->C2
open Go.Ending renaming returned->Bk
open Bool renaming false->Bn,true->BB
open Go.Obj renaming deferred->Bs,cells->C0
open Go.WalkArith renaming wf_i64->BD
open Go.World renaming grownBy_alloc->BE,block_lt_of_cell?->BX,ownsRow_nil->B7
open Go.IntWalk renaming wrap64_in->BL
open Or renaming inl->CA,inr->CV
variable{h r:Int->Option Nat}{E c e j:Nat}{O l o:Bd}{Y n p:Ad}{a:Nat->Int->Bool}{b:List Bc}{d:List Nat}{f:Option C2}{g:Bool}{i:List Du}{k q:B2}
section
open Go.RowKit Go.Maps Go.Shelf
attribute [local go_sem] Oper.semAt_some
theorem TC:(A3.info? 75).map (λi=>(i.zero,i.size,i.bytes))=AA (AA (CX #[J V 0,J V 0]),2,16):=Φ
theorem Yh(W:Bd)(a:List B2)(t:TypeId):∀j u,a[j]?=AA u->(W.alloc (C0 a.toArray t)).cell? ((⟨W.heap.size,0,Ax⟩:C2).add j)=AA u:=λj u b=>by
 have h:=(Aa.new W t a).aq b;unfold Addr.add
 split
 ·subst_vars;exact h
 ·simpa using h
theorem WB{F:Fence}{P:Program}{y:Array Oper}{o:Oper}{a:Act}{K:Act->Bd->Prop}{Q:Exit->Act->Bd->Prop}(A:o.guard=Ax)(s x:Operand)(t:TypeId)
  (p:o.op=.call {callee:=.builtin .append,args:=#[s,x],argTypes:=#[t,t]})
  (l:Nat)(e:TypeId)(i:TypeInfo)(z:B2)(b q:Nat)(B:P.underlying t=AA (.slice e))(C:P.info? e=AA i)(D:i.zero=AA z)
  (G:i.size=b)(H:i.bytes=q)(I:z.cells.size=b)(J:0<b)
  (v:B2)(n:Nat)(r:List B2)(L:a.eval s=v)(M:O.ownsRow l e b v n r)
  (w:C2)(m c:Nat)(g:List B2)(N:a.eval x=A2 (AA w) m c)(R:g.length=m*b)(S:∀j u,g[j]?=AA u->O.cell? (w.add j)=AA u)(T:∀u∈g,u.oneCell'=BB)
  (U:n+m<=CB)(V:(n+m)*q<=140737488355328)(W:l<=O.heap.size)
  (h:∀d k,k.ownsRow l e b d (n+m) (r++g)->O.grownBy k v.ownBlock->(d.ownBlock=v.ownBlock\/d.ownBlock=AA O.heap.size)->K (a.put o.dst d) k):
  if Region.wanted o (yielded y a.tmps)=BB then Oper.wpIn F E P o a O K Q else(∀f,o.about P O a.eval=AA f->F.fn f)/\K (a.put o.dst undef) O:=by
 obtain⟨d,k,X,Y,Z,h4,h5⟩:=run_append_own_at (P:=P) O l t o.type e i z b q B C D G H I J v n r M w m c g R S T U V W;simp only[Region.wanted,A,qW];unfold Oper.wpIn;refine⟨by simp[Oper.about,p,resolve,Target.leads,Sem.run_pure],?_⟩;rw[Oper.semAt_plain F _ _ (by rw[p];intro c ab;cases ab)];simp[execOp,p,resolve,invoke,builtin,L,N,X,Result.andThen];exact h d k Y Z h5
def Gn(D:Int->Option Nat)(n:Int):Du:=⟨n,((D n).getD 0:Nat)⟩
structure Ll(w e:Bd)(g:Ad)(O:Nat)(D:Int->Option Nat)(f:Int->Bool)(a:Ad)(c:List Int)(X:Bd):Prop where
 st:Ab (λj=>190<=j/\j<200) e g X a
 h5:a O=198
 o:∃d,Aa X O 68 [d]/\X.ownsRow w.heap.size 75 2 d c.length (CD (c.map (Gn D)))/\∀b,d.ownBlock=AA b->a b=198
 al:∀x∈c,f x=BB
theorem Ll.am{C:Nat->Prop}{f:Int->Bool}{d:List Int}{e:Bd}(a:Ll O l Y E h f n d o)(k:Ab C o n e p)(g:¬C 198)(r:∀j,C j->190<=j/\j<200):Ll O l Y E h f p d e:=by
 obtain⟨s,i,m,q⟩:=a.o;exact⟨a.st.trans (k.mono r),by rw[k.ah _ i.lt];exact a.h5,⟨s,k.u i (by rw[a.h5];exact g),k.ak.aL m (λb c=>by rw[q b c];exact g),λb c=>by rw[k.ah _ (m.lt b c).2];exact q b c⟩,a.al⟩
theorem VH(w:Bd)(b G p M:Nat)(D:Int->Option Nat)(f:Int->Bool)(aA:w.cell? ⟨b,1,Ax⟩=AA (C1 (AA G)))(H:MF w A3 3 G 256 (EE D))(aB:MF w A3 3 p 256 (DE f))(aC:w.cell? ⟨M,0,Ax⟩=AA (C1 (AA p)))
  (aU:∀n,f n=BB->(Lit.int V n).wf=BB)(bi:∃n,f n=BB):
  B3 A3 116 #[A4 (AA ⟨b,0,Ax⟩),.func (.func 178) #[] #[A4 (AA ⟨M,0,Ax⟩)]] w λe w'=>∃(a:Option C2) (c:Nat) (l:List Du),e=Bk (A2 a l.length c)/\0<l.length/\Ai w' 2 (A2 a l.length c) l.length (CD l)/\(∀x∈l,f x.n=BB/\x=Gn D x.n)/\(∀x,l[0]?=AA x->∀n,f n=BB->x.aZ<=(Gn D n).aZ)/\w.grownBy w' Ax:=by
 obtain⟨i0,hi,bl,bm,bn⟩:=info_parts TC;have aD:Fence.wide.round=Ax:=rfl;refine(BC (n:=20)).1 ?_;refine B4 Tryz.func116 rfl kI ?_ aD;simp only[Tryz.ntmps116,kR,kj,kP,Nat.reduceAdd,Nat.reduceSub,kF,kG,kU,kJ,kv,kO];obtain⟨N,bo,g0,b0⟩:=Aq w 62 [A4 (AA ⟨b,0,Ax⟩)];obtain⟨w1,bp,g1,b1⟩:=Aq N 68 [A2 Ax 0 0]
 gi_wp2
 have P:=Ae g0 g1;obtain⟨Q,av⟩:=Ag (AL (λ_=>0) N.heap.size 198)
 have aI:Ab (λj=>190<=j/\j<200) w (λ_=>0) w1 Q:=by
  rw[<-av];exact(Ab.grown (λ_ _=>rfl) P).bC g0.size b1.lt ⟨Ω,Ω⟩
 have R:∀j,j≠N.heap.size->Q j=0:=λj q=>by rw[<-av,Bg _ _ q]
 have HO:Hd (Q N.heap.size=198):=zh (by rw[<-av];exact AY _ _ _);have br:=b0.lt;have aW:=BX w _ aA;have ad:=BX w _ aC;have aX:=zh (Z ((b0.grown g1 Δ).m 0) (R w.heap.size Ω));have aY:=zh (Z (P.cell aA Δ) (R b (by have:b<w.heap.size:=aW;omega)));have aZ:=zh (Z (P.cell aC Δ) (R M (by have:M<w.heap.size:=ad;omega)));have a0:=zh (Z (H.grown P Δ) (R G (Ψ H.lt)));have aw:=zh (Z (aB.grown P Δ) (R p (Ψ aB.lt)));have a1:=zh aI;have HI:Hd (Ll w w1 Q N.heap.size D f Q [] w1):=zh ⟨Ab.refl aI.new,HO.o,⟨A2 Ax 0 0,b1,B7 _ _ _ _,λb hb=>by simp[CE]at hb⟩,λx hx=>by cases hx⟩;have bs:=zh aU;clear bo bp g0 g1 P aI av R br aW ad b0 b1 aA H aB aC aU;generalize N.heap.size=O at*
 refine IJ HI.o.st.new aD Ω (gf:=178) (lb:=#[A4 (AA ⟨M,0,Ax⟩)]) rfl kI (enters_of Tryz.func178 Φ rfl)
  (C:=λj=>j=198\/j=199) (CV rfl) (Z7 19 M p 0 f Ω _ Ω Ω) (λ_ _ _ _=>kI) (λ_=>rfl)
  (λ_=>Ll w w1 Q O D f) (λ_ _ _=>False)
  (λbt x a' X c=>a'={tmps:=(bt.tmps.setIfInBounds 8 (J V x)).setIfInBounds 6 (J V x),defers:=[]})
  ()
  (λm c c' I X Y h s=>h.am s Ω (λj e=>Ω))
  (λ_ _ _ _ _ h _=>h)
  (λm c I X h=>⟨⟨h.st.aq aZ.o.1 (by rw[aZ.o.2];omega),aw.o.1.ak h.st.ak (by rw[aw.o.2];omega),by rw[h.st.ah _ aw.o.1.lt];exact aw.o.2⟩,h.st.new⟩)
  (λ_ _ _ _ _ _ _ h _=>h)
  (λc c' x a' X Y h s=>h)
  HI.o (λj=>j=198) (λj h=>CA h) Ω Ω
  ?assign ?body ?done (λ_ _ _ _ h=>h.elim)
 case assign=>
  intro l m' L I x X K d a4 hR g;have ah:=zh d.st.new
  gi_wp2
  exact g _ _ L (Ab.refl ah.o) d hR rfl
 case body=>
  intro l m' L I x a' X d a4 hR bv;subst bv;obtain⟨ov,r,v,p3⟩:=d.o;obtain⟨va,vc,rfl⟩:=(Ai.aj v).slice;have S:=r.m 0;have f0:=r.v 0;have A:=zh d;have T:=zh r;have P2:=zh v;have U:=zh p3;have HR:=zh hR;have yw:=d.st.aq aX.o.1 (by rw[aX.o.2];omega);have yd:=d.st.aq aY.o.1 (by rw[aY.o.2];omega);have H:=a0.o.1.ak d.st.ak (by rw[a0.o.2];omega);have bA:=bs.o x hR;obtain⟨n,B⟩:=Ag I.length;rw[B]at T P2 U S a4;clear d r v p3 hR;simp only[mG,ku,kM]
  gi_wp2
  refine IH (λW=>W.cell? ⟨O,0,Ax⟩=AA (A2 va n vc)/\W.cell? ⟨w.heap.size,0,Ax⟩=AA (A4 (AA ⟨b,0,Ax⟩))/\W.cell? ⟨b,1,Ax⟩=AA (C1 (AA G))/\MF W A3 3 G 256 (EE D)) [([0,1,2,3,4,5,6,7,8],9,BB),([],10,Bn),([],11,Bn)] aD Φ Φ ?_;obtain⟨o,a5,i⟩:=AZ X;rw[a5];refine Fe ⟨i.cell S Δ,i.cell yw Δ,i.cell yd Δ,H.grown i Δ⟩ ?_;have bB:=zh (show o.cell? ⟨O,0,Ax⟩=AA (A2 va n vc)/\o.cell? ⟨w.heap.size,0,Ax⟩=AA (A4 (AA ⟨b,0,Ax⟩))/\o.cell? ⟨b,1,Ax⟩=AA (C1 (AA G))/\MF o A3 3 G 256 (EE D)from⟨i.cell S Δ,i.cell yw Δ,i.cell yd Δ,H.grown i Δ⟩);clear S yw yd H a5
  repeat((apply Fa rfl (λ_=>rfl) Θ;(· intro wS F;(try have F:=F rfl);(try dsimp only at F);(try have k0:=F.1);(try have k1:=F.2.1);(try have k2:=F.2.2.1);(try have bD:=F.2.2.2.fi (e:=3) (t:=115) kr lS (z:=J V 0) (w:=wS) rfl x bA);(try rw[(Me D x).1]at bD);(try clear F);go_simp;(try with_reducible rfl)));(refine Ak ?_))
  refine Fc ?_;refine BW rfl (λK g=>?_);go_simp;generalize a6:(D x).getD 0=am;have bE:=zh a6;obtain⟨wA,ay⟩:∃y,(o.alloc (C0 #[J V x,J V am] 75))=y:=⟨_,rfl⟩
  have gA:o.grownBy wA Ax:=by rw[<-ay];exact BE _ _ Ax
  have a8:∀j u,([J V x,J V am]:List B2)[j]?=AA u->wA.cell? ((⟨o.heap.size,0,Ax⟩:C2).add j)=AA u:=by rw[<-ay];exact Yh o [J V x,J V am] _
  rw[ay];have hs:=bB.o;refine g _ _ ⟨λ_=>⟨gA.cell hs.1 Δ,gA.cell hs.2.1 Δ,gA.cell hs.2.2.1 Δ,hs.2.2.2.grown gA Δ⟩,?_⟩;clear g K hs a6;have GA:=zh (Ae i gA);clear ay gA i;refine Ak ?_;refine Eg ?_;refine BW rfl (λK g=>?_);refine WB rfl _ _ 68 rfl w.heap.size 75 i0 (CX #[J V 0,J V 0]) 2 16 B9 hi bl bm bn rfl Ξ (A2 va n vc) n (CD (I.map (Gn D))) rfl (AP P2.o GA.o) ⟨o.heap.size,0,Ax⟩ 1 1 [J V x,J V am] rfl rfl a8 (by simp[CL]) (by unfold CB;omega) Ω (by have:=A.o.st.size;have:=a1.o.size;have:=GA.o.size;omega) ?_;intro v' w7 k1 k2 k3;obtain⟨a7,c7,rfl⟩:=(Ai.aj k1).slice;obtain⟨b7,c8,s7,b8,o8,k8⟩:=Oj (K:=198) (Aw.grown A.o.st.new GA.o) (T.o.grown GA.o Δ) (AP P2.o GA.o) Ξ A.o.h5 (λb hb=>U.o b hb) k2 k1 k3;have z0:=b7.m 0;have z1:=b7.v 0;have ah:=zh ((Ab.grown A.o.st.new GA.o).trans s7);have B8:=zh b8;have O8:=zh o8;have K8:=zh k8;clear k1 k2 k3 s7 b8 o8 k8 b7 a8 f0;refine g _ _ ⟨λhf=>(by cases hf),?_⟩;clear g K;simp only[Act.put,mG,ku,kM];refine Eg ?_;refine BW rfl (λK g=>?_);go_simp;refine g _ _ ⟨λhf=>(by cases hf),?_⟩;clear g K;refine Fu (NoPanic.normal ?_);clear z0 z1
  gi_wp2
  generalize w7.setCell ⟨O,0,Ax⟩ (A2 a7 (n+1) c7)=w8 at*;have q:=A.o;refine⟨c8,(),ah.o,q.st.trans (ah.o.mono (λj e=>Ω)),by rw[ah.o.ah _ T.o.lt];exact q.h5,⟨_,B8.o,?_,K8.o⟩,λy hy=>?_⟩
  ·rw[jU,lr,B,oX];have:=O8.o
   have e:CD (I.map (Gn D)++[x].map (Gn D))=CD (I.map (Gn D))++[J V x,J V am]:=by
    unfold CD;rw[mu, <-bE.o];rfl
   rw[e];exact this
  ·rcases kY.1 hy with hy|hy
   ·exact q.al y hy
   ·rw[kH.1 hy];exact HR.o
 case done=>
  intro E m' L xs X hS d g be;obtain⟨ov,r,v,p3⟩:=d.o;obtain⟨va,vc,rfl⟩:=(Ai.aj v).slice
  have aP:0<xs.length:=by
   obtain⟨n,B⟩:=bi;exact qM (hS.2 n B)
  have ad:xs.length<=1000:=by have:=hS.1;omega
  have hl:(xs.map (Gn D)).length=xs.length:=mH _;have aQ:=v;rw[<-hl]at aQ;have aR:=Zp (l:=xs.map (Gn D)) (by rw[hl];exact ad) (by rw[hl];exact aP) aQ;rw[hl]at aR;have S:=r.m 0;have T:=zh r;have P2:=zh v;have U:=zh p3;have A:=zh d;have HK:=zh (Z g be);have bO:=zh hS;have bP:=zh aP;have bQ:=zh aR;clear d r v aQ p3 g be hS hl aR aP ad
  gi_wp2_with (refine⟨kI,?_⟩;gi_at_call 176;refine(BC.2 bQ.o).mono ?_;rintro e w5 ⟨rfl,l',h1,h2,h3,h4,h5⟩;have S:=(T.o.grown h5 (λe=>Bh T.o P2.o Ξ e.symm)).m 0)
  refine⟨Δ,CA ⟨_,_,rfl,BR (show w5.heap[E]?=AA (Bs (AA []))from(h5.block E (kf.1 HK.o.1).1 (λe=>by have:=U.o E e.symm;rw[HK.o.2]at this;omega)).trans HK.o.1),?_⟩⟩;have s5:Ab (λj=>j=198) X L w5 L:=Ab.of A.o.st.new h5 (λk e=>U.o k e);have t3:=F5 w5 E (Bs Ax);have s3:Ab (λj=>j=199) w5 L (w5.putObj E (Bs Ax)) L:=AG s5.new t3 (λj e=>by rw[e];exact HK.o.2);have o3:=t3.aL h4 (λb hb e=>by have:=U.o b hb;rw[e,HK.o.2]at this;omega);generalize w5.putObj E (Bs Ax)=X3 at*;have q:=A.o;have bW:=bO.o;refine⟨_,results_tmp rfl _ _ _,va,vc,l',by rw[h1];rfl,by rw[h1];exact bP.o,by rw[h1];exact Ai.aj o3,λx hx=>?_,λx hx n B=>h3 x hx _ ((h2 _).2 (lP.2 ⟨n,bW.2 n B,rfl⟩)),Mf (a1.o.trans ((q.st.trans (s5.mono (λj e=>Ω))).trans (s3.mono (λj e=>Ω)))) Ω⟩;obtain⟨n,B,rfl⟩:=lP.1 ((h2 x).1 hx);exact⟨q.al n B,rfl⟩
theorem AX.gF{co:Ad}{q:Nat}(b:AX O Y E c e j d q h a)(f:∀k,600<=Y k->co k=Y k):AX O co E c e j d q h a:=
 ⟨b.u,b.aF,by rw[f _ (by rw[b.c0];omega)];exact b.c0,by rw[f _ (by rw[b.c1];omega)];exact b.c1,by rw[f _ (by rw[b.c2];omega)];exact b.c2,λi p g=>by rw[f _ (by rw[b.cp i p g];omega)];exact b.cp i p g,b.md,b.ml,b.mp⟩
def IA(a:Ad):Ad:=λk=>if 600<=a k then a k else 0
theorem Tn(h:Aw O Y):Aw O (IA Y):=λk a=>by
 unfold IA;rw[h k a];rfl
theorem Rm(s:Ab (λj=>190<=j/\j<200) O (IA Y) l n):O.grownBy l Ax:=
 ⟨s.ak.os,s.ak.fL,s.ak.fH,s.ak.size,λk a _=>s.ak.bK k a (λh=>by unfold IA at h;split at h<;>omega)⟩
theorem VY{i:Nat}(_:E<=c)(f:E<=e)(a:i=Dt E c)(b:j=Dt E e)(h:i<j):c<=e:=by
 subst a b;unfold Dt at h
 split at h<;>split at h<;>omega
def Nr(D:Int->Option Nat)(Q:Nat->Int->Bool)(n:Int)(a:Nat):Prop:=D n=AA a/\(∃i,Q i n=BB)/\∀i m b,Q i m=BB->D m=AA b->a<=b
structure F0(d:Bd)(e:Ad)(a b:Nat)(f:List B2)(g:Bool)(c:Ad)(X:Bd):Prop where
 st:Ab (λj=>190<=j/\j<200) d e X c
 c2:c a=198
 c3:c b=198
 b2:Aa X a 75 f
 b3:Aa X b 4 [B0 g]
 ne:a≠b
theorem F0.am{C:Nat->Prop}{a:List B2}(h:F0 O Y E c a g n l)(k:Ab C l n o p)(b:¬C 198)(d:∀j,C j->190<=j/\j<200):F0 O Y E c a g p o:=
 ⟨h.st.trans (k.mono d),by rw[k.ah _ h.b2.lt];exact h.c2,by rw[k.ah _ h.b3.lt];exact h.c3,k.u h.b2 (by rw[h.c2];exact b),k.u h.b3 (by rw[h.c3];exact b),h.ne⟩
theorem F0.hJ{u0 u1:B2}(h:F0 l n c e [u0,u1] g Y O)(f:Y E=199):
  (O.putObj E (Bs Ax)).cell? ⟨c,0,Ax⟩=AA u0/\(O.putObj E (Bs Ax)).cell? ⟨c,1,Ax⟩=AA u1/\(O.putObj E (Bs Ax)).cell? ⟨e,0,Ax⟩=AA (B0 g)/\Ab (λj=>190<=j/\j<200) l n (O.putObj E (Bs Ax)) Y:=by
 have a:Ab (λj=>j=199) O Y (O.putObj E (Bs Ax)) Y:=AG h.st.new (F5 O E (Bs Ax)) (λj b=>by rw[b];exact f);have d:=a.u h.b2 (by rw[h.c2];omega);have i:=a.u h.b3 (by rw[h.c3];omega);exact⟨d.m 0,d.m 1,i.m 0,h.st.trans (a.mono (λj b=>Ω))⟩
theorem F0.hz{u0 u1:B2}(h:F0 l n E c [u0,u1] g Y O)(a b:B2)(v:Bool):
  ∃d,(O.setCell ⟨E,0,Ax⟩ a).setCell ⟨E,1,Ax⟩ b=d/\d.cell? ⟨c,0,Ax⟩=AA (B0 g)/\d.frozen? ⟨c,0,Ax⟩=Bn/\∃wr,d.setCell ⟨c,0,Ax⟩ (B0 v)=wr/\F0 l n E c [a,b] v Y wr/\Ab (λj=>j=198) O Y wr Y:=by
 have m:=(h.b2.setCell 0 a).setCell 1 b;have f:=(h.b3.eH (p:=⟨E,0,Ax⟩) (λe=>h.ne e.symm) a).eH (p:=⟨E,1,Ax⟩) (λe=>h.ne e.symm) b;have o:O.grownBy ((O.setCell ⟨E,0,Ax⟩ a).setCell ⟨E,1,Ax⟩ b) (AA E):=Ae (An O ⟨E,0,Ax⟩ a) (An _ ⟨E,1,Ax⟩ b);refine⟨_,rfl,f.m 0,f.v 0,_,rfl,?_⟩;have i:Ab (λj=>j=198) O Y _ Y:=Ab.of h.st.new o (λk e=>by cases e;exact h.c2);have q:Ab (λj=>j=198) _ Y (((O.setCell ⟨E,0,Ax⟩ a).setCell ⟨E,1,Ax⟩ b).setCell ⟨c,0,Ax⟩ (B0 v)) Y:=Ab.of i.new (An _ ⟨c,0,Ax⟩ (B0 v)) (λk e=>by cases e;exact h.c3);have s:=i.trans q;exact⟨⟨h.st.trans (s.mono (λj e=>Ω)),h.c2,h.c3,m.eH (p:=⟨c,0,Ax⟩) h.ne _,f.setCell 0 _,h.ne⟩,s⟩
theorem ZG(ah:Aw O Y)(hw:AX O Y E c e j d 256 h a)(l0:Cm c h a):
  B3 A3 67 #[A4 (AA ⟨E,0,Ax⟩)] O λt w'=>O.grownBy w' Ax/\((t=Bk (B5 #[CX #[J V 0,J V 0],B0 Bn])/\∀i n,a i n=Bn)\/∃n p,t=Bk (B5 #[CX #[J V n,J V (p:Nat)],B0 BB])/\Nr h a n p):=by
 have ai:Fence.wide.round=Ax:=rfl;refine(BC (n:=20)).1 ?_;refine B4 Tryz.func67 rfl kI ?_ ai;simp only[Tryz.ntmps67,kR,kj,kP,Nat.reduceAdd,Nat.reduceSub,kF,kG,kU,kJ,kv,kO];obtain⟨w,bj,g0,b0⟩:=Aq O 62 [A4 (AA ⟨E,0,Ax⟩)];obtain⟨y,bl,g2,b2⟩:=Aq w 75 [J V 0,J V 0];obtain⟨R,bm,S,b3⟩:=Aq y 4 [B0 Bn];obtain⟨u,bn,B,bf⟩:=Aq R 62 [A4 (AA ⟨E,0,Ax⟩)];have u0:=((b0.grown g2 Δ).grown S Δ).m 0
 gi_wp2_with (refine⟨kI,?_⟩;gi_at_call 115;refine(BC.2 (ZA E R)).mono ?_;rintro t _ ⟨rfl,rfl⟩)
 have hG:=Ae (Ae (Ae g0 g2) S) B;obtain⟨v,I⟩:=Ag (AL (AL (IA Y) w.heap.size 198) y.heap.size 198);have T:=b0.lt;have bo:=b2.lt;have bp:=b3.lt
 have U:Ab (λb=>190<=b/\b<200) O (IA Y) u v:=by
  rw[<-I];exact((Ab.grown (Tn ah) hG).bC (show O.heap.size<=w.heap.size by omega) (show w.heap.size<u.heap.size by have:=B.size;omega) ⟨Ω,Ω⟩).bC (show O.heap.size<=y.heap.size by omega) (show y.heap.size<u.heap.size by have:=B.size;omega) ⟨Ω,Ω⟩
 have gv:∀b,b≠w.heap.size->b≠y.heap.size->v b=IA Y b:=λb q z=>by rw[<-I,Bg _ _ z,Bg _ _ q]
 have hz:∀b,O.heap.size<=b->b≠w.heap.size->b≠y.heap.size->v b=0:=λb f q z=>by rw[gv b q z];exact Tn ah b f
 have aO:=zh (Z (B.cell u0 Δ) (hz O.heap.size Ω Ω Ω));have aP:=zh (Z (bf.m 0) (hz R.heap.size Ω Ω Ω));have aQ:Hd (AX u v E c e j d 256 h a):=zh ((hw.gF (co:=IA Y) (λk hk=>ke hk)).ae U (λb q z=>by unfold Bb at q;omega));have HI:Hd (F0 u v w.heap.size y.heap.size [J V 0,J V 0] Bn v u):=zh ⟨Ab.refl U.new,by rw[<-I,Bg _ _ Ω];exact AY _ _ _,by rw[<-I];exact AY _ _ _,(b2.grown S Δ).grown B Δ,b3.grown B Δ,Ω⟩;have aS:=zh U;have L:=zh l0;clear bj bl bm bn g0 g2 S B hG U I gv hz T bo bp b0 b2 b3 bf u0 hw ah;generalize w.heap.size=O2 at*;generalize y.heap.size=O3 at*;generalize R.heap.size=Bx at*;generalize O.heap.size=B1 at*
 refine IJ HI.o.st.new ai Ω (gf:=175) (lb:=#[A4 (AA ⟨Bx,0,Ax⟩)]) rfl kI (enters_of Tryz.func175 Φ rfl)
  (C:=λb=>190<=b/\b<200) Ω (aA 19 Bx E c e j d h a Ω L.o _ (λb f=>by unfold Bb at f;omega)) (λ_ _ _ _=>kI) (λ_=>rfl)
  (λ_ r M X=>M=[]/\F0 u v O2 O3 [J V 0,J V 0] Bn r X) (λk r X=>k=.ret/\∃n p,Nr h a n p/\F0 u v O2 O3 [J V n,J V (p:Nat)] BB r X)
  (λbs x a' X aq=>a'={tmps:=(bs.tmps.setIfInBounds 10 (C1 (AA x.p))).setIfInBounds 4 (C1 (AA x.p)),defers:=[]})
  ()
  (λm aq c' M X bu f s=>⟨f.1,f.2.am s Ω (λb t=>Ω)⟩)
  (λ_ _ _ _ _ f s=>⟨f.1,by obtain⟨n,p,q,z⟩:=f.2;exact⟨n,p,q,z.am s Ω (λb t=>Ω)⟩⟩)
  (λm aq M X f=>⟨⟨f.2.st.aq aP.o.1 (by rw[aP.o.2];omega),aQ.o.ae f.2.st (λb q z=>by unfold Bb at q;omega)⟩,f.2.st.new⟩)
  (λ_ _ _ _ _ _ _ f _=>f)
  (λaq c' x a' X bu f s=>f)
  ⟨rfl,HI.o⟩ (λb=>b=198) (λb f=>Ω) Ω Ω
  ?assign ?body ?done ?stop
 case assign=>
  intro l m' r M x X K o bv hR g;have bw:=zh o.2.st.new
  gi_wp2
  exact g _ _ r (Ab.refl bw.o) o hR rfl
 case body=>
  intro l m' r M x a' X o bv hR bx;subst bx;obtain⟨rfl,o⟩:=o;obtain⟨hp,aW,aX⟩:=hR;have aY:=aQ.o.ae o.st (λb q z=>by unfold Bb at q;omega);have y1:=o.st.aq aO.o.1 (by rw[aO.o.2];omega);have F:=zh o;have HX:=zh (Z aW (aX rfl));have HW:=zh aY;have bA:=zh hp;clear o hp aW aX aY;simp only[mG,ku,kM]
  gi_wp2
  refine IH (λW=>W.cell? ⟨B1,0,Ax⟩=AA (A4 (AA ⟨E,0,Ax⟩))) [([0,1],2,BB),([],3,BB),([],4,Bn),([],5,Bn),([],6,Bn),([],7,Bn)] ai Φ Φ ?_;obtain⟨w9,a0,g9⟩:=AZ X;rw[a0];have a1:=zh (g9.cell y1 Δ);have G9:=zh g9;refine Fe (g9.cell y1 Δ) ?_;clear y1 a0 g9
  repeat((apply Fa rfl (λ_=>rfl) Θ;(· intro wS aw;(try have aw:=aw rfl);(try dsimp only at aw);go_simp;(try with_reducible rfl)));(refine Ak ?_))
  refine Fc ?_;refine BW rfl (λK g=>?_);go_simp;refine⟨kI,?_⟩;refine(BC.2 (YS x.p w9)).mono ?_;rintro t _ ⟨rfl,rfl⟩;dsimp only;obtain⟨wk,a2,ac,bk⟩:=Aq w9 117 [C1 (AA x.p)];rw[a2];refine g _ _ ⟨λ_=>ac.cell a1.o Δ,?_⟩;clear g K;have GK:=zh (Ae G9.o ac);have bD:=zh (ac.cell a1.o Δ);have bE:=zh (bk.m 0);clear bk ac a2;refine Ak ?_;have ad:=HW.o.grown GK.o
  have a4:=VH wk E e x.p w9.heap.size h (a x.i) ad.cells.2.1 ad.md (ad.mp _ _ bA.o) bE.o (λn hn=>by
   obtain⟨p,G,_⟩:=L.o.cT _ _ hn;have:=L.o.nn n p G
   exact BD Ω) HX.o.1
  have bF:=zh a4;clear ad a4;refine Eg ?_;refine BW rfl (λK g=>?_);go_simp;refine⟨kI,?_⟩;refine(BC.2 bF.o).mono ?_;rintro t w7 ⟨va,vc,l,rfl,T,a5,a6,a7,g7⟩;dsimp only;obtain⟨b7,o7,rfl,az⟩:=a5.aZ T
  obtain⟨A,l',rfl⟩:∃A l',l=A::l':=by
   cases l with
   |nil=>simp at T
   |cons A l'=>exact⟨A,l',rfl⟩
  have r0:=az 0 (J V A.n) rfl;have r1:=az 1 (J V A.aZ) rfl;rw[lD]at r0;obtain⟨ag,aB⟩:=a6 A (.head _);obtain⟨p,G,a9,ba⟩:=L.o.cT _ _ ag;obtain⟨n0,bI⟩:=A;dsimp only at r0 r1 ag G aB
  obtain rfl:bI=(p:Nat):=by
   have:=kL Du.aZ aB;unfold Gn at this;rw[G]at this;exact this
  have HN:Hd (Nr h a n0 p):=zh ⟨G,⟨x.i,ag⟩,λi m a' hm hd=>by
   obtain⟨b6,bc,bK,bL⟩:=L.o.cT _ _ hm;rw[hd]at bc
   cases bc
   by_cases t:i=x.i
   ·subst t;have f:=a7 _ rfl m hm;unfold Gn at f;rw[hd]at f;exact oK.1 f
   ·exact VY a9 bK ba bL (Ψ (HX.o.2 i m hm))⟩
  refine g _ _ ⟨λ_=>g7.cell bD.o Δ,?_⟩;clear g K;have s7:=Ab.grown (C:=λb=>b=198) F.o.st.new (Ae GK.o g7);have H:F0 u v O2 O3 [J V 0,J V 0] Bn r w7:=F.o.am (Ab.grown (C:=λ_=>False) F.o.st.new (Ae GK.o g7)) (λf=>f) (λ_ f=>f.elim);have S7:=zh s7;have b8:=H.b2.m 0;have bN:=H.b2.m 1;have bO:=H.b2.v 0;have bP:=H.b2.v 1;obtain⟨wq,bR,z3,bT,wr,bU,N,P⟩:=H.hz (J V n0) (J V p) BB;have bV:=zh N;have S2:=zh P;clear s7 H N P ag G a9 ba aB a6 a7 az a5 g7;refine Ak ?_;refine Eg ?_;refine BW rfl (λK g=>?_);go_simp;refine g _ _ ⟨λD=>(by cases D),?_⟩;clear g K;refine Ak ?_;refine Eg ?_;refine BW rfl (λK g=>?_);go_simp;refine g _ _ ⟨λD=>(by cases D),?_⟩;clear g K;refine Ak ?_;refine Eg ?_;refine BW rfl (λK g=>?_);go_simp;refine g _ _ ⟨λD=>(by cases D),?_⟩;clear g K;refine Ak ?_;refine Eg ?_;refine BW rfl (λK g=>?_);go_simp;refine g _ _ ⟨λD=>(by cases D),?_⟩;clear g K;refine Fu (NoPanic.normal ?_)
  gi_wp2
  exact⟨r,S7.o.trans S2.o,rfl,n0,p,HN.o,bV.o⟩
 case done=>
  intro aE m' r xs X hS o g Q;obtain⟨rfl,o⟩:=o;have z2:=o.b2.m 0;have bN:=o.b2.m 1;have bO:=o.b2.v 0;have bP:=o.b2.v 1;obtain⟨wq,bR,z3,bT,wr,bU,N,P⟩:=o.hz (J V 0) (J V 0) Bn;have F:=zh N;have HK:=zh (Z (show wr.heap[aE]?=AA (Bs (AA []))from(P.ak.bK aE (kf.1 g).1 (by rw[Q];omega)).trans g) Q);have bX:=zh (hS rfl);clear o g Q hS N P
  gi_wp2
  refine⟨Δ,CA ⟨_,_,rfl,BR HK.o.1,?_⟩⟩;obtain⟨q0,q1,q3,s3⟩:=F.o.hJ HK.o.2;refine⟨B5 #[CX #[J V 0,J V 0],B0 Bn],?_,Rm (aS.o.trans s3),CA ⟨rfl,bX.o⟩⟩;simp[results,CR,go_sem,q0,q1,q3]
 case stop=>
  rintro aE k r X ⟨rfl,n,p,hn,o⟩ g Q;have F:=zh o
  gi_wp2
  refine⟨Δ,CA ⟨_,_,rfl,BR g,?_⟩⟩;obtain⟨q0,q1,q3,s3⟩:=o.hJ Q;refine⟨B5 #[CX #[J V n,J V p],B0 BB],?_,Rm (aS.o.trans s3),CV ⟨n,p,rfl,hn⟩⟩;simp[results,CR,go_sem,q0,q1,q3]
end
section
open Go.RowKit Go.Maps
def Jm(j:Nat):Prop:=600<=j\/j=198\/j=197
def Cg(D:Int->Option Nat):Nat:=((List.range 256).filter λ(i:Nat)=>(D (i:Int)).isSome).length
theorem WG{α:Type}{p q:α->Bool}(h:∀x,p x=BB->q x=BB):∀{l:List α} {x:α},x∈l->q x=BB->p x=Bn->(l.filter p).length<(l.filter q).length:=by
 have d:∀l:List α,(l.filter p).length<=(l.filter q).length:=by
  intro l
  induction l with
  |nil=>simp
  |cons y l b=>
   by_cases e:p y=BB
   ·simp[e,h y e,b]
   ·cases c:q y<;>simp[e,c]<;>omega
 intro l x a f g
 induction l with
 |nil=>cases a
 |cons y l b=>
  have:=d l
  rcases lK.1 a with rfl|a
  ·simp[g,f];omega
  ·have:=b a
   by_cases e:p y=BB
   ·simp[e,h y e,this]
   ·cases c:q y<;>simp[e,c]<;>omega
theorem eu{n:Int}(b:h n=AA E)(c:0<=n/\n<256):Cg (BP h n)<Cg h:=by
 obtain⟨m,rfl⟩:=kT c.1;unfold Cg;refine WG (λx a=>?_) (x:=m) (lE.2 Ω) (by simp[b]) (by simp[BP]);unfold BP at a
 split at a
 ·cases a
 ·exact a
theorem OT(D:Int->Option Nat):Cg D<=256:=by
 unfold Cg;exact j8 (pA _ _) (by rw[List.length_range];exact jS _)
def UN(D:Int->Option Nat)(Q:Nat->Int->Bool)(n:Int)(a:Nat)(b:Bool):Prop:=(b=BB->Nr D Q n a)/\(b=Bn->∀i m,Q i m=Bn)
theorem TB(m:Aw O Y)(o:AX O Y E c e j d 256 h a)(p:Cm c h a):
  B3 A3 67 #[A4 (AA ⟨E,0,Ax⟩)] O λb k=>∃(n:Int) (f:Nat) (l:Bool),b=Bk (B5 #[CX #[J V n,J V (f:Nat)],B0 l])/\O.grownBy k Ax/\UN h a n f l:=by
 refine(ZG m o p).mono ?_;rintro b k ⟨g,⟨rfl,i⟩|⟨n,f,rfl,i⟩⟩
 ·exact⟨0,0,Bn,rfl,g,⟨λb=>(by cases b),λ_=>i⟩⟩
 ·exact⟨n,f,BB,rfl,g,⟨λ_=>i,λb=>(by cases b)⟩⟩
def UJ(D:Int->Option Nat)(E:Nat)(l:List Du):Prop:=∀x∈l,∃a:Nat,x.aZ=(a:Nat)/\D x.n=AA a/\a<=E
structure UO(w:Bd)(h:Ad)(b T E i o:Nat)(p:List Nat)(D:Int->Option Nat)(k:Nat)(v:B2)(O:Nat)(q:Bool)(X:Bd):Prop where
 ex:∃(e:Ad) (f:Nat) (d:Int->Option Nat) (g:Nat->Int->Bool) (l:List Du) (n:Int) (a:Nat),
  Ab Jm w h X e/\AX X e b f i o p 256 d g/\Cm f d g/\T<=f/\f<=E/\(∀m c,d m=AA c->D m=AA c)/\UJ D E l/\l.length+Cg d<=Cg D/\Cg d<k/\
  (∃r s,v=A2 r l.length s)/\X.ownsRow w.heap.size 75 2 v l.length (CD l)/\(∀j,v.ownBlock=AA j->e j=198)/\Aa X O 75 [J V n,J V (a:Nat)]/\e O=197/\UN d g n a q
theorem gK(aJ:Aw O Y)(hw:AX O Y c E e j d 256 h a)(l0:Cm E h a)(n:Nat)(hn:E+n<4096):
  B3 A3 24 #[A4 (AA ⟨c,0,Ax⟩),J V n] O λb w'=>∃B D l F q Q',b=Bk (B5 #[A2 B l.length D,J V 0])/\Ab Jm O Y w' F/\AX w' F c (E+n) e j d 256 q Q'/\Cm (E+n) q Q'/\
   (∀m t,q m=AA t->h m=AA t)/\UJ h (E+n) l/\w'.ownsRow O.heap.size 75 2 (A2 B l.length D) l.length (CD l)/\(∀f,(A2 B l.length D).ownBlock=AA f->F f=198)/\l.length+Cg q<=Cg h:=by
 obtain⟨c0,_,_⟩:=hw.cells;have e1:decide ((n:Int)<0)=Bn:=jV Ω;have w1:wrap64 ((281474976710656:Int) - (E:Int))=281474976710656 - (E:Int):=BL _ Ω;have e2:decide ((281474976710656:Int) - (E:Int)<(n:Int))=Bn:=jV Ω
 have w2:wrap64 ((E:Int)+(n:Int))=((E+n:Nat):Int):=by rw[BL _ Ω];rfl
 have w:=TB aJ hw l0;have bL:=zh w;have HW:=zh hw;have HL:=zh l0;have HC:=zh aJ;clear w hw l0 aJ
 go_enter Tryz.func24,Tryz.ntmps24
 go_wp2_with fail;refine(bL.o).mono ?_;rintro b s ⟨nx,ax,z,rfl,ga,hr⟩;dsimp only;obtain⟨L,bO,gb,M⟩:=Aq s 75 [J V 0,J V 0];have z0:=M.m 0;have z1:=M.m 1;have zf:=M.v 0;have zg:=M.v 1;obtain⟨wc,av⟩:∃x,(L.setCell ⟨s.heap.size,0,Ax⟩ (J V nx)).setCell ⟨s.heap.size,1,Ax⟩ (J V ax)=x:=⟨_,rfl⟩;have hG:=Ae ga gb;have ai:=ga.size;have bh:=M.lt
 have HI:Hd (UO O Y c E (E+n) e j d h 257 (A2 Ax 0 0) s.heap.size z wc):=zh (by
  obtain⟨N,aP⟩:=Ag (AL Y s.heap.size 197)
  have s1:Ab Jm O Y L N:=by rw[<-aP];exact(Ab.grown HC.o hG).bC ai bh (CV (CV rfl))
  have h8:N s.heap.size=197:=by rw[<-aP];exact AY _ _ _
  have s2:Ab Jm L N wc N:=by
   rw[<-av];exact Ab.of s1.new (Ae (An L ⟨s.heap.size,0,Ax⟩ (J V nx)) (An _ ⟨s.heap.size,1,Ax⟩ (J V ax))) (λk b=>by cases b;exact CV (CV h8))
  have u:AX L N c E e j d 256 h a:=(HW.o.ae (Ab.grown (C:=λ_=>False) HC.o hG) (λ_ _ g=>g)).gF (λk hk=>by
   rw[<-aP];refine Bg _ _ (λb=>?_);have:=HC.o k Ω
   omega)
  have P:AX wc N c E e j d 256 h a:=u.ae (Ab.of (C:=λf=>f=197) s1.new (show L.grownBy wc (AA s.heap.size) by rw[<-av];exact Ae (An L ⟨s.heap.size,0,Ax⟩ (J V nx)) (An _ ⟨s.heap.size,1,Ax⟩ (J V ax))) (λk b=>by cases b;exact h8)) (λf u P=>by unfold Bb at u;omega);have bR:=OT h
  have bS:Aa wc s.heap.size 75 [J V nx,J V ax]:=by rw[<-av];exact(M.setCell 0 _).setCell 1 _
  exact⟨⟨N,E,h,a,[],nx,ax,s1.trans s2,P,HL.o,jS _,nW _ _,λ_ _ g=>g,(λx Q=>(by cases Q)),Δ,Nat.lt_succ_of_le bR,⟨Ax,0,rfl⟩,B7 _ _ _ _,(λf g=>(by simp[CE]at g)),bS,h8,hr⟩⟩)
 go_wp2_with fail;clear M z0 z1 zf zg bO av hG gb ga hr c0 ai bh;generalize s.heap.size=O0 at*
 go_loopg [7,8,9] 257 (λk v7 v8 v9 W=>∃aj z,v8=A4 (AA ⟨aj,0,Ax⟩)/\v9=B0 z/\UO O Y c E (E+n) e j d h k v7 aj z W)
 case atStart=>exact⟨O0,z,rfl,rfl,HI.o⟩
 case round=>
  obtain⟨aj,z,rfl,rfl,hg⟩:=hrel;obtain⟨F,T',q,Q',l,p,o,X,aw,aa,bY,bi,ay,az,aU,hk,⟨B,D,rfl⟩,ho,aB,hb,bj,w⟩:=hg.ex
  by_cases aV:z=BB/\o<=E+n
  ·obtain⟨rfl,bZ⟩:=aV;obtain⟨hd,⟨i0,bl⟩,bm⟩:=w.1 rfl
   have bo:T'<=o:=by
    obtain⟨a2,bp,b0,_⟩:=aa.cT _ _ bl;rw[hd]at bp
    cases bp
    exact b0
   have ac:=RL aw aa X.new o bo Ω bm;have aD:=zh ac;have e3:decide ((o:Int)<=(E:Int)+(n:Int))=BB:=jT Ω;have u0:=hb.m 0;have u1:=hb.m 1;have b2:=aa.nn p o hd;have b3:(Lit.int V p).wf=BB:=BD Ω;have HB:=zh (Z hb bj);have G:=zh (Z X (Z ho (Z aB (Z ay az))));have H:=zh (show E<=o/\o<=E+n/\l.length+Cg q<=Cg h/\Cg q<gk/\q p=AA o from⟨Ω,bZ,aU,hk,hd⟩);clear ac aw aa X ho aB ay az hb hg w bm bl bo bY bi aU hk bj;go_wp2_with fail;refine aD.o.mono ?_;rintro b w5 ⟨⟨v,rfl⟩,Q5,y,R,I⟩;dsimp only;have b5:=y.u HB.o.1 (by rw[HB.o.2];unfold Bb;omega);have v0:=b5.m 0;have br:=Of R I.t y.new p b3 (λt hc=>I.lt p t hc);have b9:=zh br;have S:=zh (Z y (Z R (Z I b5)));clear br y R I b5;go_wp2_with fail;refine b9.o.mono ?_;rintro b T ⟨⟨v6,rfl⟩,s6,h6⟩;dsimp only;obtain⟨i0,hi,cb,cc,cd⟩:=info_parts TC;have b6:=s6.u S.o.2.2.2 (by rw[S.o.1.ah _ HB.o.1.lt,HB.o.2];unfold Bb;omega);have x0:=b6.m 0;have x1:=b6.m 1;have o6:=s6.ak.aL (S.o.1.ak.aL G.o.2.1 (λf b=>by rw[G.o.2.2.1 f b];unfold Bb;omega)) (λf b=>by rw[S.o.1.ah _ (G.o.2.1.lt f b).2,G.o.2.2.1 f b];unfold Bb;omega);obtain⟨m,hm⟩:=Ag l.length;rw[hm]at o6⊢;have HM:=zh hm
   have cC:m<=256:=by have:=H.o.2.2.1;have:=OT h;omega
   have O6:=zh o6;have B6:=zh (Z b6 (Z s6 h6))
   have cD:O.heap.size<=T.heap.size:=by have u:=G.o.1.size;have P:=S.o.1.size;have h3:=s6.size;omega
   have gA:=BE T (C0 #[J V p,J V o] 75) Ax;have bA:=b6.grown gA Δ
   have ce:AA aj≠(A2 B m D).ownBlock:=λb=>by
    have h9:=G.o.2.2.1 aj (by rw[HM.o];exact b.symm);rw[HB.o.2]at h9;omega
   have BA:=zh bA;clear o6 hm b6 s6 h6 bA;go_wp2_with (at_builtin;refine Lw rfl _ _ 68 rfl O.heap.size 75 i0 (CX #[J V 0,J V 0]) 2 16 B9 hi cb cc cd rfl Ξ (v:=A2 B m D) (n:=m) (xs:=CD l) (sv:=A2 (AA ⟨T.heap.size,0,Ax⟩) 1 1) (m:=1) (news:=[J V p,J V o]) rfl (AP O6.o (BE T (C0 #[J V p,J V o] 75) Ax)) rfl (Ai.bn (Aa.new T _ [J V p,J V o]) rfl (by unfold CB;omega)) (by simp[CL]) (by unfold CB;omega) Ω Γ ?_;intro vp r k1 k2 k3;have b7:=BA.o.grown k2 ce;have y0:=b7.m 0;have y1:=b7.m 1;obtain⟨a7,c7,rfl⟩:=(Ai.aj k1).slice;obtain⟨w8,cI,g8,b8⟩:=Aq r 75 [J V 0,J V 0];have z0:=b8.m 0;have z1:=b8.m 1;have zf:=b8.v 0;have zg:=b8.v 1;obtain⟨w9,bx⟩:∃x,(w8.setCell ⟨r.heap.size,0,Ax⟩ (J V p)).setCell ⟨r.heap.size,1,Ax⟩ (J V o)=x:=⟨_,rfl⟩;have K1:=zh k1;have K2:=zh k2;have K3:=zh k3;clear k1 k2 k3);obtain⟨cA,sA,bz⟩:=MP (K:=198) (Aw.grown B6.o.2.1.new gA) (AP O6.o gA) (λf b=>G.o.2.2.1 f (by rw[HM.o];exact b)) K2.o K1.o K3.o;have a4:Ab (λf=>f=198) T F r cA:=(Ab.grown B6.o.2.1.new gA).trans sA;obtain⟨A,bB⟩:=Ag (AL cA r.heap.size 197)
   have s8:Ab (λf=>f=197) r cA w8 A:=by rw[<-bB];exact(Ab.grown a4.new g8).bC (jS _) b8.lt rfl
   have bC:A r.heap.size=197:=by rw[<-bB];exact AY _ _ _
   have g9:w8.grownBy w9 (AA r.heap.size):=by rw[<-bx];exact Ae (An w8 ⟨r.heap.size,0,Ax⟩ (J V p)) (An _ ⟨r.heap.size,1,Ax⟩ (J V o))
   have s9:Ab (λf=>f=197) w8 A w9 A:=Ab.of s8.new g9 (λk b=>by cases b;exact bC);have cn:AX T F c o e j d 256 (BP q p) (Gl o q Q5 p):=B6.o.2.2;have h9:=(cn.ae a4 (λf u P=>by unfold Bb at u;omega)).ae (s8.trans s9) (λf u P=>by unfold Bb at u;omega);have l9:=S.o.2.2.1.drop p;have w:=TB s9.new h9 l9;have co:=zh w;have U:=zh (Z a4 (Z (s8.trans s9) (Z bC (Z h9 l9))));refine co.o.mono ?_;rintro b wn ⟨n2,a2,cp,rfl,gn,cq⟩;dsimp only
   have cr:Aa w9 r.heap.size 75 [J V p,J V o]:=by rw[<-bx];exact(b8.setCell 0 _).setCell 1 _
   have bn:=cr.grown gn Δ;have q0:=bn.m 0;have q1:=bn.m 1;have qf:=bn.v 0;have qg:=bn.v 1;obtain⟨wz,bG⟩:∃x,(wn.setCell ⟨r.heap.size,0,Ax⟩ (J V n2)).setCell ⟨r.heap.size,1,Ax⟩ (J V a2)=x:=⟨_,rfl⟩;go_wp2_with fail
   go_roundg (Cg q)
   case measure=>exact H.o.2.2.2.1
   have a8:Ab (λf=>f=197) w9 A wn A:=Ab.grown U.o.2.1.new gn;have bH:Ab (λf=>f=197) wn A wz A:=Ab.of a8.new (show wn.grownBy wz (AA r.heap.size) by rw[<-bG];exact Ae (An wn ⟨r.heap.size,0,Ax⟩ (J V n2)) (An _ ⟨r.heap.size,1,Ax⟩ (J V a2))) (λk b=>by cases b;exact U.o.2.2.1);have st:=(U.o.2.1.trans a8).trans bH;have aI:=G.o;have h9:=(U.o.2.2.2.1.ae (C:=λf=>f=197) (a8.trans bH) (λf u P=>by unfold Bb at u;omega));have cs:=eu H.o.2.2.2.2 b2;refine⟨_,cp,rfl,rfl,⟨A,o,BP q p,Gl o q Q5 p,l++[⟨p,o⟩],n2,a2,?_,h9,U.o.2.2.2.2,H.o.1,H.o.2.1,?_,?_,?_,cs,?_,?_,?_,?_,U.o.2.2.1,cq⟩⟩
   ·exact aI.1.trans ((S.o.1.mono (λf b=>CA b)).trans ((B6.o.2.1.mono (λf b=>CA b)).trans ((U.o.1.mono (λf b=>CV (CA b))).trans (st.mono (λf b=>CV (CV b))))))
   ·intro m t g;unfold BP at g
    split at g
    ·cases g
    ·exact aI.2.2.2.1 m t g
   ·intro x Q
    rcases kY.1 Q with Q|Q
    ·exact aI.2.2.2.2 x Q
    ·rw[kH.1 Q];exact⟨o,rfl,aI.2.2.2.1 _ _ H.o.2.2.2.2,H.o.2.1⟩
   ·rw[jU,lr];have:=H.o.2.2.1;omega
   ·exact⟨a7,c7,by rw[jU,lr,HM.o]⟩
   ·rw[jU,lr,HM.o,show CD (l++[⟨p,(o:Nat)⟩])=CD l++[J V p,J V o] by unfold CD;rw[mu];rfl];exact st.ak.aL K1.o (λf b=>by rw[bz f b];omega)
   ·intro f g;rw[st.ah _ (K1.o.lt f g).2];exact bz f g
   ·rw[<-bG];exact(bn.setCell 0 _).setCell 1 _
  ·have ai:∀i m t,Q' i m=BB->q m=AA t->E+n<=t:=by
    intro i m t hq hd
    cases z with
    |false=>rw[w.2 rfl i m]at hq;cases hq
    |true=>
     have u:=(w.1 rfl).2.2 i m t hq hd
     have P:¬o<=E+n:=λg=>aV ⟨rfl,g⟩
     omega
   have ac:=RL aw aa X.new (E+n) bi hn ai;simp only[Int.natCast_add]at ac;have aD:=zh ac;have u1:=hb.m 1;have bI:=zh (Z X (Z ho (Z aB (Z ay (Z az aU)))));clear ac aw aa X ho aB ay az hb hg w ai
   cases z with
   |false=>
    go_wp2_with fail;refine aD.o.mono ?_;rintro b w5 ⟨⟨v,rfl⟩,Q5,y,R,I⟩;dsimp only;go_wp2_with fail;have g:=bI.o;exact bodyPost_ret (results_tmp2 rfl _ _ _) rfl ⟨B,D,l,F,q,Q5,rfl,g.1.trans (y.mono (λf b=>CA b)),R,I,g.2.2.2.1,g.2.2.2.2.1,y.ak.aL g.2.1 (λf b=>by rw[g.2.2.1 f b];unfold Bb;omega),g.2.2.1,g.2.2.2.2.2⟩
   |true=>
    have e3:decide ((o:Int)<=(E:Int)+(n:Int))=Bn:=jV (λg=>aV ⟨rfl,Ω⟩);go_wp2_with fail;refine aD.o.mono ?_;rintro b w5 ⟨⟨v,rfl⟩,Q5,y,R,I⟩;dsimp only;go_wp2_with fail;have g:=bI.o;exact bodyPost_ret (results_tmp2 rfl _ _ _) rfl ⟨B,D,l,F,q,Q5,rfl,g.1.trans (y.mono (λf b=>CA b)),R,I,g.2.2.2.1,g.2.2.2.2.1,y.ak.aL g.2.1 (λf b=>by rw[g.2.2.1 f b];unfold Bb;omega),g.2.2.1,g.2.2.2.2.2⟩
end
section
open Go Go.RowKit
def kB(n:Nat):ByteArray:=⟨#[UInt8.ofNat n]⟩
theorem PC(h:E<256):bl (kB E)=[E]:=by
 show[(UInt8.ofNat E).toNat]=[E];rw[UInt8.toNat_ofNat']
 congr 1
 omega
theorem ij(b:E<256)(d:c<256)(h:kB E=kB c):E=c:=by
 have a:=kL Proofs.YtcedibmdelehdaaGreatDoor.bl h;rw[PC b,PC d]at a;exact(List.cons.inj a).1
theorem Qt{x:Bc}{a:ByteArray}:∀{n:Nat},n<=b.length->DL (b++[x]) a n=DL b a n
 |0,_=>rfl
 |n+1,h=>by
  unfold DL;rw[lj Ω,Qt Ω]
theorem QK(l:List Bc)(x:Bc)(a:ByteArray):DL (l++[x]) a (l++[x]).length=if Jo x.aN a then AA l.length else DL l a l.length:=by
 rw[jU,lr]
 conv=>lhs;unfold DL
 rw[lf (jS _),lU,qE,Qt (jS _)]
def DB(b:List Bc)(D:Int->Option Nat):Prop:=∀(n:Nat) (a:Nat),n<256->D (n:Int)=AA a->a≠0/\∃i x,DL b (kB n) b.length=AA i/\b[i]?=AA x/\x.cF=Bn/\x.en=a
theorem DB.new:DB [] (λ_=>Ax):=λn a _ h=>by cases h
theorem DB.gP(d:DB b h)(s:∀m c,r m=AA c->h m=AA c):DB b r:=λn a e f=>d n a e (s _ _ f)
theorem DB.gH(f:DB b h)(x:Bc)(g:E<256)(j:x.aN=kB E):DB (b++[x]) (BP h E):=λn a d c=>by
 unfold BP at c
 split at c
 ·cases c
 rename_i k
 obtain⟨l,i,y,m,o,p⟩:=f n a d c;refine⟨l,i,y,?_,Ma o,p⟩;rw[QK,j7]
 ·exact m
 ·intro e;have:=IV.1 e;rw[j]at this;exact k (by rw[ij g d this])
theorem DB.aR(f:DB b h)(x:Bc)(g:E<256)(d:x.aN=kB E)(i:x.cF=Bn)(j:x.en≠0):DB (b++[x]) (CQ h E x.en):=λn a k c=>by
 by_cases e:(n:Int)=E
 ·obtain rfl:n=E:=by omega
  unfold CQ at c;rw[ke rfl]at c;obtain rfl:=kE c;refine⟨j,b.length,x,?_,?_,i,rfl⟩
  ·rw[QK,ke];exact IV.2 d
  ·rw[lf (jS _),lU];rfl
 ·refine f.gH x g d n a k ?_;unfold CQ at c;rw[j7 e]at c;unfold BP;rw[j7 e];exact c
theorem DB.iW(d:DB b h)(f:E<256)(g:h (E:Int)=AA c)(j:c<=e)(v:ByteArray):Jh e b (kB E) v=Bn:=by
 obtain⟨k,i,x,l,m,n,a⟩:=d E c f g;unfold Jh;rw[l];dsimp only;rw[m];dsimp only;rw[show I6 e x=BB from jT ⟨by rw[a];exact k,by rw[a];exact j⟩];simp
theorem dR(d:∀n:Nat,n<256->(h n).isSome=BB->(r n).isSome=BB):Cg h<=Cg r:=by
 unfold Cg
 have f:∀l:List Nat,(∀x∈l,x<256)->(l.filter λ(i:Nat)=>(h (i:Int)).isSome).length<=(l.filter λ(i:Nat)=>(r (i:Int)).isSome).length:=by
  intro l
  induction l with
  |nil=>intro _;exact jS _
  |cons y l g=>
   intro c
   have a:=g λx b=>c x (lA _ b)
   rw[mq,mq]
   by_cases e:(h (y:Int)).isSome=BB
   ·rw[ke e,ke (d y (c y mi) e)];exact mJ a
   ·rw[j7 e]
    split
    ·exact nN a
    ·exact a
 exact f _ λx b=>lE.1 b
theorem Z6(D:Int->Option Nat)(n:Int):Cg (BP D n)<=Cg D:=dR λm _ h=>by
 unfold BP at h
 split at h
 ·cases h
 ·exact h
theorem aL(D:Int->Option Nat)(n:Int)(a:Nat):Cg (CQ D n a)<=Cg D+1:=by
 unfold Cg
 have d:∀l:List Nat,l.Nodup->(l.filter λ(i:Nat)=>(CQ D n a (i:Int)).isSome).length<=(l.filter λ(i:Nat)=>(D (i:Int)).isSome).length+1:=by
  intro l b
  induction l with
  |nil=>simp
  |cons y l f=>
   rw[nL]at b;rw[mq,mq]
   by_cases e:(y:Int)=n
   ·have g:(l.filter λ(i:Nat)=>(CQ D n a (i:Int)).isSome)=l.filter λ(i:Nat)=>(D (i:Int)).isSome:=List.filter_congr λx c=>by
     have:¬(x:Int)=n:=λk=>by
      have h:x=y:=Ω;rw[h]at c;exact b.1 c
     unfold CQ;rw[j7 this]
    rw[g]
    split<;>split<;>simp<;>omega
   ·have j:CQ D n a (y:Int)=D y:=j7 e;rw[j];have:=f b.2
    split
    ·exact mJ this
    ·exact this
 exact d _ nu
theorem Yt:Cg (λ_=>Ax)=0:=by
 unfold Cg;rw[qG,List.filter_eq_nil_iff];intro _ _ h
 cases h
abbrev DC(k:Nat):Prop:=k≠0
structure DT(w W:Bd)(a:Ad)(c:Nat)(A:AO)(b e f:Nat)(g:List Nat)(j q t lo:Nat)(N:AC)(d:List Bc)(D:Int->Option Nat)(Q:Nat->Int->Bool):Prop where
 ca:Ca W a c A CZ q t lo N
 eg:Cp CZ N lo d
 st:Ab DC w (λ_=>0) W a
 q:q+120000*Cg D<=60000+250000*j
 lo:lo<=j
 tm:t<=20*j
 wh:AX W a b t e f g 256 D Q
 wl:Cm t D Q
 du:DB d D
section
variable {w W W':World} {col:Ad} {c:Nat} {A:AO} {b bd bz:Nat} {ps:List Nat} {j q t lo:Nat} {N:AC} {ops:List Bc} {D:Int->Option Nat} {Q:Nat->Int->Bool}
theorem DT.below(h:DT w W col c A b bd bz ps j q t lo N ops D Q):w.grownBy W Ax:=Mf h.st (λe=>e rfl)
theorem DT.grown(h:DT w W col c A b bd bz ps j q t lo N ops D Q)(g:W.grownBy W' Ax):DT w W' col c A b bd bz ps j q t lo N ops D Q:=
 ⟨h.ca.grown g,h.eg,h.st.trans (Ab.grown h.ca.p.cl g),h.q,h.lo,h.tm,h.wh.grown g,h.wl,h.du⟩
theorem Pk:∀j,Bb j->¬Ee j:=by
 rintro j a (h|h)
 ·unfold Bb at a;omega
 ·unfold Bb at a;omega
theorem MV:∀j,Ee j->DC j:=by
 rintro j (h|h) e
 ·omega
 ·omega
theorem Pp:∀j,j<=9->¬Bb j:=λj h k=>by unfold Bb at k;omega
theorem Pv:∀j,Bb j->DC j:=λj h e=>by unfold Bb at h;omega
def Jn(j:Nat):Prop:=600<=j\/j=450\/j=198\/j=197
theorem ii:∀j,j<=9->¬Jn j:=λj h k=>by unfold Jn at k;omega
theorem il:∀j,Jn j->DC j:=λj h e=>by unfold Jn at h;omega
theorem cQ{w:Bd}{col:Ad}(h:Ab Jm w col O Y):∃b,Ab Jn w col O b/\(∀k,600<=Y k->b k=Y k)/\∀k,w.heap.size<=k->Y k=198->b k=450:=by
 refine⟨λk=>if w.heap.size<=k/\Y k=198 then 450 else Y k,⟨h.ak.mono (λj c=>?_),λk a=>?_,λk a=>?_,λk a=>?_⟩,λk a=>j7 Ω,λk d f=>?_⟩
 ·unfold Jm at c;unfold Jn;omega
 ·rw[j7 Ω];exact h.ah k a
 ·split
  ·exact CV (CV (CA rfl))
  ·rcases h.dx k a with e|e
   ·exact CA e
   ·unfold Jm at e;unfold Jn;omega
 ·rw[h.new k a,j7 Ω]
 ·show(if w.heap.size<=k/\Y k=198 then 450 else Y k)=450;rw[ke ⟨d,f⟩]
theorem ji(x:Int):∃k:Nat,k<256/\(IntKind.u64.wrap x).tmod 256=(k:Int)/\wrap64 (k:Int)=(k:Int):=by
 refine⟨((x%18446744073709551616)%256).toNat,Ω,?_,BL _ Ω⟩;rw[IntKind.wrap_u64,ln Ω];omega
theorem TI(w:Bd)(k:Nat)(c:k<256):∃a,w.alloc (C0 #[J .u8 (k:Nat)] 5)=a/\CN w (kB k) w.heap.size 1 a:=by
 obtain⟨a,d,g,b⟩:=Aq w 5 [J .u8 (k:Nat)];refine⟨a,d,g,jS _,b.lt,?_⟩;rw[PC c];exact Ai.bn b rfl (show 1<=CB by unfold CB;omega)
theorem Ud:¬Ee 450:=by rintro(h|h)<;>omega
structure DM(w W:Bd)(col:Ad)(c:Nat)(A:AO)(b bd bz:Nat)(ps:List Nat)(j q t lo:Nat)(N:AC)(ops:List Bc)(D:Int->Option Nat)(Q:Nat->Int->Bool)(k:Nat):Prop where
 ca:Ca W col c A CZ q t lo N
 eg:Cp CZ N lo ops
 st:Ab DC w (λ_=>0) W col
 q:q+120000*Cg D<=180000+250000*j
 lo:lo<=j+1
 tm:t<=20*j
 wh:AX W col b t bd bz ps 256 D Q
 wl:Cm t D Q
 du:DB ops (BP D k)
theorem DT.hK(h:DT w W col c A b bd bz ps j q t lo N ops D Q){a:List Bc}(m:E<=lo+1){k:Nat}(e:DB a (BP D k))(r:Li W col c A CZ q t E a W'):∃f d,DM w W' f c A b bd bz ps j (q+120000) t E d a D Q k:=by
 obtain⟨g,d,s,l,i⟩:=r;have n:=h.q;have o:=h.lo;exact⟨g,d,l,i,h.st.trans (s.mono MV),Ω,Ω,h.tm,h.wh.ae s Pk,h.wl,e⟩
theorem dO(h:DT w W col c A b bd bz ps j q t lo N ops D Q)(n:j<=41)(g:E<256):∀W' a d,CN W (kB E) a d W'->B3 A3 22 #[Am c,A2 (AA ⟨a,0,Ax⟩) 1 d] W' λe f=>e=Bk (J V 0)/\∃i k,DM w f i c A b bd bz ps j (q+120000) t lo k (ops++[Nb (kB E)]) D Q E:=λW' a d l=>
 (gj h.ca h.eg (Ψ h.q) (kB E) (jS 1) (show 1<=64 by omega) W' a d l).mono λe f ⟨m,r⟩=>⟨m,h.hK (lC _) (h.du.gH (Nb (kB E)) g rfl) r⟩
theorem VE{t:Nat}(b:t<=1000)(d:E<=200)(e:c<=20):JN CZ t 1 E (c:Nat)=0:=by
 unfold JN
 have a:Dw 1 E 0=0:=by
  unfold Dw;rw[j7 Ω,j7 Ω,j7 Ω]
 rw[a,j7 Ω,j7 Ω,j7 (by rw[show CZ.aI=308 by decide];omega)]
theorem ez(h:DT w W col c A b bd bz ps j q t lo N ops D Q)(G:j<=41){k:Nat}(o:k<256)(a:ByteArray)(u:a.size<=200)(v:E<=20):∀W' f g i l,CN W (kB k) f g W'->CN W a i l W'->B3 A3 27 #[Am c,A2 (AA ⟨f,0,Ax⟩) 1 g,A2 (AA ⟨i,0,Ax⟩) a.size l,J V E] W' λe p=>e=Bk (J V 0)/\∃x n d s,DM w p x c A b bd bz ps j (q+120000) t d n s D Q k/\(0<E->DB s (CQ D k (t+E))):=λW' f g i l y z=>
 (fS h.ca h.eg (Ψ h.q) (kB k) a E (VE (Ψ h.tm) u v) (Ψ h.lo) 0 (kN _) (kN _) W' f g i l y z).mono λe p ⟨m,d,B,r⟩=>by
  obtain⟨C,n,F⟩:=h.hK B (h.du.gH (Hh (kB k) a (Ey t E) 0 d) o rfl) r;refine⟨m,C,n,d,_,F,λH=>?_⟩;have m:Ey t E=t+E:=j7 Ω;have:=h.du.aR (Hh (kB k) a (Ey t E) 0 d) o rfl rfl (show Ey t E≠0 by rw[m];omega);rw[show(Hh (kB k) a (Ey t E) 0 d).en=t+E from m]at this;exact this
theorem Sj(h:DM w W col c A b bd bz ps j q t lo N ops D Q E)(_:j<=41)(l:E<256):B3 A3 23 #[A4 (AA ⟨b,0,Ax⟩),J V E] W λe d=>(∃v,e=Bk v)/\DT w d col c A b bd bz ps (j+1) q t lo N ops (BP D E) (Gl t D Q E)/\q+120000*(Cg (BP D E)+1)<=60000+250000*(j+1):=
 (Of h.wh h.wl.t h.ca.p.cl (E:Nat) (BD Ω) (λa f=>h.wl.lt _ a f)).mono λe d ⟨g,s,i⟩=>by
  have m:=Z6 D (E:Nat);have n:=h.q;have o:=h.tm;exact⟨g,⟨h.ca.ae s Pp,h.eg,h.st.trans (s.mono Pv),Ω,h.lo,Ω,i,h.wl.drop _,h.du⟩,Ω⟩
theorem aS{n:Nat}(h:DT w W col c A b bd bz ps (j+1) q t lo N ops (BP D E) Q)(p:E<256)(r:j<=41)(u:n<=20)(v:0<n)(i:DB ops (CQ D E (t+n)))(x:q+120000*(Cg (BP D E)+1)<=60000+250000*(j+1)):B3 A3 28 #[A4 (AA ⟨b,0,Ax⟩),J V E,J V (t+n:Nat)] W λe f=>e=Bk (J V 0)/\∃k,DT w f col c A b bd bz ps (j+1) q t lo N ops (CQ D E (t+n)) k:=
 (dC h.wh h.ca.p.cl (Nat.le_of_ble_eq_true rfl) (E:Nat) (BD Ω) (λa l=>h.wl.lt _ a l) (t+n) Ω (Ψ h.tm)).mono λe f ⟨m,s,g⟩=>by
  have d:=h.wl.put (n:=(E:Nat)) Ω Ω (a:=t+n) Ω (Ψ h.tm);have o:=aL (BP D E) (E:Nat) (t+n);rw[OI]at g d o;exact⟨m,_,h.ca.ae s Pp,h.eg,h.st.trans (s.mono Pv),Ω,h.lo,h.tm,g.e0 d,d,i⟩
def jD(w _:Bd)(_:Ad)(c:Nat)(A:AO)(b bd bz:Nat)(ps:List Nat)(T t q lo:Nat)(N:AC)(ops:List Bc)(h:Nat)(e:Ending)(a:Bd):Prop:=
 ∃f g l m d D Q,e=Bk (B5 #[A2 f m g,J V 0])/\l.length=m/\Ab DC w (λ_=>0) a d/\Ca a d c A CZ q t lo N/\AX a d b T bd bz ps 256 D Q/\Cm T D Q/\DB ops D/\Ai a 2 (A2 f m g) m (CD l)/\
  (∀j,(A2 f m g).ownBlock=AA j->d j=450/\j<a.heap.size)/\(∀x∈l,∃k:Nat,k<256/\x.n=(k:Nat)/\∀v,Jh T ops (kB k) v=Bn)/\m+Cg D<=h
theorem gJ(h:DT w W col c A b bd bz ps j q t lo N ops D Q)(S:j<=41)(T:E<=20):B3 A3 24 #[A4 (AA ⟨b,0,Ax⟩),J V E] W (jD w W col c A b bd bz ps (t+E) t q lo N ops (Cg D)):=
 (gK h.ca.p.cl h.wh h.wl E (Ψ h.tm)).mono λe U ⟨o,p,l,X,r,u,y,s,z,B,C,F,d,G,H⟩=>by
  obtain⟨I,m,K,L⟩:=cQ s;refine⟨o,p,l,l.length,I,r,u,y,rfl,h.st.trans (m.mono il),h.ca.ae m ii,z.gF K,B,h.du.gP C,Ai.aj d,λi f=>⟨L i (d.lt i f).1 (G i f),(d.lt i f).2⟩,λx M=>?_,H⟩;obtain⟨a,_,g,O⟩:=F x M;obtain⟨P,R⟩:=h.wl.nn _ _ g;obtain⟨k,n⟩:=kT P;rw[n]at g R;exact⟨k,Ω,n,λv=>h.du.iW Ω g O v⟩
structure DG(w W:Bd)(col:Ad)(c:Nat)(A:AO)(b bd bz:Nat)(ps:List Nat)(q T lo:Nat)(N:AC)(ops:List Bc)(D:Int->Option Nat)(Q:Nat->Int->Bool)(a:Option C2)(m d:Nat)(l:List Du):Prop where
 ca:Ca W col c A CZ q T lo N
 eg:Cp CZ N lo ops
 st:Ab DC w (λ_=>0) W col
 wh:AX W col b T bd bz ps 256 D Q
 rd:Ai W 2 (A2 a m d) m (CD l)
 ro:∀i,(A2 a m d).ownBlock=AA i->col i=450/\i<W.heap.size
theorem Z0{m:Nat}{l:List Du}(p:Ca W col c A CZ q t lo N)(r:Cp CZ N lo ops)(u:Ab DC w (λ_=>0) W col)(v:AX W col b (t+E) bd bz ps 256 h a)(x:Ai W 2 (A2 f m e) m (CD l))(g:∀i,(A2 f m e).ownBlock=AA i->col i=450/\i<W.heap.size)(C:t<=1000)(D:E<=20):
  B3 A3 25 #[Am c,J V E] W λn o=>n=Bk (J V 0)/\∃y j,DG w o y c A b bd bz ps (q+120000) (t+E) lo j ops h a f m e l:=
 (bg p r E Ω W (Bf _ _)).mono λn o ⟨z,B,j,s,k,i⟩=>⟨z,B,j,k,i,u.trans (s.mono MV),v.ae s Pk,s.aP x (λb d=>by rw[(g b d).1];exact Ud),λb d=>⟨by rw[s.ah _ (g b d).2];exact(g b d).1,jY (g b d).2 s.size⟩⟩
theorem dm{l:List Du}(h:DG w W col c A b bd bz ps q E lo N ops D Q f e j l)(p:q<=1073300000){k:Nat}(t:∀v,Jh E ops (kB k) v=Bn):
  ∀W' d g,CN W (kB k) d g W'->B3 A3 26 #[Am c,A2 (AA ⟨d,0,Ax⟩) 1 g] W' λn o=>n=Bk (B5 #[A2 Ax 0 0,B0 Bn,J V 0])/\∃u m,DG w o u c A b bd bz ps (q+120000) E lo m ops D Q f e j l:=by
 obtain⟨r,x,_,y⟩:=TQ h.ca h.eg p (kB k) (jS 1) (show 1<=64 by omega) (N.aw*CZ.aI) (jS _)
 have z:r=Ax:=by
  cases r with
  |none=>rfl
  |some v=>
   have:=(x v rfl).1;rw[t]at this
   cases this
 subst z
 exact λW' d g B=>(y W' d g B).mono λn o ⟨⟨C,m,s,F,i⟩,G⟩=>⟨G,C,m,F,i,h.st.trans (s.mono MV),h.wh.ae s Pk,s.aP h.rd (λb a=>by rw[(h.ro b a).1];exact Ud),λb a=>⟨by rw[s.ah _ (h.ro b a).2];exact(h.ro b a).1,jY (h.ro b a).2 s.size⟩⟩
theorem DT.fk(h:DT w W col c A b bd bz ps j q t lo N ops D Q)(r:j<=41):
  B3 A3 10 #[Am c] W λe a=>(∃d f g i k l m n:Int,e=Bk (CX #[J V t,J V d,J V f,J V g,J V i,J V k,J V l,J V m,J V n]))/\W.grownBy a Ax:=
 (Xs h.ca (Ψ h.q)).mono λe a ⟨⟨_,_,_,_,_,_,o⟩,p⟩=>⟨⟨_,_,_,_,_,_,_,_,o⟩,p⟩
theorem JA(a:Int)(b c d e f g h i:B2)(W:Bd):(Instr.field 43 (CX #[J V a,b,c,d,e,f,g,h,i]) 0).run A3 W=.ok (J V a) W:=Θ
end
end
