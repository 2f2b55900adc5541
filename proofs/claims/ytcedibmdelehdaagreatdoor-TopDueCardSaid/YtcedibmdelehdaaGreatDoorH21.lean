/- Lemmas. -/
import Derived.Test.YtcedibmdelehdaaGreatDoorH15
import Derived.Test.YtcedibmdelehdaaGreatDoorH19
namespace Go.Proofs.YtcedibmdelehdaaGreatDoor
set_option maxRecDepth 100000
set_option maxHeartbeats 32000000
open Go renaming Value->E,World->A3,maxLen->Bn
open Option renaming some->J,none->A2
open Go.Value renaming slice->O,int->AA,oneCell'->Bd,pointer->Bs,map->BA
open Go.Proofs.Tryz renaming prog->V,underlying104->A4
open Go.IntKind renaming i64->Y
open Go.World renaming grownBy_alloc->Ax
open Bool renaming false->Bk,true->Bx
variable{h:Int->Option (E×List Nat)}{Z l:A3}{a:Int->Option E}{b p:Ad}{c:Int->List Nat}{d g i j k n o:Nat}{e:E}{f:Int}
section
open Go.RowKit
structure Hs(w:A3)(c:Ad)(i:Nat)(n:Nat)(v:E)(a:List Nat):Prop where
 aM:w.ownsRow 0 5 1 v n (Ao a)
 aF:a.length=n
 bx:∀x∈a,x<256
 gJ:∀b,v.ownBlock=J b->c b=i
theorem Hs.am{i:Nat}{c:List Nat}{S:Nat->Prop}(h:Hs Z b i d e c)(g:Ac S Z l)(j:∀a,e.ownBlock=J a->¬S a)(m:∀k,k<Z.heap.size->p k=b k):Hs l p i d e c:=
 ⟨g.aL h.aM j,h.aF,h.bx,λa f=>by rw[m a (h.aM.lt a f).2];exact h.gJ a f⟩
abbrev DY:=List (Int×E×List Nat)
def Hb(L:DY):List E:=L.flatMap λx=>[AA Y x.1,x.2.1]
theorem Yn(L K:DY):Hb (L++K)=Hb L++Hb K:=mu
def AJ(n:Nat):List Nat:=List.replicate n 0
def Il(a:Int->Option (E×List Nat))(i:Int):Option E:=(a i).map Prod.fst
def Fq(n:Nat)(L:DY)(b:Int->Option (E×List Nat))(a:Int):List Nat:=
 match L.reverse.find? (λx=>x.1==a)with
 |some x=>x.2.2
 |none=>match b a with|some y=>y.2|none=>AJ n
structure Er(w:A3)(a:Ad)(d g n q k c e:Nat)(h:E)(p:Int)(L:DY)(l:Int->Option (E×List Nat))(f:Int->Option E):Prop where
 u:Aa w d 107 [AA Y g,AA Y n,BA (J c),h,BA (J e),AA Y 0,AA Y p,.bool Bk]
 fm:MF w V 3 c k (Il l)
 pm:MF w V 3 e q f
 ne:c≠e
 cd:a d=1
 cf:a c=1
 cp:a e=1
 lo:w.ownsRow 0 153 2 h L.length (Hb L)
 lc:∀b,h.ownBlock=J b->a b=1
 lq:k+L.length<=q
 lb:∀x∈L,Hs w a 1 n x.2.1 x.2.2
 li:∀x∈L,0<=x.1/\x.1<(g:Int)
 fb:∀i x,l i=J x->Hs w a 1 n x.1 x.2
 pb:∀i v,f i=J v->∃m r,w.ownsRow 0 64 1 v m r/\m<=q/\∀b,v.ownBlock=J b->a b=1
 pi:∀i j v o b,f i=J v->f j=J o->v.ownBlock=J b->o.ownBlock=J b->i=j
 n1:96<=n/\n<=512
 s1:g<=16384
def AD(w:A3)(b:Ad)(d c n q:Nat)(e:Int->List Nat):Prop:=
 ∃f g h j k L a l,Er w b d c n q f g h j k L a l/\∀i,e i=Fq n L a i
theorem Er.am{w':A3}{col':Ad}{y:Nat}{L:DY}{S:Nat->Prop}(c:Er Z b d g y j k n o e f L h a)(q:Ac S Z w')(r:∀t,b t=1->¬S t)(s:∀t,t<Z.heap.size->col' t=b t):Er w' col' d g y j k n o e f L h a where
 u:=q.u c.u (r _ c.cd)
 fm:=c.fm.ak q (r _ c.cf)
 pm:=c.pm.ak q (r _ c.cp)
 ne:=c.ne
 cd:=by rw[s _ c.u.lt];exact c.cd
 cf:=by rw[s _ c.fm.lt];exact c.cf
 cp:=by rw[s _ c.pm.lt];exact c.cp
 lo:=q.aL c.lo (λl p=>r l (c.lc l p))
 lc:=λl p=>by rw[s l (c.lo.lt l p).2];exact c.lc l p
 lq:=c.lq
 lb:=λx w=>(c.lb x w).am q (λl p=>r l ((c.lb x w).gJ l p)) s
 li:=c.li
 fb:=λi x w=>(c.fb i x w).am q (λl p=>r l ((c.fb i x w).gJ l p)) s
 pb:=λi v B=>by
  obtain⟨m,C,z,D,A⟩:=c.pb i v B;exact⟨m,C,q.aL z (λl p=>r l (A l p)),D,λl p=>by rw[s l (z.lt l p).2];exact A l p⟩
 pi:=c.pi
 n1:=c.n1
 s1:=c.s1
theorem AD.am{col':Ad}{S:Nat->Prop}(h:AD Z b d g i j c)(a:Ac S Z l)(e:∀k,b k=1->¬S k)(f:∀k,k<Z.heap.size->col' k=b k):AD l col' d g i j c:=by
 obtain⟨m,n,o,p,q,L,r,s,t,u⟩:=h;exact⟨m,n,o,p,q,L,r,s,t.am a e f,u⟩
theorem AD.ae{C:Nat->Prop}(h:AD Z b d g i j c)(k:Ab C Z b l p)(e:¬C 1):AD l p d g i j c:=
 h.am k.ak (λm f a=>e (by rw[f]at a;exact a)) k.ah
theorem AD.grown(h:AD Z b d g i j c)(a:Z.grownBy l A2):AD l b d g i j c:=
 h.am (S:=λ_=>False) (Ac.au a) (λ_ _ h=>h) (λ_ _=>rfl)
theorem Er.mono{p q:Nat}{L:DY}(c:Er Z b d g p j n o q e f L h a)(l:j<=k):Er Z b d g p k n o q e f L h a where
 u:=c.u
 fm:=c.fm
 pm:=c.pm.mono l
 ne:=c.ne
 cd:=c.cd
 cf:=c.cf
 cp:=c.cp
 lo:=c.lo
 lc:=c.lc
 lq:=j8 c.lq l
 lb:=c.lb
 li:=c.li
 fb:=c.fb
 pb:=λi v r=>by
  obtain⟨m,s,t,w,x⟩:=c.pb i v r;exact⟨m,s,t,j8 w l,x⟩
 pi:=c.pi
 n1:=c.n1
 s1:=c.s1
theorem AD.mono(h:AD Z b d g i j c)(a:j<=k):AD Z b d g i k c:=by
 obtain⟨e,f,l,m,n,L,o,p,q,r⟩:=h;exact⟨e,f,l,m,n,L,o,p,q.mono a,r⟩
theorem AD.dM(h:AD Z b g i d j c):∃e,Aa Z g 107 (AA Y i::AA Y d::e)/\b g=1/\96<=d/\d<=512/\i<=16384:=by
 obtain⟨f,k,l,m,n,L,o,p,a,_⟩:=h;exact⟨_,a.u,a.cd,a.n1.1,a.n1.2,a.s1⟩
theorem Rd{m:Nat}{L:DY}(c:Er Z b g d m j k n o e f L h a)(i:Int)(l:0<=i)(p:i<d):
  Calls V 78 #[Bs (J ⟨g,0,A2⟩),AA Y i] Z λq r=>q=.returned (AA Y 0)/\Z=r:=by
 have s:=c.u.m 0;have t:=c.u.m 7;have u:decide (i≥0)=Bx:=jT l;have v:decide (0<=i)=Bx:=jT l;have w:decide (i<(d:Int))=Bx:=jT p;clear c
 go_enter Tryz.func78,Tryz.ntmps78
 go_wp2;go_ret;exact⟨rfl,rfl⟩
theorem Tl{L:DY}(c:Er Z b d g i j k n o e f L h a):
  Calls V 79 #[Bs (J ⟨d,0,A2⟩)] Z λl m=>l=.returned (.bool Bk)/\∃p,m=Z.setCell ⟨d,6,A2⟩ (AA Y p):=by
 have q:=c.u.m 5;have r:=c.u.m 6;have s:=c.u.m 7;have t:=c.u.v 6;clear c
 go_enter Tryz.func79,Tryz.ntmps79
 go_wp2;go_ret;exact⟨rfl,_,rfl⟩
def Lt(d b:Nat)(c:E)(e:Int->Option E)(i:Int)(k:Nat):Prop:=k=d\/c.ownBlock=J k\/k=b\/∃a,e i=J a/\a.ownBlock=J k
theorem Er.bT{N:Nat}{L:DY}(c:Er l p N j d k o n g e f L h a)
  (i:Int)(hi:0<=i/\i<(j:Int))(P:List Nat)(Q O G:E)(U:Int)(R:Ac (Lt N g e a i) l Z)(I:∀D,D<l.heap.size->b D=p D)
  (hb:Aa Z N 107 [AA Y j,AA Y d,BA (J n),O,BA (J g),AA Y 0,AA Y U,.bool Bk])
  (ac:MF Z V 3 g (k+1) (Ec a i G))
  (ad:Z.ownsRow 0 153 2 O (L.length+1) (Hb (L++[(i,Q,P)])))(ae:∀q,O.ownBlock=J q->b q=1)
  (af:Hs Z b 1 d Q P)(ag:∃m z,Z.ownsRow 0 64 1 G m z/\m<=k+1/\∀q,G.ownBlock=J q->b q=1)
  (ah:∀q,G.ownBlock=J q->l.heap.size<=q\/∃A,a i=J A/\A.ownBlock=J q):
  Er Z b N j d (k+1) o n g O U (L++[(i,Q,P)]) h (Ec a i G):=by
 have W:∀v z,Hs l p 1 d v z->Hs Z b 1 d v z:=λv z K=>K.am R (λq r s=>by
  rcases s with rfl|s|rfl|⟨A,F,s⟩
  ·exact Bh c.u K.aM Ξ r
  ·exact IK K.aM c.lo Ξ r s
  ·exact c.pm.cP K.aM r
  ·obtain⟨m,z,y,_⟩:=c.pb i A F
   exact IK K.aM y Ξ r s) I
 refine⟨hb,c.fm.ak R ?_,ac,c.ne,by rw[I _ c.u.lt];exact c.cd,by rw[I _ c.fm.lt];exact c.cf,by rw[I _ c.pm.lt];exact c.cp,by rw[jU];exact ad,ae,by rw[jU];have:=c.lq;simp only[kj,kP];omega,?_,λx B=>(kY.1 B).elim (c.li x) (λC=>(kH.1 C)▸hi),λt x B=>W _ _ (c.fb t x B),?_,?_,c.n1,c.s1⟩
 ·intro s
  rcases s with C|s|C|⟨A,F,s⟩
  ·exact c.fm.b6 c.u C
  ·exact c.fm.cP c.lo s
  ·exact c.ne C
  ·obtain⟨m,z,y,_⟩:=c.pb i A F;exact c.fm.cP y s
 ·intro x B
  rcases kY.1 B with B|B
  ·exact W _ _ (c.lb x B)
  ·simp only[lK,nh,pZ]at B;subst B;exact af
 ·intro t v w
  by_cases C:t=i
  ·subst C;rw[Mh]at w
   cases w
   exact ag
  ·rw[KH _ _ C]at w;obtain⟨m,z,y,hm,aj⟩:=c.pb t v w;refine⟨m,z,R.aL y (λq r s=>?_),nN hm,λq r=>by rw[I q (y.lt q r).2];exact aj q r⟩
   rcases s with rfl|s|rfl|⟨A,F,s⟩
   ·exact Bh c.u y Ξ r
   ·exact IK y c.lo Ξ r s
   ·exact c.pm.cP y r
   ·exact C (c.pi t i v A q w F r s)
 ·have X:∀t v q,t≠i->a t=J v->v.ownBlock=J q->G.ownBlock=J q->False:=by
   intro t v q hj w r al;obtain⟨m,z,y,_⟩:=c.pb t v w
   rcases ah q al with hl|⟨A,F,s⟩
   ·have:=(y.lt q r).2;omega
   ·exact hj (c.pi t i v A q w F r s)
  intro t D v u q w H r S
  by_cases T:t=i
  ·by_cases M:D=i
   ·omega
   ·subst T;rw[Mh]at w
    cases w
    rw[KH _ _ M]at H;exact(X D u q M H S r).elim
  ·rw[KH _ _ T]at w
   by_cases M:D=i
   ·subst M;rw[Mh]at H
    cases H
    exact(X t v q T w r S).elim
   ·rw[KH _ _ M]at H;exact c.pi t D v u q w H r S
def Cu(a:Int->List Nat)(i:Int)(b:List Nat)(j:Int):List Nat:=if j=i then b else a j
theorem Y0(n:Nat)(L:DY)(a:Int->Option (E×List Nat))(i:Int)(v:E)(b:List Nat)(j:Int):Fq n (L++[(i,v,b)]) a j=Cu (Fq n L a) i b j:=by
 unfold Fq Cu;rw[List.reverse_append,List.reverse_cons,List.reverse_nil,kv,List.singleton_append,List.find?_cons]
 by_cases e:j=i
 ·subst e;simp
 ·rw[j7 e,show(i==j)=Bk by rw[lu];exact λh=>e h.symm]
theorem iF:(V.info? 153).map (λi=>(i.zero,i.size,i.bytes))=J (J (.agg #[AA Y 0,O A2 0 0]),2,32):=Φ
theorem ir:(V.info? 64).map (λi=>(i.zero,i.size,i.bytes))=J (J (O A2 0 0),1,24):=Φ
end
section
open Go.RowKit
theorem QW(d ss n q:Nat)(ct:Int->List Nat)(i:Int)(B:List Nat)(a:Option Addr)(c:Nat)(w:A3)(C:Ad)(h:AD w C d ss n q ct)(Z:Aw w C)(hq:q<=1073741824)(h0:0<=i)(h1:i<ss)(hl:B.length=n)(ba:∀x∈B,x<256)
  (hr:Ai w 1 (O a n c) n (Ao B))(bc:∀b,(O a n c).ownBlock=J b->b≠d):
  Calls V 33 #[Bs (J ⟨d,0,A2⟩),AA Y i,O a n c] w λe w'=>e=.returned (AA Y 0)/\
   ∃bd,Ab (λj=>j=1) w C w' bd/\AD w' bd d ss n (q+1) (Cu ct i B):=by
 obtain⟨qf,bf,F,y,c6,L,fB,u,hd,bg⟩:=h;obtain⟨iw,wi,cq,cr,cs⟩:=info_parts iF;obtain⟨ib,cv,cw,cx,cy⟩:=info_parts ir;have c7:=hd.s1;have c8:=hd.n1;have c9:=hd.lq;have k1:=hd.u.m 1;have dn:((n:Int)!=(n:Int))=Bk:=Δ;have HR:=zh hr;have l:=zh hd;have cA:=zh ba;have HL:=zh hl;have cB:=zh bc;have cC:=zh bg;have cD:=zh Z;clear hr hd ba hl bc bg Z
 go_enter Tryz.func33,Tryz.ntmps33
 go_wp2_with fail;refine(Rd l.o i h0 h1).mono ?_;rintro e w' ⟨rfl,rfl⟩;go_wp2_with fail;refine(Tl l.o).mono ?_;rintro e w1 ⟨rfl,aB,ah⟩
 have bh:Aa w1 d 107 [AA Y ss,AA Y n,BA (J bf),y,BA (J F),AA Y 0,AA Y aB,.bool Bk]:=by rw[ah];exact l.o.u.setCell 6 _
 have ai:Ac (λk=>k=d) w w1:=by rw[ah];exact Ac.of (An _ _ _) (λk e=>by cases e;rfl)
 have aC:Ac (Lt d F y u i) w w1:=ai.mono (λk e=>.inl e)
 have bi:Ai w1 1 (O a B.length c) B.length (Ao B):=by
  rw[ah,HL.o];rw[ah]at ai;exact ai.aP HR.o (λb f=>cB.o b f)
 clear ah;go_wp2_with fail;have aD:=DW B a c w1 (Ψ HL.o) bi;rw[HL.o]at aD;refine aD.mono ?_;clear aD;rintro e A ⟨M,N,rfl,aE,ab⟩;have bj:=bh.grown ab Δ;have dc:=aC.size;have dd:=ab.size;obtain⟨bv,aF⟩:=Ag (O M n N);rw[aF]at aE;have bl:Ac (Lt d F y u i) w A:=aC.trans (Ac.au ab);have ap:Ac (λk=>k=d) w A:=ai.trans (Ac.au ab);have bm:A.ownsRow 0 153 2 y L.length (Hb L):=ap.aL l.o.lo (λb f e=>by subst e;exact Bh l.o.u l.o.lo Ξ f);have bn:MF A V 3 F q u:=l.o.pm.ak ap (l.o.pm.b6 l.o.u)
 have bo:∀v,u i=J v->∃m p,A.ownsRow 0 64 1 v m p/\m<=q:=λv hv=>by
  obtain⟨m,p,s,P,_⟩:=l.o.pb i v hv;exact⟨m,p,ap.aL s (λb f e=>by subst e;exact Bh l.o.u s Ξ f),P⟩
 have de:=zh ab;clear ab bi bh aC ai ap;obtain⟨Q,aG⟩:=Ag (A.alloc (.cells #[AA Y i,O M n N] 153))
 have R:A.grownBy Q A2:=by rw[<-aG];exact Ax _ _ A2
 have bp:Aa Q A.heap.size 153 [AA Y i,O M n N]:=by rw[<-aG];exact Aa.new _ _ _
 have bq:Q.heap.size=A.heap.size+1:=by rw[<-aG];simp
 have br:=bj.grown R Δ;have bs:=AP bm R;have bt:=bn.grown R Δ;have bu:=AP aE R;have bw:Ac (Lt d F y u i) w Q:=bl.trans (Ac.au R);have bx:=zh br;have bz:=zh bp;have bA:=zh bs;have bB:=zh bt;have bC:=zh bu;have bD:=zh bw;have cE:=zh R;have cF:=zh aF;have df:=zh bq;have cG:=zh bo;clear bj bm bn aE bl br bp bs bt bu bw R aF bq bo;go_wp2_with fail;refine FQ (λW=>W.cell? ⟨d,3,A2⟩=J y) [([1,2,3,4],[0,5],6,Bx),([],[],7,Bx),([],[8,9],10,Bk)] Φ Φ ?_;obtain⟨wd,ar⟩:=Ag Q.drew
 have H:Q.grownBy wd A2:=by rw[<-ar];exact AS Q 1 A2
 rw[ar];have bE:=bx.o.grown H Δ;have aH:=zh bE;have ak:=zh (bz.o.grown H Δ);have bF:=zh (AP bA.o H);have bG:=zh (bB.o.grown H Δ);have bH:=zh (AP bC.o H);have bI:=zh (bD.o.trans (Ac.au H));have cH:=zh (Ae cE.o H);have cI:Hd (A.heap.size<wd.heap.size):=zh (ak.o.lt);have k3:=aH.o.m 3;have x0:=ak.o.m 0;have x1:=ak.o.m 1;clear ar H bE;refine Jr k3 ?_
 iterate 4 ((apply AB rfl Θ;(· intro wS g;(try have g:=g rfl);(try dsimp only at g);go_simp;(try with_reducible rfl)));refine Ak ?_)
 refine Aj ?_
 iterate 2 ((apply AB rfl Θ;(· intro wS g;(try have g:=g rfl);(try dsimp only at g);(try subst g);go_simp;(try with_reducible rfl)));refine Ak ?_)
 refine Aj ?_;refine Al ?_;intro K o;have r:=Ax wd (.cells #[AA Y i,O M n N] 153) A2;have HN:=zh (Aa.new wd 153 [AA Y i,O M n N]);have aw:=zh (aH.o.grown r Δ);have bJ:=zh (ak.o.grown r Δ);have ac:=zh (AP bF.o r);have aK:=zh (bG.o.grown r Δ);have aL:=zh (AP bH.o r);have bK:=zh (bI.o.trans (Ac.au r));have bL:=zh (Ae cH.o r);refine o _ _ ⟨_,λ_ h=>h,λ_=>aw.o.m 3,?_⟩;clear o K r k3 x0 x1;refine Ak ?_;refine Dh ?_;refine Aj ?_;refine AH rfl (λK o=>?_);refine Kh Θ _ _ 105 Θ 0 153 iw _ 2 32 Tryz.underlying105 wi cq cr cs rfl Ξ (v:=y) Θ ac.o Θ (Ai.bn (sz:=2) (n:=1) (c:=1) HN.o rfl (by unfold Bn;omega)) (by simp[Bd]) (by unfold Bn;omega) Ω (kN _) ?_;intro T w4 o4 U l4;obtain⟨la,lc,aN⟩:=(Ai.aj o4).slice;rw[aN]
 have bN:∀b,y.ownBlock=J b->b<A.heap.size:=λb f=>by have:=(l.o.lo.lt b f).2;omega
 have D:=zh (aw.o.grown U (λe=>Bh aw.o ac.o Ξ e.symm));refine o _ _ ⟨_,λ_ h=>h,λ_=>D.o.m 3,?_⟩;have aO:=zh (bJ.o.grown U (λe=>by have:=bN _ e.symm;omega));have aP:=zh (aK.o.grown U (λe=>aK.o.cP ac.o e.symm));have aQ:=zh ((Ac.of (S:=λk=>y.ownBlock=J k) U (λk e=>e)).aL aL.o (λb f e=>IK aL.o ac.o Ξ f e));have bO:=zh (λv hv=>((cG.o v hv).elim λm P=>P.elim λp s=>(⟨m,p,(Ac.of (S:=λk=>y.ownBlock=J k) U (λk e=>e)).aL (AP s.1 bL.o) (λb f e=>IK (AP s.1 bL.o) ac.o Ξ f e),s.2⟩:∃m p,w4.ownsRow 0 64 1 v m p/\m<=q)));have bP:=zh (bK.o.trans (Ac.of U (λk e=>.inr (.inl e))));have aR:=zh o4;have cK:=zh l4;have k3:=D.o.m 3;have cL:=D.o.v 3;have cM:=zh aN;clear o K U o4 l4 bN aN;refine Ak ?_;refine Dh ?_
 iterate 2 ((apply AB rfl Θ;(· intro wS g;(try have g:=g rfl);(try dsimp only at g);(try subst g);go_simp;(try with_reducible rfl)));refine Ak ?_)
 refine Aj ?_;refine Al ?_;intro K o;rw[<-cM.o];have bQ:=zh (D.o.setCell 3 T);have aS:=An w4 ⟨d,3,A2⟩ T;have bR:=zh (aR.o.kept aS (.inr (λe=>Bh D.o aR.o Ξ e)));refine As o ?_;clear o K;refine Fv (NoPanic.normal ?_);have ae:Ac (λk=>k=d) w4 (w4.setCell ⟨d,3,A2⟩ T):=Ac.of aS (λk e=>by cases e;rfl)
 have bS:=zh (ae.u aO.o (λe=>by
  have X:=D.o;rw[<-e]at X;have h8:=aO.o;unfold Aa at h8 X;rw[h8]at X
  simp at X))
 have bU:=zh (aP.o.ak ae (aP.o.b6 D.o));have bV:=zh (ae.aL aQ.o (λb f e=>by subst e;exact Bh D.o aQ.o Ξ f))
 have bW:Hd (∀v,u i=J v->∃m p,(w4.setCell ⟨d,3,A2⟩ T).ownsRow 0 64 1 v m p/\m<=q):=zh (λv hv=>by
  obtain⟨m,p,s,P⟩:=bO.o v hv
  exact⟨m,p,ae.aL s (λb f e=>by subst e;exact Bh D.o s Ξ f),P⟩)
 have bX:=zh (bP.o.trans (ae.mono (λk e=>.inl e)));obtain⟨w5,bY⟩:=Ag (w4.setCell ⟨d,3,A2⟩ T);rw[bY]at bQ bR bS bU bV bW bX⊢
 have cN:∃t m p,(u i).getD (O A2 0 0)=t/\w5.ownsRow 0 64 1 t m p/\m<=q/\∀b,t.ownBlock=J b->∃t,u i=J t/\t.ownBlock=J b:=by
  cases cO:u i with
  |none=>exact⟨O A2 0 0,0,[],rfl,World.ownsRow_nil _ _ _ _,kN _,λb f=>by simp[Value.ownBlock]at f⟩
  |some t=>
   obtain⟨m,p,s,P⟩:=bW.o t cO;exact⟨t,m,p,rfl,s,P,λb f=>⟨t,rfl,f⟩⟩
 obtain⟨t,pm,p,bZ,b0,dj,b1⟩:=cN;have cP:=zh bZ;have cQ:=zh b0;have aT:=zh b1;have HI:Hd ((Lit.int Y i).wf=Bx):=zh (WalkArith.wf_i64 Ω);clear bZ b0 b1 bY ae aS k3 cL D aO aP aQ bO bP aR aw bJ ac aK aL bK aH ak bF bG bH bI bx bz bA bB bC bD;go_wp2_with fail;refine FQ (λW=>W.cell? ⟨d,4,A2⟩=J (BA (J F))/\MF W V 3 F q u) [([0,1,2,3,5,6,7,8,9,10],[4,11,12],13,Bx),([],[],14,Bx),([],[],15,Bk)] Φ Φ ?_;obtain⟨w6,aV⟩:=Ag w5.drew
 have I:w5.grownBy w6 A2:=by rw[<-aV];exact AS w5 1 A2
 rw[aV];have b3:=zh (bQ.o.grown I Δ);have cR:=zh (bS.o.grown I Δ);have cS:=zh (AP bR.o I);have b4:=zh (bU.o.grown I Δ);have cT:=zh (AP bV.o I);have cU:=zh (AP cQ.o I);have b5:=zh (bX.o.trans (Ac.au I));have x1:=cR.o.m 1;clear aV I;refine Jr ⟨b3.o.m 4,b4.o⟩ ?_
 iterate 10 ((apply AB rfl Θ;(· intro wS g;(try have g:=g rfl);(try dsimp only at g);(try obtain ⟨k4,b6⟩:=g);(try have cV:=b6.fi kr A4 (z:=O A2 0 0) Φ i HI.o);(try rw[cP.o]at cV);(try clear b6);go_simp;(try with_reducible rfl)));refine Ak ?_)
 refine Aj ?_
 iterate 3 ((apply AB rfl Θ;(· intro wS g;(try have g:=g rfl);(try dsimp only at g);(try subst g);go_simp;(try with_reducible rfl)));refine Ak ?_)
 refine Aj ?_;refine Al ?_;intro K o;have r:=Ax w6 (.cells #[O M n N] 64) A2;have HN:=zh (Aa.new w6 64 [O M n N]);have aW:=zh (b3.o.grown r Δ);have b7:=zh (AP cS.o r);have aX:=zh (b4.o.grown r Δ);have b8:=zh (AP cT.o r);have al:=zh (AP cU.o r);have cW:=zh (b5.o.trans (Ac.au r));refine o _ _ ⟨_,λ_ h=>h,λ_=>⟨aW.o.m 4,aX.o⟩,?_⟩;clear o K r x1;refine Ak ?_;refine Dh ?_;refine Aj ?_;refine AH rfl (λK o=>?_);refine Kh Θ _ _ 154 Θ 0 64 ib _ 1 24 Tryz.underlying154 cv cw cx cy rfl Ξ (v:=t) Θ al.o Θ (Ai.bn (sz:=1) (n:=1) (c:=1) HN.o rfl (by unfold Bn;omega)) (by simp[Bd]) (by unfold Bn;omega) Ω (kN _) ?_;intro aY w8 o8 g8 l8;have af:Ac (λk=>t.ownBlock=J k) _ w8:=Ac.of g8 (λk e=>e);have aZ:=zh (af.u aW.o (λe=>Bh aW.o al.o Ξ e));have ay:=zh (af |> aX.o.ak <| λe=>aX.o.cP al.o e);refine o _ _ ⟨_,λ_ h=>h,λ_=>⟨aZ.o.m 4,ay.o⟩,?_⟩;have cX:=zh (af.aL b7.o (λb f e=>IK b7.o al.o Ξ f e));have cY:=zh (af.aL b8.o (λb f e=>IK b8.o al.o Ξ f e));have cZ:=zh (cW.o.trans (af.mono (λk e=>.inr (.inr (.inr (aT.o k e))))));have c0:=zh o8;have cd:=zh l8;obtain⟨w9,c1,ce,cf⟩:=ay.o.eu kr A4 (by unfold Bn;omega) i HI.o aY;have c2:=zh ce;have a0:=zh cf;clear o K g8 o8 l8 af ce cf;refine Ak ?_;refine Dh ?_;refine Aj ?_;refine Al ?_;intro K o;refine o _ _ ⟨_,λ_ h=>h,λhf=>(by cases hf),?_⟩;clear o K c1;refine Ak ?_;refine Fv (NoPanic.normal ?_);go_wp2_with fail;go_ret;have c4:=aZ.o.grown a0.o (λe=>ay.o.b6 aZ.o (by simpa using e.symm))
 have a1:∀{cg:Nat} {e:TypeId} {v:E} {sz m:Nat} {zs:List E},w8.ownsRow cg e sz v m zs->w9.ownsRow cg e sz v m zs:=λs=>s.kept a0.o (.inr (λe=>ay.o.cP s e))
 have cj:=a1 cX.o;have ck:=a1 cY.o;have cl:=a1 c0.o;have a2:Ac (Lt d F y u i) w w9:=cZ.o.trans (Ac.of a0.o (λk e=>by cases e;exact .inr (.inr (.inl rfl))));have dl:w.heap.size<=w9.heap.size:=a2.size;have h6:=b5.o.size;have ar:=cI.o;refine⟨rfl,GM C w.heap.size w9.heap.size 1,Ab.fj cD.o (a2.mono (λk G=>?_)) rfl,qf,bf,F,T,aB,L++[(i,bv,B)],fB,Ec u i aY,?_,λj=>?_⟩
 ·rcases G with rfl|G|rfl|⟨p9,a4,G⟩
  ·exact l.o.cd
  ·exact l.o.lc k G
  ·exact l.o.cp
  ·obtain⟨_,_,_,_,Z⟩:=l.o.pb i p9 a4;exact Z k G
 ·refine l.o.bT i ⟨h0,h1⟩ B bv T aY aB a2 (λk G=>Jw C G) c4 c2.o ?_ (λb f=>?_) ⟨BQ ck (kN _),HL.o,cA.o,λb f=>?_⟩ ⟨_,_,cl,Ω,λb f=>?_⟩ (λb f=>?_)
  ·have X:=cj;rw[cF.o]at X;rw[Yn];exact X
  ·have am:=(cj.lt b f).2
   by_cases hw:w.heap.size<=b
   ·exact IN C hw am
   ·rcases cK.o with e|e
    ·rw[Jw C Ω];exact l.o.lc b (by rw[<-e];exact f)
    ·rw[f]at e;simp at e;omega
  ·have am:=ck.lt b f;exact IN C Ω am.2
  ·have am:=(cl.lt b f).2
   by_cases hw:w.heap.size<=b
   ·exact IN C hw am
   ·rcases cd.o with e|e
    ·rw[Jw C Ω];obtain⟨p9,a4,G⟩:=aT.o b (by rw[<-e];exact f);obtain⟨_,_,_,_,Z⟩:=l.o.pb i p9 a4;exact Z b G
    ·rw[f]at e;simp at e;omega
  ·rcases cd.o with e|e
   ·exact .inr (aT.o b (by rw[<-e];exact f))
   ·rw[f]at e;simp at e;exact .inl Ω
 ·rw[Y0];unfold Cu;rw[cC.o j]
end
