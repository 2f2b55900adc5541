/- Lemmas. -/
import Derived.Test.YtcedibmdelehdaaGreatDoorG13
import Derived.Test.YtcedibmdelehdaaGreatDoorG19
namespace Go.Proofs.YtcedibmdelehdaaGreatDoor
set_option maxRecDepth 100000
set_option maxHeartbeats 32000000
open Go renaming Value->E,World->A3,maxLen->A7
open Option renaming some->J,none->A2
open Go.Value renaming slice->O,int->AA,oneCell'->A5,pointer->Bd,map->Bn
open Go.Proofs.Tryz renaming prog->V,underlying104->A4
open Go.IntKind renaming i64->Y
open Go.World renaming grownBy_alloc->Ax
open Bool renaming false->A6,true->Bk
variable{f:Int->Option (E×List Nat)}{h l:A3}{Z:Int->Option E}{a p:Ae}{b:Int->List Nat}{c g i j k n o:Nat}{d:E}{e:Int}
section
open Go.RowKit
structure Ii(w:A3)(c:Ae)(i:Nat)(n:Nat)(v:E)(a:List Nat):Prop where
 aS:w.ownsRow 0 5 1 v n (Ar a)
 aC:a.length=n
 bB:∀x∈a,x<256
 gA:∀b,v.ownBlock=J b->c b=i
theorem Ii.ao{i:Nat}{f:List Nat}{S:Nat->Prop}(e:Ii h a i c d f)(j:Ac S h l)(m:∀b,d.ownBlock=J b->¬S b)(n:∀k,k<h.heap.size->p k=a k):Ii l p i c d f:=
 ⟨j.aT e.aS m,e.aC,e.bB,λb g=>by rw[n b (e.aS.lt b g).2];exact e.gA b g⟩
abbrev El:=List (Int×E×List Nat)
def Hr(L:El):List E:=L.flatMap λx=>[AA Y x.1,x.2.1]
theorem Yx(L K:El):Hr (L++K)=Hr L++Hr K:=mu
def AO(n:Nat):List Nat:=List.replicate n 0
def ID(a:Int->Option (E×List Nat))(i:Int):Option E:=(a i).map Prod.fst
def Fs(n:Nat)(L:El)(b:Int->Option (E×List Nat))(a:Int):List Nat:=
 match L.reverse.find? (λx=>x.1==a)with
 |some x=>x.2.2
 |none=>match b a with|some y=>y.2|none=>AO n
structure Ez(w:A3)(a:Ae)(d g n q k c e:Nat)(h:E)(o:Int)(L:El)(l:Int->Option (E×List Nat))(f:Int->Option E):Prop where
 y:Aa w d 107 [AA Y g,AA Y n,Bn (J c),h,Bn (J e),AA Y 0,AA Y o,.bool A6]
 fm:MF w V 3 c k (ID l)
 pm:MF w V 3 e q f
 ne:c≠e
 cd:a d=1
 cf:a c=1
 cp:a e=1
 lo:w.ownsRow 0 153 2 h L.length (Hr L)
 lc:∀b,h.ownBlock=J b->a b=1
 lq:k+L.length<=q
 lb:∀x∈L,Ii w a 1 n x.2.1 x.2.2
 li:∀x∈L,0<=x.1/\x.1<(g:Int)
 fb:∀i x,l i=J x->Ii w a 1 n x.1 x.2
 pb:∀i v,f i=J v->∃m p,w.ownsRow 0 64 1 v m p/\m<=q/\∀b,v.ownBlock=J b->a b=1
 pi:∀i j v u b,f i=J v->f j=J u->v.ownBlock=J b->u.ownBlock=J b->i=j
 n1:96<=n/\n<=512
 s1:g<=16384
def AF(w:A3)(b:Ae)(d c n q:Nat)(e:Int->List Nat):Prop:=
 ∃f g h j k L a l,Ez w b d c n q f g h j k L a l/\∀i,e i=Fs n L a i
theorem Ez.ao{w':A3}{col':Ae}{w:Nat}{L:El}{S:Nat->Prop}(l:Ez h a c g w j k n o d e L f Z)(q:Ac S h w')(r:∀t,a t=1->¬S t)(s:∀t,t<h.heap.size->col' t=a t):Ez w' col' c g w j k n o d e L f Z where
 y:=q.y l.y (r _ l.cd)
 fm:=l.fm.au q (r _ l.cf)
 pm:=l.pm.au q (r _ l.cp)
 ne:=l.ne
 cd:=by rw[s _ l.y.lt];exact l.cd
 cf:=by rw[s _ l.fm.lt];exact l.cf
 cp:=by rw[s _ l.pm.lt];exact l.cp
 lo:=q.aT l.lo (λb p=>r b (l.lc b p))
 lc:=λb p=>by rw[s b (l.lo.lt b p).2];exact l.lc b p
 lq:=l.lq
 lb:=λx u=>(l.lb x u).ao q (λb p=>r b ((l.lb x u).gA b p)) s
 li:=l.li
 fb:=λi x u=>(l.fb i x u).ao q (λb p=>r b ((l.fb i x u).gA b p)) s
 pb:=λi v B=>by
  obtain⟨m,C,z,D,A⟩:=l.pb i v B;exact⟨m,C,q.aT z (λb p=>r b (A b p)),D,λb p=>by rw[s b (z.lt b p).2];exact A b p⟩
 pi:=l.pi
 n1:=l.n1
 s1:=l.s1
theorem AF.ao{col':Ae}{S:Nat->Prop}(d:AF h a c g i j b)(e:Ac S h l)(f:∀k,a k=1->¬S k)(m:∀k,k<h.heap.size->col' k=a k):AF l col' c g i j b:=by
 obtain⟨n,o,p,q,r,L,s,t,u,v⟩:=d;exact⟨n,o,p,q,r,L,s,t,u.ao e f m,v⟩
theorem AF.ag{C:Nat->Prop}(e:AF h a c g i j b)(k:Ad C h a l p)(f:¬C 1):AF l p c g i j b:=
 e.ao k.au (λn m d=>f (by rw[m]at d;exact d)) k.ak
theorem AF.u(d:AF h a c g i j b)(e:h.grownBy l A2):AF l a c g i j b:=
 d.ao (S:=λ_=>False) (Ac.az e) (λ_ _ d=>d) (λ_ _=>rfl)
theorem Ez.mono{p q:Nat}{L:El}(b:Ez h a c g p j n o q d e L f Z)(l:j<=k):Ez h a c g p k n o q d e L f Z where
 y:=b.y
 fm:=b.fm
 pm:=b.pm.mono l
 ne:=b.ne
 cd:=b.cd
 cf:=b.cf
 cp:=b.cp
 lo:=b.lo
 lc:=b.lc
 lq:=jM b.lq l
 lb:=b.lb
 li:=b.li
 fb:=b.fb
 pb:=λi v r=>by
  obtain⟨m,s,t,u,w⟩:=b.pb i v r;exact⟨m,s,t,jM u l,w⟩
 pi:=b.pi
 n1:=b.n1
 s1:=b.s1
theorem AF.mono(d:AF h a c g i j b)(e:j<=k):AF h a c g i k b:=by
 obtain⟨f,l,m,n,o,L,p,q,r,s⟩:=d;exact⟨f,l,m,n,o,L,p,q,r.mono e,s⟩
theorem AF.dR(e:AF h a g i c j b):∃f,Aa h g 107 (AA Y i::AA Y c::f)/\a g=1/\96<=c/\c<=512/\i<=16384:=by
 obtain⟨k,l,m,n,o,L,p,q,d,_⟩:=e;exact⟨_,d.y,d.cd,d.n1.1,d.n1.2,d.s1⟩
theorem Ro{m:Nat}{L:El}(b:Ez h a g c m j k n o d e L f Z)(i:Int)(l:0<=i)(p:i<c):
  Calls V 78 #[Bd (J ⟨g,0,A2⟩),AA Y i] h λq r=>q=.returned (AA Y 0)/\h=r:=by
 have s:=b.y.m 0;have t:=b.y.m 7;have u:decide (i≥0)=Bk:=jG l;have v:decide (0<=i)=Bk:=jG l;have w:decide (i<(c:Int))=Bk:=jG p;clear b
 go_enter Tryz.func78,Tryz.ntmps78
 go_wp2;go_ret;exact⟨rfl,rfl⟩
theorem Tw{L:El}(b:Ez h a c g i j k n o d e L f Z):
  Calls V 79 #[Bd (J ⟨c,0,A2⟩)] h λl m=>l=.returned (.bool A6)/\∃p,m=h.setCell ⟨c,6,A2⟩ (AA Y p):=by
 have q:=b.y.m 5;have r:=b.y.m 6;have s:=b.y.m 7;have t:=b.y.v 6;clear b
 go_enter Tryz.func79,Tryz.ntmps79
 go_wp2;go_ret;exact⟨rfl,_,rfl⟩
def LU(d b:Nat)(c:E)(e:Int->Option E)(i:Int)(k:Nat):Prop:=k=d\/c.ownBlock=J k\/k=b\/∃a,e i=J a/\a.ownBlock=J k
theorem Ez.bj{N:Nat}{L:El}(q:Ez l p N j c k o n g d e L f Z)
  (i:Int)(hi:0<=i/\i<(j:Int))(P:List Nat)(Q O G:E)(U:Int)(R:Ac (LU N g d Z i) l h)(I:∀D,D<l.heap.size->a D=p D)
  (hb:Aa h N 107 [AA Y j,AA Y c,Bn (J n),O,Bn (J g),AA Y 0,AA Y U,.bool A6])
  (ac:MF h V 3 g (k+1) (Fq Z i G))
  (ad:h.ownsRow 0 153 2 O (L.length+1) (Hr (L++[(i,Q,P)])))(ae:∀b,O.ownBlock=J b->a b=1)
  (af:Ii h a 1 c Q P)(ag:∃m z,h.ownsRow 0 64 1 G m z/\m<=k+1/\∀b,G.ownBlock=J b->a b=1)
  (ah:∀b,G.ownBlock=J b->l.heap.size<=b\/∃A,Z i=J A/\A.ownBlock=J b):
  Ez h a N j c (k+1) o n g O U (L++[(i,Q,P)]) f (Fq Z i G):=by
 have W:∀v z,Ii l p 1 c v z->Ii h a 1 c v z:=λv z K=>K.ao R (λb r s=>by
  rcases s with rfl|s|rfl|⟨A,F,s⟩
  ·exact Bv q.y K.aS Ξ r
  ·exact IW K.aS q.lo Ξ r s
  ·exact q.pm.dO K.aS r
  ·obtain⟨m,z,y,_⟩:=q.pb i A F
   exact IW K.aS y Ξ r s) I
 refine⟨hb,q.fm.au R ?_,ac,q.ne,by rw[I _ q.y.lt];exact q.cd,by rw[I _ q.fm.lt];exact q.cf,by rw[I _ q.pm.lt];exact q.cp,by rw[jI];exact ad,ae,by rw[jI];have:=q.lq;simp only[jT,kA];omega,?_,λx B=>(kI.1 B).elim (q.li x) (λC=>(j8.1 C)▸hi),λt x B=>W _ _ (q.fb t x B),?_,?_,q.n1,q.s1⟩
 ·intro s
  rcases s with C|s|C|⟨A,F,s⟩
  ·exact q.fm.cg q.y C
  ·exact q.fm.dO q.lo s
  ·exact q.ne C
  ·obtain⟨m,z,y,_⟩:=q.pb i A F;exact q.fm.dO y s
 ·intro x B
  rcases kI.1 B with B|B
  ·exact W _ _ (q.lb x B)
  ·simp only[kZ,lY,oD]at B;subst B;exact af
 ·intro t v w
  by_cases C:t=i
  ·subst C;rw[Mu]at w
   cases w
   exact ag
  ·rw[Ld _ _ C]at w;obtain⟨m,z,y,hm,aj⟩:=q.pb t v w;refine⟨m,z,R.aT y (λb r s=>?_),nG hm,λb r=>by rw[I b (y.lt b r).2];exact aj b r⟩
   rcases s with rfl|s|rfl|⟨A,F,s⟩
   ·exact Bv q.y y Ξ r
   ·exact IW y q.lo Ξ r s
   ·exact q.pm.dO y r
   ·exact C (q.pi t i v A b w F r s)
 ·have X:∀t v b,t≠i->Z t=J v->v.ownBlock=J b->G.ownBlock=J b->False:=by
   intro t v b hj w r al;obtain⟨m,z,y,_⟩:=q.pb t v w
   rcases ah b al with hl|⟨A,F,s⟩
   ·have:=(y.lt b r).2;omega
   ·exact hj (q.pi t i v A b w F r s)
  intro t D v u b w H r S
  by_cases T:t=i
  ·by_cases M:D=i
   ·omega
   ·subst T;rw[Mu]at w
    cases w
    rw[Ld _ _ M]at H;exact(X D u b M H S r).elim
  ·rw[Ld _ _ T]at w
   by_cases M:D=i
   ·subst M;rw[Mu]at H
    cases H
    exact(X t v b T w r S).elim
   ·rw[Ld _ _ M]at H;exact q.pi t D v u b w H r S
def CJ(a:Int->List Nat)(i:Int)(b:List Nat)(j:Int):List Nat:=if j=i then b else a j
theorem Zg(n:Nat)(L:El)(a:Int->Option (E×List Nat))(i:Int)(v:E)(b:List Nat)(j:Int):Fs n (L++[(i,v,b)]) a j=CJ (Fs n L a) i b j:=by
 unfold Fs CJ;rw[List.reverse_append,List.reverse_cons,List.reverse_nil,jX,List.singleton_append,List.find?_cons]
 by_cases e:j=i
 ·subst e;simp
 ·rw[jN e,show(i==j)=A6 by rw[kN];exact λh=>e h.symm]
theorem iF:(V.info? 153).map (λi=>(i.zero,i.size,i.bytes))=J (J (.agg #[AA Y 0,O A2 0 0]),2,32):=Φ
theorem ir:(V.info? 64).map (λi=>(i.zero,i.size,i.bytes))=J (J (O A2 0 0),1,24):=Φ
end
section
open Go.RowKit
theorem Rc(d ss n q:Nat)(ct:Int->List Nat)(i:Int)(B:List Nat)(a:Option Addr)(c:Nat)(w:A3)(C:Ae)(h:AF w C d ss n q ct)(Z:AD w C)(hq:q<=1073741824)(h0:0<=i)(h1:i<ss)(hl:B.length=n)(ba:∀x∈B,x<256)
  (hr:Ag w 1 (O a n c) n (Ar B))(bc:∀b,(O a n c).ownBlock=J b->b≠d):
  Calls V 33 #[Bd (J ⟨d,0,A2⟩),AA Y i,O a n c] w λe w'=>e=.returned (AA Y 0)/\
   ∃bd,Ad (λj=>j=1) w C w' bd/\AF w' bd d ss n (q+1) (CJ ct i B):=by
 obtain⟨qf,bf,F,y,c6,L,fB,u,hd,bg⟩:=h;obtain⟨iw,wi,cq,cr,cs⟩:=info_parts iF;obtain⟨ib,cv,cw,cx,cy⟩:=info_parts ir;have c7:=hd.s1;have c8:=hd.n1;have c9:=hd.lq;have k1:=hd.y.m 1;have dn:((n:Int)!=(n:Int))=A6:=Δ;have HR:=zh hr;have l:=zh hd;have cA:=zh ba;have HL:=zh hl;have cB:=zh bc;have cC:=zh bg;have cD:=zh Z;clear hr hd ba hl bc bg Z
 go_enter Tryz.func33,Tryz.ntmps33
 go_wp2_with fail;refine(Ro l.o i h0 h1).mono ?_;rintro e w' ⟨rfl,rfl⟩;go_wp2_with fail;refine(Tw l.o).mono ?_;rintro e w1 ⟨rfl,aB,ah⟩
 have bh:Aa w1 d 107 [AA Y ss,AA Y n,Bn (J bf),y,Bn (J F),AA Y 0,AA Y aB,.bool A6]:=by rw[ah];exact l.o.y.setCell 6 _
 have ai:Ac (λk=>k=d) w w1:=by rw[ah];exact Ac.of (Ao _ _ _) (λk e=>by cases e;rfl)
 have aC:Ac (LU d F y u i) w w1:=ai.mono (λk e=>.inl e)
 have bi:Ag w1 1 (O a B.length c) B.length (Ar B):=by
  rw[ah,HL.o];rw[ah]at ai;exact ai.aN HR.o (λb f=>cB.o b f)
 clear ah;go_wp2_with fail;have aD:=Ek B a c w1 (Ψ HL.o) bi;rw[HL.o]at aD;refine aD.mono ?_;clear aD;rintro e A ⟨M,N,rfl,aE,ab⟩;have bj:=bh.u ab Δ;have dc:=aC.aQ;have dd:=ab.size;obtain⟨bv,aF⟩:=Af (O M n N);rw[aF]at aE;have bl:Ac (LU d F y u i) w A:=aC.trans (Ac.az ab);have ap:Ac (λk=>k=d) w A:=ai.trans (Ac.az ab);have bm:A.ownsRow 0 153 2 y L.length (Hr L):=ap.aT l.o.lo (λb f e=>by subst e;exact Bv l.o.y l.o.lo Ξ f);have bn:MF A V 3 F q u:=l.o.pm.au ap (l.o.pm.cg l.o.y)
 have bo:∀v,u i=J v->∃m p,A.ownsRow 0 64 1 v m p/\m<=q:=λv hv=>by
  obtain⟨m,p,s,P,_⟩:=l.o.pb i v hv;exact⟨m,p,ap.aT s (λb f e=>by subst e;exact Bv l.o.y s Ξ f),P⟩
 have de:=zh ab;clear ab bi bh aC ai ap;obtain⟨Q,aG⟩:=Af (A.alloc (.cells #[AA Y i,O M n N] 153))
 have R:A.grownBy Q A2:=by rw[<-aG];exact Ax _ _ A2
 have bp:Aa Q A.heap.size 153 [AA Y i,O M n N]:=by rw[<-aG];exact Aa.new _ _ _
 have bq:Q.heap.size=A.heap.size+1:=by rw[<-aG];simp
 have br:=bj.u R Δ;have bs:=AV bm R;have bt:=bn.u R Δ;have bu:=AV aE R;have bw:Ac (LU d F y u i) w Q:=bl.trans (Ac.az R);have bx:=zh br;have bz:=zh bp;have bA:=zh bs;have bB:=zh bt;have bC:=zh bu;have bD:=zh bw;have cE:=zh R;have cF:=zh aF;have df:=zh bq;have cG:=zh bo;clear bj bm bn aE bl br bp bs bt bu bw R aF bq bo;go_wp2_with fail;refine FU (λW=>W.cell? ⟨d,3,A2⟩=J y) [([1,2,3,4],[0,5],6,Bk),([],[],7,Bk),([],[8,9],10,A6)] Φ Φ ?_;obtain⟨wd,ar⟩:=Af Q.drew
 have H:Q.grownBy wd A2:=by rw[<-ar];exact AZ Q 1 A2
 rw[ar];have bE:=bx.o.u H Δ;have aH:=zh bE;have ak:=zh (bz.o.u H Δ);have bF:=zh (AV bA.o H);have bG:=zh (bB.o.u H Δ);have bH:=zh (AV bC.o H);have bI:=zh (bD.o.trans (Ac.az H));have cH:=zh (Ab cE.o H);have cI:Hd (A.heap.size<wd.heap.size):=zh (ak.o.lt);have k3:=aH.o.m 3;have x0:=ak.o.m 0;have x1:=ak.o.m 1;clear ar H bE;refine JG k3 ?_
 iterate 4 ((apply AC rfl Θ;(· intro wS g;(try have g:=g rfl);(try dsimp only at g);go_simp;(try with_reducible rfl)));refine Al ?_)
 refine Aj ?_
 iterate 2 ((apply AC rfl Θ;(· intro wS g;(try have g:=g rfl);(try dsimp only at g);(try subst g);go_simp;(try with_reducible rfl)));refine Al ?_)
 refine Aj ?_;refine Am ?_;intro K o;have r:=Ax wd (.cells #[AA Y i,O M n N] 153) A2;have HN:=zh (Aa.new wd 153 [AA Y i,O M n N]);have aw:=zh (aH.o.u r Δ);have bJ:=zh (ak.o.u r Δ);have ac:=zh (AV bF.o r);have aK:=zh (bG.o.u r Δ);have aL:=zh (AV bH.o r);have bK:=zh (bI.o.trans (Ac.az r));have bL:=zh (Ab cH.o r);refine o _ _ ⟨_,λ_ h=>h,λ_=>aw.o.m 3,?_⟩;clear o K r k3 x0 x1;refine Al ?_;refine Dw ?_;refine Aj ?_;refine AE rfl (λK o=>?_);refine Gh Θ _ _ 105 Θ 0 153 iw _ 2 32 Tryz.underlying105 wi cq cr cs rfl Ξ (v:=y) Θ ac.o Θ (Ag.bq (sz:=2) (n:=1) (c:=1) HN.o rfl (by unfold A7;omega)) (by simp[A5]) (by unfold A7;omega) Ω (ke _) ?_;intro T w4 o4 U l4;obtain⟨la,lc,aN⟩:=(Ag.ai o4).slice;rw[aN]
 have bN:∀b,y.ownBlock=J b->b<A.heap.size:=λb f=>by have:=(l.o.lo.lt b f).2;omega
 have D:=zh (aw.o.u U (λe=>Bv aw.o ac.o Ξ e.symm));refine o _ _ ⟨_,λ_ h=>h,λ_=>D.o.m 3,?_⟩;have aO:=zh (bJ.o.u U (λe=>by have:=bN _ e.symm;omega));have aP:=zh (aK.o.u U (λe=>aK.o.dO ac.o e.symm));have aQ:=zh ((Ac.of (S:=λk=>y.ownBlock=J k) U (λk e=>e)).aT aL.o (λb f e=>IW aL.o ac.o Ξ f e));have bO:=zh (λv hv=>((cG.o v hv).elim λm P=>P.elim λp s=>(⟨m,p,(Ac.of (S:=λk=>y.ownBlock=J k) U (λk e=>e)).aT (AV s.1 bL.o) (λb f e=>IW (AV s.1 bL.o) ac.o Ξ f e),s.2⟩:∃m p,w4.ownsRow 0 64 1 v m p/\m<=q)));have bP:=zh (bK.o.trans (Ac.of U (λk e=>.inr (.inl e))));have aR:=zh o4;have cK:=zh l4;have k3:=D.o.m 3;have cL:=D.o.v 3;have cM:=zh aN;clear o K U o4 l4 bN aN;refine Al ?_;refine Dw ?_
 iterate 2 ((apply AC rfl Θ;(· intro wS g;(try have g:=g rfl);(try dsimp only at g);(try subst g);go_simp;(try with_reducible rfl)));refine Al ?_)
 refine Aj ?_;refine Am ?_;intro K o;rw[<-cM.o];have bQ:=zh (D.o.setCell 3 T);have aS:=Ao w4 ⟨d,3,A2⟩ T;have bR:=zh (aR.o.kept aS (.inr (λe=>Bv D.o aR.o Ξ e)));refine Aq o ?_;clear o K;refine Fw (NoPanic.normal ?_);have ae:Ac (λk=>k=d) w4 (w4.setCell ⟨d,3,A2⟩ T):=Ac.of aS (λk e=>by cases e;rfl)
 have bS:=zh (ae.y aO.o (λe=>by
  have X:=D.o;rw[<-e]at X;have h8:=aO.o;unfold Aa at h8 X;rw[h8]at X
  simp at X))
 have bU:=zh (aP.o.au ae (aP.o.cg D.o));have bV:=zh (ae.aT aQ.o (λb f e=>by subst e;exact Bv D.o aQ.o Ξ f))
 have bW:Hd (∀v,u i=J v->∃m p,(w4.setCell ⟨d,3,A2⟩ T).ownsRow 0 64 1 v m p/\m<=q):=zh (λv hv=>by
  obtain⟨m,p,s,P⟩:=bO.o v hv
  exact⟨m,p,ae.aT s (λb f e=>by subst e;exact Bv D.o s Ξ f),P⟩)
 have bX:=zh (bP.o.trans (ae.mono (λk e=>.inl e)));obtain⟨w5,bY⟩:=Af (w4.setCell ⟨d,3,A2⟩ T);rw[bY]at bQ bR bS bU bV bW bX⊢
 have cN:∃t m p,(u i).getD (O A2 0 0)=t/\w5.ownsRow 0 64 1 t m p/\m<=q/\∀b,t.ownBlock=J b->∃t,u i=J t/\t.ownBlock=J b:=by
  cases cO:u i with
  |none=>exact⟨O A2 0 0,0,[],rfl,World.ownsRow_nil _ _ _ _,ke _,λb f=>by simp[Value.ownBlock]at f⟩
  |some t=>
   obtain⟨m,p,s,P⟩:=bW.o t cO;exact⟨t,m,p,rfl,s,P,λb f=>⟨t,rfl,f⟩⟩
 obtain⟨t,pm,p,bZ,b0,dj,b1⟩:=cN;have cP:=zh bZ;have cQ:=zh b0;have aT:=zh b1;have HI:Hd ((Lit.int Y i).wf=Bk):=zh (WalkArith.wf_i64 Ω);clear bZ b0 b1 bY ae aS k3 cL D aO aP aQ bO bP aR aw bJ ac aK aL bK aH ak bF bG bH bI bx bz bA bB bC bD;go_wp2_with fail;refine FU (λW=>W.cell? ⟨d,4,A2⟩=J (Bn (J F))/\MF W V 3 F q u) [([0,1,2,3,5,6,7,8,9,10],[4,11,12],13,Bk),([],[],14,Bk),([],[],15,A6)] Φ Φ ?_;obtain⟨w6,aV⟩:=Af w5.drew
 have I:w5.grownBy w6 A2:=by rw[<-aV];exact AZ w5 1 A2
 rw[aV];have b3:=zh (bQ.o.u I Δ);have cR:=zh (bS.o.u I Δ);have cS:=zh (AV bR.o I);have b4:=zh (bU.o.u I Δ);have cT:=zh (AV bV.o I);have cU:=zh (AV cQ.o I);have b5:=zh (bX.o.trans (Ac.az I));have x1:=cR.o.m 1;clear aV I;refine JG ⟨b3.o.m 4,b4.o⟩ ?_
 iterate 10 ((apply AC rfl Θ;(· intro wS g;(try have g:=g rfl);(try dsimp only at g);(try obtain ⟨k4,b6⟩:=g);(try have cV:=b6.fT kj A4 (z:=O A2 0 0) Φ i HI.o);(try rw[cP.o]at cV);(try clear b6);go_simp;(try with_reducible rfl)));refine Al ?_)
 refine Aj ?_
 iterate 3 ((apply AC rfl Θ;(· intro wS g;(try have g:=g rfl);(try dsimp only at g);(try subst g);go_simp;(try with_reducible rfl)));refine Al ?_)
 refine Aj ?_;refine Am ?_;intro K o;have r:=Ax w6 (.cells #[O M n N] 64) A2;have HN:=zh (Aa.new w6 64 [O M n N]);have aW:=zh (b3.o.u r Δ);have b7:=zh (AV cS.o r);have aX:=zh (b4.o.u r Δ);have b8:=zh (AV cT.o r);have al:=zh (AV cU.o r);have cW:=zh (b5.o.trans (Ac.az r));refine o _ _ ⟨_,λ_ h=>h,λ_=>⟨aW.o.m 4,aX.o⟩,?_⟩;clear o K r x1;refine Al ?_;refine Dw ?_;refine Aj ?_;refine AE rfl (λK o=>?_);refine Gh Θ _ _ 154 Θ 0 64 ib _ 1 24 Tryz.underlying154 cv cw cx cy rfl Ξ (v:=t) Θ al.o Θ (Ag.bq (sz:=1) (n:=1) (c:=1) HN.o rfl (by unfold A7;omega)) (by simp[A5]) (by unfold A7;omega) Ω (ke _) ?_;intro aY w8 o8 g8 l8;have af:Ac (λk=>t.ownBlock=J k) _ w8:=Ac.of g8 (λk e=>e);have aZ:=zh (af.y aW.o (λe=>Bv aW.o al.o Ξ e));have ay:=zh (af |> aX.o.au <| λe=>aX.o.dO al.o e);refine o _ _ ⟨_,λ_ h=>h,λ_=>⟨aZ.o.m 4,ay.o⟩,?_⟩;have cX:=zh (af.aT b7.o (λb f e=>IW b7.o al.o Ξ f e));have cY:=zh (af.aT b8.o (λb f e=>IW b8.o al.o Ξ f e));have cZ:=zh (cW.o.trans (af.mono (λk e=>.inr (.inr (.inr (aT.o k e))))));have c0:=zh o8;have cd:=zh l8;obtain⟨w9,c1,ce,cf⟩:=ay.o.ff kj A4 (by unfold A7;omega) i HI.o aY;have c2:=zh ce;have a0:=zh cf;clear o K g8 o8 l8 af ce cf;refine Al ?_;refine Dw ?_;refine Aj ?_;refine Am ?_;intro K o;refine o _ _ ⟨_,λ_ h=>h,λhf=>(by cases hf),?_⟩;clear o K c1;refine Al ?_;refine Fw (NoPanic.normal ?_);go_wp2_with fail;go_ret;have c4:=aZ.o.u a0.o (λe=>ay.o.cg aZ.o (by simpa using e.symm))
 have a1:∀{cg:Nat} {e:TypeId} {v:E} {sz m:Nat} {zs:List E},w8.ownsRow cg e sz v m zs->w9.ownsRow cg e sz v m zs:=λs=>s.kept a0.o (.inr (λe=>ay.o.dO s e))
 have cj:=a1 cX.o;have ck:=a1 cY.o;have cl:=a1 c0.o;have a2:Ac (LU d F y u i) w w9:=cZ.o.trans (Ac.of a0.o (λk e=>by cases e;exact .inr (.inr (.inl rfl))));have dl:w.heap.size<=w9.heap.size:=a2.aQ;have h6:=b5.o.aQ;have ar:=cI.o;refine⟨rfl,GX C w.heap.size w9.heap.size 1,Ad.fg cD.o (a2.mono (λk G=>?_)) rfl,qf,bf,F,T,aB,L++[(i,bv,B)],fB,Fq u i aY,?_,λj=>?_⟩
 ·rcases G with rfl|G|rfl|⟨p9,a4,G⟩
  ·exact l.o.cd
  ·exact l.o.lc k G
  ·exact l.o.cp
  ·obtain⟨_,_,_,_,Z⟩:=l.o.pb i p9 a4;exact Z k G
 ·refine l.o.bj i ⟨h0,h1⟩ B bv T aY aB a2 (λk G=>JN C G) c4 c2.o ?_ (λb f=>?_) ⟨Cf ck (ke _),HL.o,cA.o,λb f=>?_⟩ ⟨_,_,cl,Ω,λb f=>?_⟩ (λb f=>?_)
  ·have X:=cj;rw[cF.o]at X;rw[Yx];exact X
  ·have am:=(cj.lt b f).2
   by_cases hw:w.heap.size<=b
   ·exact I4 C hw am
   ·rcases cK.o with e|e
    ·rw[JN C Ω];exact l.o.lc b (by rw[<-e];exact f)
    ·rw[f]at e;simp at e;omega
  ·have am:=ck.lt b f;exact I4 C Ω am.2
  ·have am:=(cl.lt b f).2
   by_cases hw:w.heap.size<=b
   ·exact I4 C hw am
   ·rcases cd.o with e|e
    ·rw[JN C Ω];obtain⟨p9,a4,G⟩:=aT.o b (by rw[<-e];exact f);obtain⟨_,_,_,_,Z⟩:=l.o.pb i p9 a4;exact Z b G
    ·rw[f]at e;simp at e;omega
  ·rcases cd.o with e|e
   ·exact .inr (aT.o b (by rw[<-e];exact f))
   ·rw[f]at e;simp at e;exact .inl Ω
 ·rw[Zg];unfold CJ;rw[cC.o j]
end
