/- Lemmas. -/
import Derived.Test.YtcedibmdelehdaaGreatDoorG17
import Derived.Test.YtcedibmdelehdaaGreatDoorG21
import Derived.Test.YtcedibmdelehdaaGreatDoorG22
import Derived.OwnWalk
namespace Go.Proofs.YtcedibmdelehdaaGreatDoor
set_option maxRecDepth 100000
set_option maxHeartbeats 32000000
open Go.Value renaming slice->E,int->V,pointer->A3,ownBlock->B3,bool->B4,map->B6,tuple->CE
open Option renaming none->O,some->A2,none_or->B1
open Go.World renaming grownBy_alloc->Z,ownsRow_nil->BR,size_alloc->B0
open Go.IntKind renaming i64->Ax
open Go.Proofs.Tryz renaming prog->AA,underlying103->BE,ntmps204->B7,func247->B8,func204->B9,f143->CR
open Go renaming Value->A4,callsIn_wide->A6,grownBy_putObj'->Bk,World->Bn,undef->Bx,Boxed->BA,run_takeDeferred->BX,cell_kept->BZ,ownsRow_putObj->B2,Calls->B5,belowK_b->CB
open Go.Ending renaming returned->A5
open Go.Obj renaming deferred->A7,cells->Bs
open List renaming finRange->Bd,find?_append->BL,getD->CL
open Go.OwnFrom renaming and->BB
open Bool renaming false->BC
open Go.KeepsOthers renaming setCell->BD,of_grownBy->CA,alloc->CK
variable{f:Int->Option (A4×List Nat)}{h o:Bn}{J:Int->Option A4}{Y g i j k l n:Nat}{a:Ae}{b:Int->List Nat}{c:El}{d:A4}{e:Int}
section
open Go.RowKit Go.Shelf
attribute [local go_sem] Oper.semAt_some
abbrev Cs:=Int×(Option Addr×Nat×Nat)×List Nat
def Cs.af:Cs:=(0,(O,0,0),[])
def J3(L:List Cs):List A4:=L.flatMap λx=>[V Ax x.1,E x.2.1.1 x.2.1.2.1 x.2.1.2.2]
theorem YD(L:El)(h:∀x∈L,∃a n c,x.2.1=E a n c):∃M:List Cs,J3 M=Hr L/\M.length=L.length/\M.map (λx=>(x.1,x.2.2))=L.map (λx=>(x.1,x.2.2))/\∀y∈M,∃x∈L,x.2.1=E y.2.1.1 y.2.1.2.1 y.2.1.2.2/\x.2.2=y.2.2:=by
 induction L with
 |nil=>exact⟨[],rfl,rfl,rfl,λy b=>by cases b⟩
 |cons x L f=>
  obtain⟨M,d,g,i,j⟩:=f (λy b=>h y (kT _ b));obtain⟨a,n,c,e⟩:=h x (mh ..);refine⟨(x.1,(a,n,c),x.2.2)::M,?_,by simp[g],by simp[i],λy b=>?_⟩
  ·unfold J3 Hr at d⊢;rw[lP,lP,d,e]
  ·rcases kZ.1 b with rfl|b
   ·exact⟨x,mh ..,e,rfl⟩
   ·obtain⟨z,k,h⟩:=j y b;exact⟨z,kT _ k,h⟩
def BP(M:List Cs)(j:Fin M.length):Cs:=M.getD (M.length - 1 - j.val) Cs.af
abbrev Nr(M:List Cs)(j:Fin M.length):Array A4:=#[V Ax ((M.length:Int) - 1 - j.val),.agg #[V Ax (BP M j).1,E (BP M j).2.1.1 (BP M j).2.1.2.1 (BP M j).2.1.2.2]]
def Cp(N k:Nat):List (Fin N):=(Bd N).take k
theorem Oa(N k:Nat)(h:k<N):Cp N (k+1)=Cp N k++[⟨k,h⟩]:=by
 unfold Cp;rw[pO];simp[h]
theorem Zf(N:Nat):Cp N N=Bd N:=lf Δ
theorem KI(N k:Nat)(h:k<=N):(Cp N k).length=k:=by simp[Cp,h]
theorem VG(L:List Cs)(i:Nat)(h:i<L.length):(J3 L)[i*2]?=A2 (V Ax (L.getD i Cs.af).1)/\(J3 L)[i*2+1]?=A2 (E (L.getD i Cs.af).2.1.1 (L.getD i Cs.af).2.1.2.1 (L.getD i Cs.af).2.1.2.2):=by
 have a:L[i]?=A2 (L.getD i Cs.af):=by simp[CL,h]
 exact⟨Dd (λx:Cs=>[V Ax x.1,E x.2.1.1 x.2.1.2.1 x.2.1.2.2]) 2 (λ_=>rfl) L i 0 _ a Ω,Dd (λx:Cs=>[V Ax x.1,E x.2.1.1 x.2.1.2.1 x.2.1.2.2]) 2 (λ_=>rfl) L i 1 _ a Ω⟩
theorem Yu(v:A4)(w:Bn)(b:∃a n c,v=E a n c):
  B5 AA 203 #[v] w λe d=>e=A5 (.func (.func 247) #[] #[A3 (A2 ⟨w.heap.size,0,O⟩)])/\d=w.alloc (Bs #[v] 105):=by
 obtain⟨a,n,c,rfl⟩:=b
 go_enter Tryz.func203,Tryz.ntmps203
 go_wp2;go_ret;exact⟨rfl,rfl⟩
theorem dG(n l s g:Nat)(hn:1<=n)(L:List Cs)(a:Option Addr)(c:Nat)(J w:List (Fin L.length)->Bn->Prop)
  (M:∀d j W,J d W->d.length<L.length->YieldAt Fence.wide (n - 1) AA l (Nr L j) W λe f=>
   (e=A5 (B4 true)/\J (d++[j]) f/\Below g W f)\/(e=A5 (B4 BC)/\w (d++[j]) f))
  (W:Bn)(y:W.cell? ⟨s,0,O⟩=A2 (E a L.length c))(N:s<g)(m:Ag W 2 (E a L.length c) L.length (J3 L))(P:L≠[]->∀b,(E a L.length c).ownBlock=A2 b->b<g)(Q:J [] W):
  CallsIn Fence.wide n AA 247 #[.func (.yield l) #[] #[],A3 (A2 ⟨s,0,O⟩)] W λe f=>(∃v,e=A5 v)/\
   ((∃z,z=Cp L.length L.length/\J z f)\/(∃d,(∃k,k<=L.length/\d=Cp L.length k)/\w d f)):=by
 have R:=m.2.1;unfold maxLen at R;have S:=zh m;have A:=zh y;clear m y;refine callsIn_of_wp B8 rfl ki ?_ rfl;simp only[Tryz.ntmps247,kB,jT,kA,Nat.reduceAdd,Nat.reduceSub,kf,kh,kJ,kr,jX,ku];have B:=A.o;have T:wrap64 ((L.length:Int) - 1)=(L.length:Int) - 1:=IntWalk.wrap64_in _ Ω
 gi_wp2
 gi_loopw [3] (λi wr=>∃k:Nat,k<=L.length/\i=V Ax ((L.length:Int) - 1 - k)/\J (Cp L.length k) wr/\Below g W wr) (λi _=>((intOf i)+1).toNat)
 case atStart=>exact⟨0,ke _,Δ,Q,Below.refl _ _⟩
 case round=>
  obtain⟨k,U,rfl,q,r⟩:=hrel;clear B T
  by_cases t:k<L.length
  ·have C:=S.o.below r (λX=>P (λe=>X (by rw[e];rfl)));have Y:=zh r;have B:wr.cell? ⟨s,0,O⟩=A2 (E a L.length c):=(r.cell (p:=⟨s,0,O⟩) N).trans A.o;obtain⟨b,o,rfl,u⟩:=C.bA Ω;obtain⟨i,h⟩:∃i:Nat,(L.length:Int) - 1 - k=i:=⟨L.length - 1 - k,Ω⟩;have Z:i<L.length:=Ω;have D:L.length - 1 - k=i:=Ω;obtain⟨F,G⟩:=VG L i Z;have x0:=u _ _ F;have x1:=u _ _ G;simp only[<-kO]at x1;have H:=Oa L.length k t;obtain⟨fn,ak,al,am,I,ab⟩:=M (Cp L.length k) ⟨k,t⟩ wr q (by rw[KI _ _ U];exact t);dsimp only[Nr,BP]at I;rw[D,h]at I;have K:=zh H;have ac:decide ((i:Int)≥0)=true:=jG Ω;have an:wrap64 ((i:Int) - 1)=(i:Int) - 1:=IntWalk.wrap64_in _ Ω;rw[h];have HI:=zh h;clear F G u C q H h D;generalize L.getD i Cs.af=x at*
   gi_wp2
   refine ab.mono ?_;rintro e W4 (⟨rfl,ae,af⟩|⟨rfl,ag⟩)
   ·gi_wp2
    go_roundw
    case rel=>
     have:=HI.o;exact⟨k+1,Ω,by congr 1;omega,by rw[K.o];exact ae,Y.o.trans af⟩
    case measure=>first|(simp[intOf];done)|(simp[intOf];omega)
   ·gi_wp2
    refine bodyPost_ret (results_none rfl _ _ _) rfl ?_;exact⟨⟨_,rfl⟩,.inr ⟨_,⟨k+1,Ω,K.o.symm⟩,ag⟩⟩
  ·obtain rfl:k=L.length:=by omega
   have ac:decide ((L.length:Int) - 1 - L.length≥0)=BC:=jH Ω
   gi_wp2
   go_end0
   exact⟨⟨_,rfl⟩,.inl ⟨_,rfl,q⟩⟩
theorem WK(n s d:Nat)(h:1<=n)(L:List Cs)(a:Option Addr)(c:Nat)(w:Bn)(i:s<d)(y:d<=w.heap.size)(j:w.cell? ⟨s,0,O⟩=A2 (E a L.length c))(m:Ag w 2 (E a L.length c) L.length (J3 L))(f:L≠[]->∀b,(E a L.length c).ownBlock=A2 b->b<d):
  SeqStopsK Fence.wide n AA 247 #[A3 (A2 ⟨s,0,O⟩)] (Nr L) (Below d) (λo=>o=Cp L.length L.length) (λq=>∃k,k<=L.length/\q=Cp L.length k) L.length w:=λl J r W g _ _ t u=>
 dG n l s d h L a c J r t W ((g.cell (p:=⟨s,0,O⟩) (by show s<w.heap.size;omega)).trans j) i (m.below g (λv b x=>by have:=f (λe=>v (by rw[e];rfl)) b x;omega)) f u
end
section
open Go.RowKit
def II(n:Nat)(a:Int->Option (A4×List Nat))(i:Int):List Nat:=match a i with|some y=>y.2|none=>AO n
theorem Qu(n:Nat):∀x∈AO n,x<256:=λx a=>by
 unfold AO at a;rw[ls a];omega
theorem Ep(n:Nat):(AO n).length=n:=lU
theorem Tv(n:Nat):Ar (AO n)=List.replicate n (V .u8 0):=by simp[Ar,AO]
theorem Ox(W:Bn)(n:Nat)(f:n<=100000):(Instr.makeSlice 64 (V Ax n) (V Ax n)).run AA W=.ok (E (A2 ⟨W.heap.size,0,O⟩) n n) (W.alloc (Bs (Ar (AO n)).toArray 5)):=by
 obtain⟨b,c,d,a,e⟩:=info_parts GK;have:=run_makeSlice (P:=AA) W 64 5 b (V .u8 0) kY c d Ax Ax n n Ω Ω (by rw[a];omega) (by rw[e];omega) Ω;rw[this,a];rw[show(madeCells (V .u8 0).cells ((n:Int).toNat*1))=(Ar (AO n)).toArray from by rw[jS,mj,Tv];exact Qr n];simp
theorem RM(W:Bn)(n:Nat)(b:n<=100000):(W.alloc (Bs (Ar (AO n)).toArray 5)).ownsRow W.heap.size 5 1 (E (A2 ⟨W.heap.size,0,O⟩) n n) n (Ar (AO n)):=by
 have h:=Aa.new W 5 (Ar (AO n))
 have a:(Ar (AO n)).length=n*1:=by rw[Hh,Ep];omega
 exact JI h (jF _) (jF _) (by unfold maxLen;omega) a (lf Ω) a
theorem YW{t:Nat}(b:Ez h a g t Y j k l n d e c f J)(i:Int)(A:0<=i)(B:i<t):
  B5 AA 204 #[A3 (A2 ⟨g,0,O⟩),V Ax i] h λv u=>∃p q,v=A5 (E p Y q)/\Ag u 1 (E p Y q) Y (Ar (II Y f i))/\h.grownBy u O:=by
 have C:=b.s1;have D:=b.n1;have F:=b.y.m 1;have G:=b.y.m 2;have m:=b.fm.gT kj BE (z:=E O 0 0) Φ i (WalkArith.wf_i64 Ω);unfold II
 cases o:f i with
 |some y=>
  have r:=b.fb i y o;unfold ID at m;rw[o]at m;simp only[oe,mD,Option.isSome_some]at m;obtain⟨p,q,s⟩:=(Ag.ai r.aS).slice;rw[s]at m;have w:=zh r;have x:=zh s;clear b r o s
  go_enter B9,B7
  go_wp2;go_ret;refine⟨p,q,rfl,?_,Bo _ _⟩;rw[<-x.o];exact Ag.ai w.o.aS
 |none=>
  unfold ID at m;rw[o]at m;simp only[Option.map_none,Option.getD_none,Option.isSome_none]at m;clear b o
  go_enter B9,B7
  have H:=Ox h Y Ω;go_wp2;go_ret;exact⟨_,_,rfl,Ag.ai (RM h Y Ω),Z _ _ O⟩
end
section
open Go.RowKit Go.Shelf
attribute [local go_sem] Oper.semAt_some
def Ka(M:List Cs)(a:List (Fin M.length)):List Nat:=match a.getLast? with|some j=>(BP M j).2.2|none=>[]
theorem RJ(M:List Cs)(a:List (Fin M.length))(j:Fin M.length):Ka M (a++[j])=(BP M j).2.2:=by simp[Ka]
def Lm(M:List Cs)(i:Int)(a:List (Fin M.length)):Prop:=∀j∈a,(BP M j).1≠i
def MV(M:List Cs)(i:Int)(a:List (Fin M.length)):Prop:=∃p j,a=p++[j]/\Lm M i p/\(BP M j).1=i
theorem Tt{e:TypeId}{c:List A4}{d:Option Nat}(a:Aa h Y e c)(g:h.grownBy o d)(i:∀r,d=A2 r->∃b,h.heap[r]?=A2 b/\b.isCells=BC):Aa o Y e c:=
 a.u g (λj=>by
  obtain⟨b,f,k⟩:=i Y j.symm;unfold Aa at a;rw[a]at f
  cases f
  cases k)
theorem TX(M:List Cs):(Bd M.length).map (BP M)=M.reverse:=by
 apply oO
 ·simp
 ·intro j a b;rw[oQ,List.getElem_finRange,List.getElem_reverse];simp at a;unfold BP;rw[kH,jK Γ];rfl
theorem gG(M:List Cs)(j:Fin M.length):BP M j∈M:=by
 have:=j.isLt;unfold BP;rw[kH,jK Ω];exact ml _
theorem ZM(M:List Cs)(i:Int)(h:Lm M i (Cp M.length M.length)):M.reverse.find? (λx=>x.1==i)=O:=by
 rw[Zf]at h;rw[<-TX,op];intro x a;rw[lB]at a;obtain⟨y,b,rfl⟩:=a;have:=h y b;simpa using this
theorem aw(M:List Cs)(i:Int)(k:Nat)(h:MV M i (Cp M.length k)):∃x,M.reverse.find? (λx=>x.1==i)=A2 x/\x.2.2=Ka M (Cp M.length k):=by
 obtain⟨p,x,a,c,d⟩:=h;refine⟨BP M x,?_,by rw[a,RJ]⟩
 have e:Bd M.length=(p++[x])++(Bd M.length).drop k:=by rw[<-a];exact(kF k _).symm
 rw[<-TX,e,oX,oX,kK,BL,op.2,B1]
 ·simp[d]
 ·intro y b;rw[lB]at b;obtain⟨z,f,rfl⟩:=b;have:=c z f;simpa using this
theorem YB(n:Nat)(L:El)(M:List Cs)(a:Int->Option (A4×List Nat))(i:Int)(c:M.map (λx=>(x.1,x.2.2))=L.map (λx=>(x.1,x.2.2)))(h:Lm M i (Cp M.length M.length)):Fs n L a i=II n a i:=by
 have d:=ZM M i h
 have b:(M.map (λx=>(x.1,x.2.2))).reverse.find? (λy=>y.1==i)=O:=by rw[<-oR,pE];simpa[nH]using d
 rw[c, <-oR,pE]at b
 have e:L.reverse.find? (λx=>x.1==i)=O:=by simpa[nH]using b
 unfold Fs II;rw[e];rfl
theorem ZH(n:Nat)(L:El)(M:List Cs)(c:Int->Option (A4×List Nat))(i:Int)(k:Nat)(d:M.map (λx=>(x.1,x.2.2))=L.map (λx=>(x.1,x.2.2)))(h:MV M i (Cp M.length k)):Fs n L c i=Ka M (Cp M.length k):=by
 obtain⟨x,e,f⟩:=aw M i k h
 have a:(M.map (λx=>(x.1,x.2.2))).reverse.find? (λy=>y.1==i)=A2 (x.1,x.2.2):=by rw[<-oR,pE];simp[nH,e]
 rw[d, <-oR,pE]at a
 cases b:L.reverse.find? (λx=>x.1==i)with
 |none=>rw[show(((λy:Int×List Nat=>y.1==i)∘λx:Int×A4×List Nat=>(x.1,x.2.2)))=λx=>x.1==i from rfl,b]at a;cases a
 |some y=>
  rw[show(((λy:Int×List Nat=>y.1==i)∘λx:Int×A4×List Nat=>(x.1,x.2.2)))=λx=>x.1==i from rfl,b]at a;simp only[oe,mK,pX]at a;unfold Fs;rw[b];simp only;rw[a.2,f]
theorem Yy{I:Nat}(q:Ez h a I j g Y k l n d e c f J)(aT:AD h a)(i:Int)(h0:0<=i)(h1:i<j):
  B5 AA 143 #[A3 (A2 ⟨I,0,O⟩),V Ax i] h λt w'=>∃ap aq,t=A5 (CE #[E ap g aq,V Ax 0])/\
   w'.ownsRow h.heap.size 5 1 (E ap g aq) g (Ar (Fs g c f i))/\h.grownBy w' O:=by
 have bX:=q.n1;have bY:=q.y.lt;obtain⟨M,aW,ay,aX,aY⟩:=YD c (λx hx=>((Ag.ai (q.lb x hx).aS).slice.elim λap q=>q.elim λaq q=>⟨ap,g,aq,q⟩));obtain⟨la,lc,aZ⟩:=(Ag.ai q.lo).slice;rw[<-ay]at aZ;subst aZ;have bm:=zh aW;have bn:=zh ay;have a0:=zh aX;have bo:=zh aY;clear aW ay aX aY;have bp:=zh aT
 have a1:(II g f i).length=g:=by
  unfold II
  split
  ·rename_i y hy;exact(q.fb i y hy).aC
  ·exact Ep g
 have az:=zh a1;have HD:=zh q;clear q aT a1;have a3:Fence.wide.round=O:=rfl;refine(A6 (n:=20)).1 ?_;refine callsIn_of_wp_marks Tryz.func143 rfl ki ?_ a3;simp only[Tryz.ntmps143,kB,jT,kA,Nat.reduceAdd,Nat.reduceSub,kf,kh,kJ,kr,jX,ku]
 gi_wp2_with fail
 obtain⟨w,L⟩:=Af (((h.alloc (Bs #[V Ax i] 3)).alloc (Bs #[E O 0 0] 64)).alloc (Bs #[V Ax 0] 32))
 have g1:h.grownBy w O:=by rw[<-L];exact Ab (Ab (Z _ _ O) (Z _ _ O)) (Z _ _ O)
 have a4:w.heap.size=h.heap.size+3:=by rw[<-L];simp
 have b3:BA w h.heap.size 3 (V Ax i):=by rw[<-L];exact((Boxed.new h _ _).alloc _).alloc _
 have b4:BA w (h.heap.size+1) 64 (E O 0 0):=by
  rw[<-L];have q:=Boxed.new (h.alloc (Bs #[V Ax i] 3)) 64 (E O 0 0);rw[B0]at q;exact q.alloc _
 have b5:BA w (h.heap.size+1+1) 32 (V Ax 0):=by
  rw[<-L];have q:=Boxed.new ((h.alloc (Bs #[V Ax i] 3)).alloc (Bs #[E O 0 0] 64)) 32 (V Ax 0);simp only[B0]at q;exact q
 have aC:=HD.o.ao (S:=λ_=>False) (col':=a) (Ac.az g1) (λ_ _ q=>q) (λ_ _=>rfl);rw[L];have k3:=aC.y.m 3;have c3:=b3.cell;have a8:=zh aC;have bs:=zh g1;have bt:=zh a4;clear L aC g1 a4;refine⟨ki,?_⟩;refine(A6.2 (Ro a8.o i h0 h1)).mono ?_;rintro t w' ⟨rfl,rfl⟩
 gi_wp2_with (refine⟨ki,?_⟩;gi_at_call 203;refine(A6.2 (Yu _ _ ⟨_,_,_,rfl⟩)).mono ?_;rintro t w' ⟨rfl,rfl⟩)
 obtain⟨u,ag⟩:=Af (w.alloc (Bs #[E la M.length lc] 105))
 have g0:w.grownBy u O:=by rw[<-ag];exact Z _ _ O
 have hz:u.heap.size=w.heap.size+1:=by rw[<-ag];simp
 have bS:BA u w.heap.size 105 (E la M.length lc):=by rw[<-ag];exact Boxed.new _ _ _
 have a9:=a8.o.ao (S:=λ_=>False) (col':=a) (Ac.az g0) (λ_ _ q=>q) (λ_ _=>rfl);have ba:=b3.kept g0 Δ;have bb:=b4.kept g0 Δ;have bc:=b5.kept g0 Δ;rw[ag];clear ag;have bw:h.grownBy u O:=Ab bs.o g0;have bd:=Fv bw
 have bZ:w.heap.size<=h.heap.size+3/\h.heap.size+3<=w.heap.size:=by have:=bt.o;omega
 have b0:u.heap.size<=h.heap.size+4/\h.heap.size+4<=u.heap.size:=Ω;clear hz;have aE:=zh a9
 have bx:∀b,(E la M.length lc).ownBlock=A2 b->b<h.heap.size:=λb hb=>(HD.o.lo.lt b hb).2
 clear a9 b3 b4 b5 c3 k3
 refine wpIn_rangeFunc_ownH a3 Ω (gf:=247) (lb:=#[A3 (A2 ⟨w.heap.size,0,O⟩)]) rfl ki (enters_of B8 Φ rfl)
  (WK 19 w.heap.size u.heap.size Ω M la lc u Ω (jF _) bS.cell (by have N:=Ag.ai aE.o.lo;rw[<-bm.o, <-bn.o]at N;exact N) (λ_ b hb=>by have:=bx b hb;omega)) belowK_t (CB (jF _)) (Below.refl _ _) (λ_=>rfl)
  (λz W=>Lm M i z/\Below u.heap.size u W)
  (λF z W=>(F=.ret/\MV M i z)/\((∃v,BA W (h.heap.size+1) 64 v/\W.ownsRow u.heap.size 5 1 v g (Ar (Ka M z))/\True)/\(BA W (h.heap.size+1+1) 32 (V Ax 0)/\Below h.heap.size h W)))
  (BB (ownFrom_pure _ _) (ownFrom_below (jF _) (jF _)))
  (λF=>BB (ownFrom_pure _ _) (BB (Own.from (holdsRow_own u.heap.size (h.heap.size+1) 64 5 1 (λ_:List (Fin M.length)=>g) (λz:List (Fin M.length)=>Ar (Ka M z)) (λ_ _=>True)) _) (BB (Own.from (boxed_own _ _ _) _) (ownFrom_below (jF _) Ω))))
  ⟨λY hq=>(by cases hq),Below.refl _ _⟩
  (λY a' W=>∃P,Aa W P 153 [V Ax (BP M Y).1,E (BP M Y).2.1.1 (BP M Y).2.1.2.1 (BP M Y).2.1.2.2]/\a'={tmps:=#[A3 (A2 ⟨I,0,O⟩),V Ax i,Bx,A3 (A2 ⟨h.heap.size,0,O⟩),A3 (A2 ⟨h.heap.size+1,0,O⟩),A3 (A2 ⟨h.heap.size+1+1,0,O⟩),V Ax 0,Bx,A3 (A2 ⟨P,0,O⟩),A3 (A2 ⟨I,0,O⟩),V Ax i,V Ax 0,V Ax 0,B4 BC,Bx,A3 (A2 ⟨I,0,O⟩),A3 (A2 ⟨I,0,O⟩),A3 (A2 ⟨I,3,O⟩),E la M.length lc,.func (.func 247) #[] #[A3 (A2 ⟨w.heap.size,0,O⟩)],V Ax ((M.length:Int) - 1 - Y.val),.agg #[V Ax (BP M Y).1,E (BP M Y).2.1.1 (BP M Y).2.1.2.1 (BP M Y).2.1.2.2],Bx,Bx,Bx,Bx,Bx,Bx,Bx,Bx,Bx,Bx,Bx,Bx],defers:=[]})
  (λY a' _ X b1 b2 hs hg hr=>by
   obtain⟨P,h8,h7⟩:=hs
   exact⟨P,Tt h8 hg (λr t=>(hr r t).2),h7⟩)
  ?assign ?body ?done ?stop
 case assign=>
  rintro bD z Y W K ⟨Q,s⟩ A;dsimp only[Nr]
  gi_wp2
  have aj:=s.size;refine A _ _ ((CK _ _).from _) ((Below.refl _ W).alloc aj _) ⟨Q,s.alloc aj _⟩ ⟨W.heap.size,Aa.new W _ _,rfl⟩
 case body=>
  rintro bD z Y a' W hl _ ⟨Q,s⟩ ⟨P,k8,rfl⟩ b7;have u0:W.cell? ⟨P,0,O⟩=A2 (V Ax (BP M Y).1):=k8.m 0;have u1:W.cell? ⟨P,1,O⟩=A2 (E (BP M Y).2.1.1 (BP M Y).2.1.2.1 (BP M Y).2.1.2.2):=k8.m 1;have c3:W.cell? ⟨h.heap.size,0,O⟩=A2 (V Ax i):=(s.cell (p:=⟨h.heap.size,0,O⟩) (by show h.heap.size<u.heap.size;omega)).trans ba.cell
  by_cases hq:(BP M Y).1=i
  ·obtain⟨x,hx,aH,aI⟩:=bo.o _ (gG M Y);have ar:=aE.o.lb x hx;have au:=Ag.ai ar.aS;rw[aH,aI]at au
   have bf:(BP M Y).2.1.2.1=g:=by
    obtain⟨b8,c9,N⟩:=(Ag.ai ar.aS).slice;rw[aH]at N;injection N
   have bg:(BP M Y).2.2.length=g:=by rw[<-aI];exact ar.aC
   have aJ:=au.below s au.lt;rw[bf]at aJ u1⊢
   have hb:((BP M Y).1==i)=true:=by rw[mz];exact hq
   have bE:MV M i (z++[Y]):=⟨z,Y,rfl,Q,hq⟩;have R:=Ek (BP M Y).2.2 (BP M Y).2.1.1 (BP M Y).2.1.2.2 W Ω (by rw[bg];exact aJ);rw[bg]at R;have aK:=zh R;have aL:BA W (h.heap.size+1) 64 (E O 0 0):=(s.block _ Ω).trans bb;have ak:BA W (h.heap.size+1+1) 32 (V Ax 0):=(s.block _ Ω).trans bc;have bF:=zh (RJ M z Y);have aj:=s.size;clear ar au aJ R hx aH aI bf;generalize(BP M Y).1=ca at*;generalize(BP M Y).2.1.1=cb at*;generalize(BP M Y).2.1.2.2=cq at*
   gi_wp2_with fail
   refine⟨ki,?_⟩;refine(A6.2 aK.o).mono ?_;rintro t T ⟨B,C,rfl,o5,G⟩;have aM:=aL.kept G Δ;have aN:=ak.kept G Δ;have r4:=aM.cell;have f4:=aM.frozen;have r5:=aN.cell;have f5:=aN.frozen
   gi_wp2_with fail
   have bI:=G.size;have al:=(aM.set (E B g C)).kept (Ao (T.setCell ⟨h.heap.size+1,0,O⟩ (E B g C)) ⟨h.heap.size+1+1,0,O⟩ (V Ax 0)) Δ;have am:BA ((T.setCell ⟨h.heap.size+1,0,O⟩ (E B g C)).setCell ⟨h.heap.size+1+1,0,O⟩ (V Ax 0)) (h.heap.size+1+1) 32 (V Ax 0):=(aN.kept (Ao T ⟨h.heap.size+1,0,O⟩ (E B g C)) Δ).set _;refine⟨(CA G (λbh o t=>by cases t)).from _ |>.trans (KeepsFrom.of_grownBy (Ao T ⟨h.heap.size+1,0,O⟩ (E B g C)) (λbh t=>by cases t;show h.heap.size+1<u.heap.size;omega)) |>.trans (KeepsFrom.of_grownBy (Ao _ ⟨h.heap.size+1+1,0,O⟩ (V Ax 0)) (λbh t=>by cases t;show h.heap.size+1+1<u.heap.size;omega)),⟨rfl,bE⟩,⟨_,al,?_,ki⟩,am,?_⟩
   ·rw[bF.o];exact Df (Df (Cf o5 aj) _ _ (by show h.heap.size+1<u.heap.size;omega)) _ _ (by show h.heap.size+1+1<u.heap.size;omega)
   ·have bJ:Below h.heap.size h T:=(bd.trans (s.mono Ω)).trans ((Fv G).mono Ω);exact(bJ.setCell (p:=⟨h.heap.size+1,0,O⟩) Δ _).setCell (p:=⟨h.heap.size+1+1,0,O⟩) Γ _
  ·have hb:((BP M Y).1==i)=BC:=by rw[kN];exact hq
   have bK:Lm M i (z++[Y]):=λx hx=>by
    rcases kI.1 hx with q|q
    ·exact Q x q
    ·rw[j8]at q;subst q;exact hq
   gi_wp2
   exact⟨KeepsFrom.refl _ _,Below.refl _ _,bK,s⟩
 case done=>
  rintro D ys W hD rfl ⟨Q,s⟩ A;have c3:W.cell? ⟨h.heap.size,0,O⟩=A2 (V Ax i):=(s.cell (p:=⟨h.heap.size,0,O⟩) (by show h.heap.size<u.heap.size;omega)).trans ba.cell;have aL:BA W (h.heap.size+1) 64 (E O 0 0):=(s.block _ Ω).trans bb;have ak:BA W (h.heap.size+1+1) 32 (V Ax 0):=(s.block _ Ω).trans bc;have bi:=aE.o.ao (S:=λF=>u.heap.size<=F) (col':=a) (w':=W) ⟨s.os,s.tape,s.output,s.size,λF hk hs=>s.block F hk⟩ (λF hk hs=>by have N:=bp.o F Ω;rw[N]at hk;cases hk) (λ_ _=>rfl);have bM:=zh (YB g c M f i a0.o Q);have aj:=s.size
  gi_wp2_with fail
  refine⟨ki,?_⟩;refine(A6.2 (YW bi i h0 h1)).mono ?_;rintro t T ⟨B,C,rfl,o5,G⟩;have R:=Ek (II g f i) B C T (Ψ az.o) (by rw[az.o];exact o5);rw[az.o]at R;have aK:=zh R;have G5:=zh G;clear R o5 bi G Q
  gi_wp2_with fail
  refine⟨ki,?_⟩;refine(A6.2 aK.o).mono ?_;rintro t w6 ⟨a6,c6,rfl,o6,g6⟩;have ax:=Ab G5.o g6;have al:=aL.kept ax Δ;have am:=ak.kept ax Δ;have r4:=al.cell;have f4:=al.frozen;have r5:=am.cell;have f5:=am.frozen;have ce:=g6.size;have bI:=G5.o.size;have bO:w6.heap[D]?=A2 (A7 (A2 [])):=(ax.block D (jR.1 A).1 Δ).trans A
  gi_wp2_with fail
  obtain⟨H,U⟩:=Af ((w6.setCell ⟨h.heap.size+1,0,O⟩ (E a6 g c6)).setCell ⟨h.heap.size+1+1,0,O⟩ (V Ax 0))
  have an:H.heap[D]?=A2 (A7 (A2 [])):=by
   rw[<-U];exact(BD _ _ _).same D _ ((BD _ _ _).same D _ bO rfl) rfl
  have bP:BA H (h.heap.size+1) 64 (E a6 g c6):=by rw[<-U];exact(al.set _).kept (Ao _ ⟨h.heap.size+1+1,0,O⟩ (V Ax 0)) Δ
  have bQ:BA H (h.heap.size+1+1) 32 (V Ax 0):=by rw[<-U];exact(am.kept (Ao w6 ⟨h.heap.size+1,0,O⟩ (E a6 g c6)) Δ).set _
  have o8:H.ownsRow u.heap.size 5 1 (E a6 g c6) g (Ar (II g f i)):=by rw[<-U];exact Df (Df (Cf o6 Ω) _ _ (by show h.heap.size+1<u.heap.size;omega)) _ _ (by show h.heap.size+1+1<u.heap.size;omega)
  have bT:Below h.heap.size h H:=by
   rw[<-U];exact(((bd.trans (s.mono Ω)).trans ((Fv ax).mono Ω)).setCell (p:=⟨h.heap.size+1,0,O⟩) Δ _).setCell (p:=⟨h.heap.size+1+1,0,O⟩) Γ _
  rw[U];clear U;refine⟨Δ,.inl ⟨_,_,rfl,BX an,?_⟩⟩;have aR:=BZ bP.cell (Bk H D (A7 O)) (λr t=>by cases t;exact⟨_,an,rfl⟩);have aS:=BZ bQ.cell (Bk H D (A7 O)) (λr t=>by cases t;exact⟨_,an,rfl⟩);refine⟨CE #[E a6 g c6,V Ax 0],?_,a6,c6,rfl,?_,?_⟩
  ·simp[results,CR,go_sem,aR,aS]
  ·rw[bM.o];exact Cf (B2 o8 (A7 O) an rfl) Ω
  ·exact Ff (bT.trans (CB (w:=h) (jF _) H D _ _ Ω an rfl rfl))
 case stop=>
  rintro D F z W hD ⟨m,cf,rfl⟩ ⟨⟨rfl,hf⟩,⟨v,bv,ho,_⟩,ak,s⟩ A;obtain⟨B,C,rfl⟩:=(Ag.ai ho).slice;have r4:=bv.cell;have r5:=ak.cell;have bW:=ZH g c M f i m a0.o hf
  gi_wp2
  refine⟨Δ,.inl ⟨_,_,rfl,BX A,?_⟩⟩;have aR:=BZ r4 (Bk W D (A7 O)) (λr t=>by cases t;exact⟨_,A,rfl⟩);have aS:=BZ r5 (Bk W D (A7 O)) (λr t=>by cases t;exact⟨_,A,rfl⟩);refine⟨CE #[E B g C,V Ax 0],?_,B,C,rfl,?_,?_⟩
  ·simp[results,CR,go_sem,aR,aS]
  ·rw[bW];exact Cf (B2 ho (A7 O) A rfl) Ω
  ·exact Ff (s.trans (CB (w:=h) (jF _) W D _ _ Ω A rfl rfl))
theorem SH{d:Nat}(l:AF h a g d Y j b)(m:AD h a)(i:Int)(n:0<=i)(o:i<d):
  B5 AA 143 #[A3 (A2 ⟨g,0,O⟩),V Ax i] h λe f=>∃k c,e=A5 (CE #[E k Y c,V Ax 0])/\
   f.ownsRow h.heap.size 5 1 (E k Y c) Y (Ar (b i))/\h.grownBy f O:=by
 obtain⟨r,s,t,u,v,L,w,x,p,q⟩:=l;rw[q i];exact Yy p m i n o
end
section
open Go.RowKit
theorem Ez.id{C:Ae}{s:Nat}(p:Ez o C g j s n k Y l d e c f J)
  (D:Int)(w:Int->Option (A4×List Nat))(F:Ac (λq=>q=g\/q=Y) o h)(t:∀q,q<o.heap.size->a q=C q)
  (y:Aa h g 107 [V Ax j,V Ax s,B6 (A2 Y),E O 0 0,B6 (A2 l),V Ax 0,V Ax D,B4 BC])
  (G:MF h AA 3 Y (k+c.length) (ID w))(H:∀i x,w i=A2 x->Ii h a 1 s x.1 x.2):
  Ez h a g j s n (k+c.length) Y l (E O 0 0) D [] w J:=by
 refine⟨y,G,p.pm.au F ?_,p.ne,by rw[t _ p.y.lt];exact p.cd,by rw[t _ p.fm.lt];exact p.cf,by rw[t _ p.pm.lt];exact p.cp,BR _ _ _ _,(λb y=>by simp[B3]at y),(by simpa using p.lq),(λx z=>by cases z),(λx z=>by cases z),H,?_,p.pi,p.n1,p.s1⟩
 ·intro A
  rcases A with B|B
  ·exact p.pm.cg p.y B
  ·exact p.ne B.symm
 ·intro i v I;obtain⟨m,K,u,L,M⟩:=p.pb i v I;refine⟨m,K,F.aT u (λb r A=>?_),L,λb r=>by rw[t b (u.lt b r).2];exact M b r⟩
  rcases A with rfl|rfl
  ·exact Bv p.y u Ξ r
  ·exact p.fm.dO u r
def Ki(a:Int->Option (A4×List Nat))(i:Int)(x:A4×List Nat)(j:Int):Option (A4×List Nat):=if j=i then A2 x else a j
theorem aR(a:Int->Option (A4×List Nat))(i:Int)(v:A4)(b:List Nat):ID (Ki a i (v,b))=Fq (ID a) i v:=by
 funext j
 unfold ID Ki Fq
 split<;>rfl
theorem aL(n:Nat)(i:Int)(v c:A4)(a:List Nat)(K:El)(b:Int->Option (A4×List Nat))(j:Int):Fs n ((i,v,a)::K) b j=Fs n K (Ki b i (c,a)) j:=by
 unfold Fs;rw[List.reverse_cons,BL]
 cases K.reverse.find? (λx=>x.1==j)with
 |some x=>rfl
 |none=>
  unfold Ki
  by_cases e:j=i
  ·subst e;simp
  ·rw[jN e,B1,List.find?_cons,show(i==j)=BC by rw[kN];exact λh=>e h.symm];rfl
structure Sy(w wr:Bn)(e:Ae)(d c n f:Nat)(L:El)(g a:Int->Option (A4×List Nat))(k:Nat):Prop where
 au:Ac (λj=>j=d\/j=c) w wr
 fm:MF wr AA 3 c (f+k) (ID a)
 fb:∀i x,a i=A2 x->wr.ownsRow 0 5 1 x.1 n (Ar x.2)/\x.2.length=n/\(∀y∈x.2,y<256)/\∀b,x.1.ownBlock=A2 b->(b<w.heap.size/\e b=1)\/w.heap.size<=b
 ct:∀j,Fs n (L.drop k) a j=Fs n L g j
theorem Sj(d F n q:Nat)(ct:Int->List Nat)(w:Bn)(g:Ae)(h:AF w g d F n q ct)(aG:AD w g)(hq:q<=1073741824):
  B5 AA 35 #[A3 (A2 ⟨d,0,O⟩)] w λe w'=>e=A5 (V Ax 0)/\
   ∃aI,Ad (λj=>j=1) w g w' aI/\AF w' aI d F n q ct:=by
 obtain⟨qf,p,bp,lv,bu,L,G,pF,o,aJ⟩:=h;have a4:=zh o.li;have bv:=o.s1;have k7:=o.y.m 7;have bw:=o.lq;have bx:=o.n1;obtain⟨la,lc,rfl⟩:=(Ag.ai o.lo).slice;have c:=zh o;have a6:=zh aJ;have a7:=zh aG;clear o aJ aG
 go_enter Tryz.func35,Tryz.ntmps35
 go_wp2_with fail;refine(Tw c.o).mono ?_;rintro e w1 ⟨rfl,H,aj⟩
 have I:Aa w1 d 107 [V Ax F,V Ax n,B6 (A2 p),E la L.length lc,B6 (A2 bp),V Ax 0,V Ax H,B4 BC]:=by rw[aj];exact c.o.y.setCell 6 _
 have J:Ac (λk=>k=d) w w1:=by rw[aj];exact Ac.of (Ao _ _ _) (λk e=>by cases e;rfl)
 have ak:∀{e:TypeId} {v:A4} {M m:Nat} {N:List A4},w.ownsRow 0 e M v m N->107≠e->∀b,v.ownBlock=A2 b->¬b=d:=λP a8 b a e=>by subst e;exact Bv c.o.y P a8 a
 have aK:Sy w w1 g d p n qf L G G 0:=⟨J.mono (λ_ e=>.inl e),c.o.fm.au J (c.o.fm.cg c.o.y),λi x hx=>by
  have s:=c.o.fb i x hx
  exact⟨J.aT s.aS (ak s.aS Ξ),s.aC,s.bB,λb a=>.inl ⟨(s.aS.lt b a).2,s.gA b a⟩⟩,λj=>rfl⟩
 have k3:=I.m 3;have bz:=zh I;clear aj k7;go_wp2_with fail
 go_loopw [22] (λi wr=>∃(k:Nat) (B:Int->Option (A4×List Nat)),k<=L.length/\i=V Ax k/\Sy w wr g d p n qf L G B k/\Aa wr d 107 [V Ax F,V Ax n,B6 (A2 p),E la L.length lc,B6 (A2 bp),V Ax 0,V Ax H,B4 BC]) (λi _=>L.length - (intOf i).toNat)
 case atStart=>exact⟨0,G,Ω,rfl,aK,I⟩
 case round=>
  obtain⟨k,B,hk,rfl,t,a⟩:=hrel;clear aK J I k3
  rcases pz hk with Q|rfl
  ·have al:L.getD k (0,E O 0 0,[])∈L:=by
    rw[kH,jK Q];exact ml _
   have u:=c.o.lb _ al;have am:=a4.o _ al
   have aN:L.drop k=L.getD k (0,E O 0 0,[])::L.drop (k+1):=by
    rw[kH,jK Q];exact mY Q
   have aO:wr.ownsRow 0 153 2 (E la L.length lc) L.length (Hr L):=t.au.aT c.o.lo (λb C e=>by
    rcases e with e|e
    ·exact ak c.o.lo Ξ b C e
    ·subst e;exact c.o.fm.dO c.o.lo C)
   obtain⟨bA,ol,bb,hc⟩:=(Ag.ai aO).bA Ω
   have ao:L[k]?=A2 (L.getD k (0,E O 0 0,[])):=by simp[CL,Q]
   have x0:=hc _ _ (Dd (λx:Int×A4×List Nat=>[V Ax x.1,x.2.1]) 2 (λ_=>rfl) L k 0 _ ao Ω);have x1:=hc _ _ (Dd (λx:Int×A4×List Nat=>[V Ax x.1,x.2.1]) 2 (λ_=>rfl) L k 1 _ ao Ω);simp only[<-kO,kU]at x0 x1
   have R:wr.ownsRow 0 5 1 (L.getD k (0,E O 0 0,[])).2.1 n (Ar (L.getD k (0,E O 0 0,[])).2.2):=t.au.aT u.aS (λb C e=>by
    rcases e with e|e
    ·exact ak u.aS Ξ b C e
    ·subst e;exact c.o.fm.dO u.aS C)
   have ar:=u.aC;have au:=u.bB;generalize L.getD k (0,E O 0 0,[])=x at*;obtain⟨i,v,S⟩:=x;simp only at x0 x1 R ar au am;obtain⟨xa,xc,rfl⟩:=(Ag.ai R).slice;have f:=zh t;have bc:=zh R;have bd:=zh aN;have T:=zh ar;have be:=zh au;have bC:=zh am;have z:=zh a;have HI:Hd ((Lit.int Ax i).wf=true):=zh (WalkArith.wf_i64 Ω);have k2:=a.m 2;have bD:L.length<=1073741824:=Ω;clear u aN hc ao R ar au am a aO al t;subst bb;go_wp2_with fail;refine FU (λW=>W.cell? ⟨d,2,O⟩=A2 (B6 (A2 p))/\W.cell? ⟨wr.heap.size,0,O⟩=A2 (V Ax i)) [([0,1,2,3,4,5,6],[7,8],9,true),([],[],10,BC)] Φ Φ ?_;obtain⟨U,X⟩:=Af ((wr.alloc (Bs #[V Ax i,E xa n xc] 153)).drew)
   have g4:wr.grownBy U O:=by rw[<-X];exact Ab (Z _ _ O) (AZ _ 1 O)
   have aQ:Aa U wr.heap.size 153 [V Ax i,E xa n xc]:=by rw[<-X];exact(Aa.new wr _ _).cU
   rw[X];have aS:=zh (z.o.u g4 Δ);have ay:=zh aQ;have G4:=zh g4;have z1:=ay.o.m 1;clear X g4 aQ k2 x0 x1;refine JG ⟨aS.o.m 2,ay.o.m 0⟩ ?_
   iterate 7 ((apply AC rfl Θ;(· intro wS l;(try have l:=l rfl);(try dsimp only at l);(try obtain ⟨k2,z0⟩:=l);go_simp;(try with_reducible rfl)));refine Al ?_)
   refine Aj ?_
   iterate 2 ((apply AC rfl Θ;(· intro wS l;(try have l:=l rfl);(try dsimp only at l);(try subst l);go_simp;(try with_reducible rfl)));refine Al ?_)
   refine Aj ?_;refine Am ?_;intro K D;have aA:=Ek S xa xc U (Ψ T.o) (by rw[T.o];exact(Ag.ai bc.o).u G4.o (λb h=>by cases h));rw[T.o]at aA;refine aA.mono ?_;rintro e w5 ⟨Y,vc,rfl,o5,g5⟩;dsimp only;have bi:=zh (aS.o.u g5 Δ);have bj:=zh (ay.o.u g5 Δ);refine D _ _ ⟨_,λ_ h=>h,λ_=>⟨bi.o.m 2,bj.o.m 0⟩,?_⟩;have r:=zh (Ab G4.o g5);have O5:=zh o5;have S5:=zh (jM G4.o.size (jF _));obtain⟨w6,bl,aW,aX⟩:=(f.o.fm.u r.o Δ).ff kj BE (by unfold maxLen;omega) i HI.o (E Y n vc);have bm:=zh aW;have ac:=zh aX;clear D K aA g5 o5 aW aX z1;refine Al ?_;refine Dw ?_;refine Aj ?_;refine Am ?_;intro K D;refine D _ _ ⟨_,λ_ h=>h,λhf=>(by cases hf),?_⟩;clear D K bl;refine Al ?_;refine Fw (NoPanic.normal ?_);go_wp2_with fail
   have bo:∀{aY:Nat} {e:TypeId} {v:A4} {M m:Nat} {N:List A4},wr.ownsRow aY e M v m N->w6.ownsRow aY e M v m N:=λP=>
    (AV P r.o).kept ac.o (.inr (λe=>(f.o.fm.u r.o Δ).dO (AV P r.o) e))
   have aZ:w6.ownsRow U.heap.size 5 1 (E Y n vc) n (Ar S):=O5.o.kept ac.o (.inr (λe=>(f.o.fm.u r.o Δ).dO O5.o e));have bG:=f.o.au.aQ;have bH:=S5.o
   go_roundw
   case rel=>
    refine⟨k+1,Ki B i (E Y n vc,S),Ω,Δ,⟨(f.o.au.trans (Ac.az r.o)).trans (Ac.of ac.o (λj e=>by cases e;exact .inr rfl)),?_,?_,?_⟩,z.o.u r.o Δ |>.u ac.o (λe=>c.o.fm.cg c.o.y (by simpa using e.symm))⟩
    ·rw[aR];exact bm.o
    ·intro j y A;unfold Ki at A
     split at A
     ·cases A
      exact⟨Cf aZ (ke _),T.o,be.o,λb a=>.inr (Ψ ((aZ.lt b a).1))⟩
     ·obtain⟨h1,h2,h3,h4⟩:=f.o.fb j y A;exact⟨bo h1,h2,h3,h4⟩
    ·intro j;rw[<-f.o.ct j,bd.o,aL n i _ (E Y n vc) S]
   case measure=>simp[intOf];omega
  ·have k3:=a.m 3;have f3:=a.v 3;have f:=zh t;have z:=zh a;clear t a;go_wp2_with fail;go_ret;have a0:Ac (λj=>j=d\/j=p) w (wr.setCell ⟨d,3,O⟩ (E O 0 0)):=f.o.au.trans (Ac.of (Ao _ _ _) (λj e=>by cases e;exact .inl rfl));have a1:Ac (λj=>j=d) wr (wr.setCell ⟨d,3,O⟩ (E O 0 0)):=Ac.of (Ao _ _ _) (λj e=>by cases e;rfl);have bJ:=f.o.au.aQ;refine⟨rfl,GX g w.heap.size (wr.setCell ⟨d,3,O⟩ (E O 0 0)).heap.size 1,Ad.fg a7.o (a0.mono (λj hj=>?_)) rfl,qf+L.length,p,bp,E O 0 0,H,[],B,pF,?_,λj=>?_⟩
   ·rcases hj with rfl|rfl
    ·exact c.o.cd
    ·exact c.o.cf
   ·refine c.o.id H B a0 (λj hj=>JN g hj) (z.o.setCell 3 _) (f.o.fm.au a1 (f.o.fm.cg z.o)) (λj y A=>?_);obtain⟨h1,h2,h3,h4⟩:=f.o.fb j y A;have h9:=a1.aT h1 (λb a e=>by subst e;exact Bv z.o h1 Ξ a);refine⟨h9,h2,h3,λb a=>?_⟩
    rcases h4 b a with⟨e1,e2⟩|e
    ·rw[JN g e1];exact e2
    ·exact I4 g e (h9.lt b a).2
   ·have:=f.o.ct j;rw[oF (jF _)]at this;rw[this];exact a6.o j
theorem Ta(c n:Nat)(w:Bn)(f:Ae)(r:AD w f)(M:1<=c)(z:c<=16384)(A:96<=n)(B:n<=512):
  B5 AA 8 #[V Ax c,V Ax n] w λe s=>∃d,e=A5 (A3 (A2 ⟨d,0,O⟩))/\w.heap.size<=d/\
   ∃t,Ad (λj=>j=1) w f s t/\AF s t d c n 0 (λ_=>AO n):=by
 have N:=@run_makeMap AA;have C:=zh r;clear r
 go_enter Tryz.func8,Tryz.ntmps8
 go_wp2;go_ret;obtain⟨g,l⟩:=Af (w.alloc (.map #[] 0));obtain⟨a,h⟩:=Af (g.alloc (.map #[] 0))
 have y:g.heap.size=w.heap.size+1:=by rw[<-l];simp
 have D:a.heap.size=g.heap.size+1:=by rw[<-h];simp
 have F:MF g AA 3 w.heap.size 0 (λ_=>O):=by rw[<-l];exact MF.cB _ _ _
 have G:MF a AA 3 g.heap.size 0 (λ_=>O):=by rw[<-h];exact MF.cB _ _ _
 have H:MF a AA 3 w.heap.size 0 (λ_=>O):=F.u (by rw[<-h];exact Z _ _ O) Δ
 have I:w.grownBy a O:=by rw[<-h, <-l];exact Ab (Z _ _ O) (Z _ _ O)
 rw[l,h];obtain⟨m,o⟩:=Af (a.alloc (Bs #[V Ax c,V Ax n,B6 (A2 w.heap.size),E O 0 0,B6 (A2 (w.heap.size+1)),V Ax 0,V Ax 0,B4 BC] 107))
 have P:m.heap.size=a.heap.size+1:=by rw[<-o];simp
 have p:a.grownBy m O:=by rw[<-o];exact Z _ _ O
 have J:Aa m a.heap.size 107 [V Ax c,V Ax n,B6 (A2 w.heap.size),E O 0 0,B6 (A2 (w.heap.size+1)),V Ax 0,V Ax 0,B4 BC]:=by rw[<-o];exact Aa.new _ _ _
 rw[o];have K:=Ab I p;refine⟨a.heap.size,by rw[D,y];rfl,Ω,GX f w.heap.size m.heap.size 1,Ad.fg C.o (Ac.az K) rfl,0,w.heap.size,w.heap.size+1,E O 0 0,0,[],λ_=>O,λ_=>O,?_,λi=>rfl⟩;refine⟨J,H.u p Δ,by rw[<-y];exact G.u p Δ,Ω,I4 f Ω Ω,I4 f Ω Ω,I4 f Ω Ω,BR _ _ _ _,(λb L=>by simp[B3]at L),Δ,(λx k=>by cases k),(λx k=>by cases k),(λi x k=>by cases k),(λi v q=>by cases q),(λi j v u b q=>by cases q),⟨A,B⟩,z⟩
theorem Mi(c:AF h a Y g i j b):
  B5 AA 129 #[A3 (A2 ⟨Y,0,O⟩)] h λe f=>e=A5 (V Ax g)/\h=f:=by
 obtain⟨k,d,_⟩:=c.dR;have l:=d.m 0;clear c d
 go_enter Tryz.func129,Tryz.ntmps129
 go_wp2;go_ret;exact⟨rfl,rfl⟩
theorem KJ(c:AF h a Y i g j b):
  B5 AA 130 #[A3 (A2 ⟨Y,0,O⟩)] h λe f=>e=A5 (V Ax g)/\h=f:=by
 obtain⟨k,d,_⟩:=c.dR;have l:=d.m 1;clear c d
 go_enter Tryz.func130,Tryz.ntmps130
 go_wp2;go_ret;exact⟨rfl,rfl⟩
end
