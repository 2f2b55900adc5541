/- Lemmas. -/
import Derived.Test.YtcedibmdelehdaaGreatDoorH18
import Derived.Test.YtcedibmdelehdaaGreatDoorH21
import Derived.Test.YtcedibmdelehdaaGreatDoorH22
import Derived.OwnWalk
namespace Go.Proofs.YtcedibmdelehdaaGreatDoor
set_option maxRecDepth 100000
set_option maxHeartbeats 32000000
open Go.Value renaming slice->E,int->V,pointer->A3,ownBlock->B7,bool->B8,map->CA,tuple->CX
open Option renaming none->O,some->A2,none_or->B5
open Go.World renaming grownBy_alloc->Z,ownsRow_nil->B1,size_alloc->B4
open Go.IntKind renaming i64->Ax
open Go.Proofs.Tryz renaming prog->AA,underlying103->BX,ntmps204->CB,func247->CE,func204->CL,f143->C2
open Go renaming Value->A4,callsIn_wide->Bk,grownBy_putObj'->Bx,World->BA,undef->BC,Boxed->BD,run_takeDeferred->B2,cell_kept->B3,ownsRow_putObj->B6,Calls->B9,belowK_b->CV
open Go.Ending renaming returned->Bd
open Go.Obj renaming deferred->Bn,cells->BB
open List renaming finRange->Bs,find?_append->B0,getD->C1
open Go.OwnFrom renaming and->BE
open Bool renaming false->BL
open Go.KeepsOthers renaming setCell->BR,of_grownBy->CR,alloc->C0
variable{h:Int->Option (A4×List Nat)}{J o:BA}{Y:Int->Option A4}{a g i j k l n:Nat}{b:Ad}{c:Int->List Nat}{d:DY}{e:A4}{f:Int}
section
open Go.RowKit Go.Shelf
attribute [local go_sem] Oper.semAt_some
abbrev Ch:=Int×(Option Addr×Nat×Nat)×List Nat
def Ch.ad:Ch:=(0,(O,0,0),[])
def JO(L:List Ch):List A4:=L.flatMap λx=>[V Ax x.1,E x.2.1.1 x.2.1.2.1 x.2.1.2.2]
theorem Yu(L:DY)(h:∀x∈L,∃a n c,x.2.1=E a n c):∃M:List Ch,JO M=Hb L/\M.length=L.length/\M.map (λx=>(x.1,x.2.2))=L.map (λx=>(x.1,x.2.2))/\∀y∈M,∃x∈L,x.2.1=E y.2.1.1 y.2.1.2.1 y.2.1.2.2/\x.2.2=y.2.2:=by
 induction L with
 |nil=>exact⟨[],rfl,rfl,rfl,λy b=>by cases b⟩
 |cons x L f=>
  obtain⟨M,d,g,i,j⟩:=f (λy b=>h y (lA _ b));obtain⟨a,n,c,e⟩:=h x (mi ..);refine⟨(x.1,(a,n,c),x.2.2)::M,?_,by simp[g],by simp[i],λy b=>?_⟩
  ·unfold JO Hb at d⊢;rw[mh,mh,d,e]
  ·rcases lK.1 b with rfl|b
   ·exact⟨x,mi ..,e,rfl⟩
   ·obtain⟨z,k,h⟩:=j y b;exact⟨z,lA _ k,h⟩
def BF(M:List Ch)(j:Fin M.length):Ch:=M.getD (M.length - 1 - j.val) Ch.ad
abbrev Ni(M:List Ch)(j:Fin M.length):Array A4:=#[V Ax ((M.length:Int) - 1 - j.val),.agg #[V Ax (BF M j).1,E (BF M j).2.1.1 (BF M j).2.1.2.1 (BF M j).2.1.2.2]]
def Cd(N k:Nat):List (Fin N):=(Bs N).take k
theorem NR(N k:Nat)(h:k<N):Cd N (k+1)=Cd N k++[⟨k,h⟩]:=by
 unfold Cd;rw[qp];simp[h]
theorem YZ(N:Nat):Cd N N=Bs N:=lF Δ
theorem Kq(N k:Nat)(h:k<=N):(Cd N k).length=k:=by simp[Cd,h]
theorem Vz(L:List Ch)(i:Nat)(h:i<L.length):(JO L)[i*2]?=A2 (V Ax (L.getD i Ch.ad).1)/\(JO L)[i*2+1]?=A2 (E (L.getD i Ch.ad).2.1.1 (L.getD i Ch.ad).2.1.2.1 (L.getD i Ch.ad).2.1.2.2):=by
 have a:L[i]?=A2 (L.getD i Ch.ad):=by simp[C1,h]
 exact⟨Eh (λx:Ch=>[V Ax x.1,E x.2.1.1 x.2.1.2.1 x.2.1.2.2]) 2 (λ_=>rfl) L i 0 _ a Ω,Eh (λx:Ch=>[V Ax x.1,E x.2.1.1 x.2.1.2.1 x.2.1.2.2]) 2 (λ_=>rfl) L i 1 _ a Ω⟩
theorem Yk(v:A4)(w:BA)(b:∃a n c,v=E a n c):
  B9 AA 203 #[v] w λe d=>e=Bd (.func (.func 247) #[] #[A3 (A2 ⟨w.heap.size,0,O⟩)])/\d=w.alloc (BB #[v] 105):=by
 obtain⟨a,n,c,rfl⟩:=b
 go_enter Tryz.func203,Tryz.ntmps203
 go_wp2;go_ret;exact⟨rfl,rfl⟩
theorem dx(n l s g:Nat)(hn:1<=n)(L:List Ch)(a:Option Addr)(c:Nat)(J w:List (Fin L.length)->BA->Prop)
  (M:∀d j W,J d W->d.length<L.length->YieldAt Fence.wide (n - 1) AA l (Ni L j) W λe f=>
   (e=Bd (B8 true)/\J (d++[j]) f/\Below g W f)\/(e=Bd (B8 BL)/\w (d++[j]) f))
  (W:BA)(y:W.cell? ⟨s,0,O⟩=A2 (E a L.length c))(N:s<g)(m:Ai W 2 (E a L.length c) L.length (JO L))(P:L≠[]->∀b,(E a L.length c).ownBlock=A2 b->b<g)(Q:J [] W):
  CallsIn Fence.wide n AA 247 #[.func (.yield l) #[] #[],A3 (A2 ⟨s,0,O⟩)] W λe f=>(∃v,e=Bd v)/\
   ((∃z,z=Cd L.length L.length/\J z f)\/(∃d,(∃k,k<=L.length/\d=Cd L.length k)/\w d f)):=by
 have R:=m.2.1;unfold maxLen at R;have S:=zh m;have A:=zh y;clear m y;refine callsIn_of_wp CE rfl kI ?_ rfl;simp only[Tryz.ntmps247,kR,kj,kP,Nat.reduceAdd,Nat.reduceSub,kF,kG,kU,kJ,kv,kO];have B:=A.o;have T:wrap64 ((L.length:Int) - 1)=(L.length:Int) - 1:=IntWalk.wrap64_in _ Ω
 gi_wp2
 gi_loopw [3] (λi wr=>∃k:Nat,k<=L.length/\i=V Ax ((L.length:Int) - 1 - k)/\J (Cd L.length k) wr/\Below g W wr) (λi _=>((intOf i)+1).toNat)
 case atStart=>exact⟨0,kN _,Δ,Q,Below.refl _ _⟩
 case round=>
  obtain⟨k,U,rfl,q,r⟩:=hrel;clear B T
  by_cases t:k<L.length
  ·have C:=S.o.below r (λX=>P (λe=>X (by rw[e];rfl)));have Y:=zh r;have B:wr.cell? ⟨s,0,O⟩=A2 (E a L.length c):=(r.cell (p:=⟨s,0,O⟩) N).trans A.o;obtain⟨b,o,rfl,u⟩:=C.aZ Ω;obtain⟨i,h⟩:∃i:Nat,(L.length:Int) - 1 - k=i:=⟨L.length - 1 - k,Ω⟩;have Z:i<L.length:=Ω;have D:L.length - 1 - k=i:=Ω;obtain⟨F,G⟩:=Vz L i Z;have x0:=u _ _ F;have x1:=u _ _ G;simp only[<-lw]at x1;have H:=NR L.length k t;obtain⟨fn,ak,al,am,I,ab⟩:=M (Cd L.length k) ⟨k,t⟩ wr q (by rw[Kq _ _ U];exact t);dsimp only[Ni,BF]at I;rw[D,h]at I;have K:=zh H;have ac:decide ((i:Int)≥0)=true:=jT Ω;have an:wrap64 ((i:Int) - 1)=(i:Int) - 1:=IntWalk.wrap64_in _ Ω;rw[h];have HI:=zh h;clear F G u C q H h D;generalize L.getD i Ch.ad=x at*
   gi_wp2
   refine ab.mono ?_;rintro e W4 (⟨rfl,ae,af⟩|⟨rfl,ag⟩)
   ·gi_wp2
    go_roundw
    case rel=>
     have:=HI.o;exact⟨k+1,Ω,by congr 1;omega,by rw[K.o];exact ae,Y.o.trans af⟩
    case measure=>first|(simp[intOf];done)|(simp[intOf];omega)
   ·gi_wp2
    refine bodyPost_ret (results_none rfl _ _ _) rfl ?_;exact⟨⟨_,rfl⟩,.inr ⟨_,⟨k+1,Ω,K.o.symm⟩,ag⟩⟩
  ·obtain rfl:k=L.length:=by omega
   have ac:decide ((L.length:Int) - 1 - L.length≥0)=BL:=jV Ω
   gi_wp2
   go_end0
   exact⟨⟨_,rfl⟩,.inl ⟨_,rfl,q⟩⟩
theorem WE(n s d:Nat)(h:1<=n)(L:List Ch)(a:Option Addr)(c:Nat)(w:BA)(i:s<d)(y:d<=w.heap.size)(j:w.cell? ⟨s,0,O⟩=A2 (E a L.length c))(m:Ai w 2 (E a L.length c) L.length (JO L))(f:L≠[]->∀b,(E a L.length c).ownBlock=A2 b->b<d):
  SeqStopsK Fence.wide n AA 247 #[A3 (A2 ⟨s,0,O⟩)] (Ni L) (Below d) (λo=>o=Cd L.length L.length) (λq=>∃k,k<=L.length/\q=Cd L.length k) L.length w:=λl J r W g _ _ t u=>
 dx n l s d h L a c J r t W ((g.cell (p:=⟨s,0,O⟩) (by show s<w.heap.size;omega)).trans j) i (m.below g (λv b x=>by have:=f (λe=>v (by rw[e];rfl)) b x;omega)) f u
end
section
open Go.RowKit
def Is(n:Nat)(a:Int->Option (A4×List Nat))(i:Int):List Nat:=match a i with|some y=>y.2|none=>AJ n
theorem Qn(n:Nat):∀x∈AJ n,x<256:=λx a=>by
 unfold AJ at a;rw[lN a];omega
theorem Ei(n:Nat):(AJ n).length=n:=mw
theorem Tk(n:Nat):Ao (AJ n)=List.replicate n (V .u8 0):=by simp[Ao,AJ]
theorem Oi(W:BA)(n:Nat)(f:n<=100000):(Instr.makeSlice 64 (V Ax n) (V Ax n)).run AA W=.ok (E (A2 ⟨W.heap.size,0,O⟩) n n) (W.alloc (BB (Ao (AJ n)).toArray 5)):=by
 obtain⟨b,c,d,a,e⟩:=info_parts Ia;have:=run_makeSlice (P:=AA) W 64 5 b (V .u8 0) mc c d Ax Ax n n Ω Ω (by rw[a];omega) (by rw[e];omega) Ω;rw[this,a];rw[show(madeCells (V .u8 0).cells ((n:Int).toNat*1))=(Ao (AJ n)).toArray from by rw[km,mL,Tk];exact Qj n];simp
theorem Ry(W:BA)(n:Nat)(b:n<=100000):(W.alloc (BB (Ao (AJ n)).toArray 5)).ownsRow W.heap.size 5 1 (E (A2 ⟨W.heap.size,0,O⟩) n n) n (Ao (AJ n)):=by
 have h:=Aa.new W 5 (Ao (AJ n))
 have a:(Ao (AJ n)).length=n*1:=by rw[GV,Ei];omega
 exact NK h (jS _) (jS _) (by unfold maxLen;omega) a (lF Ω) a
theorem YK{t:Nat}(m:Er J b g t a j k l n e f d h Y)(i:Int)(A:0<=i)(B:i<t):
  B9 AA 204 #[A3 (A2 ⟨g,0,O⟩),V Ax i] J λv u=>∃q c,v=Bd (E q a c)/\Ai u 1 (E q a c) a (Ao (Is a h i))/\J.grownBy u O:=by
 have C:=m.s1;have D:=m.n1;have F:=m.u.m 1;have G:=m.u.m 2;have o:=m.fm.gv kr BX (z:=E O 0 0) Φ i (WalkArith.wf_i64 Ω);unfold Is
 cases p:h i with
 |some y=>
  have r:=m.fb i y p;unfold Il at o;rw[p]at o;simp only[oe,nf,Option.isSome_some]at o;obtain⟨q,c,s⟩:=(Ai.aj r.aM).slice;rw[s]at o;have w:=zh r;have x:=zh s;clear m r p s
  go_enter CL,CB
  go_wp2;go_ret;refine⟨q,c,rfl,?_,Bf _ _⟩;rw[<-x.o];exact Ai.aj w.o.aM
 |none=>
  unfold Il at o;rw[p]at o;simp only[Option.map_none,Option.getD_none,Option.isSome_none]at o;clear m p
  go_enter CL,CB
  have H:=Oi J a Ω;go_wp2;go_ret;exact⟨_,_,rfl,Ai.aj (Ry J a Ω),Z _ _ O⟩
end
section
open Go.RowKit Go.Shelf
attribute [local go_sem] Oper.semAt_some
def JS(M:List Ch)(a:List (Fin M.length)):List Nat:=match a.getLast? with|some j=>(BF M j).2.2|none=>[]
theorem Ru(M:List Ch)(a:List (Fin M.length))(j:Fin M.length):JS M (a++[j])=(BF M j).2.2:=by simp[JS]
def KS(M:List Ch)(i:Int)(a:List (Fin M.length)):Prop:=∀j∈a,(BF M j).1≠i
def MG(M:List Ch)(i:Int)(a:List (Fin M.length)):Prop:=∃p j,a=p++[j]/\KS M i p/\(BF M j).1=i
theorem Ti{e:TypeId}{c:List A4}{d:Option Nat}(h:Aa J a e c)(g:J.grownBy o d)(i:∀r,d=A2 r->∃b,J.heap[r]?=A2 b/\b.isCells=BL):Aa o a e c:=
 h.grown g (λj=>by
  obtain⟨b,f,k⟩:=i a j.symm;unfold Aa at h;rw[h]at f
  cases f
  cases k)
theorem TH(M:List Ch):(Bs M.length).map (BF M)=M.reverse:=by
 apply pE
 ·simp
 ·intro j a b;rw[pG,List.getElem_finRange,List.getElem_reverse];simp at a;unfold BF;rw[lp,jW Γ];rfl
theorem gz(M:List Ch)(j:Fin M.length):BF M j∈M:=by
 have:=j.isLt;unfold BF;rw[lp,jW Ω];exact mQ _
theorem ZB(M:List Ch)(i:Int)(h:KS M i (Cd M.length M.length)):M.reverse.find? (λx=>x.1==i)=O:=by
 rw[YZ]at h;rw[<-TH,pj];intro x a;rw[lP]at a;obtain⟨y,b,rfl⟩:=a;have:=h y b;simpa using this
theorem ae(M:List Ch)(i:Int)(k:Nat)(h:MG M i (Cd M.length k)):∃x,M.reverse.find? (λx=>x.1==i)=A2 x/\x.2.2=JS M (Cd M.length k):=by
 obtain⟨p,x,a,c,d⟩:=h;refine⟨BF M x,?_,by rw[a,Ru]⟩
 have e:Bs M.length=(p++[x])++(Bs M.length).drop k:=by rw[<-a];exact(lh k _).symm
 rw[<-TH,e,oX,oX,ls,B0,pj.2,B5]
 ·simp[d]
 ·intro y b;rw[lP]at b;obtain⟨z,f,rfl⟩:=b;have:=c z f;simpa using this
theorem Yr(n:Nat)(L:DY)(M:List Ch)(a:Int->Option (A4×List Nat))(i:Int)(c:M.map (λx=>(x.1,x.2.2))=L.map (λx=>(x.1,x.2.2)))(h:KS M i (Cd M.length M.length)):Fq n L a i=Is n a i:=by
 have d:=ZB M i h
 have b:(M.map (λx=>(x.1,x.2.2))).reverse.find? (λy=>y.1==i)=O:=by rw[<-pH,qc];simpa[oo]using d
 rw[c, <-pH,qc]at b
 have e:L.reverse.find? (λx=>x.1==i)=O:=by simpa[oo]using b
 unfold Fq Is;rw[e];rfl
theorem Zv(n:Nat)(L:DY)(M:List Ch)(c:Int->Option (A4×List Nat))(i:Int)(k:Nat)(d:M.map (λx=>(x.1,x.2.2))=L.map (λx=>(x.1,x.2.2)))(h:MG M i (Cd M.length k)):Fq n L c i=JS M (Cd M.length k):=by
 obtain⟨x,e,f⟩:=ae M i k h
 have a:(M.map (λx=>(x.1,x.2.2))).reverse.find? (λy=>y.1==i)=A2 (x.1,x.2.2):=by rw[<-pH,qc];simp[oo,e]
 rw[d, <-pH,qc]at a
 cases b:L.reverse.find? (λx=>x.1==i)with
 |none=>rw[show(((λy:Int×List Nat=>y.1==i)∘λx:Int×A4×List Nat=>(x.1,x.2.2)))=λx=>x.1==i from rfl,b]at a;cases a
 |some y=>
  rw[show(((λy:Int×List Nat=>y.1==i)∘λx:Int×A4×List Nat=>(x.1,x.2.2)))=λx=>x.1==i from rfl,b]at a;simp only[oe,oh,qz]at a;unfold Fq;rw[b];simp only;rw[a.2,f]
theorem Yo{I:Nat}(q:Er J b I j g a k l n e f d h Y)(aT:Aw J b)(i:Int)(h0:0<=i)(h1:i<j):
  B9 AA 143 #[A3 (A2 ⟨I,0,O⟩),V Ax i] J λt w'=>∃aq c,t=Bd (CX #[E aq g c,V Ax 0])/\
   w'.ownsRow J.heap.size 5 1 (E aq g c) g (Ao (Fq g d h i))/\J.grownBy w' O:=by
 have bX:=q.n1;have bY:=q.u.lt;obtain⟨M,aW,ay,aX,aY⟩:=Yu d (λx hx=>((Ai.aj (q.lb x hx).aM).slice.elim λaq q=>q.elim λc q=>⟨aq,g,c,q⟩));obtain⟨la,lc,aZ⟩:=(Ai.aj q.lo).slice;rw[<-ay]at aZ;subst aZ;have bm:=zh aW;have bn:=zh ay;have a0:=zh aX;have bo:=zh aY;clear aW ay aX aY;have bp:=zh aT
 have a1:(Is g h i).length=g:=by
  unfold Is
  split
  ·rename_i y hy;exact(q.fb i y hy).aF
  ·exact Ei g
 have az:=zh a1;have HD:=zh q;clear q aT a1;have a3:Fence.wide.round=O:=rfl;refine(Bk (n:=20)).1 ?_;refine callsIn_of_wp_marks Tryz.func143 rfl kI ?_ a3;simp only[Tryz.ntmps143,kR,kj,kP,Nat.reduceAdd,Nat.reduceSub,kF,kG,kU,kJ,kv,kO]
 gi_wp2_with fail
 obtain⟨w,L⟩:=Ag (((J.alloc (BB #[V Ax i] 3)).alloc (BB #[E O 0 0] 64)).alloc (BB #[V Ax 0] 32))
 have g1:J.grownBy w O:=by rw[<-L];exact Ae (Ae (Z _ _ O) (Z _ _ O)) (Z _ _ O)
 have a4:w.heap.size=J.heap.size+3:=by rw[<-L];simp
 have b3:BD w J.heap.size 3 (V Ax i):=by rw[<-L];exact((Boxed.new J _ _).alloc _).alloc _
 have b4:BD w (J.heap.size+1) 64 (E O 0 0):=by
  rw[<-L];have q:=Boxed.new (J.alloc (BB #[V Ax i] 3)) 64 (E O 0 0);rw[B4]at q;exact q.alloc _
 have b5:BD w (J.heap.size+1+1) 32 (V Ax 0):=by
  rw[<-L];have q:=Boxed.new ((J.alloc (BB #[V Ax i] 3)).alloc (BB #[E O 0 0] 64)) 32 (V Ax 0);simp only[B4]at q;exact q
 have aC:=HD.o.am (S:=λ_=>False) (col':=b) (Ac.au g1) (λ_ _ q=>q) (λ_ _=>rfl);rw[L];have k3:=aC.u.m 3;have c3:=b3.cell;have a8:=zh aC;have bs:=zh g1;have bt:=zh a4;clear L aC g1 a4;refine⟨kI,?_⟩;refine(Bk.2 (Rd a8.o i h0 h1)).mono ?_;rintro t w' ⟨rfl,rfl⟩
 gi_wp2_with (refine⟨kI,?_⟩;gi_at_call 203;refine(Bk.2 (Yk _ _ ⟨_,_,_,rfl⟩)).mono ?_;rintro t w' ⟨rfl,rfl⟩)
 obtain⟨u,ah⟩:=Ag (w.alloc (BB #[E la M.length lc] 105))
 have g0:w.grownBy u O:=by rw[<-ah];exact Z _ _ O
 have hz:u.heap.size=w.heap.size+1:=by rw[<-ah];simp
 have bS:BD u w.heap.size 105 (E la M.length lc):=by rw[<-ah];exact Boxed.new _ _ _
 have a9:=a8.o.am (S:=λ_=>False) (col':=b) (Ac.au g0) (λ_ _ q=>q) (λ_ _=>rfl);have ba:=b3.kept g0 Δ;have bb:=b4.kept g0 Δ;have bc:=b5.kept g0 Δ;rw[ah];clear ah;have bw:J.grownBy u O:=Ae bs.o g0;have bd:=Ft bw
 have bZ:w.heap.size<=J.heap.size+3/\J.heap.size+3<=w.heap.size:=by have:=bt.o;omega
 have b0:u.heap.size<=J.heap.size+4/\J.heap.size+4<=u.heap.size:=Ω;clear hz;have aE:=zh a9
 have bx:∀ab,(E la M.length lc).ownBlock=A2 ab->ab<J.heap.size:=λab hb=>(HD.o.lo.lt ab hb).2
 clear a9 b3 b4 b5 c3 k3
 refine wpIn_rangeFunc_ownH a3 Ω (gf:=247) (lb:=#[A3 (A2 ⟨w.heap.size,0,O⟩)]) rfl kI (enters_of CE Φ rfl)
  (WE 19 w.heap.size u.heap.size Ω M la lc u Ω (jS _) bS.cell (by have N:=Ai.aj aE.o.lo;rw[<-bm.o, <-bn.o]at N;exact N) (λ_ ab hb=>by have:=bx ab hb;omega)) belowK_t (CV (jS _)) (Below.refl _ _) (λ_=>rfl)
  (λz W=>KS M i z/\Below u.heap.size u W)
  (λF z W=>(F=.ret/\MG M i z)/\((∃v,BD W (J.heap.size+1) 64 v/\W.ownsRow u.heap.size 5 1 v g (Ao (JS M z))/\True)/\(BD W (J.heap.size+1+1) 32 (V Ax 0)/\Below J.heap.size J W)))
  (BE (ownFrom_pure _ _) (ownFrom_below (jS _) (jS _)))
  (λF=>BE (ownFrom_pure _ _) (BE (Own.from (holdsRow_own u.heap.size (J.heap.size+1) 64 5 1 (λ_:List (Fin M.length)=>g) (λz:List (Fin M.length)=>Ao (JS M z)) (λ_ _=>True)) _) (BE (Own.from (boxed_own _ _ _) _) (ownFrom_below (jS _) Ω))))
  ⟨λa hq=>(by cases hq),Below.refl _ _⟩
  (λa a' W=>∃P,Aa W P 153 [V Ax (BF M a).1,E (BF M a).2.1.1 (BF M a).2.1.2.1 (BF M a).2.1.2.2]/\a'={tmps:=#[A3 (A2 ⟨I,0,O⟩),V Ax i,BC,A3 (A2 ⟨J.heap.size,0,O⟩),A3 (A2 ⟨J.heap.size+1,0,O⟩),A3 (A2 ⟨J.heap.size+1+1,0,O⟩),V Ax 0,BC,A3 (A2 ⟨P,0,O⟩),A3 (A2 ⟨I,0,O⟩),V Ax i,V Ax 0,V Ax 0,B8 BL,BC,A3 (A2 ⟨I,0,O⟩),A3 (A2 ⟨I,0,O⟩),A3 (A2 ⟨I,3,O⟩),E la M.length lc,.func (.func 247) #[] #[A3 (A2 ⟨w.heap.size,0,O⟩)],V Ax ((M.length:Int) - 1 - a.val),.agg #[V Ax (BF M a).1,E (BF M a).2.1.1 (BF M a).2.1.2.1 (BF M a).2.1.2.2],BC,BC,BC,BC,BC,BC,BC,BC,BC,BC,BC,BC],defers:=[]})
  (λa a' _ X b1 b2 hs hg hr=>by
   obtain⟨P,h8,h7⟩:=hs
   exact⟨P,Ti h8 hg (λr t=>(hr r t).2),h7⟩)
  ?assign ?body ?done ?stop
 case assign=>
  rintro bD z a W K ⟨Q,s⟩ A;dsimp only[Ni]
  gi_wp2
  have ak:=s.size;refine A _ _ ((C0 _ _).from _) ((Below.refl _ W).alloc ak _) ⟨Q,s.alloc ak _⟩ ⟨W.heap.size,Aa.new W _ _,rfl⟩
 case body=>
  rintro bD z a a' W hl _ ⟨Q,s⟩ ⟨P,k8,rfl⟩ b7;have u0:W.cell? ⟨P,0,O⟩=A2 (V Ax (BF M a).1):=k8.m 0;have u1:W.cell? ⟨P,1,O⟩=A2 (E (BF M a).2.1.1 (BF M a).2.1.2.1 (BF M a).2.1.2.2):=k8.m 1;have c3:W.cell? ⟨J.heap.size,0,O⟩=A2 (V Ax i):=(s.cell (p:=⟨J.heap.size,0,O⟩) (by show J.heap.size<u.heap.size;omega)).trans ba.cell
  by_cases hq:(BF M a).1=i
  ·obtain⟨x,hx,aH,aI⟩:=bo.o _ (gz M a);have ar:=aE.o.lb x hx;have au:=Ai.aj ar.aM;rw[aH,aI]at au
   have bf:(BF M a).2.1.2.1=g:=by
    obtain⟨b8,c9,N⟩:=(Ai.aj ar.aM).slice;rw[aH]at N;injection N
   have bg:(BF M a).2.2.length=g:=by rw[<-aI];exact ar.aF
   have aJ:=au.below s au.lt;rw[bf]at aJ u1⊢
   have hb:((BF M a).1==i)=true:=by rw[nc];exact hq
   have bE:MG M i (z++[a]):=⟨z,a,rfl,Q,hq⟩;have R:=DW (BF M a).2.2 (BF M a).2.1.1 (BF M a).2.1.2.2 W Ω (by rw[bg];exact aJ);rw[bg]at R;have aK:=zh R;have aL:BD W (J.heap.size+1) 64 (E O 0 0):=(s.block _ Ω).trans bb;have al:BD W (J.heap.size+1+1) 32 (V Ax 0):=(s.block _ Ω).trans bc;have bF:=zh (Ru M z a);have ak:=s.size;clear ar au aJ R hx aH aI bf;generalize(BF M a).1=ca at*;generalize(BF M a).2.1.1=cb at*;generalize(BF M a).2.1.2.2=cq at*
   gi_wp2_with fail
   refine⟨kI,?_⟩;refine(Bk.2 aK.o).mono ?_;rintro t T ⟨B,C,rfl,o5,G⟩;have aM:=aL.kept G Δ;have aN:=al.kept G Δ;have r4:=aM.cell;have f4:=aM.frozen;have r5:=aN.cell;have f5:=aN.frozen
   gi_wp2_with fail
   have bI:=G.size;have am:=(aM.set (E B g C)).kept (An (T.setCell ⟨J.heap.size+1,0,O⟩ (E B g C)) ⟨J.heap.size+1+1,0,O⟩ (V Ax 0)) Δ;have an:BD ((T.setCell ⟨J.heap.size+1,0,O⟩ (E B g C)).setCell ⟨J.heap.size+1+1,0,O⟩ (V Ax 0)) (J.heap.size+1+1) 32 (V Ax 0):=(aN.kept (An T ⟨J.heap.size+1,0,O⟩ (E B g C)) Δ).set _;refine⟨(CR G (λbh o t=>by cases t)).from _ |>.trans (KeepsFrom.of_grownBy (An T ⟨J.heap.size+1,0,O⟩ (E B g C)) (λbh t=>by cases t;show J.heap.size+1<u.heap.size;omega)) |>.trans (KeepsFrom.of_grownBy (An _ ⟨J.heap.size+1+1,0,O⟩ (V Ax 0)) (λbh t=>by cases t;show J.heap.size+1+1<u.heap.size;omega)),⟨rfl,bE⟩,⟨_,am,?_,kI⟩,an,?_⟩
   ·rw[bF.o];exact CI (CI (BQ o5 ak) _ _ (by show J.heap.size+1<u.heap.size;omega)) _ _ (by show J.heap.size+1+1<u.heap.size;omega)
   ·have bJ:Below J.heap.size J T:=(bd.trans (s.mono Ω)).trans ((Ft G).mono Ω);exact(bJ.setCell (p:=⟨J.heap.size+1,0,O⟩) Δ _).setCell (p:=⟨J.heap.size+1+1,0,O⟩) Γ _
  ·have hb:((BF M a).1==i)=BL:=by rw[lu];exact hq
   have bK:KS M i (z++[a]):=λx hx=>by
    rcases kY.1 hx with q|q
    ·exact Q x q
    ·rw[kH]at q;subst q;exact hq
   gi_wp2
   exact⟨KeepsFrom.refl _ _,Below.refl _ _,bK,s⟩
 case done=>
  rintro D ys W hD rfl ⟨Q,s⟩ A;have c3:W.cell? ⟨J.heap.size,0,O⟩=A2 (V Ax i):=(s.cell (p:=⟨J.heap.size,0,O⟩) (by show J.heap.size<u.heap.size;omega)).trans ba.cell;have aL:BD W (J.heap.size+1) 64 (E O 0 0):=(s.block _ Ω).trans bb;have al:BD W (J.heap.size+1+1) 32 (V Ax 0):=(s.block _ Ω).trans bc;have bi:=aE.o.am (S:=λF=>u.heap.size<=F) (col':=b) (w':=W) ⟨s.os,s.tape,s.output,s.size,λF hk hs=>s.block F hk⟩ (λF hk hs=>by have N:=bp.o F Ω;rw[N]at hk;cases hk) (λ_ _=>rfl);have bM:=zh (Yr g d M h i a0.o Q);have ak:=s.size
  gi_wp2_with fail
  refine⟨kI,?_⟩;refine(Bk.2 (YK bi i h0 h1)).mono ?_;rintro t T ⟨B,C,rfl,o5,G⟩;have R:=DW (Is g h i) B C T (Ψ az.o) (by rw[az.o];exact o5);rw[az.o]at R;have aK:=zh R;have G5:=zh G;clear R o5 bi G Q
  gi_wp2_with fail
  refine⟨kI,?_⟩;refine(Bk.2 aK.o).mono ?_;rintro t w6 ⟨a6,c6,rfl,o6,g6⟩;have ax:=Ae G5.o g6;have am:=aL.kept ax Δ;have an:=al.kept ax Δ;have r4:=am.cell;have f4:=am.frozen;have r5:=an.cell;have f5:=an.frozen;have ce:=g6.size;have bI:=G5.o.size;have bO:w6.heap[D]?=A2 (Bn (A2 [])):=(ax.block D (kf.1 A).1 Δ).trans A
  gi_wp2_with fail
  obtain⟨H,U⟩:=Ag ((w6.setCell ⟨J.heap.size+1,0,O⟩ (E a6 g c6)).setCell ⟨J.heap.size+1+1,0,O⟩ (V Ax 0))
  have ao:H.heap[D]?=A2 (Bn (A2 [])):=by
   rw[<-U];exact(BR _ _ _).same D _ ((BR _ _ _).same D _ bO rfl) rfl
  have bP:BD H (J.heap.size+1) 64 (E a6 g c6):=by rw[<-U];exact(am.set _).kept (An _ ⟨J.heap.size+1+1,0,O⟩ (V Ax 0)) Δ
  have bQ:BD H (J.heap.size+1+1) 32 (V Ax 0):=by rw[<-U];exact(an.kept (An w6 ⟨J.heap.size+1,0,O⟩ (E a6 g c6)) Δ).set _
  have o8:H.ownsRow u.heap.size 5 1 (E a6 g c6) g (Ao (Is g h i)):=by rw[<-U];exact CI (CI (BQ o6 Ω) _ _ (by show J.heap.size+1<u.heap.size;omega)) _ _ (by show J.heap.size+1+1<u.heap.size;omega)
  have bT:Below J.heap.size J H:=by
   rw[<-U];exact(((bd.trans (s.mono Ω)).trans ((Ft ax).mono Ω)).setCell (p:=⟨J.heap.size+1,0,O⟩) Δ _).setCell (p:=⟨J.heap.size+1+1,0,O⟩) Γ _
  rw[U];clear U;refine⟨Δ,.inl ⟨_,_,rfl,B2 ao,?_⟩⟩;have aR:=B3 bP.cell (Bx H D (Bn O)) (λr t=>by cases t;exact⟨_,ao,rfl⟩);have aS:=B3 bQ.cell (Bx H D (Bn O)) (λr t=>by cases t;exact⟨_,ao,rfl⟩);refine⟨CX #[E a6 g c6,V Ax 0],?_,a6,c6,rfl,?_,?_⟩
  ·simp[results,C2,go_sem,aR,aS]
  ·rw[bM.o];exact BQ (B6 o8 (Bn O) ao rfl) Ω
  ·exact Ff (bT.trans (CV (w:=J) (jS _) H D _ _ Ω ao rfl rfl))
 case stop=>
  rintro D F z W hD ⟨m,cf,rfl⟩ ⟨⟨rfl,hf⟩,⟨v,bv,ho,_⟩,al,s⟩ A;obtain⟨B,C,rfl⟩:=(Ai.aj ho).slice;have r4:=bv.cell;have r5:=al.cell;have bW:=Zv g d M h i m a0.o hf
  gi_wp2
  refine⟨Δ,.inl ⟨_,_,rfl,B2 A,?_⟩⟩;have aR:=B3 r4 (Bx W D (Bn O)) (λr t=>by cases t;exact⟨_,A,rfl⟩);have aS:=B3 r5 (Bx W D (Bn O)) (λr t=>by cases t;exact⟨_,A,rfl⟩);refine⟨CX #[E B g C,V Ax 0],?_,B,C,rfl,?_,?_⟩
  ·simp[results,C2,go_sem,aR,aS]
  ·rw[bW];exact BQ (B6 ho (Bn O) A rfl) Ω
  ·exact Ff (s.trans (CV (w:=J) (jS _) W D _ _ Ω A rfl rfl))
theorem So{d:Nat}(h:AD J b g d a j c)(m:Aw J b)(i:Int)(n:0<=i)(o:i<d):
  B9 AA 143 #[A3 (A2 ⟨g,0,O⟩),V Ax i] J λe f=>∃k l,e=Bd (CX #[E k a l,V Ax 0])/\
   f.ownsRow J.heap.size 5 1 (E k a l) a (Ao (c i))/\J.grownBy f O:=by
 obtain⟨r,s,t,u,v,L,w,x,p,q⟩:=h;rw[q i];exact Yo p m i n o
end
section
open Go.RowKit
theorem Er.iu{C:Ad}{s:Nat}(c:Er o C g j s n k a l e f d h Y)
  (D:Int)(w:Int->Option (A4×List Nat))(F:Ac (λp=>p=g\/p=a) o J)(t:∀p,p<o.heap.size->b p=C p)
  (y:Aa J g 107 [V Ax j,V Ax s,CA (A2 a),E O 0 0,CA (A2 l),V Ax 0,V Ax D,B8 BL])
  (G:MF J AA 3 a (k+d.length) (Il w))(H:∀i x,w i=A2 x->Hs J b 1 s x.1 x.2):
  Er J b g j s n (k+d.length) a l (E O 0 0) D [] w Y:=by
 refine⟨y,G,c.pm.ak F ?_,c.ne,by rw[t _ c.u.lt];exact c.cd,by rw[t _ c.fm.lt];exact c.cf,by rw[t _ c.pm.lt];exact c.cp,B1 _ _ _ _,(λq y=>by simp[B7]at y),(by simpa using c.lq),(λx z=>by cases z),(λx z=>by cases z),H,?_,c.pi,c.n1,c.s1⟩
 ·intro A
  rcases A with B|B
  ·exact c.pm.b6 c.u B
  ·exact c.ne B.symm
 ·intro i v I;obtain⟨m,K,u,L,M⟩:=c.pb i v I;refine⟨m,K,F.aL u (λq r A=>?_),L,λq r=>by rw[t q (u.lt q r).2];exact M q r⟩
  rcases A with rfl|rfl
  ·exact Bh c.u u Ξ r
  ·exact c.fm.cP u r
def JZ(a:Int->Option (A4×List Nat))(i:Int)(x:A4×List Nat)(j:Int):Option (A4×List Nat):=if j=i then A2 x else a j
theorem aI(a:Int->Option (A4×List Nat))(i:Int)(v:A4)(b:List Nat):Il (JZ a i (v,b))=Ec (Il a) i v:=by
 funext j
 unfold Il JZ Ec
 split<;>rfl
theorem aw(n:Nat)(i:Int)(v c:A4)(a:List Nat)(K:DY)(b:Int->Option (A4×List Nat))(j:Int):Fq n ((i,v,a)::K) b j=Fq n K (JZ b i (c,a)) j:=by
 unfold Fq;rw[List.reverse_cons,B0]
 cases K.reverse.find? (λx=>x.1==j)with
 |some x=>rfl
 |none=>
  unfold JZ
  by_cases e:j=i
  ·subst e;simp
  ·rw[j7 e,B5,List.find?_cons,show(i==j)=BL by rw[lu];exact λh=>e h.symm];rfl
structure Sy(w wr:BA)(e:Ad)(d c n f:Nat)(L:DY)(g a:Int->Option (A4×List Nat))(k:Nat):Prop where
 ak:Ac (λj=>j=d\/j=c) w wr
 fm:MF wr AA 3 c (f+k) (Il a)
 fb:∀i x,a i=A2 x->wr.ownsRow 0 5 1 x.1 n (Ao x.2)/\x.2.length=n/\(∀y∈x.2,y<256)/\∀b,x.1.ownBlock=A2 b->(b<w.heap.size/\e b=1)\/w.heap.size<=b
 ct:∀j,Fq n (L.drop k) a j=Fq n L g j
theorem RW(d F n q:Nat)(ct:Int->List Nat)(w:BA)(g:Ad)(h:AD w g d F n q ct)(aH:Aw w g)(hq:q<=1073741824):
  B9 AA 35 #[A3 (A2 ⟨d,0,O⟩)] w λe w'=>e=Bd (V Ax 0)/\
   ∃aK,Ab (λj=>j=1) w g w' aK/\AD w' aK d F n q ct:=by
 obtain⟨qf,p,bp,lv,bu,L,G,pF,o,aL⟩:=h;have a4:=zh o.li;have bv:=o.s1;have k7:=o.u.m 7;have bw:=o.lq;have bx:=o.n1;obtain⟨la,lc,rfl⟩:=(Ai.aj o.lo).slice;have c:=zh o;have a6:=zh aL;have a7:=zh aH;clear o aL aH
 go_enter Tryz.func35,Tryz.ntmps35
 go_wp2_with fail;refine(Tl c.o).mono ?_;rintro e w1 ⟨rfl,H,aj⟩
 have I:Aa w1 d 107 [V Ax F,V Ax n,CA (A2 p),E la L.length lc,CA (A2 bp),V Ax 0,V Ax H,B8 BL]:=by rw[aj];exact c.o.u.setCell 6 _
 have J:Ac (λk=>k=d) w w1:=by rw[aj];exact Ac.of (An _ _ _) (λk e=>by cases e;rfl)
 have ak:∀{e:TypeId} {v:A4} {M m:Nat} {N:List A4},w.ownsRow 0 e M v m N->107≠e->∀b,v.ownBlock=A2 b->¬b=d:=λP a8 b a e=>by subst e;exact Bh c.o.u P a8 a
 have aM:Sy w w1 g d p n qf L G G 0:=⟨J.mono (λ_ e=>.inl e),c.o.fm.ak J (c.o.fm.b6 c.o.u),λi x hx=>by
  have s:=c.o.fb i x hx
  exact⟨J.aL s.aM (ak s.aM Ξ),s.aF,s.bx,λb a=>.inl ⟨(s.aM.lt b a).2,s.gJ b a⟩⟩,λj=>rfl⟩
 have k3:=I.m 3;have bz:=zh I;clear aj k7;go_wp2_with fail
 go_loopw [22] (λi wr=>∃(k:Nat) (B:Int->Option (A4×List Nat)),k<=L.length/\i=V Ax k/\Sy w wr g d p n qf L G B k/\Aa wr d 107 [V Ax F,V Ax n,CA (A2 p),E la L.length lc,CA (A2 bp),V Ax 0,V Ax H,B8 BL]) (λi _=>L.length - (intOf i).toNat)
 case atStart=>exact⟨0,G,Ω,rfl,aM,I⟩
 case round=>
  obtain⟨k,B,hk,rfl,t,a⟩:=hrel;clear aM J I k3
  rcases pX hk with Q|rfl
  ·have al:L.getD k (0,E O 0 0,[])∈L:=by
    rw[lp,jW Q];exact mQ _
   have u:=c.o.lb _ al;have am:=a4.o _ al
   have aO:L.drop k=L.getD k (0,E O 0 0,[])::L.drop (k+1):=by
    rw[lp,jW Q];exact nE Q
   have aP:wr.ownsRow 0 153 2 (E la L.length lc) L.length (Hb L):=t.ak.aL c.o.lo (λb C e=>by
    rcases e with e|e
    ·exact ak c.o.lo Ξ b C e
    ·subst e;exact c.o.fm.cP c.o.lo C)
   obtain⟨bA,ol,bb,hc⟩:=(Ai.aj aP).aZ Ω
   have ao:L[k]?=A2 (L.getD k (0,E O 0 0,[])):=by simp[C1,Q]
   have x0:=hc _ _ (Eh (λx:Int×A4×List Nat=>[V Ax x.1,x.2.1]) 2 (λ_=>rfl) L k 0 _ ao Ω);have x1:=hc _ _ (Eh (λx:Int×A4×List Nat=>[V Ax x.1,x.2.1]) 2 (λ_=>rfl) L k 1 _ ao Ω);simp only[<-lw,lD]at x0 x1
   have R:wr.ownsRow 0 5 1 (L.getD k (0,E O 0 0,[])).2.1 n (Ao (L.getD k (0,E O 0 0,[])).2.2):=t.ak.aL u.aM (λb C e=>by
    rcases e with e|e
    ·exact ak u.aM Ξ b C e
    ·subst e;exact c.o.fm.cP u.aM C)
   have ar:=u.aF;have au:=u.bx;generalize L.getD k (0,E O 0 0,[])=x at*;obtain⟨i,v,S⟩:=x;simp only at x0 x1 R ar au am;obtain⟨xa,xc,rfl⟩:=(Ai.aj R).slice;have f:=zh t;have bc:=zh R;have bd:=zh aO;have T:=zh ar;have be:=zh au;have bC:=zh am;have z:=zh a;have HI:Hd ((Lit.int Ax i).wf=true):=zh (WalkArith.wf_i64 Ω);have k2:=a.m 2;have bD:L.length<=1073741824:=Ω;clear u aO hc ao R ar au am a aP al t;subst bb;go_wp2_with fail;refine FQ (λW=>W.cell? ⟨d,2,O⟩=A2 (CA (A2 p))/\W.cell? ⟨wr.heap.size,0,O⟩=A2 (V Ax i)) [([0,1,2,3,4,5,6],[7,8],9,true),([],[],10,BL)] Φ Φ ?_;obtain⟨U,X⟩:=Ag ((wr.alloc (BB #[V Ax i,E xa n xc] 153)).drew)
   have g4:wr.grownBy U O:=by rw[<-X];exact Ae (Z _ _ O) (AS _ 1 O)
   have aR:Aa U wr.heap.size 153 [V Ax i,E xa n xc]:=by rw[<-X];exact(Aa.new wr _ _).cQ
   rw[X];have aS:=zh (z.o.grown g4 Δ);have az:=zh aR;have G4:=zh g4;have z1:=az.o.m 1;clear X g4 aR k2 x0 x1;refine Jr ⟨aS.o.m 2,az.o.m 0⟩ ?_
   iterate 7 ((apply AB rfl Θ;(· intro wS l;(try have l:=l rfl);(try dsimp only at l);(try obtain ⟨k2,z0⟩:=l);go_simp;(try with_reducible rfl)));refine Ak ?_)
   refine Aj ?_
   iterate 2 ((apply AB rfl Θ;(· intro wS l;(try have l:=l rfl);(try dsimp only at l);(try subst l);go_simp;(try with_reducible rfl)));refine Ak ?_)
   refine Aj ?_;refine Al ?_;intro K D;have aB:=DW S xa xc U (Ψ T.o) (by rw[T.o];exact(Ai.aj bc.o).grown G4.o (λb h=>by cases h));rw[T.o]at aB;refine aB.mono ?_;rintro e w5 ⟨Y,vc,rfl,o5,g5⟩;dsimp only;have bi:=zh (aS.o.grown g5 Δ);have bj:=zh (az.o.grown g5 Δ);refine D _ _ ⟨_,λ_ h=>h,λ_=>⟨bi.o.m 2,bj.o.m 0⟩,?_⟩;have r:=zh (Ae G4.o g5);have O5:=zh o5;have S5:=zh (j8 G4.o.size (jS _));obtain⟨w6,bl,aW,aX⟩:=(f.o.fm.grown r.o Δ).eu kr BX (by unfold maxLen;omega) i HI.o (E Y n vc);have bm:=zh aW;have ac:=zh aX;clear D K aB g5 o5 aW aX z1;refine Ak ?_;refine Dh ?_;refine Aj ?_;refine Al ?_;intro K D;refine D _ _ ⟨_,λ_ h=>h,λhf=>(by cases hf),?_⟩;clear D K bl;refine Ak ?_;refine Fv (NoPanic.normal ?_);go_wp2_with fail
   have bo:∀{aY:Nat} {e:TypeId} {v:A4} {M m:Nat} {N:List A4},wr.ownsRow aY e M v m N->w6.ownsRow aY e M v m N:=λP=>
    (AP P r.o).kept ac.o (.inr (λe=>(f.o.fm.grown r.o Δ).cP (AP P r.o) e))
   have aZ:w6.ownsRow U.heap.size 5 1 (E Y n vc) n (Ao S):=O5.o.kept ac.o (.inr (λe=>(f.o.fm.grown r.o Δ).cP O5.o e));have bG:=f.o.ak.size;have bH:=S5.o
   go_roundw
   case rel=>
    refine⟨k+1,JZ B i (E Y n vc,S),Ω,Δ,⟨(f.o.ak.trans (Ac.au r.o)).trans (Ac.of ac.o (λj e=>by cases e;exact .inr rfl)),?_,?_,?_⟩,z.o.grown r.o Δ |>.grown ac.o (λe=>c.o.fm.b6 c.o.u (by simpa using e.symm))⟩
    ·rw[aI];exact bm.o
    ·intro j y A;unfold JZ at A
     split at A
     ·cases A
      exact⟨BQ aZ (kN _),T.o,be.o,λb a=>.inr (Ψ ((aZ.lt b a).1))⟩
     ·obtain⟨h1,h2,h3,h4⟩:=f.o.fb j y A;exact⟨bo h1,h2,h3,h4⟩
    ·intro j;rw[<-f.o.ct j,bd.o,aw n i _ (E Y n vc) S]
   case measure=>simp[intOf];omega
  ·have k3:=a.m 3;have f3:=a.v 3;have f:=zh t;have z:=zh a;clear t a;go_wp2_with fail;go_ret;have a0:Ac (λj=>j=d\/j=p) w (wr.setCell ⟨d,3,O⟩ (E O 0 0)):=f.o.ak.trans (Ac.of (An _ _ _) (λj e=>by cases e;exact .inl rfl));have a1:Ac (λj=>j=d) wr (wr.setCell ⟨d,3,O⟩ (E O 0 0)):=Ac.of (An _ _ _) (λj e=>by cases e;rfl);have bJ:=f.o.ak.size;refine⟨rfl,GM g w.heap.size (wr.setCell ⟨d,3,O⟩ (E O 0 0)).heap.size 1,Ab.fj a7.o (a0.mono (λj hj=>?_)) rfl,qf+L.length,p,bp,E O 0 0,H,[],B,pF,?_,λj=>?_⟩
   ·rcases hj with rfl|rfl
    ·exact c.o.cd
    ·exact c.o.cf
   ·refine c.o.iu H B a0 (λj hj=>Jw g hj) (z.o.setCell 3 _) (f.o.fm.ak a1 (f.o.fm.b6 z.o)) (λj y A=>?_);obtain⟨h1,h2,h3,h4⟩:=f.o.fb j y A;have h9:=a1.aL h1 (λb a e=>by subst e;exact Bh z.o h1 Ξ a);refine⟨h9,h2,h3,λb a=>?_⟩
    rcases h4 b a with⟨e1,e2⟩|e
    ·rw[Jw g e1];exact e2
    ·exact IN g e (h9.lt b a).2
   ·have:=f.o.ct j;rw[pt (jS _)]at this;rw[this];exact a6.o j
theorem SM(c n:Nat)(w:BA)(f:Ad)(r:Aw w f)(M:1<=c)(z:c<=16384)(A:96<=n)(B:n<=512):
  B9 AA 8 #[V Ax c,V Ax n] w λe s=>∃d,e=Bd (A3 (A2 ⟨d,0,O⟩))/\w.heap.size<=d/\
   ∃t,Ab (λj=>j=1) w f s t/\AD s t d c n 0 (λ_=>AJ n):=by
 have N:=@run_makeMap AA;have C:=zh r;clear r
 go_enter Tryz.func8,Tryz.ntmps8
 go_wp2;go_ret;obtain⟨g,l⟩:=Ag (w.alloc (.map #[] 0));obtain⟨a,h⟩:=Ag (g.alloc (.map #[] 0))
 have y:g.heap.size=w.heap.size+1:=by rw[<-l];simp
 have D:a.heap.size=g.heap.size+1:=by rw[<-h];simp
 have F:MF g AA 3 w.heap.size 0 (λ_=>O):=by rw[<-l];exact MF.bR _ _ _
 have G:MF a AA 3 g.heap.size 0 (λ_=>O):=by rw[<-h];exact MF.bR _ _ _
 have H:MF a AA 3 w.heap.size 0 (λ_=>O):=F.grown (by rw[<-h];exact Z _ _ O) Δ
 have I:w.grownBy a O:=by rw[<-h, <-l];exact Ae (Z _ _ O) (Z _ _ O)
 rw[l,h];obtain⟨m,o⟩:=Ag (a.alloc (BB #[V Ax c,V Ax n,CA (A2 w.heap.size),E O 0 0,CA (A2 (w.heap.size+1)),V Ax 0,V Ax 0,B8 BL] 107))
 have P:m.heap.size=a.heap.size+1:=by rw[<-o];simp
 have p:a.grownBy m O:=by rw[<-o];exact Z _ _ O
 have J:Aa m a.heap.size 107 [V Ax c,V Ax n,CA (A2 w.heap.size),E O 0 0,CA (A2 (w.heap.size+1)),V Ax 0,V Ax 0,B8 BL]:=by rw[<-o];exact Aa.new _ _ _
 rw[o];have K:=Ae I p;refine⟨a.heap.size,by rw[D,y];rfl,Ω,GM f w.heap.size m.heap.size 1,Ab.fj C.o (Ac.au K) rfl,0,w.heap.size,w.heap.size+1,E O 0 0,0,[],λ_=>O,λ_=>O,?_,λi=>rfl⟩;refine⟨J,H.grown p Δ,by rw[<-y];exact G.grown p Δ,Ω,IN f Ω Ω,IN f Ω Ω,IN f Ω Ω,B1 _ _ _ _,(λb L=>by simp[B7]at L),Δ,(λx k=>by cases k),(λx k=>by cases k),(λi x k=>by cases k),(λi v q=>by cases q),(λi j v u b q=>by cases q),⟨A,B⟩,z⟩
theorem LP(h:AD J b a g i j c):
  B9 AA 129 #[A3 (A2 ⟨a,0,O⟩)] J λe f=>e=Bd (V Ax g)/\J=f:=by
 obtain⟨k,d,_⟩:=h.dM;have l:=d.m 0;clear h d
 go_enter Tryz.func129,Tryz.ntmps129
 go_wp2;go_ret;exact⟨rfl,rfl⟩
theorem Kr(h:AD J b a i g j c):
  B9 AA 130 #[A3 (A2 ⟨a,0,O⟩)] J λe f=>e=Bd (V Ax g)/\J=f:=by
 obtain⟨k,d,_⟩:=h.dM;have l:=d.m 1;clear h d
 go_enter Tryz.func130,Tryz.ntmps130
 go_wp2;go_ret;exact⟨rfl,rfl⟩
end
