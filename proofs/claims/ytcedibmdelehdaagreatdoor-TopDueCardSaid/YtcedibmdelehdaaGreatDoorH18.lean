/- Lemmas. -/
import Derived.Test.YtcedibmdelehdaaGreatDoorH10
import Derived.Test.YtcedibmdelehdaaGreatDoorH11
import Derived.Laws.EntriesVeiled
namespace Go.Proofs.YtcedibmdelehdaaGreatDoor
set_option maxRecDepth 100000
set_option maxHeartbeats 32000000
open Go.Value renaming slice->E,int->A4,pointer->Bn
open Go.IntKind renaming u32->O,u8->A3
open Option renaming none->V,some->AA
open Go.Proofs.Tryz renaming prog->Y,zeroCells414->Z,func308->Bs
open Go.BinOp renaming xor->Ax
open Go.Ending renaming returned->A2
open Go.Obj renaming cells->Bd
open Go renaming callsIn_wide->Bk,World->Bx,bits->BA
section
open Go.RowKit Go.Shelf
attribute [local go_sem] Oper.semAt_some
theorem aK(v:Value)(w:Bx)(b:∃a n c,v=E a n c):
  Calls Y 297 #[v] w λe d=>e=A2 (.func (.func 308) #[] #[Bn (AA ⟨w.heap.size,0,V⟩)])/\d=w.alloc (Bd #[v] 154):=by
 obtain⟨a,n,c,rfl⟩:=b
 go_enter Tryz.func297,Tryz.ntmps297
 go_wp2;go_ret;exact⟨rfl,rfl⟩
theorem fD(n l s p g x:Nat)(hn:1<=n)(c m q:Nat)(r:Option Addr)(a:List Nat)(G:a.length=m)(J z:List Nat->Bx->Prop)
  (H:s<g/\p<g)(I:s≠x/\p≠x)(K:a≠[]->∀b,(E r m q).ownBlock=AA b->b<g/\b≠x)
  (L:∀d t W,J d W->d.length<m->YieldAt Fence.wide (n - 1) Y l #[A4 A3 (t:Nat)] W λe h=>
   (e=A2 (.bool true)/\J (d++[t]) h/\Bw g x W h)\/(e=A2 (.bool false)/\z (d++[t]) h))
  (W:Bx)(M:W.cell? ⟨s,0,V⟩=AA (E (AA ⟨p,0,V⟩) 1 c))(A:W.cell? ⟨p,0,V⟩=AA (E r m q))(u:Ai W 1 (E r m q) m (Ao a))(N:J [] W):
  CallsIn Fence.wide n Y 308 #[.func (.yield l) #[] #[],Bn (AA ⟨s,0,V⟩)] W λe h=>(∃v,e=A2 v)/\
   ((∃B,B=a/\J B h)\/(∃d,(∃k,k<=m/\d=a.take k)/\z d h)):=by
 have O:=u.2.1;unfold maxLen at O;have P:=zh u;clear u;refine callsIn_of_wp Bs rfl kI ?_ rfl;simp only[Tryz.ntmps308,kR,kj,kP,Nat.reduceAdd,Nat.reduceSub,kF,kG,kU,kJ,kv,kO]
 gi_wp2
 gi_loopw [9] (λi wr=>((i=A4 .i64 0/\J [] wr)\/(i=A4 .i64 1/\J a wr))/\Bw g x W wr)
  (λi _=>1 - (intOf i).toNat)
 case atStart=>exact⟨.inl ⟨rfl,N⟩,Bw.refl _ _ _⟩
 case round=>
  obtain⟨⟨rfl,f⟩|⟨rfl,f⟩,j⟩:=hrel
  ·have Q:wr.cell? ⟨p,0,V⟩=AA (E r m q):=(j.aq (p:=⟨p,0,V⟩) H.2 I.2).trans A
   gi_wp2
   gi_loopw [15] (λi wr=>∃k:Nat,k<=m/\i=A4 .i64 k/\J (a.take k) wr/\Bw g x W wr)
    (λi _=>m - (intOf i).toNat)
   case atStart=>exact⟨0,kN _,rfl,by rw[pq];exact f,j⟩
   case round=>
    obtain⟨k,hk,rfl,f,j⟩:=hrel
    by_cases R:k<m
    ·obtain⟨b,o,rfl,C⟩:=(P.o.fK j (λS=>K (λe=>S (by rw[e];rfl)))).aZ Ω
     have w:a[k]?=AA (a.getD k 0):=by simp[List.getD,G,R]
     have h3:wr.cell? ⟨b,o+k,V⟩=AA (A4 A3 ((a.getD k 0:Nat):Int)):=C k _ (by unfold Ao;rw[lB,w];rfl)
     have D:a.take (k+1)=a.take k++[a.getD k 0]:=by
      rw[qp,w];rfl
     obtain⟨fn,ae,af,ag,hy,T⟩:=L _ (a.getD k 0) wr f (by rw[kA];omega);have F:=zh D;generalize a.getD k 0=y at*;clear D M A w C Q
     gi_wp2
     refine T.mono ?_;rintro e W3 (⟨rfl,U,X⟩|⟨rfl,Z⟩)
     ·gi_wp2
      go_roundw
      case rel=>exact⟨k+1,Ω,Δ,by rw[F.o];exact U,j.trans X⟩
      case measure=>simp[intOf];omega
     ·gi_wp2
      refine bodyPost_ret (results_none rfl _ _ _) rfl ?_;exact⟨⟨_,rfl⟩,.inr ⟨_,⟨k+1,Ω,F.o.symm⟩,Z⟩⟩
    ·obtain rfl:k=m:=by omega
     gi_wp2
     go_roundw
     case rel=>exact⟨.inr ⟨rfl,by rw[lF Ω]at f;exact f⟩,j⟩
     case measure=>simp[intOf]
  ·gi_wp2
   go_end0
   exact⟨⟨_,rfl⟩,.inl ⟨_,rfl,f⟩⟩
def Nt(n x:Int):Int:=BA Ax A3 (A3.wrap n) x
def MX(n:Int)(x:Nat):Int:=BA Ax O (n/256) (Hi (Nt n x).toNat)
def DZ(a:List Nat):Int:=a.foldl MX 4294967295
def IB(a:List Nat):Int:=BA Ax O O.max (DZ a)
theorem TM(a:List Nat):0<=IB a/\IB a<=4294967295:=Pe _ _
theorem Sl(a:List Nat)(x:Nat):DZ (a++[x])=MX (DZ a) x:=by simp[DZ]
theorem TK(a:List Nat):0<=DZ a/\DZ a<=4294967295:=by
 rcases List.eq_nil_or_concat a with rfl|⟨b,x,rfl⟩
 ·simp[DZ]
 ·rw[List.concat_eq_append,Sl];exact Pe _ _
theorem gU(n x:Int):0<=Nt n x/\Nt n x<=255:=bits_within Ax A3 _ _
theorem Xq(n s p a x:Nat)(q:1<=n)(c m f:Nat)(g:Option Addr)(d:List Nat)(r:d.length=m)(w:Bx)
  (h:s<a/\p<a)(i:s≠x/\p≠x)(o:d≠[]->∀b,(E g m f).ownBlock=AA b->b<a/\b≠x)(t:a<=w.heap.size)
  (u:w.cell? ⟨s,0,V⟩=AA (E (AA ⟨p,0,V⟩) 1 c))(v:w.cell? ⟨p,0,V⟩=AA (E g m f))(y:Ai w 1 (E g m f) m (Ao d)):
  SeqStopsK Fence.wide n Y 308 #[Bn (AA ⟨s,0,V⟩)] (λx:Nat=>#[A4 A3 (x:Int)]) (Bw a x) (λz=>z=d)
   (λA=>∃k,k<=m/\A=d.take k) m w:=λl J B W C _ _ D F=>by
 have j:Bw a x w W:=LB (C.mono t);have G:=(j.aq (p:=⟨s,0,V⟩) h.1 i.1).trans u;have H:=(j.aq (p:=⟨p,0,V⟩) h.2 i.2).trans v;have I:=y.fK j (λK=>o (λe=>K (by rw[e];rfl)));exact fD n l s p a x q c m f g d r J B h i o D W G H I F
theorem dD(p c m r:Nat)(s:Option Addr)(t:List Nat)(hm:t.length=m)(w:Bx)(J:w.cell? ⟨p,0,V⟩=AA (E s m r))(hr:Ai w 1 (E s m r) m (Ao t)):
  Calls Y 291 #[A4 O 0,E (AA ⟨p,0,V⟩) 1 c] w λe y=>e=A2 (A4 O (IB t))/\w.grownBy y V:=by
 have ap:p<w.heap.size:=World.block_lt_of_cell? w _ J;have HR:=zh hr;have HP:=zh J;have aG:=zh TK;have HM:=zh hm;clear hr J hm;have L:Fence.wide.round=V:=rfl;refine(Bk (n:=20)).1 ?_;refine callsIn_of_wp_marks Tryz.func291 rfl kI ?_ L;simp only[Tryz.ntmps291,kR,kj,kP,Nat.reduceAdd,Nat.reduceSub,kF,kG,kU,kJ,kv,kO]
 gi_wp2_with fail
 refine⟨kI,?_⟩;refine(Bk.2 (Zg _)).mono ?_;rintro e d ⟨rfl,M⟩;have aH:(Bq 256).length=256:=Hz 256
 have N:(d.alloc (Bd Z 414)).heap[d.heap.size]?=AA (Bd (Bq 0).toArray 414 (0,0)):=by rw[SR];exact Aa.new _ _ _
 have ae:(storeCells ⟨d.heap.size,0,V⟩ (Bq 256)).run Y (d.alloc (Bd Z 414))=.ok () ((d.alloc (Bd Z 414)).setRow d.heap.size (Bq 256).toArray):=by
  have:=run_storeCells_from (P:=Y) d.heap.size 414 (Bq 256) 0 (Bq 0).toArray _ N (by simp[Hz]) (λv i=>by
   unfold Bq at i;rw[lP]at i;obtain⟨j,_,rfl⟩:=i
   rfl)
  simpa using this
 obtain⟨a,z⟩:=Ag ((d.alloc (Bd Z 414)).setRow d.heap.size (Bq 256).toArray)
 have hT:Aa a d.heap.size 414 (Bq 256):=by rw[<-z];exact setRow_heap _ _ _ _ _ _ N
 have B:w.grownBy a V:=by
  refine Ac.grown M (S:=λj=>j=d.heap.size) (b:=a) ?_ (λj e=>by have:=M.size;omega);rw[<-z];exact(Ac.au (World.grownBy_alloc d _ V)).trans ⟨rfl,rfl,rfl,Δ,λk _ hk=>setRow_other _ _ _ _ hk⟩
 have ah:a.heap.size=d.heap.size+1:=by rw[<-z];simp
 rw[z]at ae;clear z N;have aI:=zh ah;have Q:=zh hT;have aJ:w.heap.size<=d.heap.size:=M.size;clear ah hT
 gi_wp2_with (refine⟨kI,?_⟩;gi_at_call 297;refine(Bk.2 (aK _ _ ⟨_,_,_,rfl⟩)).mono ?_;rintro e y ⟨rfl,rfl⟩)
 rw[show BA Ax O O.max 0=DZ []from by decide+kernel];clear ae;obtain⟨f,u⟩:=Ag ((a.alloc (Bd #[A4 O (DZ [])] 362)).alloc (Bd #[E (AA ⟨p,0,V⟩) 1 c] 154))
 have ai:Below a.heap.size a f:=by rw[<-u];exact((Below.refl _ a).alloc (jS _) _).alloc Δ _
 have R:a.grownBy f V:=Ff ai
 have hz:f.heap.size=a.heap.size+2:=by rw[<-u];simp
 have bO:Boxed f a.heap.size 362 (A4 O (DZ [])):=by rw[<-u];exact(Boxed.new a _ _).alloc _
 have ak:f.cell? ⟨a.heap.size+1,0,V⟩=AA (E (AA ⟨p,0,V⟩) 1 c):=by
  rw[<-u];have h9:=Boxed.new (a.alloc (Bd #[A4 O (DZ [])] 362)) 154 (E (AA ⟨p,0,V⟩) 1 c);rw[World.size_alloc]at h9;exact h9.cell
 have am:f.cell? ⟨p,0,V⟩=AA (E s m r):=by
  have e:=(Ae B R).block p ap Δ;exact(World.cell?_of_block e).trans HP.o
 have av:Ai f 1 (E s m r) m (Ao t):=HR.o.grown (Ae B R) (λb h=>by cases h)
 have aw:t≠[]->∀b,(E s m r).ownBlock=AA b->b<w.heap.size:=λA b T=>HR.o.lt (by intro e;apply A;exact nT.1 e) b T
 have ax:Aa f d.heap.size 414 (Bq 256):=Q.o.bg (R.block _ Q.o.lt Δ);have aL:=B.size;have ay:d.heap.size<a.heap.size:=Q.o.lt;rw[u];clear u
 refine wpIn_rangeFunc_ownG L Ω (gf:=308) (lb:=#[Bn (AA ⟨a.heap.size+1,0,V⟩)]) rfl kI (enters_of Bs Φ rfl)
  (Xq 19 (a.heap.size+1) p f.heap.size a.heap.size Ω c m r s t HM.o f Ω Ω (λA b T=>by have:=aw A b T;omega) (jS _) ak am av)
  Bw.trans (Bw.eL (jS _)) (Below.refl _ _) (λ_=>rfl)
  (λ(g:List Nat) W=>(Boxed W a.heap.size 362 (A4 O (DZ g)))/\Below a.heap.size f W)
  (λ_ _ _=>False)
  (OwnFrom.and (Own.from (boxed_own _ _ _) _) (ownFrom_below Ω Ω))
  (λ_ _ _ _ _ hs _ _=>hs)
  ⟨bO,Below.refl _ _⟩
  ?a₁ ?assign ?body ?done ?stop
 case assign=>
  intro l x W K o
  gi_wp2
  exact o
 case body=>
  rintro l g x W ⟨i,C⟩ aM;have hc:=i.cell;have F:=i.frozen;have U:=gU (DZ g) x;have aN:=TK g;have aA:Aa W d.heap.size 414 (Bq 256):=ax.bg (C.block _ ay);have G:=aA.aq (KA 256 (Nt (DZ g) x).toNat Ω);rw[ke Ω]at G;obtain⟨q,H⟩:=kT U.1
  have ao:MX (DZ g) x=BA Ax O (DZ g/256) (Hi q):=by unfold MX;rw[H];rfl
  have X:BA Ax A3 (A3.wrap (DZ g)) x=q:=H;rw[H]at G U;simp only[km]at G;have aa:=Sl g x;rw[ao]at aa;have aB:=zh aa;have HQ:=zh X;have HZ:=zh hz;have aO:q<256:=Ω;have aP:((q:Nat):Int)<256:=Ω;clear ao aa H X ak am hz U;generalize DZ g=n at*
  gi_wp2
  refine IH (λy=>y.cell? ⟨a.heap.size,0,V⟩=AA (A4 O n)/\y.cell? ⟨d.heap.size,q,V⟩=AA (A4 O (Hi q))) [([0,1,2,3,4,5,6,7,8],9,false)] L Φ Φ ?_;refine Fe ⟨hc,G⟩ ?_
  repeat((first|(apply Fa rfl (λ_=>rfl) Θ;(· intro wS I;(try have I:=I rfl);(try dsimp only at I);(try obtain ⟨k0,k1⟩:=I);(try have X:=HQ.o);go_simp;(try with_reducible rfl))));(refine Ak ?_))
  refine Fc ?_;refine BW rfl (λK o=>?_);go_simp;refine o _ _ ⟨λF=>(by cases F),?_⟩;clear o K;refine Fu (NoPanic.normal ?_)
  gi_wp2
  generalize BA Ax O (n/256) (Hi q)=nv at*;have aF:=Ae (An W ⟨a.heap.size,0,V⟩ (A4 O nv)) (AS _ 1 _);refine⟨KeepsFrom.of_grownBy aF (λj e=>by cases e;show a.heap.size<f.heap.size;have:=HZ.o;omega),λk hk A=>?_,?_,(C.setCell (p:=⟨a.heap.size,0,V⟩) (jS _) _).drew⟩
  ·show(W.setCell _ _).heap[k]?=_;exact Below.heap_setCell _ _ _ _ A
  ·rw[aB.o];exact i.set _
 case done=>
  rintro D ys W hD rfl ⟨i,C⟩ o;have hc:=i.cell
  gi_wp2
  refine⟨Δ,.inl ⟨_,_,rfl,run_takeDeferred o,?_⟩⟩;refine⟨_,results_tmp rfl _ _ _,rfl,?_⟩;exact Ae B (Ff ((ai.trans C).trans (belowK_b (w:=a) (jS _) W D _ _ Ω o rfl rfl)))
 case stop=>
  rintro D c g W _ _ F _;exact F.elim
theorem fO(b:List Nat)(a:Option Addr)(c:Nat)(w:Bx)(f:Ai w 1 (E a b.length c) b.length (Ao b)):
  Calls Y 248 #[E a b.length c] w λe g=>e=A2 (A4 O (IB b))/\w.grownBy g V:=by
 have i:∀W,Ai W 1 (E a b.length c) b.length (Ao b)->Calls Y 277 #[A4 O 0,E a b.length c] W λe g=>e=A2 (A4 O (IB b))/\W.grownBy g V:=by
  intro W j;have k:=zh j;clear j f
  go_enter Tryz.func277,Tryz.ntmps277
  go_wp2_with fail;refine(dD W.heap.size 1 b.length c a b rfl _ ?_ ?_).mono ?_
  ·exact(Aa.new W 64 [E a b.length c]).aq rfl
  ·exact k.o.alloc _
  rintro e l ⟨rfl,d⟩;have h:=zh (Ae (World.grownBy_alloc W (Bd #[E a b.length c] 64) V) d);clear d;go_wp2;go_ret;exact⟨rfl,h.o⟩
 have m:=zh (i w f);clear i f
 go_enter Tryz.func248,Tryz.ntmps248
 go_wp2_with fail;refine m.o.mono ?_;rintro e l ⟨rfl,d⟩;have h:=zh d;clear d;go_wp2;go_ret;exact⟨rfl,h.o⟩
end
