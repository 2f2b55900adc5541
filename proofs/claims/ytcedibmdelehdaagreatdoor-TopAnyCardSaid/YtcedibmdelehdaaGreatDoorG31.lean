/- Lemmas. -/
import Derived.Test.YtcedibmdelehdaaGreatDoorG30
import Derived.Deep.Cut
import Derived.Scope
namespace Go.Proofs.YtcedibmdelehdaaGreatDoor
set_option maxRecDepth 100000
set_option maxHeartbeats 32000000
open Go.Value renaming int->E,agg->A7
open Go.IntKind renaming i64->J,u64->Bx
open Go.World renaming grownBy_alloc->O
open Go.IntWalk renaming wrap64_in->V
open Go.RowKit renaming wrap64->Y,intOf->Bk
open Go.Proofs.Tryz renaming prog->Ax
open Option renaming none->AA,some->Bs
open Decidable renaming decide->A2
open Go.Instr renaming index->A3
open Bool renaming false->A4
open Go.Obj renaming cells->A5
open Go.Ending renaming returned->A6
open Go renaming Value->Bd,Calls->Bn,World->BA
variable{f h Z:Nat}
section
open Go.RowKit
attribute [local go_sem ↓] Go.wp_at_zero Go.wp_at_succ
structure Pl where
 ss:Nat
 n:Nat
 rg:Nat
 rs:Nat
 lg:Nat
 dp:Nat
 a7:Nat
 aK:BitVec 64
namespace Pl
def bv(P:Pl):Nat:=(P.n - 19)/12
def bg(P:Pl):Nat:=(P.n - 29)/20
def region(P:Pl):Nat:=2+P.lg
def aP(P:Pl):Nat:=2+P.lg+P.rg*P.rs
def a4(P:Pl):Nat:=P.ss - P.aP
def cM(P:Pl):Nat:=2^P.dp
def bz(P:Pl):Nat:=1+(P.cM+P.bv - 1)/P.bv+P.cM
def aA(P:Pl):Nat:=P.rs*(P.n - 19)
def val(P:Pl):Bd:=A7 #[E J P.ss,E J P.n,E J P.rg,E J P.rs,E J P.lg,E J P.dp,E J P.a7,E Bx (U P.aK)]
def cells(P:Pl):List Bd:=[E J P.ss,E J P.n,E J P.rg,E J P.rs,E J P.lg,E J P.dp,E J P.a7,E Bx (U P.aK)]
def dj(P:Pl):List Bd:=[E J 2,E J P.region,E J P.aP,E J P.a4,E J P.bv,E J P.bg,E J P.bz,E J P.aA]
def hm(P:Pl):Bd:=A7 P.dj.toArray
structure aY(P:Pl):Prop where
 n0:96<=P.n
 n1:P.n<=512
 iM:1<=P.ss
 dE:P.ss<=16384
 fP:3<=P.rg
 fq:P.rg<=64
 i0:1<=P.rs
 cQ:P.rs<=32
 fM:4<=P.lg
 gg:P.lg<=256
 e2:P.dp<=8
 iA:8<=P.a7
 hp:P.a7<=256
 sq:P.cM<=P.bv*P.bv
 d4:P.aP+(3*P.bz+4)<=P.ss
theorem aY.fJ{P:Pl}(h:P.aY):P.rg*P.rs<=2048:=jM (ln h.fq h.cQ) Ξ
theorem aY.ik{P:Pl}(h:P.aY):1<=P.cM/\P.cM<=256:=⟨mF,by unfold cM;rw[show(256:Nat)=2^8 from rfl];exact kR Ω h.e2⟩
theorem aY.f5{P:Pl}(h:P.aY):6<=P.bv/\P.bv<=41:=by
 have a:=h.n0;have b:=h.n1;unfold bv;omega
theorem aY.gu{P:Pl}(h:P.aY):3<=P.bg/\P.bg<=24:=by
 have a:=h.n0;have b:=h.n1;unfold bg;omega
end Pl
abbrev Kr:Array Bd:=#[E J 0,E J 0,E J 0,E J 0,E J 0,E J 0,E J 0,E J 0,E J 0,E J 0,E J 0,E J 0,E J 0,E J 0,E J 0,E J 0,E J 0,E J 0,E J 0,E J 0,E J 0]
def GL(P:Pl):Bd:=A7 #[E J P.n,E J 96,E J 512,E J P.ss,E J 1,E J 16384,E J P.rg,E J 3,E J 64,E J P.rs,E J 1,E J 32,E J P.lg,E J 4,E J 256,E J P.dp,E J 0,E J 8,E J P.a7,E J 8,E J 256]
theorem Ym(P:Pl)(w:BA):
  Bn Ax 133 #[P.val] w λe B=>e=A6 (GL P)/\w.grownBy B AA:=by
 obtain⟨g,n,h,i,l,m,o,C⟩:=P;unfold Pl.val GL;obtain⟨b,c⟩:∃b:Array Bd,#[E J n,E J 96,E J 512,E J g,E J 1,E J 16384,E J h,E J 3,E J 64,E J i,E J 1,E J 32,E J l,E J 4,E J 256,E J m,E J 0,E J 8,E J o,E J 8,E J 256]=b:=⟨_,rfl⟩
 have q:(Ax.info? 242).map (·.size)=Bs b.size:=by rw[<-c];kernel_rfl
 have r:b.all (·.oneCell')=true:=by rw[<-c];simp[Value.oneCell']
 have s:Kr.size=b.size:=by rw[<-c];rfl
 rw[c];obtain⟨a,d⟩:=Af (w.alloc (A5 #[E J g,E J n,E J h,E J i,E J l,E J m,E J o,E Bx (U C)] 37))
 have t:a.heap.size=w.heap.size+1:=by rw[<-d];simp
 have f:(a.alloc (A5 Kr 242)).heap[a.heap.size]?=Bs (A5 Kr 242 (0,0)):=World.alloc_heap_new _ _;have u:((a.alloc (A5 Kr 242)).setRow a.heap.size b).heap[a.heap.size]?=Bs (A5 b 242 (0,0)):=setRow_heap _ _ _ _ _ _ f
 have x:w.grownBy ((a.alloc (A5 Kr 242)).setRow a.heap.size b) AA:=by
  have D:w.grownBy (a.alloc (A5 Kr 242)) AA:=Ab (by rw[<-d];exact O _ _ AA) (O _ _ AA);exact Ac.u D (S:=λj=>j=a.heap.size) ⟨rfl,rfl,rfl,Δ,λk _ F=>setRow_other _ _ _ _ F⟩ (λj e=>Ω)
 have y:=zh q;have G:=zh r;have H:=zh s;have I:=zh c;have z:=zh d;have A:=zh t;have K:=zh f;have L:=zh u;have M:=zh x;clear q r s c d t f u x
 go_enter Tryz.func133,Tryz.ntmps133
 go_wp2_with (refine wpList_store_row rfl 242 (.tmp 2) (.tmp 24) rfl a.heap.size b (by rw[A.o];rfl) (by rw[<-I.o];rfl) _ _ (by rw[z.o];exact K.o) y.o H.o G.o ?_);rw[z.o];go_wp2_with fail;refine bodyPost_ret (v:=A7 b) (results_cell_row (p:=2) (ty:=242) rfl _ _ a.heap.size _ b _ _ (by rw[A.o];rfl) L.o Tryz.underlying242 rfl y.o) rfl ⟨rfl,M.o⟩
theorem Wu(P:Pl)(h:P.aY)(w:BA):
  Bn Ax 76 #[P.val] w λe I=>e=A6 (.bool true)/\w.grownBy I AA:=by
 have b:∀W,(A3 242 (GL P) (E J 0)).run Ax W=.ok (A7 #[E J P.n,E J 96,E J 512]) W:=λW=>Φ
 have c:∀W,(A3 242 (GL P) (E J 1)).run Ax W=.ok (A7 #[E J P.ss,E J 1,E J 16384]) W:=λW=>Φ
 have d:∀W,(A3 242 (GL P) (E J 2)).run Ax W=.ok (A7 #[E J P.rg,E J 3,E J 64]) W:=λW=>Φ
 have f:∀W,(A3 242 (GL P) (E J 3)).run Ax W=.ok (A7 #[E J P.rs,E J 1,E J 32]) W:=λW=>Φ
 have g:∀W,(A3 242 (GL P) (E J 4)).run Ax W=.ok (A7 #[E J P.lg,E J 4,E J 256]) W:=λW=>Φ
 have j:∀W,(A3 242 (GL P) (E J 5)).run Ax W=.ok (A7 #[E J P.dp,E J 0,E J 8]) W:=λW=>Φ
 have l:∀W,(A3 242 (GL P) (E J 6)).run Ax W=.ok (A7 #[E J P.a7,E J 8,E J 256]) W:=λW=>Φ
 have C:=zh (λW=>Ym P W);have K:=zh h;have m:A2 (((P.n:Nat):Int)<96)=A4:=jH (Ψ h.n0);have n:A2 (((P.n:Nat):Int)>512)=A4:=jH (Ψ h.n1);have o:A2 (((P.ss:Nat):Int)<1)=A4:=jH (Ψ h.iM);have p:A2 (((P.ss:Nat):Int)>16384)=A4:=jH (Ψ h.dE);have q:A2 (((P.rg:Nat):Int)<3)=A4:=jH (Ψ h.fP);have s:A2 (((P.rg:Nat):Int)>64)=A4:=jH (Ψ h.fq);have t:A2 (((P.rs:Nat):Int)<1)=A4:=jH (Ψ h.i0);have u:A2 (((P.rs:Nat):Int)>32)=A4:=jH (Ψ h.cQ);have v:A2 (((P.lg:Nat):Int)<4)=A4:=jH (Ψ h.fM);have x:A2 (((P.lg:Nat):Int)>256)=A4:=jH (Ψ h.gg);have y:A2 (((P.dp:Nat):Int)<0)=A4:=jH (Ψ h.e2);have z:A2 (((P.dp:Nat):Int)>8)=A4:=jH (Ψ h.e2);have A:A2 (((P.a7:Nat):Int)<8)=A4:=jH (Ψ h.iA);have B:A2 (((P.a7:Nat):Int)>256)=A4:=jH (Ψ h.hp);generalize D:GL P=L at*;clear h;have M:=zh D;clear D;have N:Hd (P.val=P.val):=zh rfl;unfold Pl.val
 go_enter Tryz.func76,Tryz.ntmps76
 go_wp2_with fail;refine wp_scope_straight ?_;go_wp2_with fail;refine wp_label ?_;go_wp2_with fail;refine(C.o _).mono ?_;rintro e Q ⟨rfl,F⟩;have G:=zh (Ab (O w _ AA) F);clear F K C;go_wp2_with fail
 go_loopw [3,8] (λr i wr=>∃k:Nat,k<=7/\i=E J k/\r=.bool true/\w.grownBy wr AA) (λ_ i _=>7 - (Bk i).toNat)
 case atStart=>exact⟨0,Ω,rfl,rfl,G.o⟩
 case round=>
  obtain⟨k,R,rfl,rfl,H⟩:=hrel;have a:=zh H;clear H G
  rcases(show k=0\/k=1\/k=2\/k=3\/k=4\/k=5\/k=6\/k=7 by omega)with rfl|rfl|rfl|rfl|rfl|rfl|rfl|rfl
  ·clear c o p d q s f t u g v x j y z l A B;go_wp2
   go_roundw
   case rel=>exact⟨1,Ω,rfl,rfl,Ab a.o (O _ _ AA)⟩
   case measure=>simp[Bk]
  ·clear b m n d q s f t u g v x j y z l A B;go_wp2
   go_roundw
   case rel=>exact⟨2,Ω,rfl,rfl,Ab a.o (O _ _ AA)⟩
   case measure=>simp[Bk]
  ·clear b m n c o p f t u g v x j y z l A B;go_wp2
   go_roundw
   case rel=>exact⟨3,Ω,rfl,rfl,Ab a.o (O _ _ AA)⟩
   case measure=>simp[Bk]
  ·clear b m n c o p d q s g v x j y z l A B;go_wp2
   go_roundw
   case rel=>exact⟨4,Ω,rfl,rfl,Ab a.o (O _ _ AA)⟩
   case measure=>simp[Bk]
  ·clear b m n c o p d q s f t u j y z l A B;go_wp2
   go_roundw
   case rel=>exact⟨5,Ω,rfl,rfl,Ab a.o (O _ _ AA)⟩
   case measure=>simp[Bk]
  ·clear b m n c o p d q s f t u g v x l A B;go_wp2
   go_roundw
   case rel=>exact⟨6,Ω,rfl,rfl,Ab a.o (O _ _ AA)⟩
   case measure=>simp[Bk]
  ·clear b m n c o p d q s f t u g v x j y z;go_wp2
   go_roundw
   case rel=>exact⟨7,Ω,rfl,rfl,Ab a.o (O _ _ AA)⟩
   case measure=>simp[Bk]
  ·clear b c d f g j l;go_wp2;simp only[Exit.noGoto];go_ret;exact⟨rfl,a.o⟩
theorem BQ{P:Program}{c:Func}{p t:Tmp}{ty:TypeId}(h:c.results=#[.cell p ty,.tmp t])(a:Array Bd)(w:BA)(g:Nat)(e:TypeId)(b:Array Bd)(f:Nat×Nat)(d:TypeDesc)
  (i:a.getD p undef=.pointer (Bs ⟨g,0,AA⟩))(j:w.heap[g]?=Bs (A5 b e f))
  (k:P.underlying ty=Bs d)(l:(match d with| .struct _| .array _ _=>true|_=>A4)=true)(m:(P.info? ty).map (·.size)=Bs b.size):
  (results c a).run P w=.ok (.tuple #[A7 b,a.getD t undef]) w:=by
 have n:a[p]?.getD undef=.pointer (Bs ⟨g,0,AA⟩):=by simpa using i
 simp[results,h,n,asAddr,run_loadVar_row w g e ty b f d j k l m]
theorem Dm{b:Nat}(a:h+b=f)(c:f<=1000000):Y ((h:Int)+(b:Int))=(f:Int):=by
 rw[V _ Ω];omega
theorem jl(a:h+Z=f)(b:f<=1000000):Y ((f:Int) - (h:Int))=(Z:Int):=by
 rw[V _ Ω];omega
theorem Ju{a:Nat}(b:a*h=f)(c:f<=1000000):Y ((a:Int)*(h:Int))=(f:Int):=by
 rw[show(a:Int)*(h:Int)=(f:Int) by rw[<-b];push_cast;rfl,V _ Ω]
theorem Ed(a:f<=1000000):Y (f:Int)=(f:Int):=V _ Ω
theorem PL(a:f/h=Z):((f:Int)).tdiv (h:Int)=(Z:Int):=by
 rw[mp Ω, <-a];rfl
theorem UV(b:f<=8)(a:2^f=h)(c:h<=256):Y (2^min f 64)=(h:Int):=by
 rw[nf Ω,show((2:Int)^f)=(h:Int) by rw[<-a];push_cast;rfl];exact Ed Ω
theorem Pv(a:h<=256)(k:6<=f):(h+f - 1)/f<=256:=by
 have:(h+f - 1)/f<=(h+f - 1)/6:=Nat.div_le_div_left k Ω
 by_cases b:f<=256
 ·omega
 ·have c:(h+f - 1)/f<2:=nK Ω;omega
theorem b3(h:f<=100000):3*f<=1000000:=Ω
theorem iY(a:h<=256)(k:6<=f)(b:f<=41):Y (Y (1+Y ((Y (Y ((h:Int)+(f:Int)) - 1)).tdiv (f:Int)))+(h:Int))=((1+(h+f - 1)/f+h:Nat):Int):=by
 have c:=Pv a k;rw[V ((h:Int)+(f:Int)) Ω,V ((h:Int)+(f:Int) - 1) Ω,show((h:Int)+(f:Int) - 1)=((h+f - 1:Nat):Int) by omega,PL rfl];generalize(h+f - 1)/f=q at*;rw[V (q:Int) Ω,V (1+(q:Int)) Ω,V _ Ω];omega
theorem Pl.aY.eh{P:Pl}(h:P.aY):P.aP<=P.ss:=jM (nR _ _) h.d4
theorem eh(C n D y s q H:Nat)(I:BitVec 64)(m a g z i l M t sq u t3 t4:Nat)(w:BA)
  (aU:Hd (∀W,Bn Ax 76 #[A7 #[E J C,E J n,E J D,E J y,E J s,E J q,E J H,E Bx (U I)]] W λe f=>e=A6 (.bool true)/\W.grownBy f AA))
  (aV:Hd (∀W,Bn Ax 77 #[E J n] W λe f=>e=A6 (E J m)/\W=f))
  (HB:Hd (m<=493/\77<=m/\s<=256/\D<=64/\y<=32/\C<=16384/\q<=8/\6<=a/\a<=41/\M<=256/\g<=24))
  (aW:Hd (Y ((m:Int)/12)=(a:Int)))(aX:Hd (Y ((Y ((m:Int) - 10)).tdiv 20)=(g:Int)))
  (HZ:Hd (Y ((D:Int)*(y:Int))=(z:Int)))(ax:Hd (Y (Y (2+(s:Int))+(z:Int))=(i:Int)))
  (aZ:Hd (Y ((C:Int) - (i:Int))=(l:Int)))(a0:Hd (Y ((y:Int)*(m:Int))=(u:Int)))
  (HM:Hd (Y (2^min q 64)=(M:Int)))
  (HT:Hd (Y (Y (1+Y ((Y (Y ((M:Int)+(a:Int)) - 1)).tdiv (a:Int)))+(M:Int))=(t:Int)))
  (a3:Hd (Y ((a:Int)*(a:Int))=(sq:Int)))(a4:Hd (A2 ((sq:Int)<(M:Int))=A4))
  (a5:Hd (Y (3*(t:Int))=(t3:Int)))(a6:Hd (Y ((t3:Int)+4)=(t4:Int)))(a7:Hd (A2 ((l:Int)<(t4:Int))=A4)):
  Bn Ax 32 #[A7 #[E J C,E J n,E J D,E J y,E J s,E J q,E J H,E Bx (U I)]] w λe f=>
   e=A6 (.tuple #[A7 #[E J 2,E J (Y (2+(s:Int))),E J i,E J l,E J a,E J g,E J t,E J u],E J 0])/\w.grownBy f AA:=by
 obtain⟨v,am⟩:∃r:Int,Y (2+(s:Int))=r:=⟨_,rfl⟩;have a8:=zh am;rw[am]at ax⊢;have bA:((12:Int)==0)=A4:=rfl;have bB:(q:Int).toNat=q:=jS q;clear am
 go_enter Tryz.func32,Tryz.ntmps32
 go_wp2_with fail;refine(aU.o _).mono ?_;rintro e c ⟨rfl,g2⟩;obtain⟨V,K⟩:=Af ((w.alloc (A5 #[E J C,E J n,E J D,E J y,E J s,E J q,E J H,E Bx (U I)] 37)).alloc (A5 #[E J 0,E J 0,E J 0,E J 0,E J 0,E J 0,E J 0,E J 0] 85))
 have az:Aa V w.heap.size 37 [E J C,E J n,E J D,E J y,E J s,E J q,E J H,E Bx (U I)]:=by rw[<-K];exact(Aa.new _ _ _).alloc _
 have aA:Aa V (w.heap.size+1) 85 [E J 0,E J 0,E J 0,E J 0,E J 0,E J 0,E J 0,E J 0]:=by
  rw[<-K];have h9:=Aa.new (w.alloc (A5 #[E J C,E J n,E J D,E J y,E J s,E J q,E J H,E Bx (U I)] 37)) 85 [E J 0,E J 0,E J 0,E J 0,E J 0,E J 0,E J 0,E J 0];rw[World.size_alloc]at h9;exact h9
 have aC:w.grownBy V AA:=by rw[<-K];exact Ab (O _ _ AA) (O _ _ AA)
 have X:V.grownBy c AA:=by rw[<-K];exact g2
 have x:=zh (az.u X Δ);have HL:=zh (aA.u X Δ);have HG:=zh (Ab aC X);clear K az aA aC X g2;have p0:=x.o.m 0;have p1:=x.o.m 1;have p2:=x.o.m 2;have p3:=x.o.m 3;have p4:=x.o.m 4;have p5:=x.o.m 5;go_wp2_with fail;refine(aV.o _).mono ?_;rintro e f ⟨rfl,rfl⟩;have aE:=aW.o;have bf:=aX.o;have bC:=a8.o
 go_upto_region 5 with fail
 obtain⟨Z,aa⟩:=Af (c.alloc (A5 #[E J 2,E J v,E J 0,E J 0,E J a,E J g,E J 0,E J 0] 85));rw[aE,aa]
 have g3:c.grownBy Z AA:=by rw[<-aa];exact O _ _ AA
 have L:Aa Z c.heap.size 85 [E J 2,E J v,E J 0,E J 0,E J a,E J g,E J 0,E J 0]:=by rw[<-aa];exact Aa.new _ _ _
 have ac:=zh (x.o.u g3 Δ);have aF:=zh (HL.o.u g3 Δ);have A:Hd (w.heap.size<c.heap.size):=zh x.o.lt;have ad:Hd (w.heap.size+1<c.heap.size):=zh HL.o.lt;have aG:=zh (Ab HG.o g3);clear g3 x HL HG p0 p1 p2 p3 p4 p5 aa aE bf;have o:=zh L;have q2:=ac.o.m 2;have q3:=ac.o.m 3;have x1:=L.m 1;have F:=L.m 2;have G:=L.v 2;have hz:=HZ.o;have bi:=ax.o
 go_upto_region 6 with fail
 obtain⟨N,ae⟩:∃f,Z.setCell ⟨c.heap.size,2,AA⟩ (E J i)=f:=⟨_,rfl⟩;rw[ae]
 have P:Aa N c.heap.size 85 [E J 2,E J v,E J i,E J 0,E J a,E J g,E J 0,E J 0]:=by rw[<-ae];exact o.o.setCell 2 (E J i)
 have b:Ac (λk=>k=c.heap.size) Z N:=by rw[<-ae];exact Ac.of (Ao _ _ _) (λk e=>by cases e;rfl)
 have ap:=zh (b.y ac.o (mq A.o));have aI:=zh (b.y aF.o (mq ad.o));have aJ:Hd (w.grownBy N AA):=zh (Ac.u aG.o b (λj e=>e▸nh A.o));clear o ac aF aG ae b L G F q2 q3 x1;clear hz bi;have o:=zh P;have q0:=ap.o.m 0;have x2:=P.m 2;have F:=P.m 3;have G:=P.v 3;have bk:=aZ.o
 go_upto_region 7 with fail
 obtain⟨Q,af⟩:∃f,N.setCell ⟨c.heap.size,3,AA⟩ (E J l)=f:=⟨_,rfl⟩;rw[af]
 have ag:Aa Q c.heap.size 85 [E J 2,E J v,E J i,E J l,E J a,E J g,E J 0,E J 0]:=by rw[<-af];exact o.o.setCell 3 (E J l)
 have b:Ac (λk=>k=c.heap.size) N Q:=by rw[<-af];exact Ac.of (Ao _ _ _) (λk e=>by cases e;rfl)
 have aq:=zh (b.y ap.o (mq A.o));have aL:=zh (b.y aI.o (mq ad.o));have aM:Hd (w.grownBy Q AA):=zh (Ac.u aJ.o b (λj e=>e▸nh A.o));clear o ap aI aJ af b P G F q0 x2;clear bk;have o:=zh ag;have q3:=aq.o.m 3;have F:=ag.m 7;have G:=ag.v 7;have bl:=a0.o
 go_upto_region 8 with fail
 obtain⟨R,ah⟩:∃f,Q.setCell ⟨c.heap.size,7,AA⟩ (E J u)=f:=⟨_,rfl⟩;rw[ah]
 have S:Aa R c.heap.size 85 [E J 2,E J v,E J i,E J l,E J a,E J g,E J 0,E J u]:=by rw[<-ah];exact o.o.setCell 7 (E J u)
 have b:Ac (λk=>k=c.heap.size) Q R:=by rw[<-ah];exact Ac.of (Ao _ _ _) (λk e=>by cases e;rfl)
 have ar:=zh (b.y aq.o (mq A.o));have aN:=zh (b.y aL.o (mq ad.o));have aO:Hd (w.grownBy R AA):=zh (Ac.u aM.o b (λj e=>e▸nh A.o));clear o aq aL aM ah b ag G F q3;clear bl;have o:=zh S;have x4:=S.m 4;have F:=S.m 6;have G:=S.v 6;have q5:=ar.o.m 5;have hm:=HM.o;have aR:=HT.o
 have bn:¬(a=0):=by have:=HB.o;omega
 have bo:¬((a:Int)=0):=by have:=HB.o;omega
 go_upto_region 9 with fail
 rw[hm];clear hm
 go_upto_region 10 with fail
 rw[aR];obtain⟨T,ai⟩:∃f,R.setCell ⟨c.heap.size,6,AA⟩ (E J t)=f:=⟨_,rfl⟩;rw[ai]
 have B:Aa T c.heap.size 85 [E J 2,E J v,E J i,E J l,E J a,E J g,E J t,E J u]:=by rw[<-ai];exact o.o.setCell 6 (E J t)
 have b:Ac (λk=>k=c.heap.size) R T:=by rw[<-ai];exact Ac.of (Ao _ _ _) (λk e=>by cases e;rfl)
 have bD:=zh (b.y ar.o (mq A.o));have bp:=zh (b.y aN.o (mq ad.o));have bq:Hd (w.grownBy T AA):=zh (Ac.u aO.o b (λj e=>e▸nh A.o));clear o ar aN aO ai b S G F x4;have x0:=B.m 0;have x1:=B.m 1;have x2:=B.m 2;have x3:=B.m 3;have x4:=B.m 4;have x5:=B.m 5;have x6:=B.m 6;have x7:=B.m 7;clear aR bn q5;have br:=a3.o;have aS:=a4.o;have bs:A2 (sq<M)=A4:=jH (λh=>oo aS (by exact_mod_cast h));have bt:=a5.o;have bu:=a6.o;have aT:=a7.o;have bv:A2 (l<t4)=A4:=jH (λh=>oo aT (by exact_mod_cast h))
 go_upto_region 12 with fail
 clear br aS bt bu aT bo bs bv;have d:=bp.o;have bJ:=d.v 0;have bK:=d.v 1;have bL:=d.v 2;have bM:=d.v 3;have bN:=d.v 4;have bO:=d.v 5;have bP:=d.v 6;have bQ:=d.v 7;have l0:=d.m 0;have l1:=d.m 1;have l2:=d.m 2;have l3:=d.m 3;have l4:=d.m 4;have l5:=d.m 5;have l6:=d.m 6;have l7:=d.m 7;go_wp2_with fail;obtain⟨w8,aj⟩:=Af (((((((((T.setCell ⟨w.heap.size+1,0,AA⟩ (E J 2)).setCell ⟨w.heap.size+1,1,AA⟩ (E J v)).setCell ⟨w.heap.size+1,2,AA⟩ (E J i)).setCell ⟨w.heap.size+1,3,AA⟩ (E J l)).setCell ⟨w.heap.size+1,4,AA⟩ (E J a)).setCell ⟨w.heap.size+1,5,AA⟩ (E J g)).setCell ⟨w.heap.size+1,6,AA⟩ (E J t)).setCell ⟨w.heap.size+1,7,AA⟩ (E J u)))
 have bw:Aa w8 (w.heap.size+1) 85 [E J 2,E J v,E J i,E J l,E J a,E J g,E J t,E J u]:=by rw[<-aj];exact((((((((d.setCell 0 (E J 2)).setCell 1 (E J v)).setCell 2 (E J i)).setCell 3 (E J l)).setCell 4 (E J a)).setCell 5 (E J g)).setCell 6 (E J t)).setCell 7 (E J u))
 have bx:Ac (λk=>k=w.heap.size+1) T w8:=by rw[<-aj];exact(((((((Ac.of (Ao _ _ _) (λk e=>by cases e;rfl)).trans (Ac.of (Ao _ _ _) (λk e=>by cases e;rfl))).trans (Ac.of (Ao _ _ _) (λk e=>by cases e;rfl))).trans (Ac.of (Ao _ _ _) (λk e=>by cases e;rfl))).trans (Ac.of (Ao _ _ _) (λk e=>by cases e;rfl))).trans (Ac.of (Ao _ _ _) (λk e=>by cases e;rfl))).trans (Ac.of (Ao _ _ _) (λk e=>by cases e;rfl))).trans (Ac.of (Ao _ _ _) (λk e=>by cases e;rfl))
 have bz:w.grownBy w8 AA:=Ac.u bq.o bx (λj e=>e▸j9 _);rw[aj];clear aj;exact bodyPost_ret (BQ (p:=2) (ty:=85) rfl _ _ (w.heap.size+1) _ _ _ _ rfl bw Tryz.underlying85 rfl rfl) rfl ⟨rfl,bz⟩
theorem I9(P:Pl)(h:P.aY)(w:BA):
  Bn Ax 32 #[P.val] w λe A=>e=A6 (.tuple #[P.hm,E J 0])/\w.grownBy A AA:=by
 have O:=h.n0;have Q:=h.n1;have R:=h.dE;have S:=h.gg;have T:=h.fJ;have i:=h.ik;have c:=h.f5;have B:=h.e2;have C:=h.gu;have U:=h.sq;have X:=h.eh;have D:=h.cQ;have Z:=h.fq;have aa:=h.d4;have ab:=zh (λW=>Wu P h W);have ac:=zh (λW=>Jb P.n O Q W);obtain⟨F,n,G,r,j,s,ad,ae⟩:=P;simp only[Pl.aP,Pl.cM,Pl.bv,Pl.bg,Pl.bz]at*;simp only[Pl.val,Pl.hm,Pl.dj,Pl.region,Pl.aP,Pl.a4,Pl.cM,Pl.bv,Pl.bg,Pl.bz,Pl.aA]at*;clear h;obtain⟨m,H⟩:∃m:Nat,n - 19=m:=⟨_,rfl⟩;obtain⟨z,t⟩:∃z:Nat,G*r=z:=⟨_,rfl⟩;obtain⟨M,k⟩:∃M:Nat,2^s=M:=⟨_,rfl⟩;obtain⟨d,u⟩:∃d:Nat,m/12=d:=⟨_,rfl⟩;obtain⟨v,x⟩:∃v:Nat,(n - 29)/20=v:=⟨_,rfl⟩;obtain⟨l,o⟩:∃l:Nat,d*d=l:=⟨_,rfl⟩;obtain⟨f,p⟩:∃f:Nat,(M+d - 1)/d=f:=⟨_,rfl⟩;obtain⟨q,y⟩:∃q:Nat,r*m=q:=⟨_,rfl⟩;have I:Y (2^min s 64)=(M:Int):=UV B k (by rw[<-k];exact i.2);simp only[H,t,k,u,x,o,p]at T i c C U X aa
 have am:f<=256:=by rw[<-p];exact Pv i.2 c.1
 have af:l<=1000000:=by rw[<-o];exact jM (ln c.2 c.2) Ξ
 have ag:q<=1000000:=by rw[<-y];exact jM (ln D (show m<=493 by omega)) Ξ
 have K:=zh t;have ah:=zh k;have ai:=zh o;have L:=zh p;have N:=zh y;have aj:=zh I;clear t k o p y I;have ak:(m:Int)=(n:Int) - 19:=Ω
 have h9:=eh F n G r j s ad ae m d v z (2+j+z) (F - (2+j+z)) M (1+f+M) l q (3*(1+f+M)) (3*(1+f+M)+4) w ab
  (by rw[ak];exact ac) (zh ⟨Ω,Ω,S,Z,D,R,B,c.1,c.2,i.2,C.2⟩)
  (zh (by rw[show((m:Int)/12)=((m/12:Nat):Int) by rfl,u];exact Ed Ω))
  (zh (by rw[V ((m:Int) - 10) Ω,show((m:Int) - 10)=((n - 29:Nat):Int) by omega,mp Ω,show(((n - 29:Nat):Int)/20)=(((n - 29)/20:Nat):Int) by rfl,x];exact Ed Ω))
  (zh (Ju K.o Ω))
  (zh (by rw[V (2+(j:Int)) Ω,V _ Ω];push_cast;rfl))
  (zh (jl Ω Ω))
  (zh (Ju N.o ag))
  aj
  (zh (by rw[iY i.2 c.1 c.2,L.o]))
  (zh (Ju ai.o af))
  (zh (jH Ω))
  (zh (Ju (a:=3) rfl Ω))
  (zh (Dm (b:=4) rfl Ω))
  (zh (jH Ω))
 refine h9.mono ?_;rintro e A ⟨rfl,g⟩;refine⟨?_,g⟩;simp only[H,K.o,ah.o,u,x,L.o,N.o];rw[V (2+(j:Int)) Ω];rfl
end
