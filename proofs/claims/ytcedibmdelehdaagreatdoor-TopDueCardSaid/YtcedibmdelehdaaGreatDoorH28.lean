/- Lemmas. -/
import Derived.Test.YtcedibmdelehdaaGreatDoorH23
import Derived.Test.YtcedibmdelehdaaGreatDoorH27
import Derived.Deep.Cut
import Derived.Scope
namespace Go.Proofs.YtcedibmdelehdaaGreatDoor
set_option maxRecDepth 100000
set_option maxHeartbeats 32000000
open Go.Value renaming int->E,slice->A3,agg->Bx,ownBlock->BE,tuple->BX,pointer->B0
open Go.IntKind renaming i64->J,wrap_u64->A4,u64->Bn
open Go.World renaming grownBy_alloc->O
open Go.IntWalk renaming wrap64_in->V
open Go.Proofs.Tryz renaming prog->Y
open Go.RowKit renaming wrap64->Z,intOf->BL
open Option renaming none->Ax,some->BD
open Decidable renaming decide->AA
open Bool renaming false->A2,true->BR
open Go.Ending renaming returned->Bd
open Go.Instr renaming index->Bk
open Go.Obj renaming cells->Bs
open Go renaming Value->BA,Calls->BB,World->BC
variable{h b c:Nat}{a:List Nat}
section
open Go.RowKit
attribute [local go_sem ↓] Go.wp_at_zero Go.wp_at_succ
theorem IU(n:Nat)(b:96<=n)(c:n<=512)(w:BC):BB Y 77 #[E J n] w λe a=>e=Bd (E J ((n:Int) - 19))/\w=a:=by
 have d:AA ((n:Int)≥96)=BR:=jT Ω;have f:AA ((n:Int)<=512)=BR:=jT Ω;have g:Z ((n:Int) - 19)=(n:Int) - 19:=V _ Ω
 go_enter Tryz.func77,Tryz.ntmps77
 go_wp2;go_ret;exact⟨rfl,rfl⟩
theorem Ro(n b d f m:Nat)(a:Option Addr)(c:Nat)(w:BC)(l:96<=n)(o:n<=512)(t:1<=b)(u:b<=4)(v:d<=2147483647)(x:f<=9223372036854775807)(y:m<=n - 19):
  BB Y 205 #[Bx #[E J b,E J d,E J f,A3 a m c],E J n] w λe p=>e=Bd (E J 0)/\w.grownBy p Ax:=by
 have z:AA ((n:Int)≥96)=BR:=jT Ω;have A:AA ((n:Int)<=512)=BR:=jT Ω;have B:AA ((b:Int)<1)=A2:=jV Ω;have C:AA ((b:Int)>4)=A2:=jV Ω;have D:AA ((d:Int)<0)=A2:=jV Ω;have F:AA ((d:Int)>2147483647)=A2:=jV Ω;have G:AA ((f:Int)<0)=A2:=jV Ω;have H:AA ((m:Int)>(n:Int) - 19)=A2:=jV Ω
 go_enter Tryz.func205,Tryz.ntmps205
 go_wp2;obtain⟨i,g⟩:=Ag (w.alloc (Bs #[E J b,E J d,E J f,A3 a m c] 174))
 have j:Aa i w.heap.size 174 [E J b,E J d,E J f,A3 a m c]:=by rw[<-g];exact Aa.new _ _ _
 have k:w.grownBy i Ax:=by rw[<-g];exact O _ _ Ax
 have I:=j.m 3;rw[g];have r:=zh k;clear g j k;have s:=zh (λq=>(IU n l o (i.drewN q)).mono (λ_ _ h=>(⟨h.1,h.2.symm⟩:_/\_)))
 go_quiet ((go_at_call 77;exact Calls.quiet_of_same (s.o _)))
 go_wp2;go_ret;exact⟨rfl,Ae r.o (AS _ _ Ax)⟩
def FY(n b c d:Nat)(a:List Nat):List Nat:=((((At b 1++At a.length 2)++At c 4)++At d 8)++a)++AJ (n - 19 - a.length)
def BO(n a b c:Nat)(d:List Nat):List Nat:=FY n a b c d++At (IB (FY n a b c d)).toNat 4
theorem RH{n kind place stamp:Nat}(b:96<=n)(c:a.length<=n - 19):(FY n kind place stamp a).length=n - 4:=by
 unfold FY;simp only[jU,AI,Ei];omega
theorem Mo{n kind place stamp:Nat}(b:96<=n)(c:a.length<=n - 19):(BO n kind place stamp a).length=n:=by
 unfold BO;rw[jU,RH b c,AI];omega
theorem QF{f:Nat}(g:∀x∈a,x<256):∀x∈BO h b c f a,x<256:=by
 intro x e;unfold BO FY at e;simp only[kY]at e
 rcases e with(((((d|d)|d)|d)|d)|d)|d
 ·exact Ek _ _ x d
 ·exact Ek _ _ x d
 ·exact Ek _ _ x d
 ·exact Ek _ _ x d
 ·exact g x d
 ·exact Qn _ x d
 ·exact Ek _ _ x d
theorem PW.e4{o w:BC}{v:BA}{ys:List Nat}{d:Int}(f:PW o w h v a d)(g:Option Addr)(i:Nat)(C:(a.length:Int)+ys.length<=d)(D:a.length+ys.length<=49000000)(x:Ai w 1 (A3 g ys.length i) ys.length (Ao ys))(y:ys≠[]->∀b,(A3 g ys.length i).ownBlock=BD b->b≠h):
  BB Y 125 #[B0 (BD ⟨h,0,Ax⟩),A3 g ys.length i] w λe m=>∃k,e=Bd (BX #[])/\PW o m h k (a++ys) d/\∀b t n,Aa w b t n->¬Dm h v b->Aa m b t n/\¬Dm h k b:=by
 refine(PJ h v a ys d A2 g i w f.wr Ω x y).mono ?_;rintro e m ⟨k,rfl,p,q,r⟩
 have z:Fm a d A2 ys=(a++ys,A2):=by
  unfold Fm;rw[j7];intro l
  rcases l with l|l
  ·cases l
  ·omega
 rw[z]at p;refine⟨k,rfl,⟨p,λj A=>?_,q.grown f.grown f.fo⟩,λb t n s u=>⟨q.u s u,λB=>?_⟩⟩
 ·rcases r j A with c|c
  ·exact f.fo j c
  ·exact j8 f.grown.size c
 ·rcases r b B with c|c
  ·exact u c
  ·have:=s.lt;omega
theorem Rn(n f g i:Nat)(d:List Nat)(a:Option Addr)(c:Nat)(w:BC)(s:96<=n)(X:n<=512)(k0:1<=f)(k1:f<=4)(p1:g<=2147483647)(hs:i<=9223372036854775807)(y:d.length<=n - 19)
  (z:Ai w 1 (A3 a d.length c) d.length (Ao d)):
  BB Y 206 #[E J n,Bx #[E J f,E J g,E J i,A3 a d.length c]] w λe A=>∃Z c',e=Bd (BX #[A3 Z n c',E J 0])/\
   A.ownsRow w.heap.size 5 1 (A3 Z n c') n (Ao (BO n f g i d))/\w.grownBy A Ax:=by
 have q:∀b,d≠[]->(A3 a d.length c).ownBlock=BD b->b<w.heap.size:=λb t l=>z.lt (by intro e;exact t (nT.1 e)) b l
 have aB:=zh q;have HR:=zh z
 have wk:Bn.wrap (f:Int)=f:=by rw[A4];omega
 have wl:Bn.wrap (d.length:Int)=d.length:=by rw[A4];omega
 have wp:Bn.wrap (g:Int)=g:=by rw[A4];omega
 have ws:Bn.wrap (i:Int)=i:=by rw[A4];omega
 clear q z
 go_enter Tryz.func206,Tryz.ntmps206
 go_wp2_with fail;refine(Ro n f g i d.length a c _ s X k0 k1 p1 hs y).mono ?_;rintro e u ⟨rfl,B⟩;have l:=(Aa.new w 174 [E J f,E J g,E J i,A3 a d.length c]).grown B Δ;have aZ:w.heap.size<u.heap.size:=l.lt;have C:=zh (Ae (O w (Bs #[E J f,E J g,E J i,A3 a d.length c] 174) Ax) B);have o:=zh l;clear l B;go_wp2_with fail;refine(II _ Ω _).mono ?_;rintro e w2 ⟨rfl,D,g2⟩;rw[ke (show(0:Int)<=n by omega)]at D
 have ac:PW u w2 u.heap.size (A3 Ax 0 0) [] n:=⟨D,λk hk=>by
  rcases hk with h|h
  ·omega
  ·simp[BE]at h,g2⟩
 have F:=zh ac;clear D ac g2;have b0:=((o.o.grown F.o.grown Δ).m 0);go_wp2_with fail;refine(F.o.a8 f 1 Ω Ξ Γ Δ).mono ?_;rintro e w3 ⟨v3,rfl,p3,_⟩;have G:=zh p3;clear p3 F b0;have H:=((o.o.grown G.o.grown Δ).m 3);go_wp2_with fail;refine(G.o.a8 d.length 2 Ω Ξ (by simp[AI];omega) (by simp[AI])).mono ?_;rintro e w4 ⟨v4,rfl,p4,_⟩;have I:=zh p4;clear p4 G H;have b1:=((o.o.grown I.o.grown Δ).m 1);go_wp2_with fail;refine(I.o.a8 g 4 Ω Ξ (by simp[AI];omega) (by simp[AI])).mono ?_;rintro e w5 ⟨v5,rfl,p5,_⟩;have L:=zh p5;clear p5 I b1;have b2:=((o.o.grown L.o.grown Δ).m 2);go_wp2_with fail;refine(L.o.a8 i 8 Ω Ξ (by simp[AI];omega) (by simp[AI])).mono ?_;rintro e w6 ⟨v6,rfl,p6,_⟩;have v:=zh p6;clear p6 L b2;have H:=((o.o.grown v.o.grown Δ).m 3);go_wp2_with fail;refine(v.o.e4 (ys:=d) a c (by simp[AI];omega) (by simp[AI];omega) (HR.o.grown (Ae C.o v.o.grown) (λb h=>by cases h)) (λt b l=>by have:=aB.o b t l;omega)).mono ?_;rintro e M ⟨v7,rfl,p7,_⟩;have P7:=zh p7;clear p7 v H;go_wp2_with fail;refine FQ (λW=>W.cell? ⟨w.heap.size,3,Ax⟩=BD (A3 a d.length c)) [([3,4,5],[0,1],2,BR),([],[6],7,A2),([],[],8,A2)] Φ Φ ?_;obtain⟨p,N⟩:=Ag M.drew
 have g8:M.grownBy p Ax:=by rw[<-N];exact AS M 1 Ax
 rw[N];have x:=zh (P7.o.bq g8);have P:=zh (o.o.grown x.o.grown Δ);clear N g8 P7;refine Jr (P.o.m 3) ?_
 iterate 3 ((apply AB rfl Θ;(· intro wS j;(try have j:=j rfl);(try dsimp only at j);go_simp;(try with_reducible rfl)));refine Ak ?_)
 refine Aj ?_
 iterate 2 ((apply AB rfl Θ;(· intro wS j;(try have j:=j rfl);(try dsimp only at j);(try subst j);go_simp;(try with_reducible rfl)));refine Ak ?_)
 refine Aj ?_;refine Al ?_;intro K m;refine(IU n s X p).mono ?_;rintro e A ⟨rfl,rfl⟩;dsimp only;refine m _ _ ⟨_,λ_ h=>h,λ_=>P.o.m 3,?_⟩;clear m K;refine Ak ?_;have al:=Oi p (n - 19 - d.length) Ω;rw[show((n - 19 - d.length:Nat):Int)=J.wrap ((n:Int) - 19 - (d.length:Int)) by rw[IntWalk.i64_in _ Ω];omega]at al;have P9:=zh (x.o.bq (O p (Bs (Ao (AJ (n - 19 - d.length))).toArray 5) Ax));have an:=zh (Ai.aj (Ry p (n - 19 - d.length) Ω))
 have Q:=P9.o.e4 (ys:=AJ (n - 19 - d.length)) (BD ⟨p.heap.size,0,Ax⟩) (n - 19 - d.length) (by simp[AI,Ei];omega) (by simp[AI,Ei];omega) (by rw[Ei];exact an.o) (λt b l=>by
  simp[BE]at l;subst l;have:=x.o.wr.lt u.heap.size (.inl rfl)
  omega)
 rw[Ei]at Q;have ao:=zh Q;clear Q;refine Dh ?_
 iterate 1 ((apply AB rfl Θ;(· intro wS j;(try have j:=j rfl);(try dsimp only at j);(try subst j);go_simp;(try with_reducible rfl)));refine Ak ?_)
 refine Aj ?_;refine Al ?_;intro K m;refine As m ?_;clear m K;refine Dh ?_;refine Aj ?_;refine Al ?_;intro K m;refine ao.o.mono ?_;rintro e a9 ⟨ba,rfl,R,_⟩;dsimp only
 have aI:([]++At f 1++At d.length 2++At g 4++At i 8++d++AJ (n - 19 - d.length))=FY n f g i d:=by rw[kv];rfl
 rw[aI]at R;have S:=zh R;refine m _ _ ⟨_,λ_ h=>h,λhf=>(by cases hf),?_⟩;clear m K R;refine Ak ?_;refine Fv (NoPanic.normal ?_);clear an P9 x P al ao;have ap:=zh (RH (n:=n) (kind:=f) (place:=g) (stamp:=i) s y);go_wp2_with fail;refine(Hv _ _ _ _ _ _ S.o.wr).mono ?_;rintro e aK ⟨aL,aM,rfl,aq,aN⟩;have ar:=zh (S.o.bq aN);go_wp2_with fail;refine(fO _ aL aM aK (Ai.aj aq)).mono ?_;rintro e bb ⟨rfl,aO⟩;have au:=zh (ar.o.bq aO);obtain⟨r,T⟩:=kT (TM (FY n f g i d)).1;have aP:=(TM (FY n f g i d)).2
 have bc:Bn.wrap (r:Int)=r:=by rw[A4];omega
 have av:(IB (FY n f g i d)).toNat=r:=by rw[T];rfl
 rw[T]at aP⊢;have aQ:=zh av;clear T av S ar aq;go_wp2_with fail;refine(au.o.a8 r 4 Ω Ξ (Ψ ap.o) (Ψ ap.o)).mono ?_;rintro e bd ⟨be,rfl,U,_⟩
 have q:FY n f g i d++At r 4=BO n f g i d:=by unfold BO;rw[aQ.o]
 rw[q]at U;have V:=zh U;clear U au q;go_wp2_with fail;refine(Hv _ _ _ _ _ _ V.o.wr).mono ?_;rintro e bf ⟨aR,aS,rfl,aw,aT⟩;have aU:=Mo (n:=n) (kind:=f) (place:=g) (stamp:=i) s y;rw[aU]at aw⊢;go_wp2
 go_ret2
 exact⟨aR,aS,rfl,BQ aw (Ψ ((Ae C.o V.o.grown).size)),Ae (Ae C.o V.o.grown) aT⟩
structure Pl where
 ss:Nat
 n:Nat
 rg:Nat
 rs:Nat
 lg:Nat
 dp:Nat
 a7:Nat
 aQ:BitVec 64
namespace Pl
def bi(P:Pl):Nat:=(P.n - 19)/12
def ba(P:Pl):Nat:=(P.n - 29)/20
def region(P:Pl):Nat:=2+P.lg
def aK(P:Pl):Nat:=2+P.lg+P.rg*P.rs
def a2(P:Pl):Nat:=P.ss - P.aK
def cK(P:Pl):Nat:=2^P.dp
def bv(P:Pl):Nat:=1+(P.cK+P.bi - 1)/P.bi+P.cK
def aI(P:Pl):Nat:=P.rs*(P.n - 19)
def val(P:Pl):BA:=Bx #[E J P.ss,E J P.n,E J P.rg,E J P.rs,E J P.lg,E J P.dp,E J P.a7,E Bn (U P.aQ)]
def cells(P:Pl):List BA:=[E J P.ss,E J P.n,E J P.rg,E J P.rs,E J P.lg,E J P.dp,E J P.a7,E Bn (U P.aQ)]
def c7(P:Pl):List BA:=[E J 2,E J P.region,E J P.aK,E J P.a2,E J P.bi,E J P.ba,E J P.bv,E J P.aI]
def hE(P:Pl):BA:=Bx P.c7.toArray
structure aU(P:Pl):Prop where
 n0:96<=P.n
 n1:P.n<=512
 jh:1<=P.ss
 d4:P.ss<=16384
 gS:3<=P.rg
 gg:P.rg<=64
 jg:1<=P.rs
 dq:P.rs<=32
 fR:4<=P.lg
 gk:P.lg<=256
 e5:P.dp<=8
 iP:8<=P.a7
 hF:P.a7<=256
 sq:P.cK<=P.bi*P.bi
 d2:P.aK+(3*P.bv+4)<=P.ss
theorem aU.fN{P:Pl}(h:P.aU):P.rg*P.rs<=2048:=j8 (mn h.gg h.dq) Ξ
theorem aU.iC{P:Pl}(h:P.aU):1<=P.cK/\P.cK<=256:=⟨nA,by unfold cK;rw[show(256:Nat)=2^8 from rfl];exact lL Ω h.e5⟩
theorem aU.f9{P:Pl}(h:P.aU):6<=P.bi/\P.bi<=41:=by
 have a:=h.n0;have b:=h.n1;unfold bi;omega
theorem aU.gC{P:Pl}(h:P.aU):3<=P.ba/\P.ba<=24:=by
 have a:=h.n0;have b:=h.n1;unfold ba;omega
end Pl
abbrev Ke:Array BA:=#[E J 0,E J 0,E J 0,E J 0,E J 0,E J 0,E J 0,E J 0,E J 0,E J 0,E J 0,E J 0,E J 0,E J 0,E J 0,E J 0,E J 0,E J 0,E J 0,E J 0,E J 0]
def Gx(P:Pl):BA:=Bx #[E J P.n,E J 96,E J 512,E J P.ss,E J 1,E J 16384,E J P.rg,E J 3,E J 64,E J P.rs,E J 1,E J 32,E J P.lg,E J 4,E J 256,E J P.dp,E J 0,E J 8,E J P.a7,E J 8,E J 256]
theorem Yb(P:Pl)(w:BC):
  BB Y 133 #[P.val] w λe B=>e=Bd (Gx P)/\w.grownBy B Ax:=by
 obtain⟨g,n,h,i,l,m,o,C⟩:=P;unfold Pl.val Gx;obtain⟨b,c⟩:∃b:Array BA,#[E J n,E J 96,E J 512,E J g,E J 1,E J 16384,E J h,E J 3,E J 64,E J i,E J 1,E J 32,E J l,E J 4,E J 256,E J m,E J 0,E J 8,E J o,E J 8,E J 256]=b:=⟨_,rfl⟩
 have q:(Y.info? 242).map (·.size)=BD b.size:=by rw[<-c];kernel_rfl
 have r:b.all (·.oneCell')=BR:=by rw[<-c];simp[Value.oneCell']
 have s:Ke.size=b.size:=by rw[<-c];rfl
 rw[c];obtain⟨a,d⟩:=Ag (w.alloc (Bs #[E J g,E J n,E J h,E J i,E J l,E J m,E J o,E Bn (U C)] 37))
 have t:a.heap.size=w.heap.size+1:=by rw[<-d];simp
 have f:(a.alloc (Bs Ke 242)).heap[a.heap.size]?=BD (Bs Ke 242 (0,0)):=World.alloc_heap_new _ _;have u:((a.alloc (Bs Ke 242)).setRow a.heap.size b).heap[a.heap.size]?=BD (Bs b 242 (0,0)):=setRow_heap _ _ _ _ _ _ f
 have x:w.grownBy ((a.alloc (Bs Ke 242)).setRow a.heap.size b) Ax:=by
  have D:w.grownBy (a.alloc (Bs Ke 242)) Ax:=Ae (by rw[<-d];exact O _ _ Ax) (O _ _ Ax);exact Ac.grown D (S:=λj=>j=a.heap.size) ⟨rfl,rfl,rfl,Δ,λk _ F=>setRow_other _ _ _ _ F⟩ (λj e=>Ω)
 have y:=zh q;have G:=zh r;have H:=zh s;have I:=zh c;have z:=zh d;have A:=zh t;have K:=zh f;have L:=zh u;have M:=zh x;clear q r s c d t f u x
 go_enter Tryz.func133,Tryz.ntmps133
 go_wp2_with (refine wpList_store_row rfl 242 (.tmp 2) (.tmp 24) rfl a.heap.size b (by rw[A.o];rfl) (by rw[<-I.o];rfl) _ _ (by rw[z.o];exact K.o) y.o H.o G.o ?_);rw[z.o];go_wp2_with fail;refine bodyPost_ret (v:=Bx b) (results_cell_row (p:=2) (ty:=242) rfl _ _ a.heap.size _ b _ _ (by rw[A.o];rfl) L.o Tryz.underlying242 rfl y.o) rfl ⟨rfl,M.o⟩
theorem Wq(P:Pl)(h:P.aU)(w:BC):
  BB Y 76 #[P.val] w λe I=>e=Bd (.bool BR)/\w.grownBy I Ax:=by
 have b:∀W,(Bk 242 (Gx P) (E J 0)).run Y W=.ok (Bx #[E J P.n,E J 96,E J 512]) W:=λW=>Φ
 have c:∀W,(Bk 242 (Gx P) (E J 1)).run Y W=.ok (Bx #[E J P.ss,E J 1,E J 16384]) W:=λW=>Φ
 have d:∀W,(Bk 242 (Gx P) (E J 2)).run Y W=.ok (Bx #[E J P.rg,E J 3,E J 64]) W:=λW=>Φ
 have f:∀W,(Bk 242 (Gx P) (E J 3)).run Y W=.ok (Bx #[E J P.rs,E J 1,E J 32]) W:=λW=>Φ
 have g:∀W,(Bk 242 (Gx P) (E J 4)).run Y W=.ok (Bx #[E J P.lg,E J 4,E J 256]) W:=λW=>Φ
 have j:∀W,(Bk 242 (Gx P) (E J 5)).run Y W=.ok (Bx #[E J P.dp,E J 0,E J 8]) W:=λW=>Φ
 have l:∀W,(Bk 242 (Gx P) (E J 6)).run Y W=.ok (Bx #[E J P.a7,E J 8,E J 256]) W:=λW=>Φ
 have C:=zh (λW=>Yb P W);have K:=zh h;have m:AA (((P.n:Nat):Int)<96)=A2:=jV (Ψ h.n0);have n:AA (((P.n:Nat):Int)>512)=A2:=jV (Ψ h.n1);have o:AA (((P.ss:Nat):Int)<1)=A2:=jV (Ψ h.jh);have p:AA (((P.ss:Nat):Int)>16384)=A2:=jV (Ψ h.d4);have q:AA (((P.rg:Nat):Int)<3)=A2:=jV (Ψ h.gS);have s:AA (((P.rg:Nat):Int)>64)=A2:=jV (Ψ h.gg);have t:AA (((P.rs:Nat):Int)<1)=A2:=jV (Ψ h.jg);have u:AA (((P.rs:Nat):Int)>32)=A2:=jV (Ψ h.dq);have v:AA (((P.lg:Nat):Int)<4)=A2:=jV (Ψ h.fR);have x:AA (((P.lg:Nat):Int)>256)=A2:=jV (Ψ h.gk);have y:AA (((P.dp:Nat):Int)<0)=A2:=jV (Ψ h.e5);have z:AA (((P.dp:Nat):Int)>8)=A2:=jV (Ψ h.e5);have A:AA (((P.a7:Nat):Int)<8)=A2:=jV (Ψ h.iP);have B:AA (((P.a7:Nat):Int)>256)=A2:=jV (Ψ h.hF);generalize D:Gx P=L at*;clear h;have M:=zh D;clear D;have N:Hd (P.val=P.val):=zh rfl;unfold Pl.val
 go_enter Tryz.func76,Tryz.ntmps76
 go_wp2_with fail;refine wp_scope_straight ?_;go_wp2_with fail;refine wp_label ?_;go_wp2_with fail;refine(C.o _).mono ?_;rintro e Q ⟨rfl,F⟩;have G:=zh (Ae (O w _ Ax) F);clear F K C;go_wp2_with fail
 go_loopw [3,8] (λr i wr=>∃k:Nat,k<=7/\i=E J k/\r=.bool BR/\w.grownBy wr Ax) (λ_ i _=>7 - (BL i).toNat)
 case atStart=>exact⟨0,Ω,rfl,rfl,G.o⟩
 case round=>
  obtain⟨k,R,rfl,rfl,H⟩:=hrel;have a:=zh H;clear H G
  rcases(show k=0\/k=1\/k=2\/k=3\/k=4\/k=5\/k=6\/k=7 by omega)with rfl|rfl|rfl|rfl|rfl|rfl|rfl|rfl
  ·clear c o p d q s f t u g v x j y z l A B;go_wp2
   go_roundw
   case rel=>exact⟨1,Ω,rfl,rfl,Ae a.o (O _ _ Ax)⟩
   case measure=>simp[BL]
  ·clear b m n d q s f t u g v x j y z l A B;go_wp2
   go_roundw
   case rel=>exact⟨2,Ω,rfl,rfl,Ae a.o (O _ _ Ax)⟩
   case measure=>simp[BL]
  ·clear b m n c o p f t u g v x j y z l A B;go_wp2
   go_roundw
   case rel=>exact⟨3,Ω,rfl,rfl,Ae a.o (O _ _ Ax)⟩
   case measure=>simp[BL]
  ·clear b m n c o p d q s g v x j y z l A B;go_wp2
   go_roundw
   case rel=>exact⟨4,Ω,rfl,rfl,Ae a.o (O _ _ Ax)⟩
   case measure=>simp[BL]
  ·clear b m n c o p d q s f t u j y z l A B;go_wp2
   go_roundw
   case rel=>exact⟨5,Ω,rfl,rfl,Ae a.o (O _ _ Ax)⟩
   case measure=>simp[BL]
  ·clear b m n c o p d q s f t u g v x l A B;go_wp2
   go_roundw
   case rel=>exact⟨6,Ω,rfl,rfl,Ae a.o (O _ _ Ax)⟩
   case measure=>simp[BL]
  ·clear b m n c o p d q s f t u g v x j y z;go_wp2
   go_roundw
   case rel=>exact⟨7,Ω,rfl,rfl,Ae a.o (O _ _ Ax)⟩
   case measure=>simp[BL]
  ·clear b c d f g j l;go_wp2;simp only[Exit.noGoto];go_ret;exact⟨rfl,a.o⟩
theorem DH{P:Program}{c:Func}{p t:Tmp}{ty:TypeId}(h:c.results=#[.cell p ty,.tmp t])(a:Array BA)(w:BC)(g:Nat)(e:TypeId)(b:Array BA)(f:Nat×Nat)(d:TypeDesc)
  (i:a.getD p undef=B0 (BD ⟨g,0,Ax⟩))(j:w.heap[g]?=BD (Bs b e f))
  (k:P.underlying ty=BD d)(l:(match d with| .struct _| .array _ _=>BR|_=>A2)=BR)(m:(P.info? ty).map (·.size)=BD b.size):
  (results c a).run P w=.ok (BX #[Bx b,a.getD t undef]) w:=by
 have n:a[p]?.getD undef=B0 (BD ⟨g,0,Ax⟩):=by simpa using i
 simp[results,h,n,asAddr,run_loadVar_row w g e ty b f d j k l m]
theorem De{a b:Nat}(c:a+b=h)(d:h<=1000000):Z ((a:Int)+(b:Int))=(h:Int):=by
 rw[V _ Ω];omega
theorem jr(a:b+c=h)(d:h<=1000000):Z ((h:Int) - (b:Int))=(c:Int):=by
 rw[V _ Ω];omega
theorem Nh{a:Nat}(c:a*b=h)(d:h<=1000000):Z ((a:Int)*(b:Int))=(h:Int):=by
 rw[show(a:Int)*(b:Int)=(h:Int) by rw[<-c];push_cast;rfl,V _ Ω]
theorem EX(a:h<=1000000):Z (h:Int)=(h:Int):=V _ Ω
theorem jc(a:h/b=c):((h:Int)).tdiv (b:Int)=(c:Int):=by
 rw[mV Ω, <-a];rfl
theorem UF(c:h<=8)(a:2^h=b)(d:b<=256):Z (2^min h 64)=(b:Int):=by
 rw[nJ Ω,show((2:Int)^h)=(b:Int) by rw[<-a];push_cast;rfl];exact EX Ω
theorem Ug(a:b<=256)(k:6<=h):(b+h - 1)/h<=256:=by
 have:(b+h - 1)/h<=(b+h - 1)/6:=Nat.div_le_div_left k Ω
 by_cases c:h<=256
 ·omega
 ·have d:(b+h - 1)/h<2:=oq Ω;omega
theorem b3(a:h<=100000):3*h<=1000000:=Ω
theorem i7(a:b<=256)(k:6<=h)(c:h<=41):Z (Z (1+Z ((Z (Z ((b:Int)+(h:Int)) - 1)).tdiv (h:Int)))+(b:Int))=((1+(b+h - 1)/h+b:Nat):Int):=by
 have d:=Ug a k;rw[V ((b:Int)+(h:Int)) Ω,V ((b:Int)+(h:Int) - 1) Ω,show((b:Int)+(h:Int) - 1)=((b+h - 1:Nat):Int) by omega,jc rfl];generalize(b+h - 1)/h=q at*;rw[V (q:Int) Ω,V (1+(q:Int)) Ω,V _ Ω];omega
theorem Pl.aU.ec{P:Pl}(h:P.aU):P.aK<=P.ss:=j8 (nW _ _) h.d2
theorem ee(C n D y s q H:Nat)(I:BitVec 64)(m a g z i l M t sq u t3 t4:Nat)(w:BC)
  (aV:Hd (∀W,BB Y 76 #[Bx #[E J C,E J n,E J D,E J y,E J s,E J q,E J H,E Bn (U I)]] W λe f=>e=Bd (.bool BR)/\W.grownBy f Ax))
  (aW:Hd (∀W,BB Y 77 #[E J n] W λe f=>e=Bd (E J m)/\W=f))
  (HB:Hd (m<=493/\77<=m/\s<=256/\D<=64/\y<=32/\C<=16384/\q<=8/\6<=a/\a<=41/\M<=256/\g<=24))
  (aX:Hd (Z ((m:Int)/12)=(a:Int)))(aY:Hd (Z ((Z ((m:Int) - 10)).tdiv 20)=(g:Int)))
  (HZ:Hd (Z ((D:Int)*(y:Int))=(z:Int)))(ay:Hd (Z (Z (2+(s:Int))+(z:Int))=(i:Int)))
  (a0:Hd (Z ((C:Int) - (i:Int))=(l:Int)))(a1:Hd (Z ((y:Int)*(m:Int))=(u:Int)))
  (HM:Hd (Z (2^min q 64)=(M:Int)))
  (HT:Hd (Z (Z (1+Z ((Z (Z ((M:Int)+(a:Int)) - 1)).tdiv (a:Int)))+(M:Int))=(t:Int)))
  (a4:Hd (Z ((a:Int)*(a:Int))=(sq:Int)))(a5:Hd (AA ((sq:Int)<(M:Int))=A2))
  (a6:Hd (Z (3*(t:Int))=(t3:Int)))(a7:Hd (Z ((t3:Int)+4)=(t4:Int)))(a8:Hd (AA ((l:Int)<(t4:Int))=A2)):
  BB Y 32 #[Bx #[E J C,E J n,E J D,E J y,E J s,E J q,E J H,E Bn (U I)]] w λe f=>
   e=Bd (BX #[Bx #[E J 2,E J (Z (2+(s:Int))),E J i,E J l,E J a,E J g,E J t,E J u],E J 0])/\w.grownBy f Ax:=by
 obtain⟨v,an⟩:∃r:Int,Z (2+(s:Int))=r:=⟨_,rfl⟩;have a9:=zh an;rw[an]at ay⊢;have bB:((12:Int)==0)=A2:=rfl;have bC:(q:Int).toNat=q:=km q;clear an
 go_enter Tryz.func32,Tryz.ntmps32
 go_wp2_with fail;refine(aV.o _).mono ?_;rintro e c ⟨rfl,g2⟩;obtain⟨V,K⟩:=Ag ((w.alloc (Bs #[E J C,E J n,E J D,E J y,E J s,E J q,E J H,E Bn (U I)] 37)).alloc (Bs #[E J 0,E J 0,E J 0,E J 0,E J 0,E J 0,E J 0,E J 0] 85))
 have aA:Aa V w.heap.size 37 [E J C,E J n,E J D,E J y,E J s,E J q,E J H,E Bn (U I)]:=by rw[<-K];exact(Aa.new _ _ _).alloc _
 have aB:Aa V (w.heap.size+1) 85 [E J 0,E J 0,E J 0,E J 0,E J 0,E J 0,E J 0,E J 0]:=by
  rw[<-K];have h9:=Aa.new (w.alloc (Bs #[E J C,E J n,E J D,E J y,E J s,E J q,E J H,E Bn (U I)] 37)) 85 [E J 0,E J 0,E J 0,E J 0,E J 0,E J 0,E J 0,E J 0];rw[World.size_alloc]at h9;exact h9
 have aD:w.grownBy V Ax:=by rw[<-K];exact Ae (O _ _ Ax) (O _ _ Ax)
 have X:V.grownBy c Ax:=by rw[<-K];exact g2
 have x:=zh (aA.grown X Δ);have HL:=zh (aB.grown X Δ);have HG:=zh (Ae aD X);clear K aA aB aD X g2;have p0:=x.o.m 0;have p1:=x.o.m 1;have p2:=x.o.m 2;have p3:=x.o.m 3;have p4:=x.o.m 4;have p5:=x.o.m 5;go_wp2_with fail;refine(aW.o _).mono ?_;rintro e f ⟨rfl,rfl⟩;have aF:=aX.o;have bg:=aY.o;have bD:=a9.o
 go_upto_region 5 with fail
 obtain⟨w3,ab⟩:=Ag (c.alloc (Bs #[E J 2,E J v,E J 0,E J 0,E J a,E J g,E J 0,E J 0] 85));rw[aF,ab]
 have g3:c.grownBy w3 Ax:=by rw[<-ab];exact O _ _ Ax
 have L:Aa w3 c.heap.size 85 [E J 2,E J v,E J 0,E J 0,E J a,E J g,E J 0,E J 0]:=by rw[<-ab];exact Aa.new _ _ _
 have ad:=zh (x.o.grown g3 Δ);have aG:=zh (HL.o.grown g3 Δ);have A:Hd (w.heap.size<c.heap.size):=zh x.o.lt;have ae:Hd (w.heap.size+1<c.heap.size):=zh HL.o.lt;have aH:=zh (Ae HG.o g3);clear g3 x HL HG p0 p1 p2 p3 p4 p5 ab aF bg;have o:=zh L;have q2:=ad.o.m 2;have q3:=ad.o.m 3;have x1:=L.m 1;have F:=L.m 2;have G:=L.v 2;have hz:=HZ.o;have bj:=ay.o
 go_upto_region 6 with fail
 obtain⟨N,af⟩:∃f,w3.setCell ⟨c.heap.size,2,Ax⟩ (E J i)=f:=⟨_,rfl⟩;rw[af]
 have P:Aa N c.heap.size 85 [E J 2,E J v,E J i,E J 0,E J a,E J g,E J 0,E J 0]:=by rw[<-af];exact o.o.setCell 2 (E J i)
 have b:Ac (λk=>k=c.heap.size) w3 N:=by rw[<-af];exact Ac.of (An _ _ _) (λk e=>by cases e;rfl)
 have aq:=zh (b.u ad.o (nP A.o));have aJ:=zh (b.u aG.o (nP ae.o));have aK:Hd (w.grownBy N Ax):=zh (Ac.grown aH.o b (λj e=>e▸nQ A.o));clear o ad aG aH af b L G F q2 q3 x1;clear hz bj;have o:=zh P;have q0:=aq.o.m 0;have x2:=P.m 2;have F:=P.m 3;have G:=P.v 3;have bl:=a0.o
 go_upto_region 7 with fail
 obtain⟨Q,ag⟩:∃f,N.setCell ⟨c.heap.size,3,Ax⟩ (E J l)=f:=⟨_,rfl⟩;rw[ag]
 have ah:Aa Q c.heap.size 85 [E J 2,E J v,E J i,E J l,E J a,E J g,E J 0,E J 0]:=by rw[<-ag];exact o.o.setCell 3 (E J l)
 have b:Ac (λk=>k=c.heap.size) N Q:=by rw[<-ag];exact Ac.of (An _ _ _) (λk e=>by cases e;rfl)
 have ar:=zh (b.u aq.o (nP A.o));have aM:=zh (b.u aJ.o (nP ae.o));have aN:Hd (w.grownBy Q Ax):=zh (Ac.grown aK.o b (λj e=>e▸nQ A.o));clear o aq aJ aK ag b P G F q0 x2;clear bl;have o:=zh ah;have q3:=ar.o.m 3;have F:=ah.m 7;have G:=ah.v 7;have bm:=a1.o
 go_upto_region 8 with fail
 obtain⟨R,ai⟩:∃f,Q.setCell ⟨c.heap.size,7,Ax⟩ (E J u)=f:=⟨_,rfl⟩;rw[ai]
 have S:Aa R c.heap.size 85 [E J 2,E J v,E J i,E J l,E J a,E J g,E J 0,E J u]:=by rw[<-ai];exact o.o.setCell 7 (E J u)
 have b:Ac (λk=>k=c.heap.size) Q R:=by rw[<-ai];exact Ac.of (An _ _ _) (λk e=>by cases e;rfl)
 have au:=zh (b.u ar.o (nP A.o));have aO:=zh (b.u aM.o (nP ae.o));have aP:Hd (w.grownBy R Ax):=zh (Ac.grown aN.o b (λj e=>e▸nQ A.o));clear o ar aM aN ai b ah G F q3;clear bm;have o:=zh S;have x4:=S.m 4;have F:=S.m 6;have G:=S.v 6;have q5:=au.o.m 5;have hm:=HM.o;have aS:=HT.o
 have bo:¬(a=0):=by have:=HB.o;omega
 have bp:¬((a:Int)=0):=by have:=HB.o;omega
 go_upto_region 9 with fail
 rw[hm];clear hm
 go_upto_region 10 with fail
 rw[aS];obtain⟨T,aj⟩:∃f,R.setCell ⟨c.heap.size,6,Ax⟩ (E J t)=f:=⟨_,rfl⟩;rw[aj]
 have B:Aa T c.heap.size 85 [E J 2,E J v,E J i,E J l,E J a,E J g,E J t,E J u]:=by rw[<-aj];exact o.o.setCell 6 (E J t)
 have b:Ac (λk=>k=c.heap.size) R T:=by rw[<-aj];exact Ac.of (An _ _ _) (λk e=>by cases e;rfl)
 have bE:=zh (b.u au.o (nP A.o));have bq:=zh (b.u aO.o (nP ae.o));have br:Hd (w.grownBy T Ax):=zh (Ac.grown aP.o b (λj e=>e▸nQ A.o));clear o au aO aP aj b S G F x4;have x0:=B.m 0;have x1:=B.m 1;have x2:=B.m 2;have x3:=B.m 3;have x4:=B.m 4;have x5:=B.m 5;have x6:=B.m 6;have x7:=B.m 7;clear aS bo q5;have bs:=a4.o;have aT:=a5.o;have bt:AA (sq<M)=A2:=jV (λh=>ph aT (by exact_mod_cast h));have bu:=a6.o;have bv:=a7.o;have aU:=a8.o;have bw:AA (l<t4)=A2:=jV (λh=>ph aU (by exact_mod_cast h))
 go_upto_region 12 with fail
 clear bs aT bu bv aU bp bt bw;have d:=bq.o;have bK:=d.v 0;have bL:=d.v 1;have bM:=d.v 2;have bN:=d.v 3;have bO:=d.v 4;have bP:=d.v 5;have bQ:=d.v 6;have bR:=d.v 7;have l0:=d.m 0;have l1:=d.m 1;have l2:=d.m 2;have l3:=d.m 3;have l4:=d.m 4;have l5:=d.m 5;have l6:=d.m 6;have l7:=d.m 7;go_wp2_with fail;obtain⟨w8,ak⟩:=Ag (((((((((T.setCell ⟨w.heap.size+1,0,Ax⟩ (E J 2)).setCell ⟨w.heap.size+1,1,Ax⟩ (E J v)).setCell ⟨w.heap.size+1,2,Ax⟩ (E J i)).setCell ⟨w.heap.size+1,3,Ax⟩ (E J l)).setCell ⟨w.heap.size+1,4,Ax⟩ (E J a)).setCell ⟨w.heap.size+1,5,Ax⟩ (E J g)).setCell ⟨w.heap.size+1,6,Ax⟩ (E J t)).setCell ⟨w.heap.size+1,7,Ax⟩ (E J u)))
 have bx:Aa w8 (w.heap.size+1) 85 [E J 2,E J v,E J i,E J l,E J a,E J g,E J t,E J u]:=by rw[<-ak];exact((((((((d.setCell 0 (E J 2)).setCell 1 (E J v)).setCell 2 (E J i)).setCell 3 (E J l)).setCell 4 (E J a)).setCell 5 (E J g)).setCell 6 (E J t)).setCell 7 (E J u))
 have bz:Ac (λk=>k=w.heap.size+1) T w8:=by rw[<-ak];exact(((((((Ac.of (An _ _ _) (λk e=>by cases e;rfl)).trans (Ac.of (An _ _ _) (λk e=>by cases e;rfl))).trans (Ac.of (An _ _ _) (λk e=>by cases e;rfl))).trans (Ac.of (An _ _ _) (λk e=>by cases e;rfl))).trans (Ac.of (An _ _ _) (λk e=>by cases e;rfl))).trans (Ac.of (An _ _ _) (λk e=>by cases e;rfl))).trans (Ac.of (An _ _ _) (λk e=>by cases e;rfl))).trans (Ac.of (An _ _ _) (λk e=>by cases e;rfl))
 have bA:w.grownBy w8 Ax:=Ac.grown br.o bz (λj e=>e▸lC _);rw[ak];clear ak;exact bodyPost_ret (DH (p:=2) (ty:=85) rfl _ _ (w.heap.size+1) _ _ _ _ rfl bx Tryz.underlying85 rfl rfl) rfl ⟨rfl,bA⟩
theorem IS(P:Pl)(h:P.aU)(w:BC):
  BB Y 32 #[P.val] w λe A=>e=Bd (BX #[P.hE,E J 0])/\w.grownBy A Ax:=by
 have O:=h.n0;have Q:=h.n1;have R:=h.d4;have S:=h.gk;have T:=h.fN;have i:=h.iC;have c:=h.f9;have B:=h.e5;have C:=h.gC;have U:=h.sq;have X:=h.ec;have D:=h.dq;have aa:=h.gg;have ab:=h.d2;have ac:=zh (λW=>Wq P h W);have ad:=zh (λW=>IU P.n O Q W);obtain⟨F,n,G,r,j,s,ae,af⟩:=P;simp only[Pl.aK,Pl.cK,Pl.bi,Pl.ba,Pl.bv]at*;simp only[Pl.val,Pl.hE,Pl.c7,Pl.region,Pl.aK,Pl.a2,Pl.cK,Pl.bi,Pl.ba,Pl.bv,Pl.aI]at*;clear h;obtain⟨m,H⟩:∃m:Nat,n - 19=m:=⟨_,rfl⟩;obtain⟨z,t⟩:∃z:Nat,G*r=z:=⟨_,rfl⟩;obtain⟨M,k⟩:∃M:Nat,2^s=M:=⟨_,rfl⟩;obtain⟨d,u⟩:∃d:Nat,m/12=d:=⟨_,rfl⟩;obtain⟨v,x⟩:∃v:Nat,(n - 29)/20=v:=⟨_,rfl⟩;obtain⟨l,o⟩:∃l:Nat,d*d=l:=⟨_,rfl⟩;obtain⟨f,p⟩:∃f:Nat,(M+d - 1)/d=f:=⟨_,rfl⟩;obtain⟨q,y⟩:∃q:Nat,r*m=q:=⟨_,rfl⟩;have I:Z (2^min s 64)=(M:Int):=UF B k (by rw[<-k];exact i.2);simp only[H,t,k,u,x,o,p]at T i c C U X ab
 have an:f<=256:=by rw[<-p];exact Ug i.2 c.1
 have ag:l<=1000000:=by rw[<-o];exact j8 (mn c.2 c.2) Ξ
 have ah:q<=1000000:=by rw[<-y];exact j8 (mn D (show m<=493 by omega)) Ξ
 have K:=zh t;have ai:=zh k;have aj:=zh o;have L:=zh p;have N:=zh y;have ak:=zh I;clear t k o p y I;have al:(m:Int)=(n:Int) - 19:=Ω
 have h9:=ee F n G r j s ae af m d v z (2+j+z) (F - (2+j+z)) M (1+f+M) l q (3*(1+f+M)) (3*(1+f+M)+4) w ac
  (by rw[al];exact ad) (zh ⟨Ω,Ω,S,aa,D,R,B,c.1,c.2,i.2,C.2⟩)
  (zh (by rw[show((m:Int)/12)=((m/12:Nat):Int) by rfl,u];exact EX Ω))
  (zh (by rw[V ((m:Int) - 10) Ω,show((m:Int) - 10)=((n - 29:Nat):Int) by omega,mV Ω,show(((n - 29:Nat):Int)/20)=(((n - 29)/20:Nat):Int) by rfl,x];exact EX Ω))
  (zh (Nh K.o Ω))
  (zh (by rw[V (2+(j:Int)) Ω,V _ Ω];push_cast;rfl))
  (zh (jr Ω Ω))
  (zh (Nh N.o ah))
  ak
  (zh (by rw[i7 i.2 c.1 c.2,L.o]))
  (zh (Nh aj.o ag))
  (zh (jV Ω))
  (zh (Nh (a:=3) rfl Ω))
  (zh (De (b:=4) rfl Ω))
  (zh (jV Ω))
 refine h9.mono ?_;rintro e A ⟨rfl,g⟩;refine⟨?_,g⟩;simp only[H,K.o,ai.o,u,x,L.o,N.o];rw[V (2+(j:Int)) Ω];rfl
end
