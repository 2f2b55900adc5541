/- Lemmas. -/
import Derived.Test.YtcedibmdelehdaaGreatDoorH07
import Derived.Test.YtcedibmdelehdaaGreatDoorH08
import Derived.Deep.AppendLies
import Derived.Deep.DeepFit
import Derived.Deep.DrawnRows
import Derived.Laws.EntriesVeiled
namespace Go.Proofs.YtcedibmdelehdaaGreatDoor
set_option maxRecDepth 100000
set_option maxHeartbeats 32000000
open Go.World renaming grownBy_alloc->E,news_of_block->A2,ownsRow_nil->Bk,size_alloc->Bn
open Go.Value renaming int->J,slice->V,oneCell'->Bx,pointer->BC,agg->BX,ownBlock->B1
open Go.IntKind renaming i64->O,u64->BD
open Option renaming none->Ax,some->BB
open Go.Proofs.Tryz renaming prog->AA,ntmps237->B2,func237->B3
open Go renaming wpList_append_lies->A3,heap_alloc_new->Bs,World->BE,Value->BL,bodyPost_ret->BR,Calls->B0,maxLen->B4,Addr->B5
open Go.Ending renaming returned->Bd
open Go.Obj renaming cells->BA
variable{h c:BL}{Y:List BL}{Z:TypeId}{a:BE}{b d e:Nat}
section
open Go.RowKit
structure Af where
 h:BitVec 64
 r:Int
 a:Int
 s:Int
def Af.cells(x:Af):List BL:=[J BD (U x.h),J O x.r,J O x.a,J O x.s]
def Af.val(x:Af):BL:=BX #[J BD (U x.h),J O x.r,J O x.a,J O x.s]
def Af.ad:Af:=⟨0,0,0,0⟩
instance:Inhabited Af:=⟨Af.ad⟩
def Av(a:List Af):List BL:=a.flatMap Af.cells
theorem Fx(a:List Af):(Av a).length=a.length*4:=Kk Af.cells 4 (λ_=>rfl) a
theorem Ex(a b:List Af):Av (a++b)=Av a++Av b:=mu
theorem Gw(x:Af):Av [x]=x.cells:=by simp[Av]
theorem FS(a:List Af)(i:Nat)(h:i<a.length):(Av a)[i*4]?=BB (J BD (U (a.getD i Af.ad).h))/\(Av a)[i*4+1]?=BB (J O (a.getD i Af.ad).r)/\(Av a)[i*4+2]?=BB (J O (a.getD i Af.ad).a)/\(Av a)[i*4+3]?=BB (J O (a.getD i Af.ad).s):=by
 have b:a[i]?=BB (a.getD i Af.ad):=by simp[List.getD,h]
 exact⟨Eh Af.cells 4 (λ_=>rfl) a i 0 _ b Ω,Eh Af.cells 4 (λ_=>rfl) a i 1 _ b Ω,Eh Af.cells 4 (λ_=>rfl) a i 2 _ b Ω,Eh Af.cells 4 (λ_=>rfl) a i 3 _ b Ω⟩
theorem Mq(b:List Af):∀u∈Av b,u.oneCell'=true:=by
 intro u a;simp only[Av,oF,Af.cells]at a;obtain⟨x,_,a⟩:=a;simp only[lK,nh,pZ]at a
 rcases a with rfl|rfl|rfl|rfl<;>rfl
theorem Mw(a:List Af)(k:Nat)(h:k<a.length):a.take (k+1)=a.take k++[a.getD k Af.ad]:=by
 rw[mz h];simp[List.getD,h]
theorem Gy:(AA.info? 237).map (λi=>(i.zero,i.size,i.bytes))=BB (BB (BX #[J BD 0,J O 0,J O 0,J O 0]),4,32):=Φ
theorem LI(b:Af->Bool)(a:List Af)(k:Nat)(h:k<a.length)(c:b (a.getD k Af.ad)=true):(a.take (k+1)).filter b=(a.take k).filter b++[a.getD k Af.ad]:=by
 rw[Mw a k h,qa];simp only[mq,List.filter_nil];rw[ke c]
theorem LK(b:Af->Bool)(a:List Af)(k:Nat)(h:k<a.length)(c:b (a.getD k Af.ad)=false):(a.take (k+1)).filter b=(a.take k).filter b:=by
 rw[Mw a k h,qa];simp only[mq,List.filter_nil];rw[j7 (by rw[c];exact Bool.false_ne_true)];simp
theorem LG(a:Af->Bool)(b:List Af)(k:Nat):((b.take k).filter a).length<=k:=j8 (pA _ _) Γ
def Dj(v u:BL):Prop:=∀b,v.ownBlock=BB b->u.ownBlock≠BB b
theorem Dj.symm(a:Dj h c):Dj c h:=λb d e=>a b e d
theorem Dj.nil(u:BL):Dj (V Ax 0 0) u:=λb h=>by simp[B1]at h
theorem Dj.dg{f:BE}(i:Dj c h)(j:a.ownsRow b Z d h e Y)(k:a.grownBy f c.ownBlock):f.ownsRow b Z d h e Y:=by
 refine j.kept k ?_
 cases l:c.ownBlock with
 |none=>
  cases m:h.ownBlock with
  |none=>exact .inl rfl
  |some g=>exact .inr Δ
 |some g=>exact .inr (i g l)
theorem Dj.next{j n m k:Nat}(l:Dj c h)(o:a.ownsRow e Z j h n Y)(p:c.ownBlock=BB b\/b=d)(q:a.heap.size<=d):Dj (V (BB ⟨b,0,Ax⟩) m k) h:=by
 intro r f g;simp[B1]at f;subst f
 rcases p with i|i
 ·exact l _ i g
 ·have:=(o.lt _ g).2;omega
end
section
open Go.RowKit
theorem VC(B:Nat)(f:Af->Bool)(d:List Af)(a:Option B5)(c:Nat)(w:BE)(hx:d.length<=300)(Y:Ai w 4 (V a d.length c) d.length (Av d))
  (S:Hd (∀(x:Af) (W:BE),w.grownBy W Ax->B0 AA 274 #[BX #[J BD (U x.h),J O x.r,J O x.a,J O x.s],BC (BB ⟨B,0,Ax⟩)] W λe s=>e=Bd (.bool (f x))/\W.grownBy s Ax)):
  B0 AA 237 #[V a d.length c,.func (.func 274) #[] #[BC (BB ⟨B,0,Ax⟩)]] w λe s=>∃v Z,e=Bd (.tuple #[v,Z])/\s.ownsRow w.heap.size 237 4 v (d.filter f).length (Av (d.filter f))/\s.ownsRow w.heap.size 237 4 Z (d.filter (λx=>! f x)).length (Av (d.filter λx=>! f x))/\w.grownBy s Ax:=by
 obtain⟨i0,hi,ac,ad,ae⟩:=info_parts Gy;have HR:=zh Y;clear Y
 go_enter B3,B2
 go_wp2
 go_loopw [4,5,10] (λy z i wr=>∃(k:Nat) (ay az:Option B5) (cy cz:Nat),k<=d.length/\i=J O k/\y=V ay ((d.take k).filter f).length cy/\z=V az ((d.take k).filter λx=>! f x).length cz/\wr.ownsRow w.heap.size 237 4 y ((d.take k).filter f).length (Av ((d.take k).filter f))/\wr.ownsRow w.heap.size 237 4 z ((d.take k).filter λx=>! f x).length (Av ((d.take k).filter λx=>! f x))/\Dj y z/\w.grownBy wr Ax) (λ_ _ i _=>d.length - (intOf i).toNat)
 case atStart=>exact⟨0,Ax,Ax,0,0,Ω,rfl,rfl,rfl,Bk _ _ _ _,Bk _ _ _ _,Dj.nil _,Bf _ _⟩
 case round=>
  obtain⟨k,ay,az,cy,cz,hk,rfl,rfl,rfl,oy,oz,al,n⟩:=hrel;have ly:=LG f d k;have lz:=LG (λx=>! f x) d k;have q:=zh oy;have r:=zh oz;have R:=zh al;have u:=zh n;clear oy oz al
  by_cases A:k<d.length
  ·obtain⟨b,o,rfl,C⟩:=HR.o.aZ Ω;obtain⟨e0,e1,e2,e3⟩:=FS d k A;have x0:=n.cell (C _ _ e0) Δ;have x1:=n.cell (C _ _ e1) Δ;have x2:=n.cell (C _ _ e2) Δ;have x3:=n.cell (C _ _ e3) Δ;simp only[<-lw]at x1 x2 x3;have aK:=n.size;clear C e0 e1 e2 e3 n;have D:=LI f d k A;have F:=LK f d k A;have G:=LI (λx=>! f x) d k A;have H:=LK (λx=>! f x) d k A;have l:=S.o (d.getD k Af.ad);generalize d.getD k Af.ad=x at*
   cases m:f x
   ·rw[m]at l;have F:=zh (F m);have G:=zh (G (by simp[m]));have l:=zh l;clear D H m S;go_wp2_with fail
    refine(l.o _ (Ae u.o (E _ _ Ax))).mono ?_;rintro e p ⟨rfl,h⟩
    have j:=(Aa.new wr 237 [J BD (U x.h),J O x.r,J O x.a,J O x.s]).grown h Δ;have b0:=j.m 0;have b1:=j.m 1;have b2:=j.m 2;have b3:=j.m 3;have I:=zh (Ae (Ae u.o (E _ _ Ax)) h);have K:=zh (AP (q.o.alloc _) h);have L:=zh (AP (r.o.alloc _) h);have s3:=I.o.size;clear j h q r;go_wp2_with (at_builtin;refine A3 _ rfl _ _ 158 rfl w.heap.size 237 i0 _ 4 32 lG hi ac ad ae rfl Ω _ _ _ rfl (L.o.alloc _) ⟨p.heap.size,0,Ax⟩ 1 1 x.cells rfl rfl (A2 (cs:=#[J BD (U x.h),J O x.r,J O x.a,J O x.s]) (t:=237) (fr:=(0,0)) (Bs p _)) (by simp[Bx,Af.cells]) Ω (by unfold B4;omega) Ω Γ (p.heap.size+1) Δ ?_;intro g aD w4 M N P _;have T:=zh M;have Q:=zh N;have X:=zh P;clear M N P)
    go_roundw
    case rel=>
     refine⟨k+1,_,_,_,_,Ω,by go_num,by rw[F.o],by rw[G.o,jU];rfl,?_,?_,?_,?_⟩
     ·rw[F.o];exact Dj.dg R.o.symm (K.o.alloc _) Q.o
     ·rw[G.o,Ex,Gw,jU];exact T.o
     ·exact(Dj.next R.o.symm K.o X.o Ω).symm
     ·exact Gt (Ae I.o (E _ _ Ax)) (L.o.alloc _) (jS _) Q.o
    case measure=>simp[intOf];omega
   ·rw[m]at l;have D:=zh (D m);have H:=zh (H (by simp[m]));have l:=zh l;clear G F m S;go_wp2_with fail
    refine(l.o _ (Ae u.o (E _ _ Ax))).mono ?_;rintro e p ⟨rfl,h⟩
    have j:=(Aa.new wr 237 [J BD (U x.h),J O x.r,J O x.a,J O x.s]).grown h Δ;have b0:=j.m 0;have b1:=j.m 1;have b2:=j.m 2;have b3:=j.m 3;have I:=zh (Ae (Ae u.o (E _ _ Ax)) h);have K:=zh (AP (q.o.alloc _) h);have L:=zh (AP (r.o.alloc _) h);have s3:=I.o.size;clear j h q r;go_wp2_with (at_builtin;refine A3 _ rfl _ _ 158 rfl w.heap.size 237 i0 _ 4 32 lG hi ac ad ae rfl Ω _ _ _ rfl (K.o.alloc _) ⟨p.heap.size,0,Ax⟩ 1 1 x.cells rfl rfl (A2 (cs:=#[J BD (U x.h),J O x.r,J O x.a,J O x.s]) (t:=237) (fr:=(0,0)) (Bs p _)) (by simp[Bx,Af.cells]) Ω (by unfold B4;omega) Ω Γ (p.heap.size+1) Δ ?_;intro g aD w4 M N P _;have T:=zh M;have Q:=zh N;have X:=zh P;clear M N P)
    go_roundw
    case rel=>
     refine⟨k+1,_,_,_,_,Ω,by go_num,by rw[D.o,jU];rfl,by rw[H.o],?_,?_,?_,?_⟩
     ·rw[D.o,Ex,Gw,jU];exact T.o
     ·rw[H.o];exact Dj.dg R.o (L.o.alloc _) Q.o
     ·exact Dj.next R.o L.o X.o Ω
     ·exact Gt (Ae I.o (E _ _ Ax)) (K.o.alloc _) (jS _) Q.o
    case measure=>simp[intOf];omega
  ·obtain rfl:k=d.length:=by omega
   rw[mI]at q r⊢;go_wp2
   go_ret2
   exact⟨_,_,rfl,q.o,r.o,u.o⟩
def Dp(d:Int)(x:Af):Bool:=Ev x.h (d+1)%2==1
theorem Zx(x:BitVec 64)(b:Int):0<=Ev x b/\Ev x b<1073741824:=by
 unfold Ev
 split
 ·omega
 ·have h:=RU x b Ω Ω
  have a:(2:Int)^b.toNat<=2^30:=by exact_mod_cast lL Ω Ω
  omega
theorem Xh(x:Af)(B:Nat)(d:Int)(h:0<=d)(i:d<=8)(W:BE)(b:W.cell? ⟨B,0,Ax⟩=BB (J O d)):
  B0 AA 274 #[BX #[J BD (U x.h),J O x.r,J O x.a,J O x.s],BC (BB ⟨B,0,Ax⟩)] W λe c=>e=Bd (.bool (Dp d x))/\W.grownBy c Ax:=by
 have j:=(E W (BA #[J BD (U x.h),J O x.r,J O x.a,J O x.s] 237) Ax).cell b Δ;have f:=Zx x.h (d+1);have a:Dp d x=(Ev x.h (d+1)%2==1):=rfl;have g:=zh (λW=>Kn x.h (d+1) W);obtain⟨k,l⟩:=f;rw[a];generalize Ev x.h (d+1)=q at*;clear a
 go_enter Tryz.func274,Tryz.ntmps274
 go_wp2_with fail;refine(g.o _).mono ?_;rintro e m ⟨rfl,rfl⟩;go_wp2;go_ret;exact⟨by first|rfl|simp,E _ _ Ax⟩
theorem ZR(d p:Int)(C:0<=d)(D:d<=8)(U:0<=p)(X:p<=1000)(b:List Af)(a:Option B5)(c:Nat)(w:BE)(F:b.length<=300)(y:Ai w 4 (V a b.length c) b.length (Av b)):
  B0 AA 240 #[BX #[J O d,J O p,V a b.length c]] w λe r=>∃j k l m,e=Bd (BX #[J O (d+1),J O (2*p),V j (b.filter λx=>! Dp d x).length k,J O (d+1),J O (2*p+1),V l (b.filter (Dp d)).length m])/\r.ownsRow w.heap.size 237 4 (V j (b.filter λx=>! Dp d x).length k) (b.filter λx=>! Dp d x).length (Av (b.filter λx=>! Dp d x))/\r.ownsRow w.heap.size 237 4 (V l (b.filter (Dp d)).length m) (b.filter (Dp d)).length (Av (b.filter (Dp d)))/\w.grownBy r Ax:=by
 have G:=zh y;clear y
 go_enter Tryz.func240,Tryz.ntmps240
 go_wp2_with fail;obtain⟨n,h⟩:=Ag ((w.alloc (BA #[J O d,J O p,V a b.length c] 160)).alloc (BA #[J O 0,J O 0,V Ax 0 0,J O 0,J O 0,V Ax 0 0] 354))
 have q:Aa n w.heap.size 160 [J O d,J O p,V a b.length c]:=by rw[<-h];exact(Aa.new w _ _).alloc _
 have z:Aa n (w.heap.size+1) 354 [J O 0,J O 0,V Ax 0 0,J O 0,J O 0,V Ax 0 0]:=by
  rw[<-h];have:=Aa.new (w.alloc (BA #[J O d,J O p,V a b.length c] 160)) 354 [J O 0,J O 0,V Ax 0 0,J O 0,J O 0,V Ax 0 0];rw[Bn]at this;exact this
 have s:w.grownBy n Ax:=by rw[<-h];exact Ae (E w _ Ax) (E _ _ Ax)
 have A:n.heap.size=w.heap.size+2:=by rw[<-h];simp
 rw[h];clear h;have B:=zh (VC w.heap.size (Dp d) b a c n F (G.o.grown s Δ) (zh (λx W H=>Xh x _ d C D W (H.cell (q.m 0) Δ))));refine B.o.mono ?_;rintro e Y ⟨v,Z,rfl,t,u,o⟩;obtain⟨l,m,rfl⟩:=(Ai.aj t).slice;obtain⟨j,k,rfl⟩:=(Ai.aj u).slice;have k0:=(q.grown o Δ).m 0;have k1:=(q.grown o Δ).m 1;have f:=z.grown o Δ;have d0:=f.m 0;have d1:=f.m 1;have d2:=f.m 2;have d3:=f.m 3;have d4:=f.m 4;have d5:=f.m 5;have f0:=f.v 0;have f1:=f.v 1;have f2:=f.v 2;have f3:=f.v 3;have f4:=f.v 4;have f5:=f.v 5;have i:=zh ((((((f.setCell 0 (J O (d+1))).setCell 1 (J O (2*p))).setCell 2 (V j (b.filter λx=>! Dp d x).length k)).setCell 3 (J O (d+1))).setCell 4 (J O (2*p+1))).setCell 5 (V l (b.filter (Dp d)).length m));have I:=zh (Ae s o);have K:=zh t;have L:=zh u;have M:=zh A;clear B q z s o t u f A;go_wp2;have N:=i.o.m 0;have P:=i.o.m 1;have Q:=i.o.m 2;have R:=i.o.m 3;have S:=i.o.m 4;have T:=i.o.m 5;have g:=M.o;refine BR (v:=BX #[J O (d+1),J O (2*p),V j (b.filter λx=>! Dp d x).length k,J O (d+1),J O (2*p+1),V l (b.filter (Dp d)).length m]) (by simp[results,Tryz.results240,go_sem,N,P,Q,R,S,T]) rfl ⟨_,_,_,_,rfl,?_,?_,?_⟩
 ·exact BQ (CI (CI (CI (CI (CI (CI L.o _ _ (by rw[g];simp)) _ _ (by rw[g];simp)) _ _ (by rw[g];simp)) _ _ (by rw[g];simp)) _ _ (by rw[g];simp)) _ _ (by rw[g];simp)) Ω
 ·exact BQ (CI (CI (CI (CI (CI (CI K.o _ _ (by rw[g];simp)) _ _ (by rw[g];simp)) _ _ (by rw[g];simp)) _ _ (by rw[g];simp)) _ _ (by rw[g];simp)) _ _ (by rw[g];simp)) Ω
 ·exact BN (BN (BN (BN (BN (BN I.o (An _ _ _) (by simp<;>omega)) (An _ _ _) (by simp<;>omega)) (An _ _ _) (by simp<;>omega)) (An _ _ _) (by simp<;>omega)) (An _ _ _) (by simp<;>omega)) (An _ _ _) (by simp<;>omega)
end
section
open Go.RowKit
def Ih(o:Int)(a:List Af):List Af:=a.filter λx=>decide (o<=x.r)
theorem KC(d p:Int)(v b:BL)(a f:Option B5)(n g c h:Nat)(i:v=V a n c)(j:b=V f g h)(w:BE):
  B0 AA 171 #[BX #[J O d,J O p,v],b] w λe k=>e=Bd (BX #[J O d,J O p,b])/\w.grownBy k Ax:=by
 subst i j
 go_enter Tryz.func171,Tryz.ntmps171
 go_wp2;exact BR (v:=BX #[J O d,J O p,V f g h]) (by simp[results,Tryz.results171,go_sem]) rfl ⟨rfl,Ae (E w _ Ax) (E _ _ Ax)⟩
end
section
open Go.RowKit
theorem Vp(B:Nat)(f:Af->Bool)(d:List Af)(a:Option B5)(c:Nat)(w:BE)(hx:d.length<=300)(Y:Ai w 4 (V a d.length c) d.length (Av d))
  (S:Hd (∀(x:Af) (W:BE),w.grownBy W Ax->B0 AA 238 #[BX #[J BD (U x.h),J O x.r,J O x.a,J O x.s],BC (BB ⟨B,0,Ax⟩)] W λe s=>e=Bd (.bool (f x))/\W.grownBy s Ax)):
  B0 AA 237 #[V a d.length c,.func (.func 238) #[] #[BC (BB ⟨B,0,Ax⟩)]] w λe s=>∃v Z,e=Bd (.tuple #[v,Z])/\s.ownsRow w.heap.size 237 4 v (d.filter f).length (Av (d.filter f))/\s.ownsRow w.heap.size 237 4 Z (d.filter (λx=>! f x)).length (Av (d.filter λx=>! f x))/\w.grownBy s Ax:=by
 obtain⟨i0,hi,ac,ad,ae⟩:=info_parts Gy;have HR:=zh Y;clear Y
 go_enter B3,B2
 go_wp2
 go_loopw [4,5,10] (λy z i wr=>∃(k:Nat) (ay az:Option B5) (cy cz:Nat),k<=d.length/\i=J O k/\y=V ay ((d.take k).filter f).length cy/\z=V az ((d.take k).filter λx=>! f x).length cz/\wr.ownsRow w.heap.size 237 4 y ((d.take k).filter f).length (Av ((d.take k).filter f))/\wr.ownsRow w.heap.size 237 4 z ((d.take k).filter λx=>! f x).length (Av ((d.take k).filter λx=>! f x))/\Dj y z/\w.grownBy wr Ax) (λ_ _ i _=>d.length - (intOf i).toNat)
 case atStart=>exact⟨0,Ax,Ax,0,0,Ω,rfl,rfl,rfl,Bk _ _ _ _,Bk _ _ _ _,Dj.nil _,Bf _ _⟩
 case round=>
  obtain⟨k,ay,az,cy,cz,hk,rfl,rfl,rfl,oy,oz,al,n⟩:=hrel;have ly:=LG f d k;have lz:=LG (λx=>! f x) d k;have q:=zh oy;have r:=zh oz;have R:=zh al;have u:=zh n;clear oy oz al
  by_cases A:k<d.length
  ·obtain⟨b,o,rfl,C⟩:=HR.o.aZ Ω;obtain⟨e0,e1,e2,e3⟩:=FS d k A;have x0:=n.cell (C _ _ e0) Δ;have x1:=n.cell (C _ _ e1) Δ;have x2:=n.cell (C _ _ e2) Δ;have x3:=n.cell (C _ _ e3) Δ;simp only[<-lw]at x1 x2 x3;have aK:=n.size;clear C e0 e1 e2 e3 n;have D:=LI f d k A;have F:=LK f d k A;have G:=LI (λx=>! f x) d k A;have H:=LK (λx=>! f x) d k A;have l:=S.o (d.getD k Af.ad);generalize d.getD k Af.ad=x at*
   cases m:f x
   ·rw[m]at l;have F:=zh (F m);have G:=zh (G (by simp[m]));have l:=zh l;clear D H m S;go_wp2_with fail
    refine(l.o _ (Ae u.o (E _ _ Ax))).mono ?_;rintro e p ⟨rfl,h⟩
    have j:=(Aa.new wr 237 [J BD (U x.h),J O x.r,J O x.a,J O x.s]).grown h Δ;have b0:=j.m 0;have b1:=j.m 1;have b2:=j.m 2;have b3:=j.m 3;have I:=zh (Ae (Ae u.o (E _ _ Ax)) h);have K:=zh (AP (q.o.alloc _) h);have L:=zh (AP (r.o.alloc _) h);have s3:=I.o.size;clear j h q r;go_wp2_with (at_builtin;refine A3 _ rfl _ _ 158 rfl w.heap.size 237 i0 _ 4 32 lG hi ac ad ae rfl Ω _ _ _ rfl (L.o.alloc _) ⟨p.heap.size,0,Ax⟩ 1 1 x.cells rfl rfl (A2 (cs:=#[J BD (U x.h),J O x.r,J O x.a,J O x.s]) (t:=237) (fr:=(0,0)) (Bs p _)) (by simp[Bx,Af.cells]) Ω (by unfold B4;omega) Ω Γ (p.heap.size+1) Δ ?_;intro g aD w4 M N P _;have T:=zh M;have Q:=zh N;have X:=zh P;clear M N P)
    go_roundw
    case rel=>
     refine⟨k+1,_,_,_,_,Ω,by go_num,by rw[F.o],by rw[G.o,jU];rfl,?_,?_,?_,?_⟩
     ·rw[F.o];exact Dj.dg R.o.symm (K.o.alloc _) Q.o
     ·rw[G.o,Ex,Gw,jU];exact T.o
     ·exact(Dj.next R.o.symm K.o X.o Ω).symm
     ·exact Gt (Ae I.o (E _ _ Ax)) (L.o.alloc _) (jS _) Q.o
    case measure=>simp[intOf];omega
   ·rw[m]at l;have D:=zh (D m);have H:=zh (H (by simp[m]));have l:=zh l;clear G F m S;go_wp2_with fail
    refine(l.o _ (Ae u.o (E _ _ Ax))).mono ?_;rintro e p ⟨rfl,h⟩
    have j:=(Aa.new wr 237 [J BD (U x.h),J O x.r,J O x.a,J O x.s]).grown h Δ;have b0:=j.m 0;have b1:=j.m 1;have b2:=j.m 2;have b3:=j.m 3;have I:=zh (Ae (Ae u.o (E _ _ Ax)) h);have K:=zh (AP (q.o.alloc _) h);have L:=zh (AP (r.o.alloc _) h);have s3:=I.o.size;clear j h q r;go_wp2_with (at_builtin;refine A3 _ rfl _ _ 158 rfl w.heap.size 237 i0 _ 4 32 lG hi ac ad ae rfl Ω _ _ _ rfl (K.o.alloc _) ⟨p.heap.size,0,Ax⟩ 1 1 x.cells rfl rfl (A2 (cs:=#[J BD (U x.h),J O x.r,J O x.a,J O x.s]) (t:=237) (fr:=(0,0)) (Bs p _)) (by simp[Bx,Af.cells]) Ω (by unfold B4;omega) Ω Γ (p.heap.size+1) Δ ?_;intro g aD w4 M N P _;have T:=zh M;have Q:=zh N;have X:=zh P;clear M N P)
    go_roundw
    case rel=>
     refine⟨k+1,_,_,_,_,Ω,by go_num,by rw[D.o,jU];rfl,by rw[H.o],?_,?_,?_,?_⟩
     ·rw[D.o,Ex,Gw,jU];exact T.o
     ·rw[H.o];exact Dj.dg R.o (L.o.alloc _) Q.o
     ·exact Dj.next R.o L.o X.o Ω
     ·exact Gt (Ae I.o (E _ _ Ax)) (K.o.alloc _) (jS _) Q.o
    case measure=>simp[intOf];omega
  ·obtain rfl:k=d.length:=by omega
   rw[mI]at q r⊢;go_wp2
   go_ret2
   exact⟨_,_,rfl,q.o,r.o,u.o⟩
theorem WU(x:Af)(B:Nat)(o:Int)(W:BE)(a:W.cell? ⟨B,0,Ax⟩=BB (J O o)):
  B0 AA 238 #[BX #[J BD (U x.h),J O x.r,J O x.a,J O x.s],BC (BB ⟨B,0,Ax⟩)] W λe b=>e=Bd (.bool (decide (o<=x.r)))/\W.grownBy b Ax:=by
 have c:=(E W (BA #[J BD (U x.h),J O x.r,J O x.a,J O x.s] 237) Ax).cell a Δ
 go_enter Tryz.func238,Tryz.ntmps238
 go_wp2;go_ret;exact⟨by first|rfl|simp,E _ _ Ax⟩
theorem aj(d p o:Int)(b:List Af)(a:Option B5)(c:Nat)(w:BE)(G:b.length<=300)(r:Ai w 4 (V a b.length c) b.length (Av b)):
  B0 AA 192 #[BX #[J O d,J O p,V a b.length c],J O o] w λe s=>∃v,e=Bd (BX #[J O d,J O p,v])/\s.ownsRow w.heap.size 237 4 v (Ih o b).length (Av (Ih o b))/\w.grownBy s Ax:=by
 have H:=zh r;clear r
 go_enter Tryz.func192,Tryz.ntmps192
 go_wp2_with fail;obtain⟨h,g⟩:=Ag (((w.alloc (BA #[J O d,J O p,V a b.length c] 160)).alloc (BA #[J O o] 3)).alloc (BA #[J O 0,J O 0,V Ax 0 0] 160))
 have j:Aa h w.heap.size 160 [J O d,J O p,V a b.length c]:=by rw[<-g];exact((Aa.new w _ _).alloc _).alloc _
 have t:Aa h (w.heap.size+1) 3 [J O o]:=by
  rw[<-g];have:=Aa.new (w.alloc (BA #[J O d,J O p,V a b.length c] 160)) 3 [J O o];rw[Bn]at this;exact this.alloc _
 have u:Aa h (w.heap.size+1+1) 160 [J O 0,J O 0,V Ax 0 0]:=by
  rw[<-g];have:=Aa.new ((w.alloc (BA #[J O d,J O p,V a b.length c] 160)).alloc (BA #[J O o] 3)) 160 [J O 0,J O 0,V Ax 0 0];rw[Bn,Bn]at this;exact this
 have l:w.grownBy h Ax:=by rw[<-g];exact Ae (Ae (E w _ Ax) (E _ _ Ax)) (E _ _ Ax)
 have y:h.heap.size=w.heap.size+3:=by rw[<-g];simp
 rw[g];clear g;have z:=zh (Vp (w.heap.size+1) (λx=>decide (o<=x.r)) b a c h G (H.o.grown l Δ) (zh (λx W I=>WU x _ o W (I.cell (t.m 0) Δ))));refine z.o.mono ?_;rintro e U ⟨v,X,rfl,m,_,i⟩;obtain⟨A,B,rfl⟩:=(Ai.aj m).slice;have K:=(j.grown i Δ).m 0;have L:=(j.grown i Δ).m 1;have M:=(j.grown i Δ).m 2;have C:=zh (u.grown i Δ);have D:=zh (Ae l i);have F:=zh m;clear z j t u l i m;go_wp2_with fail;refine(KC d p _ _ _ _ _ _ _ _ rfl rfl _).mono ?_;rintro e Y ⟨rfl,k⟩;have f:=C.o.grown k Δ;have Z:=f.m 0;have d1:=f.m 1;have d2:=f.m 2;have f0:=f.v 0;have f1:=f.v 1;have f2:=f.v 2;have n:=zh (((f.setCell 0 (J O d)).setCell 1 (J O p)).setCell 2 (V A (b.filter λx=>decide (o<=x.r)).length B));have N:=zh (Ae D.o k);have P:=zh (AP F.o k);have Q:=zh y;clear f k K L M F D C y;go_wp2;have R:=n.o.m 0;have S:=n.o.m 1;have T:=n.o.m 2;have q:=Q.o;refine BR (v:=BX #[J O d,J O p,V A (b.filter λx=>decide (o<=x.r)).length B]) (by simp[results,Tryz.results192,go_sem,R,S,T]) rfl ⟨_,rfl,?_,?_⟩
 ·exact BQ (CI (CI (CI P.o _ _ (by rw[q];simp)) _ _ (by rw[q];simp)) _ _ (by rw[q];simp)) Ω
 ·exact BN (BN (BN N.o (An _ _ _) (by simp<;>omega)) (An _ _ _) (by simp<;>omega)) (An _ _ _) (by simp<;>omega)
end
