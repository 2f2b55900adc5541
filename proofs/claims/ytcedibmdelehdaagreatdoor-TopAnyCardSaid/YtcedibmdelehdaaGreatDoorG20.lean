/- Lemmas. -/
import Derived.Test.YtcedibmdelehdaaGreatDoorG05
import Derived.Test.YtcedibmdelehdaaGreatDoorG06
import Derived.Deep.AppendLies
import Derived.Deep.DeepFit
import Derived.Deep.DrawnRows
import Derived.Laws.EntriesVeiled
namespace Go.Proofs.YtcedibmdelehdaaGreatDoor
set_option maxRecDepth 100000
set_option maxHeartbeats 32000000
open Go.World renaming grownBy_alloc->E,news_of_block->A2,ownsRow_nil->A6,size_alloc->A7
open Go.Value renaming int->J,slice->V,oneCell'->Bk,pointer->Bx,agg->BE,ownBlock->BZ
open Go.IntKind renaming i64->O,u64->BA
open Option renaming none->Ax,some->Bs
open Go.Proofs.Tryz renaming prog->AA,ntmps237->B0,func237->B1
open Go renaming wpList_append_lies->A3,heap_alloc_new->Bd,World->BB,Value->BC,bodyPost_ret->BD,Calls->BR,maxLen->B2,Addr->B4
open Go.Ending renaming returned->A5
open Go.Obj renaming cells->Bn
open List renaming filter_cons->BL,filter_nil->BX,getD->B3
variable{f b:BC}{h:List BC}{Y:TypeId}{Z:BB}{a c d:Nat}
section
open Go.RowKit
structure Ah where
 h:BitVec 64
 r:Int
 a:Int
 s:Int
def Ah.cells(x:Ah):List BC:=[J BA (U x.h),J O x.r,J O x.a,J O x.s]
def Ah.val(x:Ah):BC:=BE #[J BA (U x.h),J O x.r,J O x.a,J O x.s]
def Ah.af:Ah:=⟨0,0,0,0⟩
instance:Inhabited Ah:=⟨Ah.af⟩
def Aw(a:List Ah):List BC:=a.flatMap Ah.cells
theorem Fy(a:List Ah):(Aw a).length=a.length*4:=KA Ah.cells 4 (λ_=>rfl) a
theorem EG(a b:List Ah):Aw (a++b)=Aw a++Aw b:=mu
theorem GJ(x:Ah):Aw [x]=x.cells:=by simp[Aw]
theorem FZ(a:List Ah)(i:Nat)(h:i<a.length):(Aw a)[i*4]?=Bs (J BA (U (a.getD i Ah.af).h))/\(Aw a)[i*4+1]?=Bs (J O (a.getD i Ah.af).r)/\(Aw a)[i*4+2]?=Bs (J O (a.getD i Ah.af).a)/\(Aw a)[i*4+3]?=Bs (J O (a.getD i Ah.af).s):=by
 have b:a[i]?=Bs (a.getD i Ah.af):=by simp[B3,h]
 exact⟨Dd Ah.cells 4 (λ_=>rfl) a i 0 _ b Ω,Dd Ah.cells 4 (λ_=>rfl) a i 1 _ b Ω,Dd Ah.cells 4 (λ_=>rfl) a i 2 _ b Ω,Dd Ah.cells 4 (λ_=>rfl) a i 3 _ b Ω⟩
theorem MC(b:List Ah):∀u∈Aw b,u.oneCell'=true:=by
 intro u a;simp only[Aw,ny,Ah.cells]at a;obtain⟨x,_,a⟩:=a;simp only[kZ,lY,oD]at a
 rcases a with rfl|rfl|rfl|rfl<;>rfl
theorem ML(a:List Ah)(k:Nat)(h:k<a.length):a.take (k+1)=a.take k++[a.getD k Ah.af]:=by
 rw[lV h];simp[B3,h]
theorem GM:(AA.info? 237).map (λi=>(i.zero,i.size,i.bytes))=Bs (Bs (BE #[J BA 0,J O 0,J O 0,J O 0]),4,32):=Φ
theorem Md(b:Ah->Bool)(a:List Ah)(k:Nat)(h:k<a.length)(c:b (a.getD k Ah.af)=true):(a.take (k+1)).filter b=(a.take k).filter b++[a.getD k Ah.af]:=by
 rw[ML a k h,pB];simp only[BL,BX];rw[jP c]
theorem Mf(b:Ah->Bool)(a:List Ah)(k:Nat)(h:k<a.length)(c:b (a.getD k Ah.af)=false):(a.take (k+1)).filter b=(a.take k).filter b:=by
 rw[ML a k h,pB];simp only[BL,BX];rw[jN (by rw[c];exact pC)];simp
theorem Mb(a:Ah->Bool)(b:List Ah)(k:Nat):((b.take k).filter a).length<=k:=jM (List.length_filter_le _ _) Γ
def Dy(v u:BC):Prop:=∀b,v.ownBlock=Bs b->u.ownBlock≠Bs b
theorem Dy.symm(h:Dy f b):Dy b f:=λa c d=>h a d c
theorem Dy.nil(u:BC):Dy (V Ax 0 0) u:=λb h=>by simp[BZ]at h
theorem Dy.ds{e:BB}(i:Dy b f)(j:Z.ownsRow a Y c f d h)(k:Z.grownBy e b.ownBlock):e.ownsRow a Y c f d h:=by
 refine j.kept k ?_
 cases l:b.ownBlock with
 |none=>
  cases m:f.ownBlock with
  |none=>exact .inl rfl
  |some g=>exact .inr Δ
 |some g=>exact .inr (i g l)
theorem Dy.next{j n m k:Nat}(l:Dy b f)(o:Z.ownsRow d Y j f n h)(p:b.ownBlock=Bs a\/a=c)(q:Z.heap.size<=c):Dy (V (Bs ⟨a,0,Ax⟩) m k) f:=by
 intro r e g;simp[BZ]at e;subst e
 rcases p with i|i
 ·exact l _ i g
 ·have:=(o.lt _ g).2;omega
end
section
open Go.RowKit
theorem VJ(B:Nat)(f:Ah->Bool)(d:List Ah)(a:Option B4)(c:Nat)(w:BB)(hx:d.length<=300)(Y:Ag w 4 (V a d.length c) d.length (Aw d))
  (S:Hd (∀(x:Ah) (W:BB),w.grownBy W Ax->BR AA 274 #[BE #[J BA (U x.h),J O x.r,J O x.a,J O x.s],Bx (Bs ⟨B,0,Ax⟩)] W λe s=>e=A5 (.bool (f x))/\W.grownBy s Ax)):
  BR AA 237 #[V a d.length c,.func (.func 274) #[] #[Bx (Bs ⟨B,0,Ax⟩)]] w λe s=>∃v Z,e=A5 (.tuple #[v,Z])/\s.ownsRow w.heap.size 237 4 v (d.filter f).length (Aw (d.filter f))/\s.ownsRow w.heap.size 237 4 Z (d.filter (λx=>! f x)).length (Aw (d.filter λx=>! f x))/\w.grownBy s Ax:=by
 obtain⟨i0,hi,ac,ad,ae⟩:=info_parts GM;have HR:=zh Y;clear Y
 go_enter B1,B0
 go_wp2
 go_loopw [4,5,10] (λy z i wr=>∃(k:Nat) (ay az:Option B4) (cy cz:Nat),k<=d.length/\i=J O k/\y=V ay ((d.take k).filter f).length cy/\z=V az ((d.take k).filter λx=>! f x).length cz/\wr.ownsRow w.heap.size 237 4 y ((d.take k).filter f).length (Aw ((d.take k).filter f))/\wr.ownsRow w.heap.size 237 4 z ((d.take k).filter λx=>! f x).length (Aw ((d.take k).filter λx=>! f x))/\Dy y z/\w.grownBy wr Ax) (λ_ _ i _=>d.length - (intOf i).toNat)
 case atStart=>exact⟨0,Ax,Ax,0,0,Ω,rfl,rfl,rfl,A6 _ _ _ _,A6 _ _ _ _,Dy.nil _,Bo _ _⟩
 case round=>
  obtain⟨k,ay,az,cy,cz,hk,rfl,rfl,rfl,oy,oz,al,n⟩:=hrel;have ly:=Mb f d k;have lz:=Mb (λx=>! f x) d k;have q:=zh oy;have r:=zh oz;have R:=zh al;have u:=zh n;clear oy oz al
  by_cases A:k<d.length
  ·obtain⟨b,o,rfl,C⟩:=HR.o.bA Ω;obtain⟨e0,e1,e2,e3⟩:=FZ d k A;have x0:=n.cell (C _ _ e0) Δ;have x1:=n.cell (C _ _ e1) Δ;have x2:=n.cell (C _ _ e2) Δ;have x3:=n.cell (C _ _ e3) Δ;simp only[<-kO]at x1 x2 x3;have aK:=n.size;clear C e0 e1 e2 e3 n;have D:=Md f d k A;have F:=Mf f d k A;have G:=Md (λx=>! f x) d k A;have H:=Mf (λx=>! f x) d k A;have l:=S.o (d.getD k Ah.af);generalize d.getD k Ah.af=x at*
   cases m:f x
   ·rw[m]at l;have F:=zh (F m);have G:=zh (G (by simp[m]));have l:=zh l;clear D H m S;go_wp2_with fail
    refine(l.o _ (Ab u.o (E _ _ Ax))).mono ?_;rintro e p ⟨rfl,h⟩
    have j:=(Aa.new wr 237 [J BA (U x.h),J O x.r,J O x.a,J O x.s]).u h Δ;have b0:=j.m 0;have b1:=j.m 1;have b2:=j.m 2;have b3:=j.m 3;have I:=zh (Ab (Ab u.o (E _ _ Ax)) h);have K:=zh (AV (q.o.alloc _) h);have L:=zh (AV (r.o.alloc _) h);have s3:=I.o.size;clear j h q r;go_wp2_with (at_builtin;refine A3 _ rfl _ _ 158 rfl w.heap.size 237 i0 _ 4 32 kX hi ac ad ae rfl Ω _ _ _ rfl (L.o.alloc _) ⟨p.heap.size,0,Ax⟩ 1 1 x.cells rfl rfl (A2 (cs:=#[J BA (U x.h),J O x.r,J O x.a,J O x.s]) (t:=237) (fr:=(0,0)) (Bd p _)) (by simp[Bk,Ah.cells]) Ω (by unfold B2;omega) Ω Γ (p.heap.size+1) Δ ?_;intro g aD w4 M N P _;have T:=zh M;have Q:=zh N;have X:=zh P;clear M N P)
    go_roundw
    case rel=>
     refine⟨k+1,_,_,_,_,Ω,by go_num,by rw[F.o],by rw[G.o,jI];rfl,?_,?_,?_,?_⟩
     ·rw[F.o];exact Dy.ds R.o.symm (K.o.alloc _) Q.o
     ·rw[G.o,EG,GJ,jI];exact T.o
     ·exact(Dy.next R.o.symm K.o X.o Ω).symm
     ·exact DT (Ab I.o (E _ _ Ax)) (L.o.alloc _) (jF _) Q.o
    case measure=>simp[intOf];omega
   ·rw[m]at l;have D:=zh (D m);have H:=zh (H (by simp[m]));have l:=zh l;clear G F m S;go_wp2_with fail
    refine(l.o _ (Ab u.o (E _ _ Ax))).mono ?_;rintro e p ⟨rfl,h⟩
    have j:=(Aa.new wr 237 [J BA (U x.h),J O x.r,J O x.a,J O x.s]).u h Δ;have b0:=j.m 0;have b1:=j.m 1;have b2:=j.m 2;have b3:=j.m 3;have I:=zh (Ab (Ab u.o (E _ _ Ax)) h);have K:=zh (AV (q.o.alloc _) h);have L:=zh (AV (r.o.alloc _) h);have s3:=I.o.size;clear j h q r;go_wp2_with (at_builtin;refine A3 _ rfl _ _ 158 rfl w.heap.size 237 i0 _ 4 32 kX hi ac ad ae rfl Ω _ _ _ rfl (K.o.alloc _) ⟨p.heap.size,0,Ax⟩ 1 1 x.cells rfl rfl (A2 (cs:=#[J BA (U x.h),J O x.r,J O x.a,J O x.s]) (t:=237) (fr:=(0,0)) (Bd p _)) (by simp[Bk,Ah.cells]) Ω (by unfold B2;omega) Ω Γ (p.heap.size+1) Δ ?_;intro g aD w4 M N P _;have T:=zh M;have Q:=zh N;have X:=zh P;clear M N P)
    go_roundw
    case rel=>
     refine⟨k+1,_,_,_,_,Ω,by go_num,by rw[D.o,jI];rfl,by rw[H.o],?_,?_,?_,?_⟩
     ·rw[D.o,EG,GJ,jI];exact T.o
     ·rw[H.o];exact Dy.ds R.o (L.o.alloc _) Q.o
     ·exact Dy.next R.o L.o X.o Ω
     ·exact DT (Ab I.o (E _ _ Ax)) (K.o.alloc _) (jF _) Q.o
    case measure=>simp[intOf];omega
  ·obtain rfl:k=d.length:=by omega
   rw[lS]at q r⊢;go_wp2
   go_ret2
   exact⟨_,_,rfl,q.o,r.o,u.o⟩
def DH(d:Int)(x:Ah):Bool:=EE x.h (d+1)%2==1
theorem ZJ(x:BitVec 64)(b:Int):0<=EE x b/\EE x b<1073741824:=by
 unfold EE
 split
 ·omega
 ·have h:=Sh x b Ω Ω
  have a:(2:Int)^b.toNat<=2^30:=by exact_mod_cast kR Ω Ω
  omega
theorem Xr(x:Ah)(B:Nat)(d:Int)(h:0<=d)(i:d<=8)(W:BB)(b:W.cell? ⟨B,0,Ax⟩=Bs (J O d)):
  BR AA 274 #[BE #[J BA (U x.h),J O x.r,J O x.a,J O x.s],Bx (Bs ⟨B,0,Ax⟩)] W λe c=>e=A5 (.bool (DH d x))/\W.grownBy c Ax:=by
 have j:=(E W (Bn #[J BA (U x.h),J O x.r,J O x.a,J O x.s] 237) Ax).cell b Δ;have f:=ZJ x.h (d+1);have a:DH d x=(EE x.h (d+1)%2==1):=rfl;have g:=zh (λW=>KC x.h (d+1) W);obtain⟨k,l⟩:=f;rw[a];generalize EE x.h (d+1)=q at*;clear a
 go_enter Tryz.func274,Tryz.ntmps274
 go_wp2_with fail;refine(g.o _).mono ?_;rintro e m ⟨rfl,rfl⟩;go_wp2;go_ret;exact⟨by first|rfl|simp,E _ _ Ax⟩
theorem Z5(d p:Int)(C:0<=d)(D:d<=8)(U:0<=p)(X:p<=1000)(b:List Ah)(a:Option B4)(c:Nat)(w:BB)(F:b.length<=300)(y:Ag w 4 (V a b.length c) b.length (Aw b)):
  BR AA 240 #[BE #[J O d,J O p,V a b.length c]] w λe r=>∃j k l m,e=A5 (BE #[J O (d+1),J O (2*p),V j (b.filter λx=>! DH d x).length k,J O (d+1),J O (2*p+1),V l (b.filter (DH d)).length m])/\r.ownsRow w.heap.size 237 4 (V j (b.filter λx=>! DH d x).length k) (b.filter λx=>! DH d x).length (Aw (b.filter λx=>! DH d x))/\r.ownsRow w.heap.size 237 4 (V l (b.filter (DH d)).length m) (b.filter (DH d)).length (Aw (b.filter (DH d)))/\w.grownBy r Ax:=by
 have G:=zh y;clear y
 go_enter Tryz.func240,Tryz.ntmps240
 go_wp2_with fail;obtain⟨n,h⟩:=Af ((w.alloc (Bn #[J O d,J O p,V a b.length c] 160)).alloc (Bn #[J O 0,J O 0,V Ax 0 0,J O 0,J O 0,V Ax 0 0] 354))
 have q:Aa n w.heap.size 160 [J O d,J O p,V a b.length c]:=by rw[<-h];exact(Aa.new w _ _).alloc _
 have z:Aa n (w.heap.size+1) 354 [J O 0,J O 0,V Ax 0 0,J O 0,J O 0,V Ax 0 0]:=by
  rw[<-h];have:=Aa.new (w.alloc (Bn #[J O d,J O p,V a b.length c] 160)) 354 [J O 0,J O 0,V Ax 0 0,J O 0,J O 0,V Ax 0 0];rw[A7]at this;exact this
 have s:w.grownBy n Ax:=by rw[<-h];exact Ab (E w _ Ax) (E _ _ Ax)
 have A:n.heap.size=w.heap.size+2:=by rw[<-h];simp
 rw[h];clear h;have B:=zh (VJ w.heap.size (DH d) b a c n F (G.o.u s Δ) (zh (λx W H=>Xr x _ d C D W (H.cell (q.m 0) Δ))));refine B.o.mono ?_;rintro e Y ⟨v,Z,rfl,t,u,o⟩;obtain⟨l,m,rfl⟩:=(Ag.ai t).slice;obtain⟨j,k,rfl⟩:=(Ag.ai u).slice;have k0:=(q.u o Δ).m 0;have k1:=(q.u o Δ).m 1;have f:=z.u o Δ;have d0:=f.m 0;have d1:=f.m 1;have d2:=f.m 2;have d3:=f.m 3;have d4:=f.m 4;have d5:=f.m 5;have f0:=f.v 0;have f1:=f.v 1;have f2:=f.v 2;have f3:=f.v 3;have f4:=f.v 4;have f5:=f.v 5;have i:=zh ((((((f.setCell 0 (J O (d+1))).setCell 1 (J O (2*p))).setCell 2 (V j (b.filter λx=>! DH d x).length k)).setCell 3 (J O (d+1))).setCell 4 (J O (2*p+1))).setCell 5 (V l (b.filter (DH d)).length m));have I:=zh (Ab s o);have K:=zh t;have L:=zh u;have M:=zh A;clear B q z s o t u f A;go_wp2;have N:=i.o.m 0;have P:=i.o.m 1;have Q:=i.o.m 2;have R:=i.o.m 3;have S:=i.o.m 4;have T:=i.o.m 5;have g:=M.o;refine BD (v:=BE #[J O (d+1),J O (2*p),V j (b.filter λx=>! DH d x).length k,J O (d+1),J O (2*p+1),V l (b.filter (DH d)).length m]) (by simp[results,Tryz.results240,go_sem,N,P,Q,R,S,T]) rfl ⟨_,_,_,_,rfl,?_,?_,?_⟩
 ·exact Cf (Df (Df (Df (Df (Df (Df L.o _ _ (by rw[g];simp)) _ _ (by rw[g];simp)) _ _ (by rw[g];simp)) _ _ (by rw[g];simp)) _ _ (by rw[g];simp)) _ _ (by rw[g];simp)) Ω
 ·exact Cf (Df (Df (Df (Df (Df (Df K.o _ _ (by rw[g];simp)) _ _ (by rw[g];simp)) _ _ (by rw[g];simp)) _ _ (by rw[g];simp)) _ _ (by rw[g];simp)) _ _ (by rw[g];simp)) Ω
 ·exact Br (Br (Br (Br (Br (Br I.o (Ao _ _ _) (by simp<;>omega)) (Ao _ _ _) (by simp<;>omega)) (Ao _ _ _) (by simp<;>omega)) (Ao _ _ _) (by simp<;>omega)) (Ao _ _ _) (by simp<;>omega)) (Ao _ _ _) (by simp<;>omega)
end
section
open Go.RowKit
def Iy(o:Int)(a:List Ah):List Ah:=a.filter λx=>decide (o<=x.r)
theorem KZ(d p:Int)(v b:BC)(a f:Option B4)(n g c h:Nat)(i:v=V a n c)(j:b=V f g h)(w:BB):
  BR AA 171 #[BE #[J O d,J O p,v],b] w λe k=>e=A5 (BE #[J O d,J O p,b])/\w.grownBy k Ax:=by
 subst i j
 go_enter Tryz.func171,Tryz.ntmps171
 go_wp2;exact BD (v:=BE #[J O d,J O p,V f g h]) (by simp[results,Tryz.results171,go_sem]) rfl ⟨rfl,Ab (E w _ Ax) (E _ _ Ax)⟩
end
section
open Go.RowKit
theorem Vx(B:Nat)(f:Ah->Bool)(d:List Ah)(a:Option B4)(c:Nat)(w:BB)(hx:d.length<=300)(Y:Ag w 4 (V a d.length c) d.length (Aw d))
  (S:Hd (∀(x:Ah) (W:BB),w.grownBy W Ax->BR AA 238 #[BE #[J BA (U x.h),J O x.r,J O x.a,J O x.s],Bx (Bs ⟨B,0,Ax⟩)] W λe s=>e=A5 (.bool (f x))/\W.grownBy s Ax)):
  BR AA 237 #[V a d.length c,.func (.func 238) #[] #[Bx (Bs ⟨B,0,Ax⟩)]] w λe s=>∃v Z,e=A5 (.tuple #[v,Z])/\s.ownsRow w.heap.size 237 4 v (d.filter f).length (Aw (d.filter f))/\s.ownsRow w.heap.size 237 4 Z (d.filter (λx=>! f x)).length (Aw (d.filter λx=>! f x))/\w.grownBy s Ax:=by
 obtain⟨i0,hi,ac,ad,ae⟩:=info_parts GM;have HR:=zh Y;clear Y
 go_enter B1,B0
 go_wp2
 go_loopw [4,5,10] (λy z i wr=>∃(k:Nat) (ay az:Option B4) (cy cz:Nat),k<=d.length/\i=J O k/\y=V ay ((d.take k).filter f).length cy/\z=V az ((d.take k).filter λx=>! f x).length cz/\wr.ownsRow w.heap.size 237 4 y ((d.take k).filter f).length (Aw ((d.take k).filter f))/\wr.ownsRow w.heap.size 237 4 z ((d.take k).filter λx=>! f x).length (Aw ((d.take k).filter λx=>! f x))/\Dy y z/\w.grownBy wr Ax) (λ_ _ i _=>d.length - (intOf i).toNat)
 case atStart=>exact⟨0,Ax,Ax,0,0,Ω,rfl,rfl,rfl,A6 _ _ _ _,A6 _ _ _ _,Dy.nil _,Bo _ _⟩
 case round=>
  obtain⟨k,ay,az,cy,cz,hk,rfl,rfl,rfl,oy,oz,al,n⟩:=hrel;have ly:=Mb f d k;have lz:=Mb (λx=>! f x) d k;have q:=zh oy;have r:=zh oz;have R:=zh al;have u:=zh n;clear oy oz al
  by_cases A:k<d.length
  ·obtain⟨b,o,rfl,C⟩:=HR.o.bA Ω;obtain⟨e0,e1,e2,e3⟩:=FZ d k A;have x0:=n.cell (C _ _ e0) Δ;have x1:=n.cell (C _ _ e1) Δ;have x2:=n.cell (C _ _ e2) Δ;have x3:=n.cell (C _ _ e3) Δ;simp only[<-kO]at x1 x2 x3;have aK:=n.size;clear C e0 e1 e2 e3 n;have D:=Md f d k A;have F:=Mf f d k A;have G:=Md (λx=>! f x) d k A;have H:=Mf (λx=>! f x) d k A;have l:=S.o (d.getD k Ah.af);generalize d.getD k Ah.af=x at*
   cases m:f x
   ·rw[m]at l;have F:=zh (F m);have G:=zh (G (by simp[m]));have l:=zh l;clear D H m S;go_wp2_with fail
    refine(l.o _ (Ab u.o (E _ _ Ax))).mono ?_;rintro e p ⟨rfl,h⟩
    have j:=(Aa.new wr 237 [J BA (U x.h),J O x.r,J O x.a,J O x.s]).u h Δ;have b0:=j.m 0;have b1:=j.m 1;have b2:=j.m 2;have b3:=j.m 3;have I:=zh (Ab (Ab u.o (E _ _ Ax)) h);have K:=zh (AV (q.o.alloc _) h);have L:=zh (AV (r.o.alloc _) h);have s3:=I.o.size;clear j h q r;go_wp2_with (at_builtin;refine A3 _ rfl _ _ 158 rfl w.heap.size 237 i0 _ 4 32 kX hi ac ad ae rfl Ω _ _ _ rfl (L.o.alloc _) ⟨p.heap.size,0,Ax⟩ 1 1 x.cells rfl rfl (A2 (cs:=#[J BA (U x.h),J O x.r,J O x.a,J O x.s]) (t:=237) (fr:=(0,0)) (Bd p _)) (by simp[Bk,Ah.cells]) Ω (by unfold B2;omega) Ω Γ (p.heap.size+1) Δ ?_;intro g aD w4 M N P _;have T:=zh M;have Q:=zh N;have X:=zh P;clear M N P)
    go_roundw
    case rel=>
     refine⟨k+1,_,_,_,_,Ω,by go_num,by rw[F.o],by rw[G.o,jI];rfl,?_,?_,?_,?_⟩
     ·rw[F.o];exact Dy.ds R.o.symm (K.o.alloc _) Q.o
     ·rw[G.o,EG,GJ,jI];exact T.o
     ·exact(Dy.next R.o.symm K.o X.o Ω).symm
     ·exact DT (Ab I.o (E _ _ Ax)) (L.o.alloc _) (jF _) Q.o
    case measure=>simp[intOf];omega
   ·rw[m]at l;have D:=zh (D m);have H:=zh (H (by simp[m]));have l:=zh l;clear G F m S;go_wp2_with fail
    refine(l.o _ (Ab u.o (E _ _ Ax))).mono ?_;rintro e p ⟨rfl,h⟩
    have j:=(Aa.new wr 237 [J BA (U x.h),J O x.r,J O x.a,J O x.s]).u h Δ;have b0:=j.m 0;have b1:=j.m 1;have b2:=j.m 2;have b3:=j.m 3;have I:=zh (Ab (Ab u.o (E _ _ Ax)) h);have K:=zh (AV (q.o.alloc _) h);have L:=zh (AV (r.o.alloc _) h);have s3:=I.o.size;clear j h q r;go_wp2_with (at_builtin;refine A3 _ rfl _ _ 158 rfl w.heap.size 237 i0 _ 4 32 kX hi ac ad ae rfl Ω _ _ _ rfl (K.o.alloc _) ⟨p.heap.size,0,Ax⟩ 1 1 x.cells rfl rfl (A2 (cs:=#[J BA (U x.h),J O x.r,J O x.a,J O x.s]) (t:=237) (fr:=(0,0)) (Bd p _)) (by simp[Bk,Ah.cells]) Ω (by unfold B2;omega) Ω Γ (p.heap.size+1) Δ ?_;intro g aD w4 M N P _;have T:=zh M;have Q:=zh N;have X:=zh P;clear M N P)
    go_roundw
    case rel=>
     refine⟨k+1,_,_,_,_,Ω,by go_num,by rw[D.o,jI];rfl,by rw[H.o],?_,?_,?_,?_⟩
     ·rw[D.o,EG,GJ,jI];exact T.o
     ·rw[H.o];exact Dy.ds R.o (L.o.alloc _) Q.o
     ·exact Dy.next R.o L.o X.o Ω
     ·exact DT (Ab I.o (E _ _ Ax)) (K.o.alloc _) (jF _) Q.o
    case measure=>simp[intOf];omega
  ·obtain rfl:k=d.length:=by omega
   rw[lS]at q r⊢;go_wp2
   go_ret2
   exact⟨_,_,rfl,q.o,r.o,u.o⟩
theorem Xb(x:Ah)(B:Nat)(o:Int)(W:BB)(a:W.cell? ⟨B,0,Ax⟩=Bs (J O o)):
  BR AA 238 #[BE #[J BA (U x.h),J O x.r,J O x.a,J O x.s],Bx (Bs ⟨B,0,Ax⟩)] W λe b=>e=A5 (.bool (decide (o<=x.r)))/\W.grownBy b Ax:=by
 have c:=(E W (Bn #[J BA (U x.h),J O x.r,J O x.a,J O x.s] 237) Ax).cell a Δ
 go_enter Tryz.func238,Tryz.ntmps238
 go_wp2;go_ret;exact⟨by first|rfl|simp,E _ _ Ax⟩
theorem aF(d p o:Int)(b:List Ah)(a:Option B4)(c:Nat)(w:BB)(G:b.length<=300)(r:Ag w 4 (V a b.length c) b.length (Aw b)):
  BR AA 192 #[BE #[J O d,J O p,V a b.length c],J O o] w λe s=>∃v,e=A5 (BE #[J O d,J O p,v])/\s.ownsRow w.heap.size 237 4 v (Iy o b).length (Aw (Iy o b))/\w.grownBy s Ax:=by
 have H:=zh r;clear r
 go_enter Tryz.func192,Tryz.ntmps192
 go_wp2_with fail;obtain⟨h,g⟩:=Af (((w.alloc (Bn #[J O d,J O p,V a b.length c] 160)).alloc (Bn #[J O o] 3)).alloc (Bn #[J O 0,J O 0,V Ax 0 0] 160))
 have j:Aa h w.heap.size 160 [J O d,J O p,V a b.length c]:=by rw[<-g];exact((Aa.new w _ _).alloc _).alloc _
 have t:Aa h (w.heap.size+1) 3 [J O o]:=by
  rw[<-g];have:=Aa.new (w.alloc (Bn #[J O d,J O p,V a b.length c] 160)) 3 [J O o];rw[A7]at this;exact this.alloc _
 have u:Aa h (w.heap.size+1+1) 160 [J O 0,J O 0,V Ax 0 0]:=by
  rw[<-g];have:=Aa.new ((w.alloc (Bn #[J O d,J O p,V a b.length c] 160)).alloc (Bn #[J O o] 3)) 160 [J O 0,J O 0,V Ax 0 0];rw[A7,A7]at this;exact this
 have l:w.grownBy h Ax:=by rw[<-g];exact Ab (Ab (E w _ Ax) (E _ _ Ax)) (E _ _ Ax)
 have y:h.heap.size=w.heap.size+3:=by rw[<-g];simp
 rw[g];clear g;have z:=zh (Vx (w.heap.size+1) (λx=>decide (o<=x.r)) b a c h G (H.o.u l Δ) (zh (λx W I=>Xb x _ o W (I.cell (t.m 0) Δ))));refine z.o.mono ?_;rintro e U ⟨v,X,rfl,m,_,i⟩;obtain⟨A,B,rfl⟩:=(Ag.ai m).slice;have K:=(j.u i Δ).m 0;have L:=(j.u i Δ).m 1;have M:=(j.u i Δ).m 2;have C:=zh (u.u i Δ);have D:=zh (Ab l i);have F:=zh m;clear z j t u l i m;go_wp2_with fail;refine(KZ d p _ _ _ _ _ _ _ _ rfl rfl _).mono ?_;rintro e Y ⟨rfl,k⟩;have f:=C.o.u k Δ;have Z:=f.m 0;have d1:=f.m 1;have d2:=f.m 2;have f0:=f.v 0;have f1:=f.v 1;have f2:=f.v 2;have n:=zh (((f.setCell 0 (J O d)).setCell 1 (J O p)).setCell 2 (V A (b.filter λx=>decide (o<=x.r)).length B));have N:=zh (Ab D.o k);have P:=zh (AV F.o k);have Q:=zh y;clear f k K L M F D C y;go_wp2;have R:=n.o.m 0;have S:=n.o.m 1;have T:=n.o.m 2;have q:=Q.o;refine BD (v:=BE #[J O d,J O p,V A (b.filter λx=>decide (o<=x.r)).length B]) (by simp[results,Tryz.results192,go_sem,R,S,T]) rfl ⟨_,rfl,?_,?_⟩
 ·exact Cf (Df (Df (Df P.o _ _ (by rw[q];simp)) _ _ (by rw[q];simp)) _ _ (by rw[q];simp)) Ω
 ·exact Br (Br (Br N.o (Ao _ _ _) (by simp<;>omega)) (Ao _ _ _) (by simp<;>omega)) (Ao _ _ _) (by simp<;>omega)
end
