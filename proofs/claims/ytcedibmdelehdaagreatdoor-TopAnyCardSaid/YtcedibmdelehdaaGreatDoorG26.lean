/- Lemmas. -/
import Derived.Test.YtcedibmdelehdaaGreatDoorG25
namespace Go.Proofs.YtcedibmdelehdaaGreatDoor
set_option maxRecDepth 100000
set_option maxHeartbeats 32000000
open Go.IntKind renaming i64->E,u64->A5,wrap_u64->Bd,wrap_i64->Bk
open Go.Value renaming int->O,slice->Z,bool->A2,pointer->A6,tuple->BX,agg->B2,ownBlock->B3
open Go.World renaming grownBy_alloc->V,size_alloc->BB
open Option renaming none->Ax,some->Bn
open Bool renaming false->AA,true->BD
open Go renaming bodyPost_ret->A3,results->Bs,World->Bx,Value->BA,callsIn_wide->BL,undef->BZ,run_takeDeferred->B0,grownBy_putObj'->B1,maxLen->B6,belowK_b->B9,Addr->CB,Calls->CE,Boxed->CK
open Go.Obj renaming cells->A4,deferred->B5
open Go.Ending renaming returned->A7
open Go.Proofs.Tryz renaming prog->BC,func243->B7,f137->CL
open Go.Fence renaming wide->BE
open Go.RowKit.Below renaming refl->BR,trans->CA
open Decidable renaming decide->B4,em->B8
variable{f:List Ah}{h c e:Int}{J:List Nat}{Y d l n:Bx}{a g i:Nat}{b j:BA}{k:Ending}
section
open Go.RowKit Go.Shelf
attribute [local go_sem] Oper.semAt_some
def FB(a:List Ah)(k:Nat):List (Ah×Ah):=BU (λi=>(a.getD i Ah.af,a.getD (i+1) Ah.af)) k
abbrev Nq(p:Ah×Ah):Array BA:=#[p.1.val,p.2.val]
theorem VO(d p:Int)(b:List Ah)(a:Option CB)(c:Nat)(w:Bx):
  CE BC 197 #[B2 #[O E d,O E p,Z a b.length c]] w λe f=>e=A7 (.func (.func 243) #[] #[A6 (Bn ⟨w.heap.size,0,Ax⟩)])/\f=w.alloc (A4 #[O E d,O E p,Z a b.length c] 160):=by
 go_enter Tryz.func197,Tryz.ntmps197
 go_wp2;go_ret;exact⟨rfl,rfl⟩
theorem aK(n l s t:Nat)(hn:1<=n)(d:List Ah)(a:Option CB)(c:Nat)(J Jx:List (Ah×Ah)->Bx->Prop)
  (hJ:∀h A B,J h A->A.grownBy B Ax->J h B)
  (hY:∀h L W,J h W->h.length<d.length - 1->YieldAt BE (n - 1) BC l (Nq L) W λe q=>
   (e=A7 (A2 BD)/\J (h++[L]) q/\Below t W q)\/(e=A7 (A2 AA)/\Jx (h++[L]) q))
  (W:Bx)(hB:W.cell? ⟨s,2,Ax⟩=Bn (Z a d.length c))(hs:s<t)(ae:t<=W.heap.size)(M:Ag W 4 (Z a d.length c) d.length (Aw d))(ap:d≠[]->∀b,(Z a d.length c).ownBlock=Bn b->b<t)(h0:J [] W):
  CallsIn BE n BC 243 #[.func (.yield l) #[] #[],A6 (Bn ⟨s,0,Ax⟩)] W λe q=>(∃v,e=A7 v)/\
   ((∃ys,ys=FB d (d.length - 1)/\J ys q)\/(∃h,(∃k,k<=d.length - 1/\h=FB d k)/\Jx h q)):=by
 have hm:=M.2.1;unfold B6 at hm;have HR:=zh M;have HB:=zh hB;clear M hB;refine callsIn_of_wp B7 rfl ki ?_ rfl;simp only[Tryz.ntmps243,kB,jT,kA,Nat.reduceAdd,Nat.reduceSub,kf,kh,kJ,kr,jX,ku];have F:=HB.o
 gi_wp2
 gi_loopw [8] (λi wr=>∃k:Nat,k<=d.length/\i=O E k/\J (FB d (k - 1)) wr/\Below t W wr) (λi _=>d.length - (intOf i).toNat)
 case atStart=>exact⟨0,ke _,rfl,h0,BR _ _⟩
 case round=>
  obtain⟨k,hk,rfl,G,N⟩:=hrel;clear F
  by_cases av:k<d.length
  ·have P:=HR.o.below N (λaw=>ap (λe=>aw (by rw[e];rfl)));have H:=zh N;have F:wr.cell? ⟨s,2,Ax⟩=Bn (Z a d.length c):=(N.cell (p:=⟨s,2,Ax⟩) hs).trans HB.o;obtain⟨b,o,rfl,j⟩:=P.bA Ω;obtain⟨u,w,z,C⟩:=FZ d k av;have x0:=j _ _ u;have Q:=j _ _ w;have R:=j _ _ z;have S:=j _ _ C;simp only[<-kO]at Q R S;clear u w z C
   cases k with
   |zero=>
    clear j P;simp only[nO,kU]at x0 Q R S;generalize hx:d.getD 0 Ah.af=x at*
    gi_wp2
    refine Ku (λ_=>True) [([0,1,2,3,4,5,6,7,8,9,10,11,12],13,AA)] (show BE.round=Ax from rfl) Φ Φ ?_;refine FX ki ?_
    repeat((first|(apply FV rfl (λ_=>rfl) Θ;(· intro wS m;(try have m:=m rfl);(try dsimp only at m);(try subst m);go_simp;(try with_reducible rfl)))|(apply Qj rfl (λ_=>rfl) Θ));(refine Al ?_))
    refine FW ?_;refine Dx rfl (λK f=>?_);go_simp;refine f _ _ ?_
    first|refine⟨λg=>(by cases g),?_⟩|skip
    clear f K;refine Gi (NoPanic.normal ?_)
    gi_wp2
    go_roundw
    case rel=>exact⟨1,Ω,rfl,hJ _ _ _ G (Ab (V _ _ Ax) (AZ _ 1 Ax)),H.o.trans ((Fv (Ab (V wr _ Ax) (AZ _ 1 Ax))).mono (jM ae H.o.size))⟩
    case measure=>simp[intOf];omega
   |succ k=>
    obtain⟨u,w,z,C⟩:=FZ d k Ω;have y0:=j _ _ u;have T:=j _ _ w;have X:=j _ _ z;have Y:=j _ _ C;simp only[<-kO]at T X Y;have aj:=hJ _ _ ((wr.alloc (A4 #[O A5 (U (d.getD (k+1) Ah.af).h),O E (d.getD (k+1) Ah.af).r,O E (d.getD (k+1) Ah.af).a,O E (d.getD (k+1) Ah.af).s] 237)).drew) G (Ab (V _ _ Ax) (AZ _ 1 Ax));obtain⟨fn,aH,aI,aJ,hy,al⟩:=hY (FB d (k+1 - 1)) (d.getD k Ah.af,d.getD (k+1) Ah.af) _ aj (by simp[FB,BU];omega);dsimp only[Nq,Ah.val]at hy;have am:=zh (KS (λi=>(d.getD i Ah.af,d.getD (i+1) Ah.af)) k);clear u w z C j P G;generalize d.getD (k+1) Ah.af=x at*;generalize d.getD k Ah.af=y at*
    gi_wp2
    obtain⟨W3,D⟩:=Af ((wr.alloc (A4 #[O A5 (U x.h),O E x.r,O E x.a,O E x.s] 237)).drew)
    have r:wr.grownBy W3 Ax:=by rw[<-D];exact Ab (V _ _ Ax) (AZ _ 1 Ax)
    have I:Aa W3 wr.heap.size 237 [O A5 (U x.h),O E x.r,O E x.a,O E x.s]:=by rw[<-D];exact(Aa.new wr _ _).cU
    have c0:=r.cell F Δ;have z0:=I.m 0;have z1:=I.m 1;have z2:=I.m 2;have z3:=I.m 3;have y0:=r.cell y0 Δ;have T:=r.cell T Δ;have X:=r.cell X Δ;have Y:=r.cell Y Δ;refine Ku (λw'=>w'=W3) [([0,1,2,3,4,5,6,7,8,9,10],11,AA),([],12,AA),([],13,AA)] (show BE.round=Ax from rfl) Φ Φ ?_;rw[D];rw[D]at hy aj al;clear D F x0 Q R S;have aQ:E.wrap (k:Int)=k:=IntWalk.i64_in _ Ω;have aR:k<d.length:=Ω;have aS:(k:Int)<d.length:=Ω;refine FX rfl ?_
    repeat((first|(apply FV rfl (λ_=>rfl) Θ;(· intro wS m;(try have m:=m rfl);(try dsimp only at m);(try subst m);go_simp;(try with_reducible rfl)))|(apply Qj rfl (λ_=>rfl) Θ));(refine Al ?_))
    refine FW ?_;refine Dx rfl (λK f=>?_);go_simp;refine al.mono ?_;rintro e W4 (⟨rfl,aA,aB⟩|⟨rfl,aC⟩)
    ·dsimp only;refine f _ _ ?_
     first|refine⟨λg=>(by cases g),?_⟩|skip
     clear f K;refine Al ?_;refine GF ?_;refine Dx rfl (λK f=>?_);go_simp;refine f _ _ ?_
     first|refine⟨λg=>(by cases g),?_⟩|skip
     clear f K;refine Al ?_;refine GF ?_;refine Dx rfl (λK f=>?_);go_simp;refine f _ _ ?_
     first|refine⟨λg=>(by cases g),?_⟩|skip
     clear f K;refine Gi (NoPanic.normal ?_)
     gi_wp2
     go_roundw
     case rel=>exact⟨k+2,Ω,by go_num,by show J (FB d (k+1)) W4;unfold FB;rw[am.o];exact aA,H.o.trans (((Fv r).mono (jM ae H.o.size)).trans aB)⟩
     case measure=>simp[intOf];omega
    ·dsimp only;refine f _ _ ?_
     first|refine⟨λg=>(by cases g),?_⟩|skip
     clear f K;refine Al ?_;refine GF ?_;refine Dx rfl (λK f=>?_);go_simp;refine f _ _ ?_
     first|refine⟨λg=>(by cases g),?_⟩|skip
     clear f K;refine Al ?_;refine GF ?_;refine Dx rfl (λK f=>?_);go_simp;refine f _ _ ?_
     first|refine⟨λg=>(by cases g),?_⟩|skip
     clear f K;refine Gi (NoPanic.normal ?_)
     gi_wp2
     refine A3 (results_none rfl _ _ _) rfl ?_;exact⟨⟨_,rfl⟩,.inr ⟨_,⟨k+1,Ω,am.o.symm⟩,aC⟩⟩
  ·obtain rfl:k=d.length:=by omega
   gi_wp2
   go_end0
   exact⟨⟨_,rfl⟩,.inl ⟨_,rfl,G⟩⟩
theorem VD(n s f:Nat)(j:1<=n)(d:List Ah)(a:Option CB)(c:Nat)(w:Bx)(m:s<f)(o:f<=w.heap.size)(q:w.cell? ⟨s,2,Ax⟩=Bn (Z a d.length c))(t:Ag w 4 (Z a d.length c) d.length (Aw d))(i:d≠[]->∀b,(Z a d.length c).ownBlock=Bn b->b<f):
  SeqStopsK BE n BC 243 #[A6 (Bn ⟨s,0,Ax⟩)] Nq (Below f) (λu=>u=FB d (d.length - 1)) (λg=>∃k,k<=d.length - 1/\g=FB d k) (d.length - 1) w:=λl J v W h x _ y z=>
 aK n l s f j d a c J v (λg A B C D=>x g A B Ax C D (λr e=>by cases e)) y W ((h.cell (p:=⟨s,2,Ax⟩) (by show s<w.heap.size;omega)).trans q) m (jM o h.size) (t.below h (λE b F=>by have:=i (λe=>E (by rw[e];rfl)) b F;omega)) i z
theorem VQ(g:FK h c e f.length=BD)(j:∀q∈FB f (f.length - 1),U q.1.h<U q.2.h):Cm h c e f=! Fj h c f:=by
 have k:∀i,i<f.length->Kq f i=BD:=by
  intro i a;unfold Kq
  by_cases l:i=0
  ·rw[jG l];rfl
  ·have:=j (f.getD (i - 1) Ah.af,f.getD i Ah.af) (by
    unfold FB BU;rw[lB]
    exact⟨i - 1,by rw[lm];omega,by rw[show i - 1+1=i by omega]⟩)
   rw[jG this,ph]
 unfold Cm;rw[g,nk]
 cases d:Fj h c f
 ·have:∀i,i<f.length->Ig h c f i=BD:=by
   intro i a;unfold Ig;rw[k i a,qw]
   cases b:Do h c (f.getD i Ah.af)
   ·rw[Rt i a b]at d;cases d
   ·rfl
  rw[cQ _ _ this];rfl
 ·have:∃i,i<f.length/\Do h c (f.getD i Ah.af)=AA:=by
   refine lH λm=>?_
   have:Fj h c f=AA:=SJ (λi a=>by
    cases b:Do h c (f.getD i Ah.af)
    ·exact absurd ⟨i,a,b⟩ m
    ·rfl)
   rw[this]at d
   cases d
  obtain⟨i,a,b⟩:=this
  rw[Ub _ _ i a (by unfold Ig;rw[b];rfl)];rfl
theorem Wc(j:a<=f.length - 1){q:Ah×Ah}(b:q∈FB f a)(d:¬U q.1.h<U q.2.h):Cm h c e f=AA:=by
 unfold FB BU at b;rw[lB]at b;obtain⟨i,g,rfl⟩:=b;rw[lm]at g;refine aQ (i+1) Ω ?_;unfold Ig Kq;rw[jH Ω,show i+1 - 1=i by omega,jH d,oS,pD]
theorem Uj{b:Option Nat}{e:TypeId}{c:List BA}(h:Aa Y a e c)(g:Y.grownBy d b)(i:∀r,b=Bn r->∃o:Obj,Y.heap[r]?=Bn o/\o.isCells=AA):Aa d a e c:=
 h.u g (λj=>by
  obtain⟨o,f,k⟩:=i a j.symm;rw[show Y.heap[a]?=_ from h]at f
  cases f
  cases k)
def Ut(a:List (Ah×Ah)):Prop:=∀q∈a,U q.1.h<U q.2.h
def UE(a:List (Ah×Ah)):Prop:=∃q∈a,¬U q.1.h<U q.2.h
theorem Oe(d p i:Int)(f:List Ah)(a:Option CB)(c:Nat)(w:Bx)(C:Ag w 4 (Z a f.length c) f.length (Aw f)):
  CE BC 137 #[B2 #[O E d,O E p,Z a f.length c],O E i] w λe Q=>e=A7 (A2 (Cm d p i f))/\w.grownBy Q Ax:=by
 have hm:=C.2.1;unfold B6 at hm;have N:=zh (λ(n h:Int) (W:Bx)=>Mp n h W);have ai:BE.round=Ax:=rfl
 have aj:∀{b:Bool},Cm d p i f=b->A7 (A2 b)=A7 (A2 (Cm d p i f)):=λh=>by rw[h]
 have g2:w.grownBy ((w.alloc (A4 #[O E d,O E p,Z a f.length c] 160)).alloc (A4 #[A2 AA] 4)) Ax:=Ab (V _ _ Ax) (V _ _ Ax)
 have al:=λ(h:¬(1<=i/\i<=255/\(f.length:Int)<=i/\0<=d/\d<=8/\0<=p/\p<2^d.toNat))=>aj (@V5 d p i f h)
 have F:=zh al;have z:=zh g2;have HR:=zh C;clear aj g2 al C
 by_cases c1:i<1
 ·go_enter nQ,nE
  go_wp2;refine A3 (v:=A2 AA) (by simp[Bs,go_sem]) rfl ?_;exact⟨F.o Ω,z.o⟩
 by_cases c2:255<i
 ·go_enter nQ,nE
  go_wp2;refine A3 (v:=A2 AA) (by simp[Bs,go_sem]) rfl ?_;exact⟨F.o Ω,z.o⟩
 by_cases c3:i<(f.length:Int)
 ·go_enter nQ,nE
  go_wp2;refine A3 (v:=A2 AA) (by simp[Bs,go_sem]) rfl ?_;exact⟨F.o Ω,z.o⟩
 rcases(B8 (0<=d/\d<=8)).symm with P|P
 ·have I:B4 (0<=d/\d<=8)=AA:=jH P
  go_enter nQ,nE
  go_wp2_with fail;refine(N.o _ _ _).mono ?_;rintro e w1 ⟨rfl,rfl⟩;rw[I];go_wp2;refine A3 (v:=A2 AA) (by simp[Bs,go_sem]) rfl ?_;exact⟨F.o Ω,z.o⟩
 have I:B4 (0<=d/\d<=8)=BD:=jG P
 by_cases c5:p<0
 ·have R:B4 (p<0)=BD:=jG c5
  go_enter nQ,nE
  go_wp2_with fail;refine(N.o _ _ _).mono ?_;rintro e w1 ⟨rfl,rfl⟩;rw[I];go_wp2;refine A3 (v:=A2 AA) (by simp[Bs,go_sem]) rfl ?_;exact⟨F.o Ω,z.o⟩
 have R:B4 (p<0)=AA:=jH c5;obtain⟨g,rfl⟩:=jU P.1
 have A:p/2^g=0↔p<2^g:=⟨λh=>by
  have h1:(0:Int)<2^g:=Int.pow_pos Ω;have h2:=Int.lt_ediv_add_one_mul_self p h1;rw[h,Int.zero_add,pL]at h2
  exact h2,λh=>qi Ω h⟩
 rcases(B8 (p/2^g=0)).symm with J|J
 ·have S:(p/2^g !=0)=BD:=by simpa using J
  go_enter nQ,nE
  go_wp2_with fail;refine(N.o _ _ _).mono ?_;rintro e w1 ⟨rfl,rfl⟩;rw[I];go_wp2;refine A3 (v:=A2 AA) (by simp[Bs,go_sem]) rfl ?_;exact⟨F.o (by rw[jS];have:=mt A.2 J;omega),z.o⟩
 have S:(p/2^g !=0)=AA:=by simpa using J
 have HQ:=zh (A.1 J);clear A;refine(BL (n:=20)).1 ?_;refine callsIn_of_wp_marks nQ rfl ki ?_ ai;simp only[nE,kB,jT,kA,Nat.reduceAdd,Nat.reduceSub,kf,kh,kJ,kr,jX,ku]
 gi_wp2_with (refine⟨ki,?_⟩;first|(gi_at_call 196;refine(BL.2 (N.o _ _ _)).mono ?_;rintro e Q ⟨rfl,rfl⟩;rw[I])|(gi_at_call 197;refine(BL.2 (VO _ _ _ _ _ _)).mono ?_;rintro e Q ⟨rfl,rfl⟩))
 obtain⟨s,B⟩:=Af (((w.alloc (A4 #[O E g,O E p,Z a f.length c] 160)).alloc (A4 #[A2 AA] 4)).alloc (A4 #[O E g,O E p,Z a f.length c] 160))
 have g0:w.grownBy s Ax:=by rw[<-B];exact Ab z.o (V _ _ Ax)
 have hz:s.heap.size=w.heap.size+3:=by rw[<-B];simp
 have T:Aa s w.heap.size 160 [O E g,O E p,Z a f.length c]:=by
  rw[<-B];exact((Aa.new w _ _).u (V _ _ Ax) Δ).u (V _ _ Ax) Δ
 have bR:CK s (w.heap.size+1) 4 (A2 AA):=by
  rw[<-B];have h:=Boxed.new (w.alloc (A4 #[O E g,O E p,Z a f.length c] 160)) 4 (A2 AA);rw[BB]at h;exact h.alloc _
 have bP:Aa s (w.heap.size+1+1) 160 [O E g,O E p,Z a f.length c]:=by
  rw[<-B];have h:=Aa.new ((w.alloc (A4 #[O E g,O E p,Z a f.length c] 160)).alloc (A4 #[A2 AA] 4)) 160 [O E g,O E p,Z a f.length c];simp only[BB]at h;exact h
 rw[B];clear B;have aw:=HR.o.u g0 Δ;have ax:=Fv g0
 have ay:f≠[]->∀b,(Z a f.length c).ownBlock=Bn b->b<s.heap.size:=λaa b hb=>by
  have:=HR.o.lt (by cases f with|nil=>exact absurd rfl aa|cons x f=>simp[Aw,Ah.cells]) b hb;omega
 have aK:=zh (VD 19 (w.heap.size+1+1) s.heap.size Ω f a c s Ω (jF _) (bP.m 2) aw ay);have HZ:=zh hz;have a5:w.heap.size+2<s.heap.size:=Ω;clear hz
 refine wpIn_rangeFunc_ownH ai Ω (gf:=243) (lb:=#[A6 (Bn ⟨w.heap.size+1+1,0,Ax⟩)]) rfl ki (enters_of B7 Φ rfl)
  aK.o belowK_t (B9 (jF _)) (BR _ _) (λ_=>rfl)
  (λu W=>Ut u/\Below s.heap.size s W)
  (λk u W=>(k=.ret/\UE u)/\(CK W (w.heap.size+1) 4 (A2 AA)/\Below w.heap.size w W))
  (OwnFrom.and (ownFrom_pure _ _) (ownFrom_below (jF _) (jF _)))
  (λk=>OwnFrom.and (ownFrom_pure _ _) (OwnFrom.and (Own.from (boxed_own _ _ _) _) (ownFrom_below (jF _) Ω)))
  ⟨λq A=>(by cases A),BR _ _⟩
  (λq a' W=>∃G H,(Aa W G 237 q.1.cells/\Aa W H 237 q.2.cells)/\a'={tmps:=#[B2 #[O E g,O E p,Z a f.length c],O E i,A6 (Bn ⟨w.heap.size,0,Ax⟩),BZ,A6 (Bn ⟨w.heap.size+1,0,Ax⟩),A6 (Bn ⟨G,0,Ax⟩),A6 (Bn ⟨H,0,Ax⟩),O E i,A2 AA,A2 AA,O E i,A2 AA,A2 AA,A2 AA,A6 (Bn ⟨w.heap.size,2,Ax⟩),Z a f.length c,O E f.length,O E i,A2 AA,A2 AA,A2 AA,A6 (Bn ⟨w.heap.size,0,Ax⟩),O E g,A2 BD,A2 AA,A2 AA,A2 AA,A6 (Bn ⟨w.heap.size,1,Ax⟩),O E p,A2 AA,A2 AA,A2 AA,A6 (Bn ⟨w.heap.size,1,Ax⟩),O E p,A6 (Bn ⟨w.heap.size,0,Ax⟩),O E g,O E 0,A2 AA,A2 AA,B2 #[O E g,O E p,Z a f.length c],.func (.func 243) #[] #[A6 (Bn ⟨w.heap.size+1+1,0,Ax⟩)],q.1.val,q.2.val,BZ,BZ,BZ,BZ,BZ,BZ,BZ,BZ,BZ,BZ],defers:=[]})
  (λq a' _ X Y a6 hs hg C=>by
   obtain⟨G,H,⟨R,S⟩,h7⟩:=hs
   exact⟨G,H,⟨Uj R hg (λr e=>(C r e).2),Uj S hg (λr e=>(C r e).2)⟩,h7⟩)
  ?assign ?body ?done ?stop
 case assign=>
  rintro l u q W K ⟨L,o⟩ y;dsimp only[Nq,Ah.val]
  gi_wp2
  have aA:=o.size;refine y _ _ (((KeepsOthers.alloc _ _).from _).trans ((KeepsOthers.alloc _ _).from _)) (((BR _ W).alloc aA _).alloc Γ _) ⟨L,(o.alloc aA _).alloc Γ _⟩ ⟨W.heap.size,W.heap.size+1,⟨?_,?_⟩,rfl⟩
  ·exact(Aa.new W _ _).u (V _ _ Ax) Δ
  ·have h:=Aa.new (W.alloc (A4 #[O A5 (U q.1.h),O E q.1.r,O E q.1.a,O E q.1.s] 237)) 237 q.2.cells;rw[BB]at h;exact h
 case body=>
  rintro l u q a' W hl _ ⟨L,o⟩ ⟨G,H,⟨k5,k6⟩,rfl⟩ a8;have u5:W.cell? ⟨G,0,Ax⟩=Bn (O A5 (U q.1.h)):=k5.m 0;have u6:W.cell? ⟨H,0,Ax⟩=Bn (O A5 (U q.2.h)):=k6.m 0;have t:CK W (w.heap.size+1) 4 (A2 AA):=(o.block _ Ω).trans bR;have r0:=t.cell;have f0:=t.frozen;generalize hu:U q.1.h=y5 at*;generalize hv:U q.2.h=y6 at*
  by_cases aD:y6<=y5
  ·have aQ:B4 (y5≥y6)=BD:=jG aD;have aR:UE (u++[q]):=⟨q,Δ,by rw[hu,hv];omega⟩
   gi_wp2
   refine⟨KeepsFrom.of_grownBy (Ao W ⟨w.heap.size+1,0,Ax⟩ _) (λj e=>by cases e;show w.heap.size+1<s.heap.size;omega),⟨rfl,aR⟩,t.set _,?_⟩;exact(CA ax (o.mono Ω)).setCell (p:=⟨w.heap.size+1,0,Ax⟩) Δ _
  ·have aQ:B4 (y5≥y6)=AA:=jH aD
   have aS:Ut (u++[q]):=λq' aU=>by
    rcases kI.1 aU with h|h
    ·exact L q' h
    ·rw[j8]at h;subst h;rw[hu,hv];omega
   gi_wp2
   exact⟨KeepsFrom.refl _ _,BR _ _,aS,o⟩
 case done=>
  rintro D ys W hD rfl ⟨L,o⟩ y;have c0:W.cell? ⟨w.heap.size,0,Ax⟩=Bn (O E g):=(T.below o Ω).m 0;have c1:W.cell? ⟨w.heap.size,1,Ax⟩=Bn (O E p):=(T.below o Ω).m 1;have c2:W.cell? ⟨w.heap.size,2,Ax⟩=Bn (Z a f.length c):=(T.below o Ω).m 2;have t:CK W (w.heap.size+1) 4 (A2 AA):=(o.block _ Ω).trans bR;have r0:=t.cell;have f0:=t.frozen;have aX:Cm g p i f=! Fj g p f:=VQ (by unfold FK;rw[jS];exact jG (Ψ HQ.o)) L;have HC:=zh (Vb w.heap.size g p f a c W (aw.below o (λaa=>ay (λe=>aa (by rw[e];rfl)))) c0 c1)
  gi_wp2_with (refine⟨ki,?_⟩;gi_at_call 198;refine(BL.2 HC.o).mono ?_;rintro e w5 ⟨rfl,M⟩;have f5:=(t.kept M Δ).frozen;have r5:=(t.kept M Δ).cell)
  have aZ:w5.heap[D]?=Bn (B5 (Bn [])):=(M.block D (jR.1 y).1 Δ).trans y;have ag:=(KeepsOthers.setCell w5 ⟨w.heap.size+1,0,Ax⟩ (A2 (! Fj g p f))).same D _ aZ rfl;have a0:CK (w5.setCell ⟨w.heap.size+1,0,Ax⟩ (A2 (! Fj g p f))) (w.heap.size+1) 4 (A2 (! Fj g p f)):=(t.kept M Δ).set _;refine⟨Δ,.inl ⟨_,_,rfl,B0 ag,?_⟩⟩;have ah:=cell_kept a0.cell (B1 _ D (B5 Ax)) (λr e=>by cases e;exact⟨_,ag,rfl⟩);have bc:=o.size;refine⟨A2 (! Fj g p f),?_,by rw[aX],?_⟩
  ·simp[Bs,CL,go_sem,ah]
  ·exact Ff ((((CA ax (o.mono Ω)).trans ((Fv M).mono Ω)).setCell (p:=⟨w.heap.size+1,0,Ax⟩) Δ _).trans (B9 (w:=w) (jF _) _ D _ _ Ω ag rfl rfl))
 case stop=>
  rintro D k u W hD ⟨m,a1,rfl⟩ ⟨⟨rfl,q,A,hn⟩,t,o⟩ y;have bd:Cm g p i f=AA:=Wc a1 A hn;have r0:=t.cell
  gi_wp2
  refine⟨Δ,.inl ⟨_,_,rfl,B0 y,?_⟩⟩;have ah:=cell_kept r0 (B1 W D (B5 Ax)) (λr e=>by cases e;exact⟨_,y,rfl⟩);refine⟨A2 AA,?_,rfl,?_⟩
  ·simp[Bs,CL,go_sem,ah]
  ·exact Ff (o.trans (B9 (w:=w) (jF _) W D _ _ Ω y rfl rfl))
end
section
open Go.RowKit
def EI(x:Ah):List Nat:=((At x.h.toNat 8++At x.r.toNat 8)++At x.a.toNat 2)++At x.s.toNat 2
def Hu(d p:Int)(n:Nat):List Nat:=(At d.toNat 1++At n 1)++At p.toNat 8
def E7(d p:Int)(a:List Ah)(k:Nat):List Nat:=Hu d p a.length++(a.take k).flatMap EI
def Ct(d p:Int)(a:List Ah):List Nat:=E7 d p a a.length
theorem aA(d p:Int)(n:Nat):(Hu d p n).length=10:=by simp[Hu,AK]
theorem aN(x:Ah):(EI x).length=20:=by simp[EI,AK]
theorem KN(d p:Int)(a:List Ah):∀k,k<=a.length->(E7 d p a k).length=10+20*k
 |0,_=>by simp[E7,aA]
 |k+1,h=>by
  have b:=KN d p a k Ω;unfold E7 at*;rw[jI]at*;rw[ML a k h,mu,jI];simp only[lP,List.flatMap_nil,lw,aN];omega
theorem XQ(d p:Int)(a:List Ah):E7 d p a 0=Hu d p a.length:=by simp[E7]
theorem Xi(d p:Int)(a:List Ah)(k:Nat)(h:k<a.length):E7 d p a (k+1)=((((E7 d p a k++At (a.getD k Ah.af).h.toNat 8)++At (a.getD k Ah.af).r.toNat 8)++At (a.getD k Ah.af).a.toNat 2)++At (a.getD k Ah.af).s.toNat 2):=by
 unfold E7;rw[ML a k h,mu];simp[EI]
theorem Ww(x:Ah):∀y∈EI x,y<256:=by
 intro y a;unfold EI at a;simp only[kI]at a
 rcases a with((a|a)|a)|a
 all_goals exact Es _ _ y a
theorem NU(d p:Int)(b:List Ah):∀y∈Ct d p b,y<256:=by
 intro y a;unfold Ct E7 Hu at a;simp only[kI,ny]at a
 rcases a with((a|a)|a)|⟨x,_,a⟩
 ·exact Es _ _ y a
 ·exact Es _ _ y a
 ·exact Es _ _ y a
 ·exact Ww x y a
theorem Rz(d:Cm h c e f=BD):∀k,k<f.length->(0<=(f.getD k Ah.af).r/\(f.getD k Ah.af).r<=1099511627776/\0<=(f.getD k Ah.af).a/\(f.getD k Ah.af).a<=65535/\0<=(f.getD k Ah.af).s/\(f.getD k Ah.af).s<=65535):=by
 intro k b;have a:=(Fx.1 d).2.1 (f.getD k Ah.af) (by rw[kH,jK b,mD];exact ml b);unfold Do at a;rw[jQ]at a;exact j7 a.1
theorem Kx(a:Cm h c e f=BD):1<=e/\e<=255/\(f.length:Int)<=e/\0<=h/\h<=8/\0<=c/\c<256:=by
 unfold Cm FK at a;rw[jQ]at a;have b:=j7 a.1;obtain⟨n,d⟩:=jU (show 0<=h by omega);have g:2^n<=256:=jj n Ω;have i:=b.2.2.2.2.2.2;rw[d,jS]at i
 have:c<256:=by
  have:(2:Int)^n<=256:=by exact_mod_cast g
  omega
 omega
theorem Ov(d p I:Int)(f:List Ah)(a:Option CB)(c:Nat)(w:Bx)(hr:Ag w 4 (Z a f.length c) f.length (Aw f))(J:Cm d p I f=BD):
  CE BC 82 #[B2 #[O E d,O E p,Z a f.length c],O E I] w λe w'=>∃a' c',e=A7 (BX #[Z a' (Ct d p f).length c',O E 0])/\w'.ownsRow w.heap.size 5 1 (Z a' (Ct d p f).length c') (Ct d p f).length (Ar (Ct d p f))/\w.grownBy w' Ax:=by
 obtain⟨bk,bl,bm,aX,bn,aY,bo⟩:=Kx J;have aZ:=zh (Rz J)
 have P:=λW hW=>Oe d p I f a c W hW
 rw[J]at P;have al:=zh P;have Q:=zh hr;clear P hr J;obtain⟨l,rfl⟩:=jU aX;obtain⟨m,rfl⟩:=jU aY;obtain⟨sn,rfl⟩:=jU (show 0<=I by omega)
 have bp:A5.wrap (l:Int)=l:=by rw[Bd];omega
 have bq:A5.wrap (m:Int)=m:=by rw[Bd];omega
 have br:A5.wrap (f.length:Int)=f.length:=by rw[Bd];omega
 have HK:=zh (KN (l:Int) (m:Int) f);have HN:=zh (Xi (l:Int) (m:Int) f);have HH:=zh (XQ (l:Int) (m:Int) f)
 go_enter Tryz.func82,Tryz.ntmps82
 go_wp2_with fail;refine(al.o _ (Q.o.alloc _)).mono ?_;rintro e u ⟨rfl,R⟩;have K:=(Aa.new w 160 [O E l,O E m,Z a f.length c]).u R Δ;have bs:w.heap.size<u.heap.size:=K.lt;have S:=zh (Ab (V w (A4 #[O E l,O E m,Z a f.length c] 160) Ax) R);have M:=zh K;have b0:=K.m 0;clear K R al;go_wp2_with fail;refine(IV _ Ω _).mono ?_;rintro e w2 ⟨rfl,N,g2⟩;rw[jP (show(0:Int)<=10+20*(sn:Int) by omega)]at N;obtain⟨L,hL⟩:∃L:Int,10+20*(sn:Int)=L:=⟨_,rfl⟩;rw[hL]at N;have bt:10+20*(f.length:Int)<=L:=Ω
 have y:PW u w2 u.heap.size (Z Ax 0 0) [] L:=⟨N,λk hk=>by
  rcases hk with h|h
  ·omega
  ·simp[B3]at h,g2⟩
 have T:=zh y;clear N y g2 hL;have b0:=((M.o.u T.o.u Δ).m 0);go_wp2_with fail;refine(T.o.be l 1 Ω Ξ Γ Δ).mono ?_;rintro e w3 ⟨v3,rfl,F,_⟩;have X:=zh F;clear F T;have b2:=((M.o.u X.o.u Δ).m 2);go_wp2_with fail;refine(X.o.be f.length 1 Ω Ξ (by simp[AK];omega) (by simp[AK])).mono ?_;rintro e w4 ⟨v4,rfl,G,_⟩;have Y:=zh G;clear G X;have b1:=((M.o.u Y.o.u Δ).m 1);go_wp2_with fail;refine(Y.o.be m 8 Ω Ξ (by simp[AK];omega) (by simp[AK])).mono ?_;rintro e w5 ⟨v5,rfl,p5,_⟩
 have hh:([]++At l 1++At f.length 1)++At m 8=E7 (l:Int) (m:Int) f 0:=by
  rw[HH.o];simp[Hu]
 rw[hh]at p5;have P5:=zh p5;clear p5 Y hh b0 b1 HH;have b2:=((M.o.u P5.o.u Δ).m 2);go_wp2;have a5:=Q.o.2.1;unfold B6 at a5;clear b2
 go_loopw [36] (λi wr=>∃(k:Nat) (v:BA),k<=f.length/\i=O E k/\PW u wr u.heap.size v (E7 (l:Int) (m:Int) f k) L) (λi _=>f.length - (intOf i).toNat)
 case atStart=>exact⟨0,_,Ω,rfl,P5.o⟩
 case round=>
  obtain⟨k,v,hk,rfl,y⟩:=hrel;have z:=zh y;have A:=y.u;clear y
  by_cases ab:k<f.length
  ·obtain⟨b,o,rfl,H⟩:=(Q.o.u S.o Δ).bA Ω;obtain⟨e0,e1,e2,e3⟩:=FZ f k ab;have t:=A.cell (H _ _ e0) Δ;have q:=A.cell (H _ _ e1) Δ;have r:=A.cell (H _ _ e2) Δ;have s:=A.cell (H _ _ e3) Δ;simp only[<-kO]at q r s;have hn:=HN.o k ab;have bB:=HK.o k Ω;obtain⟨q0,q1,q2,q3,q4,q5⟩:=aZ.o k ab;clear H e0 e1 e2 e3 A;generalize f.getD k Ah.af=x at*;obtain⟨B,ad⟩:=jU q0;obtain⟨C,ae⟩:=jU q2;obtain⟨D,af⟩:=jU q4;have aE:U x.h=(x.h.toNat:Int):=rfl;rw[ad]at q q1;rw[ae]at r q3;rw[af]at s q5;rw[aE]at t;have bC:=x.h.isLt;rw[ad,ae,af,jS,jS,jS]at hn;have ba:=zh hn;generalize bb:E7 (l:Int) (m:Int) f k=st at*
   have bE:A5.wrap (B:Int)=B:=by rw[Bd];omega
   have bF:A5.wrap (C:Int)=C:=by rw[Bd];omega
   have bG:A5.wrap (D:Int)=D:=by rw[Bd];omega
   clear q0 q2 q4 ad ae af hn aE bb;go_wp2_with fail;have j:Aa (wr.alloc (A4 #[O A5 (x.h.toNat:Int),O E B,O E C,O E D] 237)) wr.heap.size 237 [O A5 (x.h.toNat:Int),O E B,O E C,O E D]:=Aa.new wr _ _
   have n:¬DE u.heap.size v wr.heap.size:=λh=>by have:=z.o.wr.lt _ h;omega
   have Q0:=zh (z.o.bw (V wr (A4 #[O A5 (x.h.toNat:Int),O E B,O E C,O E D] 237) Ax));clear t q r s z;refine(Q0.o.be x.h.toNat 8 Ω Ξ (by(try simp);omega) (by(try simp[AK]);omega)).mono ?_;rintro e y1 ⟨u1,rfl,p1,k1⟩;obtain⟨aH,aI⟩:=k1 _ _ _ j n;have Q1:=zh p1;clear k1 p1 j n;have j:=aH;have n:=aI;clear aH aI;have t:=j.m 0;have q:=j.m 1;have r:=j.m 2;have s:=j.m 3;go_wp2_with fail;refine(Q1.o.be B 8 Ω Ξ (by(try simp[AK]);omega) (by(try simp[AK]);omega)).mono ?_;rintro e y2 ⟨u2,rfl,p2,k2⟩;obtain⟨aL,aM⟩:=k2 _ _ _ j n;have Q2:=zh p2;clear k2 p2 j n;have j:=aL;have n:=aM;clear aL aM;have t:=j.m 0;have q:=j.m 1;have r:=j.m 2;have s:=j.m 3;go_wp2_with fail;refine(Q2.o.be C 2 Ω Ξ (by(try simp[AK]);omega) (by(try simp[AK]);omega)).mono ?_;rintro e y3 ⟨u3,rfl,F,k3⟩;obtain⟨aO,aP⟩:=k3 _ _ _ j n;have Q3:=zh F;clear k3 F j n;have j:=aO;have n:=aP;clear aO aP;have t:=j.m 0;have q:=j.m 1;have r:=j.m 2;have s:=j.m 3;go_wp2_with fail;refine(Q3.o.be D 2 Ω Ξ (by(try simp[AK]);omega) (by(try simp[AK]);omega)).mono ?_;rintro e y4 ⟨u4,rfl,G,k4⟩;obtain⟨aR,aS⟩:=k4 _ _ _ j n;have Q4:=zh G;clear k4 G j n;have j:=aR;have n:=aS;clear aR aS;have t:=j.m 0;have q:=j.m 1;have r:=j.m 2;have s:=j.m 3;have ag:=Q4.o;rw[<-ba.o]at ag;have Q5:=zh ag;clear ag j n t q r s;go_wp2
   go_roundw
   case rel=>exact⟨k+1,_,Ω,by go_num,Q5.o⟩
   case measure=>simp[intOf];omega
  ·obtain rfl:k=f.length:=by omega
   clear A;go_wp2_with fail;refine(Il _ _ _ _ _ _ z.o.wr).mono ?_;rintro e w6 ⟨a6,c6,rfl,o6,g6⟩;have g:=Ab (Ab S.o z.o.u) g6;have O6:=zh (Cf o6 (Ab S.o z.o.u).size);have GG:=zh g;clear o6 g6 g;go_wp2;refine A3 (v:=BX #[Z a6 (Ct (l:Int) (m:Int) f).length c6,O E 0]) (by simp[Bs,Tryz.results82,go_sem,Ct]) rfl ?_;exact⟨a6,c6,rfl,O6.o,GG.o⟩
end
section
open Go.RowKit
theorem IY(a c:List Nat)(n k o:Nat)(b:a.length=o):Ci (a++(At n k++c)) o k=n%256^k:=by
 subst b;rw[dX (by simp[AK])];unfold Km;rw[mb (jF _),lR (jF _),jX,mJ (by simp[AK]),lf (by simp[AK]),OQ]
theorem eu(d p:Int)(a:List Ah)(j:Nat)(h:j<a.length):Ct d p a=(Hu d p a.length++(a.take j).flatMap EI)++(EI (a.getD j Ah.af)++(a.drop (j+1)).flatMap EI)/\(Hu d p a.length++(a.take j).flatMap EI).length=10+20*j:=by
 constructor
 ·unfold Ct E7;rw[lS,kK]
  congr 1
  have b:a=a.take j++(a.getD j Ah.af::a.drop (j+1)):=by
   have c:a.getD j Ah.af=a[j]:=by simp[List.getD,h]
   rw[c,qj,kF]
  conv=>lhs;rw[b]
  rw[mu,lP]
 ·exact KN d p a j Ω
theorem XO(A C:List Nat)(x:Ah)(j:Nat)(e:A.length=10+20*j)(m:0<=x.r)(n:x.r<=1099511627776)(o:0<=x.a)(p:x.a<=65535)(q:0<=x.s)(r:x.s<=65535):IG (A++(EI x++C)) j=x:=by
 obtain⟨a,b,c,d⟩:=x;simp only at m n o p q r;have f:(256:Nat)^8=18446744073709551616:=Ξ;have g:(256:Nat)^2=65536:=Ξ;unfold IG EI;simp only
 have h:Ci (A++((((At a.toNat 8++At b.toNat 8)++At c.toNat 2)++At d.toNat 2)++C)) (10+20*j) 8=a.toNat:=by
  rw[show A++((((At a.toNat 8++At b.toNat 8)++At c.toNat 2)++At d.toNat 2)++C)=A++(At a.toNat 8++(At b.toNat 8++At c.toNat 2++At d.toNat 2++C)) by simp,IY _ _ _ _ _ e,f];exact mR a.isLt
 have i:Ci (A++((((At a.toNat 8++At b.toNat 8)++At c.toNat 2)++At d.toNat 2)++C)) (18+20*j) 8=b.toNat:=by
  rw[show A++((((At a.toNat 8++At b.toNat 8)++At c.toNat 2)++At d.toNat 2)++C)=(A++At a.toNat 8)++(At b.toNat 8++(At c.toNat 2++At d.toNat 2++C)) by simp,IY _ _ _ _ _ (by rw[jI,e,AK];omega),f];omega
 have k:Ci (A++((((At a.toNat 8++At b.toNat 8)++At c.toNat 2)++At d.toNat 2)++C)) (26+20*j) 2=c.toNat:=by
  rw[show A++((((At a.toNat 8++At b.toNat 8)++At c.toNat 2)++At d.toNat 2)++C)=(A++At a.toNat 8++At b.toNat 8)++(At c.toNat 2++(At d.toNat 2++C)) by simp,IY _ _ _ _ _ (by rw[jI,jI,e,AK,AK];omega),g];omega
 have l:Ci (A++((((At a.toNat 8++At b.toNat 8)++At c.toNat 2)++At d.toNat 2)++C)) (28+20*j) 2=d.toNat:=by
  rw[show A++((((At a.toNat 8++At b.toNat 8)++At c.toNat 2)++At d.toNat 2)++C)=(A++At a.toNat 8++At b.toNat 8++At c.toNat 2)++(At d.toNat 2++C) by simp,IY _ _ _ _ _ (by rw[jI,jI,jI,e,AK,AK,AK];omega),g];omega
 rw[h,i,k,l,Bk];clear h i k l e;have s:BitVec.ofNat 64 a.toNat=a:=Δ;have v:((b.toNat:Int)+9223372036854775808)%18446744073709551616 - 9223372036854775808=b:=Ω;have t:((c.toNat:Nat):Int)=c:=Ω;have u:((d.toNat:Nat):Int)=d:=Ω;rw[s,t,u]
 congr 1
theorem Xw(p:Int)(a:0<=p)(b:p<256):E.wrap ((p.toNat%18446744073709551616:Nat):Int)=p:=by
 rw[Bk];omega
theorem Zv(p:Int)(a:0<=p)(b:p<256):((p.toNat%256:Nat):Int)=p:=Ω
theorem XK(p:Nat)(a:p<256):p%256=p:=Ω
theorem OF(d:Cm h c e f=BD):EH (Ct h c f) e=BD/\DI (Ct h c f)=h/\EP (Ct h c f)=c/\Ds (Ct h c f) (Ch (Ct h c f))=f:=by
 have g:=Kx d;have q:=Rz d;have r:f.length<256:=Ω
 have i:Ct h c f=At h.toNat 1++(At f.length 1++(At c.toNat 8++f.flatMap EI)):=by
  simp[Ct,E7,Hu]
 have s:(256:Nat)^8=18446744073709551616:=Ξ;have l:(256:Nat)^1=256:=Ξ
 have m:DI (Ct h c f)=h:=by
  have a:=IY [] (At f.length 1++(At c.toNat 8++f.flatMap EI)) h.toNat 1 0 rfl;rw[jX, <-i]at a;unfold DI;rw[a,l];exact Zv h g.2.2.2.1 Ω
 have n:Ch (Ct h c f)=f.length:=by
  have a:=IY (At h.toNat 1) (At c.toNat 8++f.flatMap EI) f.length 1 1 (AK _ _);rw[<-i]at a;unfold Ch;rw[a,l];exact XK _ r
 have o:EP (Ct h c f)=c:=by
  have a:=IY (At h.toNat 1++At f.length 1) (f.flatMap EI) c.toNat 8 2 (by rw[jI,AK,AK]);rw[kK, <-i]at a;unfold EP;rw[a,s];exact Xw c g.2.2.2.2.2.1 g.2.2.2.2.2.2
 have p:Ds (Ct h c f) f.length=f:=by
  refine oO (Hk _ _) (λj a k=>?_)
  have t:f.getD j Ah.af=f[j]:=by simp[List.getD,k]
  have b:=q j k;obtain⟨u,v⟩:=eu h c f j k
  have w:(Ds (Ct h c f) f.length)[j]=IG (Ct h c f) j:=by simp[Ds]
  rw[w,u];refine(XO _ _ _ j v b.1 b.2.1 b.2.2.1 b.2.2.2.1 b.2.2.2.2.1 b.2.2.2.2.2).trans t
 rw[n];refine⟨?_,m,o,p⟩;unfold EH Lw;rw[m,o,n,p,d,qw];exact jG (KN h c f f.length (jF _))
theorem ef{d i:Int}{g:List Ah}(k:Cm h c i f=BD)(l:Cm e d i g=BD)(m:Ct h c f=Ct e d g):h=e/\c=d/\f=g:=by
 obtain⟨_,a,b,j⟩:=OF k;obtain⟨_,n,o,p⟩:=OF l;rw[m]at a b j;exact⟨a.symm.trans n,b.symm.trans o,j.symm.trans p⟩
end
section
open Go.RowKit
structure UB(a w:Bx)(R B:Nat)(v:BA)(c:List Nat)(o:Nat)(Q:Nat)(d p:Int)(e:BA)(f:List Ah):Prop where
 pr:PR a w B v c o
 ej:B<Q
 eQ:c.drop o≠[]->∀b,v.ownBlock=Bn b->b<Q
 dY:a.heap.size<=Q
 hR:R<a.heap.size
 aZ:Aa w R 160 [O E 0,O E 0,Z Ax 0 0]
 cY:Aa w Q 160 [O E d,O E p,e]
 aI:w.ownsRow (Q+1) 237 4 e f.length (Aw f)
theorem UB.bw{R:Nat}(e:UB Y d R a b J g i h c j f)(k:d.grownBy l Ax):UB Y l R a b J g i h c j f:=
 ⟨e.pr.bw k,e.ej,e.eQ,e.dY,e.hR,e.aZ.u k Δ,e.cY.u k Δ,AV e.aI k⟩
theorem UB.be{R:Nat}(l:UB d Y R a j J g i h c b f)(k:Nat)(s:Fe k=BD):
  CE BC 184 #[A6 (Bn ⟨a,0,Ax⟩),O E k] Y λe p=>∃q,e=A7 (O A5 ((Ci J g k:Nat):Int))/\UB d p R a q J (g+k) i h c b f/\∀m t r,Aa Y m t r->i<m->Aa p m t r/\(b.ownBlock≠Bn m->b.ownBlock≠Bn m):=by
 refine(l.pr.be k s).mono ?_;rintro e p ⟨q,rfl,u,v,o⟩
 have w:R≠a:=by have:=l.hR;have:=l.pr.eY;omega
 refine⟨q,rfl,⟨u,l.ej,λx m n=>l.eQ (ar x) m (v m n),l.dY,l.hR,l.aZ.u o (by simpa using w),l.cY.u o (by have:=l.ej;simp;omega),?_⟩,λm t r n y=>⟨n.u o (by have:=l.ej;simp;omega),λl=>l⟩⟩;refine(Ac.of o (S:=λk=>k=a) (λk e=>by cases e;rfl)).aT l.aI (λm n e=>?_);have:=(l.aI.lt m n).1;have:=l.ej;omega
theorem UB.aV{R:Nat}(l:UB d Y R g j J i a h c b f)(X n:Nat)(u:BA)(s:a<X)(o:b.ownBlock≠Bn X):UB d (Y.setCell ⟨X,n,Ax⟩ u) R g j J i a h c b f:=by
 have p:=Ao Y ⟨X,n,Ax⟩ u;have m:Ac (λk=>k=X) Y (Y.setCell ⟨X,n,Ax⟩ u):=Ac.of p (λk e=>by cases e;rfl);have t:=l.ej;have v:=l.hR;have w:=l.dY;refine⟨l.pr.eM m Ω (λo k q e=>?_) (Br l.pr.u p Γ),l.ej,l.eQ,l.dY,l.hR,m.y l.aZ Ω,m.y l.cY Ω,m.aT l.aI (λx r e=>o (e▸r))⟩;have:=l.eQ o k q;omega
theorem UB.iB{R:Nat}(l:UB d Y R g b J i a h c j f)(m:Int):UB d (Y.setCell ⟨a,1,Ax⟩ (O E m)) R g b J i a h m j f:=by
 have o:=Ao Y ⟨a,1,Ax⟩ (O E m);have n:Ac (λk=>k=a) Y (Y.setCell ⟨a,1,Ax⟩ (O E m)):=Ac.of o (λk e=>by cases e;rfl);have t:=l.ej;have u:=l.hR;have v:=l.dY;refine⟨l.pr.eM n Ω (λp k q e=>?_) (Br l.pr.u o Γ),l.ej,l.eQ,l.dY,l.hR,n.y l.aZ Ω,l.cY.setCell 1 _,n.aT l.aI (λr s e=>by have:=(l.aI.lt r s).1;omega)⟩;have:=l.eQ p k q;omega
theorem UB.bK{R:Nat}{v:BA}{es':List Ah}(m:UB l n R g v J i a h c j f)(y:n.grownBy d Ax)(t:d.grownBy Y j.ownBlock)(z:Y.ownsRow (a+1) 237 4 b es'.length (Aw es')):
  UB l (Y.setCell ⟨a,2,Ax⟩ b) R g v J i a h c b es':=by
 have k:=m.bw y;have r:Ac (λk=>j.ownBlock=Bn k) d Y:=Ac.of t (λ_ e=>e)
 have q:∀o,j.ownBlock=Bn o->a<o:=λo p=>by have:=(m.aI.lt o p).1;omega
 have C:=m.ej;have D:=m.dY;have E:=m.hR
 have u:=k.pr.eM r (λe=>by have:=q g e;omega) (λs o p e=>by
  have:=q o e;have:=m.eQ s o p
  omega) (DT k.pr.u k.aI Ω t)
 have w:=Ao Y ⟨a,2,Ax⟩ b;have x:Ac (λk=>k=a) Y (Y.setCell ⟨a,2,Ax⟩ b):=Ac.of w (λk e=>by cases e;rfl);have A:=r.y k.aZ (λe=>by have:=q _ e;omega);have B:=r.y k.cY (λe=>by have:=q _ e;omega);refine⟨u.eM x Ω (λs o p e=>?_) (Br u.u w Γ),m.ej,m.eQ,m.dY,m.hR,x.y A Ω,B.setCell 2 _,Df z _ _ Δ⟩;have:=m.eQ s o p;omega
theorem UB.iw{R:Nat}(k:UB n Y R g j J i a h c b f)(m:Y.grownBy d Ax)(o:d.grownBy l b.ownBlock):Aa l a 160 [O E h,O E c,b]:=
 (k.cY.u m Δ).u o (λe=>by have:=(k.aI.lt a e.symm).1;omega)
def uE(a:List Nat)(b:Int):List Ah:=if EH a b=BD then Ds a (Ch a)else[]
def uD(a:List Nat)(b:Int):Int:=if EH a b=BD then DI a else 0
def uP(a:List Nat)(b:Int):Int:=if EH a b=BD then EP a else 0
def LJ(a:List Nat)(b:Int):Int:=if EH a b=BD then 0 else 5
def Gp(d:List Nat)(f:Int)(w:Bx)(e:Ending)(g:Bx):Prop:=
 ∃a c,e=A7 (BX #[B2 #[O E (uD d f),O E (uP d f),Z a (uE d f).length c],O E (LJ d f)])/\Ag g 4 (Z a (uE d f).length c) (uE d f).length (Aw (uE d f))/\w.grownBy g Ax/\∀b,(Z a (uE d f).length c).ownBlock=Bn b->w.heap.size<=b/\b<g.heap.size
theorem Gp.no(a:EH J h=AA)(c:k=A7 (BX #[B2 #[O E 0,O E 0,Z Ax 0 0],O E 5]))(e:Y.grownBy d Ax):Gp J h Y k d:=by
 unfold Gp uE uD uP LJ;rw[a];simp only[om,if_false];exact⟨Ax,0,c,Ag.nil _ 4,e,λb f=>by simp[B3]at f⟩
theorem Gp.hw{a:Option CB}{c:Nat}(e:EH J h=BD)(f:k=A7 (BX #[B2 #[O E (DI J),O E (EP J),Z a (Ds J (Ch J)).length c],O E 0]))(g:Ag Y 4 (Z a (Ds J (Ch J)).length c) (Ds J (Ch J)).length (Aw (Ds J (Ch J))))(i:d.grownBy Y Ax)(j:∀b,(Z a (Ds J (Ch J)).length c).ownBlock=Bn b->d.heap.size<=b/\b<Y.heap.size):Gp J h d k Y:=by
 unfold Gp uE uD uP LJ;rw[e];simp only[qt];exact⟨a,c,f,g,i,j⟩
theorem db{t:Bool}(a:(h==c)=t):(h !=c)=! t:=by unfold bne;rw[a]
theorem Wv(d:List Nat)(H:Int)(a:Option CB)(c:Nat)(w:Bx)(hx:d.length<=700)(hs:∀x∈d,x<256)(hr:Ag w 1 (Z a d.length c) d.length (Ar d)):
  CE BC 224 #[Z a d.length c,O E H] w (Gp d H w):=by
 obtain⟨i0,hi,a9,ba,bb⟩:=info_parts GM;have aG:=zh hs;have HR:=zh hr;have U:=zh (λo k=>TP hs o k);clear hs hr
 go_enter Tryz.func224,Tryz.ntmps224
 go_wp2_with fail;obtain⟨C,ad⟩:=Af (w.alloc (A4 #[O E 0,O E 0,Z Ax 0 0] 160));have z:Hd (Aa C w.heap.size 160 [O E 0,O E 0,Z Ax 0 0]):=zh (by rw[<-ad];exact Aa.new w _ _);have aH:Hd (w.grownBy C Ax):=zh (by rw[<-ad];exact V _ _ Ax);have aI:Hd (w.heap.size<C.heap.size):=zh z.o.lt;rw[ad];clear ad;refine(Mc d a c C Ω aG.o (HR.o.u aH.o Δ)).mono ?_;rintro e w1 ⟨B,v,rfl,aJ,M,hV,g1⟩;have D:Hd (PR C w1 B v d 0):=zh ⟨by rw[oG];exact aJ,M,hV,g1⟩;have z:=zh (z.o.u g1 Δ);clear aJ M hV g1;go_wp2_with fail;refine(D.o.be 1 rfl).mono ?_;rintro e A ⟨v2,rfl,ae,be,N⟩;have aL:Hd (w.heap.size≠B):=zh (by have:=aI.o;have:=D.o.eY;omega);have z:=zh (z.o.u N (by simpa using aL.o));have D:=zh ae;have au:Hd (B<A.heap.size):=zh ae.rr.y.lt
 have hd:E.wrap (Ci d 0 1:Nat)=DI d:=by
  have:=U.o 0 1;unfold DI;rw[Bk];omega
 have hn:E.wrap (Ci d 1 1:Nat)=(Ch d:Int):=by
  have:=U.o 1 1;unfold Ch;rw[Bk];omega
 have bJ:Ch d<=255:=by
  have:=U.o 1 1;unfold Ch;omega
 have hp:E.wrap (Ci d 2 8:Nat)=EP d:=rfl;have aM:Hd (d.drop (0+1)≠[]->∀b,v2.ownBlock=Bn b->b<A.heap.size):=zh (λbf b hb=>ae.rr.aN.lt (λe=>bf (nm.1 e)) b hb);clear ae be N;go_wp2_with fail;have D:=zh (D.o.bw (V A (A4 #[O E (DI d),O E 0,Z Ax 0 0] 160) Ax));have z:=zh (z.o.alloc (A4 #[O E (DI d),O E 0,Z Ax 0 0] 160));have av:Hd (Aa (A.alloc (A4 #[O E (DI d),O E 0,Z Ax 0 0] 160)) A.heap.size 160 [O E (DI d),O E 0,Z Ax 0 0]):=zh (Aa.new A _ _);obtain⟨w3,aN⟩:=Af (A.alloc (A4 #[O E (DI d),O E 0,Z Ax 0 0] 160));rw[aN]at D z av⊢;have aO:Hd (C.heap.size<=A.heap.size):=zh (by have:=D.o.eY;have:=au.o;omega);have f:Hd (UB C w3 w.heap.size B v2 d (0+1) A.heap.size (DI d) 0 (Z Ax 0 0) []):=zh ⟨D.o,au.o,aM.o,aO.o,aI.o,z.o,av.o,World.ownsRow_nil _ _ _ _⟩;clear aN D z av au aM aL aO;generalize A.heap.size=Q at*;refine(f.o.be 1 rfl).mono ?_;rintro e w4 ⟨v4,rfl,W, -⟩;have f:=zh W;clear W;go_wp2_with fail;refine(f.o.be 8 rfl).mono ?_;rintro e w5 ⟨v5,rfl,ag, -⟩;have b1:=ag.cY.m 1;have f1:=ag.cY.v 1;have f:=zh ag;clear ag;go_wp2_with fail;have f:=zh (show UB C (w5.setCell ⟨Q,1,Ax⟩ (O E (EP d))) w.heap.size B v5 d 10 Q (DI d) (EP d) (Z Ax 0 0) []from f.o.iB (EP d));clear b1 f1
 go_loopw [24] (λi wr=>∃(k:Nat) (v:BA) (F:Option CB) (G:Nat),k<=Ch d/\i=O E k/\UB C wr w.heap.size B v d (10+20*k) Q (DI d) (EP d) (Z F k G) (Ds d k)) (λi _=>Ch d - (intOf i).toNat)
 case atStart=>exact⟨0,v5,Ax,0,Ω,rfl,f.o⟩
 case round=>
  clear f;obtain⟨k,v,F,G,hk,rfl,hu⟩:=hrel;have f:=zh hu;clear hu
  by_cases bk:k<Ch d
  ·have HK:=zh (Xd d k);have HH:=zh (gh d aG.o k);have aS:=zh (U.o (26+20*k) 2);have aT:=zh (U.o (28+20*k) 2);have bM:(k:Int)<(Ch d:Int):=Ω;go_wp2_with fail;refine(f.o.be 8 rfl).mono ?_;rintro e j ⟨v1,rfl,ah, -⟩;obtain⟨u,ax⟩:∃u:Nat,Ci d (10+20*k) 8=u:=⟨_,rfl⟩;have aU:=zh ax;rw[ax];have g:Hd (Aa (j.alloc (A4 #[O A5 u,O E 0,O E 0,O E 0] 237)) j.heap.size 237 [O A5 u,O E 0,O E 0,O E 0]):=zh (Aa.new j _ _);have I:Hd (Q<j.heap.size):=zh ah.cY.lt;have ay:Hd ((Z F k G).ownBlock≠Bn j.heap.size):=zh (λe=>by have:=(ah.aI.lt _ e).2;omega);have f:=zh (ah.bw (V j (A4 #[O A5 u,O E 0,O E 0,O E 0] 237) Ax));clear ah ax;go_wp2_with fail;refine(f.o.be 8 rfl).mono ?_;rintro e x2 ⟨v2,rfl,aW,J⟩;have g:=zh (J _ _ _ g.o I.o).1;have xc:=g.o.m 1;have xf:=g.o.v 1;have f:=zh aW;clear aW J;obtain⟨r2,aA⟩:∃r2:Nat,Ci d (18+20*k) 8=r2:=⟨_,rfl⟩;have bn:=zh aA;rw[show 10+20*k+8=18+20*k by omega,aA];obtain⟨y,aX⟩:∃y:Int,E.wrap (r2:Int)=y:=⟨_,rfl⟩;have bo:=zh aX;go_wp2_with fail;have g:=zh (g.o.setCell 1 (O E y));have f:=zh (f.o.aV j.heap.size 1 (O E y) I.o ay.o);clear xc xf aA aX;refine(f.o.be 2 rfl).mono ?_;rintro e x3 ⟨v3,rfl,aY,J⟩;have g:=zh (J _ _ _ g.o I.o).1;have xc:=g.o.m 2;have xf:=g.o.v 2;have f:=zh aY;clear aY J
   have ak:E.wrap (Ci d (26+20*k) 2:Nat)=(Ci d (26+20*k) 2:Nat):=by
    have:=aS.o;rw[Bk];omega
   obtain⟨t,X⟩:∃t:Nat,Ci d (26+20*k) 2=t:=⟨_,rfl⟩;have bq:=zh X;rw[show 10+20*k+8+8=26+20*k by omega,X];rw[X]at ak
   have aZ:wrap64 (t:Int)=t:=by have:=aS.o;rw[X]at this;unfold wrap64;omega
   go_wp2_with fail;have g:=zh (g.o.setCell 2 (O E t));have f:=zh (f.o.aV j.heap.size 2 (O E t) I.o ay.o);clear xc xf X ak aZ;refine(f.o.be 2 rfl).mono ?_;rintro e P ⟨v4,rfl,W,J⟩;have g:=zh (J _ _ _ g.o I.o).1;have xc:=g.o.m 3;have xf:=g.o.v 3;have f:=zh W;clear W J
   have ak:E.wrap (Ci d (28+20*k) 2:Nat)=(Ci d (28+20*k) 2:Nat):=by
    have:=aT.o;rw[Bk];omega
   obtain⟨l,Y⟩:∃l:Nat,Ci d (28+20*k) 2=l:=⟨_,rfl⟩;have br:=zh Y;rw[show 10+20*k+8+8+2=28+20*k by omega,Y];rw[Y]at ak
   have aZ:wrap64 (l:Int)=l:=by have:=aT.o;rw[Y]at this;unfold wrap64;omega
   have bs:=g.o.m 0;have bt:=g.o.m 1;have bu:=g.o.m 2;have b2:=f.o.cY.m 2
   have bP:¬Q=j.heap.size:=by have:=I.o;omega
   have bQ:¬j.heap.size=Q:=by have:=I.o;omega
   have aa:=zh (f.o.aV j.heap.size 3 (O E l) I.o ay.o)
   have bv:Hd (IG d k=⟨BitVec.ofNat 64 u,y,t,l⟩):=zh (by
    unfold IG
    rw[aU.o,bn.o,bq.o,br.o,bo.o])
   have a0:Hd (Aw (Ds d k)++[O A5 u,O E y,O E t,O E l]=Aw (Ds d (k+1))):=zh (by
    have K:=HH.o
    rw[HK.o,EG,GJ,Ah.cells,K,aU.o,bv.o])
   have bR:k<=255:=Ω
   have a1:Hd (Aa ((P.setCell ⟨j.heap.size,3,Ax⟩ (O E l)).alloc (A4 #[O A5 u,O E y,O E t,O E l] 237)) P.heap.size 237 [O A5 u,O E y,O E t,O E l]):=zh (by
    have h:=Aa.new (P.setCell ⟨j.heap.size,3,Ax⟩ (O E l)) 237 [O A5 u,O E y,O E t,O E l]
    have e:(P.setCell ⟨j.heap.size,3,Ax⟩ (O E l)).heap.size=P.heap.size:=by simp[World.setCell]
    rw[e]at h
    exact h)
   clear Y f g;go_wp2_with (at_builtin;refine NH rfl _ _ 158 rfl (Q+1) 237 i0 (B2 #[O A5 0,O E 0,O E 0,O E 0]) 4 32 kX hi a9 ba bb rfl Ξ (v:=Z F k G) (n:=k) (xs:=Aw (Ds d k)) (sv:=Z (Bn ⟨P.heap.size,0,Ax⟩) 1 1) (m:=1) (news:=[O A5 u,O E y,O E t,O E l]) rfl (by have h:=AV aa.o.aI (V _ (A4 #[O A5 u,O E y,O E t,O E l] 237) Ax);rw[Hk]at h;exact h) rfl (Ag.bq a1.o rfl (by unfold B6;omega)) (by simp[Value.oneCell']) (by unfold B6;omega) Ω (by have:=aa.o.cY.lt;rw[BB];omega) ?_;intro vp wp K h2 h3;rw[a0.o]at K;obtain⟨bw,c1,rfl⟩:=(Ag.ai K).slice;have bz:=zh (aa.o.bK (V _ _ Ax) h2 (es':=Ds d (k+1)) (by rw[Hk];exact K));have aC:=aa.o.iw (V _ _ Ax) h2;have b2:=aC.m 2;have f2:=aC.v 2;clear K h2 h3 aC aa a1 a0 bs bt bu);have hE:=bz.o;rw[show 10+20*k+8+8+2+2=10+20*(k+1) by omega]at hE;exact⟨⟨k+1,v4,bw,c1,Ω,by go_num,hE⟩,by simp[intOf];omega⟩
  ·have bA:k=Ch d:=by omega
   subst bA;have L:Hd (w.grownBy wr Ax):=zh (Ab aH.o f.o.pr.u);clear bk hk;go_wp2_with fail;refine(OT B v _ _ wr f.o.pr.rr).mono ?_;rintro e j ⟨rfl,rfl⟩
   by_cases am:d.length<10+20*Ch d
   ·have ab:Jo d (10+20*Ch d)=BD:=jG am
    have ac:Hd (EH d H=AA):=zh (by
     unfold EH Lw;rw[jH Ω]
     rfl)
    have q:=f.o.aZ.m 0;have r:=f.o.aZ.m 1;have s:=f.o.aZ.m 2;have R:=f.o.aZ.v 0;have S:=f.o.aZ.v 1;have T:=f.o.aZ.v 2;rw[ab];clear ab am;go_wp2_with fail;clear q r s R S T;have p:=((f.o.aZ.setCell 0 (O E 0)).setCell 1 (O E 0)).setCell 2 (Z Ax 0 0);have q:=p.m 0;have r:=p.m 1;have s:=p.m 2;refine A3 (v:=BX #[B2 #[O E 0,O E 0,Z Ax 0 0],O E 5]) (by simp[Bs,go_sem,q,r,s]) rfl (Gp.no ac.o rfl ?_);exact Br (Br (Br L.o (Ao _ _ _) Δ) (Ao _ _ _) Δ) (Ao _ _ _) Δ
   ·have ab:Jo d (10+20*Ch d)=AA:=jH am;rw[ab];clear ab;go_wp2_with fail;refine(Zu B v _ _ wr f.o.pr.rr).mono ?_;rintro e x2 ⟨a2,c2,rfl,o2,N⟩;have f:=zh (f.o.bw N);have L:=zh (Ab L.o N);clear o2 N
    by_cases hm:d.length=10+20*Ch d
    ·have ao:(d.drop (10+20*Ch d)).length=0:=by rw[j0];omega
     rw[ao];have bC:Hd (Lw d=BD):=zh (jG hm);have b0:=f.o.cY.m 0;have b1:=f.o.cY.m 1;have b2:=f.o.cY.m 2;have bE:=zh (Ag.ai f.o.aI);clear ao hm am;go_wp2_with fail;have aD:=zh (Oe (DI d) (EP d) H (Ds d (Ch d)) F G x2 (by have:=bE.o;rw[Hk]at this⊢;exact this));have hl:=Hk d (Ch d);rw[hl]at aD;refine aD.o.mono ?_;rintro e x3 ⟨rfl,g3⟩;have f:=zh (f.o.bw g3);have L:=zh (Ab L.o g3);have q:=f.o.aZ.m 0;have r:=f.o.aZ.m 1;have s:=f.o.aZ.m 2;have R:=f.o.aZ.v 0;have S:=f.o.aZ.v 1;have T:=f.o.aZ.v 2;have b0:=f.o.cY.m 0;have b1:=f.o.cY.m 1;have b2:=f.o.cY.m 2;clear g3 aD hl
     cases M:Cm (DI d) (EP d) H (Ds d (Ch d))
     ·have ac:Hd (EH d H=AA):=zh (by
       unfold EH
       rw[M,pD])
      clear M;go_wp2_with fail;clear q r s R S T;have p:=((f.o.aZ.setCell 0 (O E 0)).setCell 1 (O E 0)).setCell 2 (Z Ax 0 0);have q:=p.m 0;have r:=p.m 1;have s:=p.m 2;refine A3 (v:=BX #[B2 #[O E 0,O E 0,Z Ax 0 0],O E 5]) (by simp[Bs,go_sem,q,r,s]) rfl (Gp.no ac.o rfl ?_);exact Br (Br (Br L.o (Ao _ _ _) Δ) (Ao _ _ _) Δ) (Ao _ _ _) Δ
     ·have bF:Hd (EH d H=BD):=zh (by
       unfold EH;rw[bC.o,M]
       rfl)
      clear M;go_wp2_with fail;clear q r s R S T;have p:=((f.o.aZ.setCell 0 (O E (DI d))).setCell 1 (O E (EP d))).setCell 2 (Z F (Ch d) G);have q:=p.m 0;have r:=p.m 1;have s:=p.m 2;have a5:=(Df (Df (Df f.o.aI ⟨w.heap.size,0,Ax⟩ (O E (DI d)) (by have:=f.o.hR;have:=f.o.dY;simp;omega)) ⟨w.heap.size,1,Ax⟩ (O E (EP d)) (by have:=f.o.hR;have:=f.o.dY;simp;omega)) ⟨w.heap.size,2,Ax⟩ (Z F (Ch d) G) (by have:=f.o.hR;have:=f.o.dY;simp;omega));have a6:=Ag.ai a5;rw[Hk]at a6;refine A3 (v:=BX #[B2 #[O E (DI d),O E (EP d),Z F (Ch d) G],O E 0]) (by simp[Bs,go_sem,q,r,s]) rfl (Gp.hw (a:=F) (c:=G) bF.o (by rw[Hk]) (by rw[Hk];exact a6) ?_ (λb hb=>by rw[Hk]at hb;have K:=a5.lt b hb;have h2:=f.o.hR;have h3:=f.o.dY;exact⟨Ω,K.2⟩));exact Br (Br (Br L.o (Ao _ _ _) Δ) (Ao _ _ _) Δ) (Ao _ _ _) Δ
    ·have ao:(((d.drop (10+20*Ch d)).length:Int)==0)=AA:=by rw[kN,j0];omega
     have ac:Hd (EH d H=AA):=zh (by
      unfold EH Lw;rw[jH hm]
      rfl)
     have bX:=db ao;clear hm;generalize(d.drop (10+20*Ch d)).length=m at*;have q:=f.o.aZ.m 0;have r:=f.o.aZ.m 1;have s:=f.o.aZ.m 2;have R:=f.o.aZ.v 0;have S:=f.o.aZ.v 1;have T:=f.o.aZ.v 2;go_wp2_with fail;clear q r s R S T;have p:=((f.o.aZ.setCell 0 (O E 0)).setCell 1 (O E 0)).setCell 2 (Z Ax 0 0);have q:=p.m 0;have r:=p.m 1;have s:=p.m 2;refine A3 (v:=BX #[B2 #[O E 0,O E 0,Z Ax 0 0],O E 5]) (by simp[Bs,go_sem,q,r,s]) rfl (Gp.no ac.o rfl ?_);exact Br (Br (Br L.o (Ao _ _ _) Δ) (Ao _ _ _) Δ) (Ao _ _ _) Δ
end
