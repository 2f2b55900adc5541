/- Lemmas. -/
import Derived.Test.YtcedibmdelehdaaGreatDoorH20
import Derived.Test.YtcedibmdelehdaaGreatDoorH22
import Derived.Laws.Rows
import Derived.Laws.Tables
import Derived.StillTailTactics
namespace Go.Proofs.YtcedibmdelehdaaGreatDoor
set_option maxRecDepth 100000
set_option maxHeartbeats 32000000
open Go.IntKind renaming i64->E,u64->Bn,wrap_u64->BB,wrap_i64->BC
open Go.Value renaming int->O,slice->Z,bool->A2,pointer->Bk,tuple->B4,agg->B8,ownBlock->CX,func->DA
open Go.World renaming grownBy_alloc->V,size_alloc->BX
open Option renaming none->Ax,some->Bs
open Bool renaming false->AA,true->BD,decide_and->CR
open Decidable renaming decide->A3,em->C6
open Go.Ending renaming returned->A4
open Go renaming bodyPost_ret->Bd,World->BE,results->BL,Value->BR,callsIn_wide->B1,undef->B5,Calls->CA,run_takeDeferred->CB,grownBy_putObj'->CL,maxLen->CV,Addr->C5,belowK_b->C7,Boxed->DX
open Go.Obj renaming cells->Bx,deferred->C2
open Go.Proofs.Tryz renaming prog->BA,ntmps196->B6,func196->B9,ntmps199->C0,func243->C3,func199->C4,f137->D0
open Go.Fence renaming wide->B0
open Go.RowKit.Below renaming refl->B2,trans->C8
open BitVec renaming ofNat->B3
open List renaming range->B7,getD->C1
open Go.RowKit renaming intOf->CE,wrap64->C9,Below->DV
variable{h:List Af}{J d f:Int}{Y:List Nat}{a e l n:BE}{b g i:Nat}{c j:BR}{k:Ending}
section
open Go.RowKit
def CT(d p:Int)(x:Af):Bool:=A3 (0<=x.r/\x.r<=1099511627776/\0<=x.a/\x.a<=65535/\0<=x.s/\x.s<=65535)&&A3 (Ev x.h d=p)
def Kd(a:List Af)(i:Nat):Bool:=A3 (i=0)||A3 (U (a.getD (i - 1) Af.ad).h<U (a.getD i Af.ad).h)
def Hp(d p:Int)(a:List Af)(i:Nat):Bool:=CT d p (a.getD i Af.ad)&&Kd a i
def FF(d p a:Int)(n:Nat):Bool:=A3 (1<=a/\a<=255/\(n:Int)<=a/\0<=d/\d<=8/\0<=p/\p<2^d.toNat)
def BY(d p b:Int)(a:List Af):Bool:=FF d p b a.length&&(B7 a.length).all (Hp d p a)
theorem cu(f:Nat->Bool)(k:Nat)(h:∀i,i<k->f i=BD):(B7 k).all f=BD:=by
 rw[lQ];intro i a;exact h i (lE.1 a)
theorem TO(f:Nat->Bool)(n k:Nat)(a:k<n)(h:f k=AA):(B7 n).all f=AA:=by
 rw[List.all_eq_false];exact⟨k,lE.2 a,by simp[h]⟩
theorem VV{d p a:Int}{b:List Af}(h:¬(1<=a/\a<=255/\(b.length:Int)<=a/\0<=d/\d<=8/\0<=p/\p<2^d.toNat)):BY d p a b=AA:=by
 unfold BY FF;rw[jV h];rfl
theorem aH(k:Nat)(a:k<h.length)(b:Hp J d h k=AA):BY J d f h=AA:=by
 unfold BY;rw[TO _ _ k a b,qb]
theorem jp(d:Nat)(h:d<=8):2^d<=256:=by
 have:2^d<=2^8:=lL Ω h;omega
end
section
open Go.RowKit
theorem LZ(n h:Int)(w:BE):
  CA BA 196 #[O E n,O E h] w λe f=>e=A4 (A2 (A3 (0<=n/\n<=h)))/\w=f:=by
 have g:(n<0/\A3 (0<=n/\n<=h)=AA)\/(0<=n/\¬n<=h/\A3 (0<=n/\n<=h)=AA)\/(0<=n/\n<=h/\A3 (0<=n/\n<=h)=BD):=by
  by_cases b:0<=n
  ·by_cases a:n<=h
   ·exact .inr (.inr ⟨b,a,jT ⟨b,a⟩⟩)
   ·exact .inr (.inl ⟨b,a,jV (λh=>a h.2)⟩)
  ·exact .inl ⟨Ω,jV (λh=>b h.1)⟩
 rcases g with⟨b,a⟩|⟨b,a,c⟩|⟨b,a,c⟩
 ·have H:=zh a;have d:A3 (0<=n)=AA:=jV Ω;clear a b
  go_enter B9,B6
  go_wp2;go_ret;exact⟨by rw[H.o];rfl,rfl⟩
 ·have H:=zh c;have d:A3 (0<=n)=BD:=jT b;have i:A3 (n<=h)=AA:=jV a;clear b a c
  go_enter B9,B6
  go_wp2;go_ret;exact⟨by rw[H.o];rfl,rfl⟩
 ·have H:=zh c;have d:A3 (0<=n)=BD:=jT b;have i:A3 (n<=h)=BD:=jT a;clear b a c
  go_enter B9,B6
  go_wp2;go_ret;exact⟨by rw[H.o];rfl,rfl⟩
def K5(x:Af):Bool:=A3 (0<=x.r/\x.r<=1099511627776/\0<=x.a/\x.a<=65535/\0<=x.s/\x.s<=65535)
theorem im(d p:Int)(x:Af):CT d p x=(K5 x&&A3 (Ev x.h d=p)):=rfl
theorem gu(x:Af):K5 x=(A3 (0<=x.r/\x.r<=1099511627776)&&(A3 (0<=x.a/\x.a<=65535)&&A3 (0<=x.s/\x.s<=65535))):=by
 unfold K5;rw[<-CR, <-CR];exact qF.2 (by constructor<;>intro h<;>omega)
theorem XO(x:Af)(w:BE):
  CA BA 200 #[B8 #[O Bn (U x.h),O E x.r,O E x.a,O E x.s]] w λe f=>e=A4 (A2 (K5 x))/\w.grownBy f Ax:=by
 have H:=zh (gu x);have a:=zh (λW=>LZ x.r 1099511627776 W);have b:=zh (λW=>LZ x.a 65535 W);have c:=zh (λW=>LZ x.s 65535 W);generalize A3 (0<=x.r/\x.r<=1099511627776)=g at*;generalize A3 (0<=x.a/\x.a<=65535)=h at*;generalize A3 (0<=x.s/\x.s<=65535)=i at*
 cases g
 all_goals cases h
 all_goals cases i
 all_goals
  go_enter Tryz.func200,Tryz.ntmps200
  go_wp2_with (first|(go_at_call 196;refine(a.o _).mono ?_;clear a;rintro e d ⟨rfl,rfl⟩)|(go_at_call 196;refine(b.o _).mono ?_;clear b;rintro e d ⟨rfl,rfl⟩)|(go_at_call 196;refine(c.o _).mono ?_;clear c;rintro e d ⟨rfl,rfl⟩));go_ret;exact⟨by rw[H.o];rfl,V _ _ Ax⟩
theorem Xw(B:Nat)(d p:Int)(x:Af)(w:BE)(j:w.cell? ⟨B,0,Ax⟩=Bs (O E d))(k:w.cell? ⟨B,1,Ax⟩=Bs (O E p)):
  CA BA 199 #[B8 #[O Bn (U x.h),O E x.r,O E x.a,O E x.s],Bk (Bs ⟨B,0,Ax⟩)] w λe n=>e=A4 (A2 (! CT d p x))/\w.grownBy n Ax:=by
 have a:=im d p x;have i:=zh (λW=>XO x W);have t:=zh (λW=>Kn x.h d W);obtain⟨o,q⟩:=Ag (w.alloc (Bx #[O Bn (U x.h),O E x.r,O E x.a,O E x.s] 237))
 have b:Aa o w.heap.size 237 [O Bn (U x.h),O E x.r,O E x.a,O E x.s]:=by rw[<-q];exact Aa.new w _ _
 have c:w.grownBy o Ax:=by rw[<-q];exact V _ _ Ax
 have r:=zh c;have u:=AV (b.m 0);have v:=AV (b.m 1);have y:=AV (b.m 2);have z:=AV (b.m 3);have A:=AV (c.cell j Δ);have C:=AV (c.cell k Δ)
 cases f:K5 x
 ·rw[f]at a i;have H:=zh a;clear a f b c j k
  go_enter C4,C0
  go_wp2_with fail;refine CU Φ Φ ?_
  repeat(go_big_quiet_step ((go_at_call 200;exact LO i.o _)))
  refine wpQuiet_nil ?_;rintro _ ⟨g,rfl⟩;have l:=zh (CY g);go_wp2;go_ret;exact⟨by rw[H.o];rfl,Ae r.o l.o⟩
 ·cases m:A3 (Ev x.h d=p)
  all_goals
   rw[f,m]at a;have H:=zh a
   have s:(Ev x.h d !=p)=! A3 (Ev x.h d=p):=by simp[bne];rfl
   rw[m]at s;have D:=zh s;rw[f]at i;clear a m f b c j k
   go_enter C4,C0
   go_wp2_with fail;refine CU Φ Φ ?_
   repeat(go_big_quiet_step (first|(go_at_call 200;exact LO i.o _)|(go_at_call 166;exact LO (λW=>(t.o W).mono (λe n h=>⟨h.1,by rw[<-h.2];exact Bf _ _⟩)) _)))
   refine wpQuiet_nil ?_;rintro _ ⟨g,rfl⟩;have l:=zh (CY g);go_wp2;go_ret;exact⟨by rw[H.o];rfl,Ae r.o l.o⟩
def Fi(d p:Int)(a:List Af):Bool:=a.any λx=>! CT d p x
theorem Sq(b:∀i,i<h.length->CT J d (h.getD i Af.ad)=BD):Fi J d h=AA:=by
 unfold Fi;rw[qr];intro x c;obtain⟨i,a,rfl⟩:=nO.1 c;have:=b i a;rw[lp,jW a,nf]at this;rw[this];simp
theorem Rk{d p:Int}(i:Nat)(a:i<h.length)(b:CT d p (h.getD i Af.ad)=AA):Fi d p h=BD:=by
 unfold Fi;rw[nU];refine⟨h.getD i Af.ad,?_,by rw[b];rfl⟩;rw[lp,jW a,nf];exact mQ a
theorem WC(B:Nat)(d p:Int)(f:List Af)(a:Option C5)(c:Nat)(w:BE)(s:Ai w 4 (Z a f.length c) f.length (Av f))(z:w.cell? ⟨B,0,Ax⟩=Bs (O E d))(A:w.cell? ⟨B,1,Ax⟩=Bs (O E p)):
  CA BA 244 #[Z a f.length c,DA (.func 199) #[] #[Bk (Bs ⟨B,0,Ax⟩)]] w λe K=>∃r:Int,e=A4 (O E r)/\A3 (0<=r)=Fi d p f/\w.grownBy K Ax:=by
 have L:=s.2.1;unfold CV at L;have M:=zh s;have N:=zh z;have P:=zh A;clear s z A
 go_enter Tryz.func244,Tryz.ntmps244
 go_wp2
 go_loopw [8] (λi wr=>∃k:Nat,k<=f.length/\i=O E k/\(∀j,j<k->CT d p (f.getD j Af.ad)=BD)/\w.grownBy wr Ax) (λi _=>f.length - (CE i).toNat)
 case atStart=>exact⟨0,Ω,rfl,λj Q=>Ω,Bf _ _⟩
 case round=>
  obtain⟨k,Y,rfl,C,g⟩:=hrel;have t:=zh g;have D:=zh C;clear C
  by_cases F:k<f.length
  ·obtain⟨b,o,rfl,n⟩:=M.o.aZ Ω;obtain⟨G,H,I,J⟩:=FS f k F;have x0:=g.cell (n _ _ G) Δ;have R:=g.cell (n _ _ H) Δ;have S:=g.cell (n _ _ I) Δ;have T:=g.cell (n _ _ J) Δ;simp only[<-lw]at R S T;have l:=zh (Xw B d p (f.getD k Af.ad) wr (g.cell N.o Δ) (g.cell P.o Δ))
   have u:Hd (CT d p (f.getD k Af.ad)=BD->∀j,j<k+1->CT d p (f.getD j Af.ad)=BD):=zh (λh j Q=>by
    by_cases U:j=k
    ·subst U;exact h
    ·exact D.o j Ω)
   have v:=zh (Rk (d:=d) (p:=p) k F);clear n G H I J g;generalize f.getD k Af.ad=x at*
   cases m:CT d p x
   ·rw[m]at l;have V:=zh (v.o m);clear m v u;go_wp2_with fail;refine l.o.mono ?_;rintro e W ⟨rfl,q⟩;have y:=zh q;clear q l;go_wp2_with fail;go_ret;exact⟨(k:Int),rfl,by rw[V.o];simp,Ae t.o y.o⟩
   ·rw[m]at l;have X:=zh (u.o m);clear m v u;go_wp2_with fail;refine l.o.mono ?_;rintro e W ⟨rfl,q⟩;have y:=zh q;clear q l;go_wp2_with fail
    go_roundw
    case rel=>exact⟨k+1,Ω,by go_num,X.o,Ae t.o y.o⟩
    case measure=>simp[CE];omega
  ·obtain rfl:k=f.length:=by omega
   go_wp2_with fail;go_ret;exact⟨-1,rfl,by rw[Sq D.o];rfl,t.o⟩
theorem U1(B:Nat)(d p:Int)(b:List Af)(a:Option C5)(c:Nat)(w:BE)(f:Ai w 4 (Z a b.length c) b.length (Av b))(g:w.cell? ⟨B,0,Ax⟩=Bs (O E d))(h:w.cell? ⟨B,1,Ax⟩=Bs (O E p)):
  CA BA 198 #[Z a b.length c,DA (.func 199) #[] #[Bk (Bs ⟨B,0,Ax⟩)]] w λe i=>e=A4 (A2 (Fi d p b))/\w.grownBy i Ax:=by
 have j:=zh (WC B d p b a c w f g h);clear f g h
 go_enter Tryz.func198,Tryz.ntmps198
 go_wp2_with fail;refine j.o.mono ?_;rintro e o ⟨r,rfl,f,k⟩;have l:=zh f;clear f
 cases m:A3 (0<=r)
 all_goals
  have n:=zh m;go_wp2_with fail;go_ret;exact⟨by rw[<-l.o,n.o];rfl,k⟩
end
section
open Go.RowKit Go.Shelf
attribute [local go_sem] Oper.semAt_some
def FA(a:List Af)(k:Nat):List (Af×Af):=Cx (λi=>(a.getD i Af.ad,a.getD (i+1) Af.ad)) k
abbrev Ng(p:Af×Af):Array BR:=#[p.1.val,p.2.val]
theorem VI(d p:Int)(b:List Af)(a:Option C5)(c:Nat)(w:BE):
  CA BA 197 #[B8 #[O E d,O E p,Z a b.length c]] w λe f=>e=A4 (DA (.func 243) #[] #[Bk (Bs ⟨w.heap.size,0,Ax⟩)])/\f=w.alloc (Bx #[O E d,O E p,Z a b.length c] 160):=by
 go_enter Tryz.func197,Tryz.ntmps197
 go_wp2;go_ret;exact⟨rfl,rfl⟩
theorem au(n l s t:Nat)(hn:1<=n)(d:List Af)(a:Option C5)(c:Nat)(J Jx:List (Af×Af)->BE->Prop)
  (hJ:∀h A B,J h A->A.grownBy B Ax->J h B)
  (hY:∀h L W,J h W->h.length<d.length - 1->YieldAt B0 (n - 1) BA l (Ng L) W λe q=>
   (e=A4 (A2 BD)/\J (h++[L]) q/\DV t W q)\/(e=A4 (A2 AA)/\Jx (h++[L]) q))
  (W:BE)(hB:W.cell? ⟨s,2,Ax⟩=Bs (Z a d.length c))(hs:s<t)(ae:t<=W.heap.size)(M:Ai W 4 (Z a d.length c) d.length (Av d))(ap:d≠[]->∀b,(Z a d.length c).ownBlock=Bs b->b<t)(h0:J [] W):
  CallsIn B0 n BA 243 #[DA (.yield l) #[] #[],Bk (Bs ⟨s,0,Ax⟩)] W λe q=>(∃v,e=A4 v)/\
   ((∃ys,ys=FA d (d.length - 1)/\J ys q)\/(∃h,(∃k,k<=d.length - 1/\h=FA d k)/\Jx h q)):=by
 have hm:=M.2.1;unfold CV at hm;have HR:=zh M;have HB:=zh hB;clear M hB;refine callsIn_of_wp C3 rfl kI ?_ rfl;simp only[Tryz.ntmps243,kR,kj,kP,Nat.reduceAdd,Nat.reduceSub,kF,kG,kU,kJ,kv,kO];have F:=HB.o
 gi_wp2
 gi_loopw [8] (λi wr=>∃k:Nat,k<=d.length/\i=O E k/\J (FA d (k - 1)) wr/\DV t W wr) (λi _=>d.length - (CE i).toNat)
 case atStart=>exact⟨0,kN _,rfl,h0,B2 _ _⟩
 case round=>
  obtain⟨k,hk,rfl,G,N⟩:=hrel;clear F
  by_cases aw:k<d.length
  ·have P:=HR.o.below N (λax=>ap (λe=>ax (by rw[e];rfl)));have H:=zh N;have F:wr.cell? ⟨s,2,Ax⟩=Bs (Z a d.length c):=(N.cell (p:=⟨s,2,Ax⟩) hs).trans HB.o;obtain⟨b,o,rfl,j⟩:=P.aZ Ω;obtain⟨u,w,z,C⟩:=FS d k aw;have x0:=j _ _ u;have Q:=j _ _ w;have R:=j _ _ z;have S:=j _ _ C;simp only[<-lw]at Q R S;clear u w z C
   cases k with
   |zero=>
    clear j P;simp only[ox,lD]at x0 Q R S;generalize hx:d.getD 0 Af.ad=x at*
    gi_wp2
    refine Kg (λ_=>True) [([0,1,2,3,4,5,6,7,8,9,10,11,12],13,AA)] (show B0.round=Ax from rfl) Φ Φ ?_;refine Fe kI ?_
    repeat((first|(apply Fa rfl (λ_=>rfl) Θ;(· intro wS m;(try have m:=m rfl);(try dsimp only at m);(try subst m);go_simp;(try with_reducible rfl)))|(apply Qc rfl (λ_=>rfl) Θ));(refine Ak ?_))
    refine Fc ?_;refine BW rfl (λK f=>?_);go_simp;refine f _ _ ?_
    first|refine⟨λg=>(by cases g),?_⟩|skip
    clear f K;refine Fu (NoPanic.normal ?_)
    gi_wp2
    go_roundw
    case rel=>exact⟨1,Ω,rfl,hJ _ _ _ G (Ae (V _ _ Ax) (AS _ 1 Ax)),H.o.trans ((Ft (Ae (V wr _ Ax) (AS _ 1 Ax))).mono (j8 ae H.o.size))⟩
    case measure=>simp[CE];omega
   |succ k=>
    obtain⟨u,w,z,C⟩:=FS d k Ω;have y0:=j _ _ u;have T:=j _ _ w;have X:=j _ _ z;have Y:=j _ _ C;simp only[<-lw]at T X Y;have aj:=hJ _ _ ((wr.alloc (Bx #[O Bn (U (d.getD (k+1) Af.ad).h),O E (d.getD (k+1) Af.ad).r,O E (d.getD (k+1) Af.ad).a,O E (d.getD (k+1) Af.ad).s] 237)).drew) G (Ae (V _ _ Ax) (AS _ 1 Ax));obtain⟨fn,aI,aJ,aK,hy,al⟩:=hY (FA d (k+1 - 1)) (d.getD k Af.ad,d.getD (k+1) Af.ad) _ aj (by simp[FA,Cx];omega);dsimp only[Ng,Af.val]at hy;have am:=zh (Kv (λi=>(d.getD i Af.ad,d.getD (i+1) Af.ad)) k);clear u w z C j P G;generalize d.getD (k+1) Af.ad=x at*;generalize d.getD k Af.ad=y at*
    gi_wp2
    obtain⟨W3,D⟩:=Ag ((wr.alloc (Bx #[O Bn (U x.h),O E x.r,O E x.a,O E x.s] 237)).drew)
    have r:wr.grownBy W3 Ax:=by rw[<-D];exact Ae (V _ _ Ax) (AS _ 1 Ax)
    have I:Aa W3 wr.heap.size 237 [O Bn (U x.h),O E x.r,O E x.a,O E x.s]:=by rw[<-D];exact(Aa.new wr _ _).cQ
    have c0:=r.cell F Δ;have z0:=I.m 0;have z1:=I.m 1;have z2:=I.m 2;have z3:=I.m 3;have y0:=r.cell y0 Δ;have T:=r.cell T Δ;have X:=r.cell X Δ;have Y:=r.cell Y Δ;refine Kg (λw'=>w'=W3) [([0,1,2,3,4,5,6,7,8,9,10],11,AA),([],12,AA),([],13,AA)] (show B0.round=Ax from rfl) Φ Φ ?_;rw[D];rw[D]at hy aj al;clear D F x0 Q R S;have aQ:E.wrap (k:Int)=k:=IntWalk.i64_in _ Ω;have aR:k<d.length:=Ω;have aS:(k:Int)<d.length:=Ω;refine Fe rfl ?_
    repeat((first|(apply Fa rfl (λ_=>rfl) Θ;(· intro wS m;(try have m:=m rfl);(try dsimp only at m);(try subst m);go_simp;(try with_reducible rfl)))|(apply Qc rfl (λ_=>rfl) Θ));(refine Ak ?_))
    refine Fc ?_;refine BW rfl (λK f=>?_);go_simp;refine al.mono ?_;rintro e W4 (⟨rfl,aB,aC⟩|⟨rfl,aD⟩)
    ·dsimp only;refine f _ _ ?_
     first|refine⟨λg=>(by cases g),?_⟩|skip
     clear f K;refine Ak ?_;refine Eg ?_;refine BW rfl (λK f=>?_);go_simp;refine f _ _ ?_
     first|refine⟨λg=>(by cases g),?_⟩|skip
     clear f K;refine Ak ?_;refine Eg ?_;refine BW rfl (λK f=>?_);go_simp;refine f _ _ ?_
     first|refine⟨λg=>(by cases g),?_⟩|skip
     clear f K;refine Fu (NoPanic.normal ?_)
     gi_wp2
     go_roundw
     case rel=>exact⟨k+2,Ω,by go_num,by show J (FA d (k+1)) W4;unfold FA;rw[am.o];exact aB,H.o.trans (((Ft r).mono (j8 ae H.o.size)).trans aC)⟩
     case measure=>simp[CE];omega
    ·dsimp only;refine f _ _ ?_
     first|refine⟨λg=>(by cases g),?_⟩|skip
     clear f K;refine Ak ?_;refine Eg ?_;refine BW rfl (λK f=>?_);go_simp;refine f _ _ ?_
     first|refine⟨λg=>(by cases g),?_⟩|skip
     clear f K;refine Ak ?_;refine Eg ?_;refine BW rfl (λK f=>?_);go_simp;refine f _ _ ?_
     first|refine⟨λg=>(by cases g),?_⟩|skip
     clear f K;refine Fu (NoPanic.normal ?_)
     gi_wp2
     refine Bd (results_none rfl _ _ _) rfl ?_;exact⟨⟨_,rfl⟩,.inr ⟨_,⟨k+1,Ω,am.o.symm⟩,aD⟩⟩
  ·obtain rfl:k=d.length:=by omega
   gi_wp2
   go_end0
   exact⟨⟨_,rfl⟩,.inl ⟨_,rfl,G⟩⟩
theorem Vv(n s f:Nat)(j:1<=n)(d:List Af)(a:Option C5)(c:Nat)(w:BE)(m:s<f)(o:f<=w.heap.size)(q:w.cell? ⟨s,2,Ax⟩=Bs (Z a d.length c))(t:Ai w 4 (Z a d.length c) d.length (Av d))(i:d≠[]->∀b,(Z a d.length c).ownBlock=Bs b->b<f):
  SeqStopsK B0 n BA 243 #[Bk (Bs ⟨s,0,Ax⟩)] Ng (DV f) (λu=>u=FA d (d.length - 1)) (λg=>∃k,k<=d.length - 1/\g=FA d k) (d.length - 1) w:=λl J v W h x _ y z=>
 au n l s f j d a c J v (λg A B C D=>x g A B Ax C D (λr e=>by cases e)) y W ((h.cell (p:=⟨s,2,Ax⟩) (by show s<w.heap.size;omega)).trans q) m (j8 o h.size) (t.below h (λE b F=>by have:=i (λe=>E (by rw[e];rfl)) b F;omega)) i z
theorem VK(e:FF J d f h.length=BD)(g:∀q∈FA h (h.length - 1),U q.1.h<U q.2.h):BY J d f h=! Fi J d h:=by
 have j:∀i,i<h.length->Kd h i=BD:=by
  intro i a;unfold Kd
  by_cases k:i=0
  ·rw[jT k];rfl
  ·have:=g (h.getD (i - 1) Af.ad,h.getD i Af.ad) (by
    unfold FA Cx;rw[lP]
    exact⟨i - 1,by rw[lE];omega,by rw[show i - 1+1=i by omega]⟩)
   rw[jT this,pR]
 unfold BY;rw[e,nS]
 cases c:Fi J d h
 ·have:∀i,i<h.length->Hp J d h i=BD:=by
   intro i a;unfold Hp;rw[j i a,qY]
   cases b:CT J d (h.getD i Af.ad)
   ·rw[Rk i a b]at c;cases c
   ·rfl
  rw[cu _ _ this];rfl
 ·have:∃i,i<h.length/\CT J d (h.getD i Af.ad)=AA:=by
   refine lJ λl=>?_
   have:Fi J d h=AA:=Sq (λi a=>by
    cases b:CT J d (h.getD i Af.ad)
    ·exact absurd ⟨i,a,b⟩ l
    ·rfl)
   rw[this]at c
   cases c
  obtain⟨i,a,b⟩:=this
  rw[TO _ _ i a (by unfold Hp;rw[b];rfl)];rfl
theorem V0(g:b<=h.length - 1){q:Af×Af}(a:q∈FA h b)(c:¬U q.1.h<U q.2.h):BY J d f h=AA:=by
 unfold FA Cx at a;rw[lP]at a;obtain⟨i,e,rfl⟩:=a;rw[lE]at e;refine aH (i+1) Ω ?_;unfold Hp Kd;rw[jV Ω,show i+1 - 1=i by omega,jV c,pI,qb]
theorem TW{c:Option Nat}{d:TypeId}{f:List BR}(h:Aa a b d f)(i:a.grownBy e c)(j:∀r,c=Bs r->∃o:Obj,a.heap[r]?=Bs o/\o.isCells=AA):Aa e b d f:=
 h.grown i (λk=>by
  obtain⟨o,g,l⟩:=j b k.symm;rw[show a.heap[b]?=_ from h]at g
  cases g
  cases l)
def Ui(a:List (Af×Af)):Prop:=∀q∈a,U q.1.h<U q.2.h
def Ur(a:List (Af×Af)):Prop:=∃q∈a,¬U q.1.h<U q.2.h
theorem NV(d p i:Int)(f:List Af)(a:Option C5)(c:Nat)(w:BE)(C:Ai w 4 (Z a f.length c) f.length (Av f)):
  CA BA 137 #[B8 #[O E d,O E p,Z a f.length c],O E i] w λe Q=>e=A4 (A2 (BY d p i f))/\w.grownBy Q Ax:=by
 have hm:=C.2.1;unfold CV at hm;have N:=zh (λ(n h:Int) (W:BE)=>LZ n h W);have ai:B0.round=Ax:=rfl
 have aj:∀{b:Bool},BY d p i f=b->A4 (A2 b)=A4 (A2 (BY d p i f)):=λh=>by rw[h]
 have g2:w.grownBy ((w.alloc (Bx #[O E d,O E p,Z a f.length c] 160)).alloc (Bx #[A2 AA] 4)) Ax:=Ae (V _ _ Ax) (V _ _ Ax)
 have al:=λ(h:¬(1<=i/\i<=255/\(f.length:Int)<=i/\0<=d/\d<=8/\0<=p/\p<2^d.toNat))=>aj (@VV d p i f h)
 have F:=zh al;have z:=zh g2;have HR:=zh C;clear aj g2 al C
 by_cases c1:i<1
 ·go_enter oG,og
  go_wp2;refine Bd (v:=A2 AA) (by simp[BL,go_sem]) rfl ?_;exact⟨F.o Ω,z.o⟩
 by_cases c2:255<i
 ·go_enter oG,og
  go_wp2;refine Bd (v:=A2 AA) (by simp[BL,go_sem]) rfl ?_;exact⟨F.o Ω,z.o⟩
 by_cases c3:i<(f.length:Int)
 ·go_enter oG,og
  go_wp2;refine Bd (v:=A2 AA) (by simp[BL,go_sem]) rfl ?_;exact⟨F.o Ω,z.o⟩
 rcases(C6 (0<=d/\d<=8)).symm with P|P
 ·have I:A3 (0<=d/\d<=8)=AA:=jV P
  go_enter oG,og
  go_wp2_with fail;refine(N.o _ _ _).mono ?_;rintro e w1 ⟨rfl,rfl⟩;rw[I];go_wp2;refine Bd (v:=A2 AA) (by simp[BL,go_sem]) rfl ?_;exact⟨F.o Ω,z.o⟩
 have I:A3 (0<=d/\d<=8)=BD:=jT P
 by_cases c5:p<0
 ·have R:A3 (p<0)=BD:=jT c5
  go_enter oG,og
  go_wp2_with fail;refine(N.o _ _ _).mono ?_;rintro e w1 ⟨rfl,rfl⟩;rw[I];go_wp2;refine Bd (v:=A2 AA) (by simp[BL,go_sem]) rfl ?_;exact⟨F.o Ω,z.o⟩
 have R:A3 (p<0)=AA:=jV c5;obtain⟨g,rfl⟩:=kT P.1
 have A:p/2^g=0↔p<2^g:=⟨λh=>by
  have h1:(0:Int)<2^g:=Int.pow_pos Ω;have h2:=Int.lt_ediv_add_one_mul_self p h1;rw[h,Int.zero_add,ql]at h2
  exact h2,λh=>qL Ω h⟩
 rcases(C6 (p/2^g=0)).symm with J|J
 ·have S:(p/2^g !=0)=BD:=by simpa using J
  go_enter oG,og
  go_wp2_with fail;refine(N.o _ _ _).mono ?_;rintro e w1 ⟨rfl,rfl⟩;rw[I];go_wp2;refine Bd (v:=A2 AA) (by simp[BL,go_sem]) rfl ?_;exact⟨F.o (by rw[km];have:=mt A.2 J;omega),z.o⟩
 have S:(p/2^g !=0)=AA:=by simpa using J
 have HQ:=zh (A.1 J);clear A;refine(B1 (n:=20)).1 ?_;refine callsIn_of_wp_marks oG rfl kI ?_ ai;simp only[og,kR,kj,kP,Nat.reduceAdd,Nat.reduceSub,kF,kG,kU,kJ,kv,kO]
 gi_wp2_with (refine⟨kI,?_⟩;first|(gi_at_call 196;refine(B1.2 (N.o _ _ _)).mono ?_;rintro e Q ⟨rfl,rfl⟩;rw[I])|(gi_at_call 197;refine(B1.2 (VI _ _ _ _ _ _)).mono ?_;rintro e Q ⟨rfl,rfl⟩))
 obtain⟨s,B⟩:=Ag (((w.alloc (Bx #[O E g,O E p,Z a f.length c] 160)).alloc (Bx #[A2 AA] 4)).alloc (Bx #[O E g,O E p,Z a f.length c] 160))
 have g0:w.grownBy s Ax:=by rw[<-B];exact Ae z.o (V _ _ Ax)
 have hz:s.heap.size=w.heap.size+3:=by rw[<-B];simp
 have T:Aa s w.heap.size 160 [O E g,O E p,Z a f.length c]:=by
  rw[<-B];exact((Aa.new w _ _).grown (V _ _ Ax) Δ).grown (V _ _ Ax) Δ
 have bR:DX s (w.heap.size+1) 4 (A2 AA):=by
  rw[<-B];have h:=Boxed.new (w.alloc (Bx #[O E g,O E p,Z a f.length c] 160)) 4 (A2 AA);rw[BX]at h;exact h.alloc _
 have bP:Aa s (w.heap.size+1+1) 160 [O E g,O E p,Z a f.length c]:=by
  rw[<-B];have h:=Aa.new ((w.alloc (Bx #[O E g,O E p,Z a f.length c] 160)).alloc (Bx #[A2 AA] 4)) 160 [O E g,O E p,Z a f.length c];simp only[BX]at h;exact h
 rw[B];clear B;have aw:=HR.o.grown g0 Δ;have ax:=Ft g0
 have ay:f≠[]->∀b,(Z a f.length c).ownBlock=Bs b->b<s.heap.size:=λaa b hb=>by
  have:=HR.o.lt (by cases f with|nil=>exact absurd rfl aa|cons x f=>simp[Av,Af.cells]) b hb;omega
 have aK:=zh (Vv 19 (w.heap.size+1+1) s.heap.size Ω f a c s Ω (jS _) (bP.m 2) aw ay);have HZ:=zh hz;have a5:w.heap.size+2<s.heap.size:=Ω;clear hz
 refine wpIn_rangeFunc_ownH ai Ω (gf:=243) (lb:=#[Bk (Bs ⟨w.heap.size+1+1,0,Ax⟩)]) rfl kI (enters_of C3 Φ rfl)
  aK.o belowK_t (C7 (jS _)) (B2 _ _) (λ_=>rfl)
  (λu W=>Ui u/\DV s.heap.size s W)
  (λk u W=>(k=.ret/\Ur u)/\(DX W (w.heap.size+1) 4 (A2 AA)/\DV w.heap.size w W))
  (OwnFrom.and (ownFrom_pure _ _) (ownFrom_below (jS _) (jS _)))
  (λk=>OwnFrom.and (ownFrom_pure _ _) (OwnFrom.and (Own.from (boxed_own _ _ _) _) (ownFrom_below (jS _) Ω)))
  ⟨λq A=>(by cases A),B2 _ _⟩
  (λq a' W=>∃G H,(Aa W G 237 q.1.cells/\Aa W H 237 q.2.cells)/\a'={tmps:=#[B8 #[O E g,O E p,Z a f.length c],O E i,Bk (Bs ⟨w.heap.size,0,Ax⟩),B5,Bk (Bs ⟨w.heap.size+1,0,Ax⟩),Bk (Bs ⟨G,0,Ax⟩),Bk (Bs ⟨H,0,Ax⟩),O E i,A2 AA,A2 AA,O E i,A2 AA,A2 AA,A2 AA,Bk (Bs ⟨w.heap.size,2,Ax⟩),Z a f.length c,O E f.length,O E i,A2 AA,A2 AA,A2 AA,Bk (Bs ⟨w.heap.size,0,Ax⟩),O E g,A2 BD,A2 AA,A2 AA,A2 AA,Bk (Bs ⟨w.heap.size,1,Ax⟩),O E p,A2 AA,A2 AA,A2 AA,Bk (Bs ⟨w.heap.size,1,Ax⟩),O E p,Bk (Bs ⟨w.heap.size,0,Ax⟩),O E g,O E 0,A2 AA,A2 AA,B8 #[O E g,O E p,Z a f.length c],DA (.func 243) #[] #[Bk (Bs ⟨w.heap.size+1+1,0,Ax⟩)],q.1.val,q.2.val,B5,B5,B5,B5,B5,B5,B5,B5,B5,B5],defers:=[]})
  (λq a' _ X Y a6 hs hg C=>by
   obtain⟨G,H,⟨R,S⟩,h7⟩:=hs
   exact⟨G,H,⟨TW R hg (λr e=>(C r e).2),TW S hg (λr e=>(C r e).2)⟩,h7⟩)
  ?assign ?body ?done ?stop
 case assign=>
  rintro l u q W K ⟨L,o⟩ y;dsimp only[Ng,Af.val]
  gi_wp2
  have aA:=o.size;refine y _ _ (((KeepsOthers.alloc _ _).from _).trans ((KeepsOthers.alloc _ _).from _)) (((B2 _ W).alloc aA _).alloc Γ _) ⟨L,(o.alloc aA _).alloc Γ _⟩ ⟨W.heap.size,W.heap.size+1,⟨?_,?_⟩,rfl⟩
  ·exact(Aa.new W _ _).grown (V _ _ Ax) Δ
  ·have h:=Aa.new (W.alloc (Bx #[O Bn (U q.1.h),O E q.1.r,O E q.1.a,O E q.1.s] 237)) 237 q.2.cells;rw[BX]at h;exact h
 case body=>
  rintro l u q a' W hl _ ⟨L,o⟩ ⟨G,H,⟨k5,k6⟩,rfl⟩ a8;have u5:W.cell? ⟨G,0,Ax⟩=Bs (O Bn (U q.1.h)):=k5.m 0;have u6:W.cell? ⟨H,0,Ax⟩=Bs (O Bn (U q.2.h)):=k6.m 0;have t:DX W (w.heap.size+1) 4 (A2 AA):=(o.block _ Ω).trans bR;have r0:=t.cell;have f0:=t.frozen;generalize hu:U q.1.h=y5 at*;generalize hv:U q.2.h=y6 at*
  by_cases aD:y6<=y5
  ·have aQ:A3 (y5≥y6)=BD:=jT aD;have aR:Ur (u++[q]):=⟨q,Δ,by rw[hu,hv];omega⟩
   gi_wp2
   refine⟨KeepsFrom.of_grownBy (An W ⟨w.heap.size+1,0,Ax⟩ _) (λj e=>by cases e;show w.heap.size+1<s.heap.size;omega),⟨rfl,aR⟩,t.set _,?_⟩;exact(C8 ax (o.mono Ω)).setCell (p:=⟨w.heap.size+1,0,Ax⟩) Δ _
  ·have aQ:A3 (y5≥y6)=AA:=jV aD
   have aS:Ui (u++[q]):=λq' aU=>by
    rcases kY.1 aU with h|h
    ·exact L q' h
    ·rw[kH]at h;subst h;rw[hu,hv];omega
   gi_wp2
   exact⟨KeepsFrom.refl _ _,B2 _ _,aS,o⟩
 case done=>
  rintro D ys W hD rfl ⟨L,o⟩ y;have c0:W.cell? ⟨w.heap.size,0,Ax⟩=Bs (O E g):=(T.below o Ω).m 0;have c1:W.cell? ⟨w.heap.size,1,Ax⟩=Bs (O E p):=(T.below o Ω).m 1;have c2:W.cell? ⟨w.heap.size,2,Ax⟩=Bs (Z a f.length c):=(T.below o Ω).m 2;have t:DX W (w.heap.size+1) 4 (A2 AA):=(o.block _ Ω).trans bR;have r0:=t.cell;have f0:=t.frozen;have aX:BY g p i f=! Fi g p f:=VK (by unfold FF;rw[km];exact jT (Ψ HQ.o)) L;have HC:=zh (U1 w.heap.size g p f a c W (aw.below o (λaa=>ay (λe=>aa (by rw[e];rfl)))) c0 c1)
  gi_wp2_with (refine⟨kI,?_⟩;gi_at_call 198;refine(B1.2 HC.o).mono ?_;rintro e w5 ⟨rfl,M⟩;have f5:=(t.kept M Δ).frozen;have r5:=(t.kept M Δ).cell)
  have aZ:w5.heap[D]?=Bs (C2 (Bs [])):=(M.block D (kf.1 y).1 Δ).trans y;have ag:=(KeepsOthers.setCell w5 ⟨w.heap.size+1,0,Ax⟩ (A2 (! Fi g p f))).same D _ aZ rfl;have a0:DX (w5.setCell ⟨w.heap.size+1,0,Ax⟩ (A2 (! Fi g p f))) (w.heap.size+1) 4 (A2 (! Fi g p f)):=(t.kept M Δ).set _;refine⟨Δ,.inl ⟨_,_,rfl,CB ag,?_⟩⟩;have ah:=cell_kept a0.cell (CL _ D (C2 Ax)) (λr e=>by cases e;exact⟨_,ag,rfl⟩);have bc:=o.size;refine⟨A2 (! Fi g p f),?_,by rw[aX],?_⟩
  ·simp[BL,D0,go_sem,ah]
  ·exact Ff ((((C8 ax (o.mono Ω)).trans ((Ft M).mono Ω)).setCell (p:=⟨w.heap.size+1,0,Ax⟩) Δ _).trans (C7 (w:=w) (jS _) _ D _ _ Ω ag rfl rfl))
 case stop=>
  rintro D k u W hD ⟨m,a1,rfl⟩ ⟨⟨rfl,q,A,hn⟩,t,o⟩ y;have bd:BY g p i f=AA:=V0 a1 A hn;have r0:=t.cell
  gi_wp2
  refine⟨Δ,.inl ⟨_,_,rfl,CB y,?_⟩⟩;have ah:=cell_kept r0 (CL W D (C2 Ax)) (λr e=>by cases e;exact⟨_,y,rfl⟩);refine⟨A2 AA,?_,rfl,?_⟩
  ·simp[BL,D0,go_sem,ah]
  ·exact Ff (o.trans (C7 (w:=w) (jS _) W D _ _ Ω y rfl rfl))
end
section
open Go.RowKit
theorem Fw:BY J d f h=BD↔FF J d f h.length=BD/\(∀x∈h,CT J d x=BD)/\h.Pairwise (λx y=>U x.h<U y.h):=by
 have c:∀i,(a:i<h.length)->h.getD i Af.ad=h[i]:=λi a=>by simp[C1,a]
 unfold BY;rw[kh,lQ]
 refine and_congr_right λ_=>⟨λa=>⟨λx o=>?_,?_⟩,λa i b=>?_⟩
 ·obtain⟨i,b,rfl⟩:=nO.1 o;have:=a i (lE.2 b);unfold Hp at this;rw[kh,c i b]at this;exact this.1
 ·rw[mK];intro i j b n p
  have e:∀k,(g:k+1<h.length)->U (h[k]' Ω).h<U h[k+1].h:=by
   intro k g;have:=a (k+1) (lE.2 g);unfold Hp Kd at this;rw[kh,m7,c (k+1) g,show k+1 - 1=k by omega,c k Ω]at this
   rcases this.2 with l|l
   ·have:=kQ l;omega
   ·exact kQ l
  obtain⟨m,rfl⟩:∃m,j=i+1+m:=⟨j - i - 1,Ω⟩;clear p
  induction m with
  |zero=>exact e i n
  |succ m q=>exact Int.lt_trans (q Ω e) (e (i+1+m) n)
 ·rw[lE]at b;unfold Hp Kd;rw[kh,m7,c i b];refine⟨a.1 _ (mQ b),?_⟩
  by_cases r:i=0
  ·exact .inl (jT r)
  ·right
   rw[c (i - 1) Ω];exact jT ((mK.1 a.2) (i - 1) i Ω b Ω)
end
section
open Go.RowKit
def ED(x:Af):List Nat:=((At x.h.toNat 8++At x.r.toNat 8)++At x.a.toNat 2)++At x.s.toNat 2
def Hf(d p:Int)(n:Nat):List Nat:=(At d.toNat 1++At n 1)++At p.toNat 8
def EW(d p:Int)(a:List Af)(k:Nat):List Nat:=Hf d p a.length++(a.take k).flatMap ED
def Ci(d p:Int)(a:List Af):List Nat:=EW d p a a.length
theorem ag(d p:Int)(n:Nat):(Hf d p n).length=10:=by simp[Hf,AI]
theorem aE(x:Af):(ED x).length=20:=by simp[ED,AI]
theorem Kt(d p:Int)(a:List Af):∀k,k<=a.length->(EW d p a k).length=10+20*k
 |0,_=>by simp[EW,ag]
 |k+1,h=>by
  have b:=Kt d p a k Ω;unfold EW at*;rw[jU]at*;rw[Mw a k h,mu,jU];simp only[mh,List.flatMap_nil,lX,aE];omega
theorem XH(d p:Int)(a:List Af):EW d p a 0=Hf d p a.length:=by simp[EW]
theorem W9(d p:Int)(a:List Af)(k:Nat)(h:k<a.length):EW d p a (k+1)=((((EW d p a k++At (a.getD k Af.ad).h.toNat 8)++At (a.getD k Af.ad).r.toNat 8)++At (a.getD k Af.ad).a.toNat 2)++At (a.getD k Af.ad).s.toNat 2):=by
 unfold EW;rw[Mw a k h,mu];simp[ED]
theorem Ws(x:Af):∀y∈ED x,y<256:=by
 intro y a;unfold ED at a;simp only[kY]at a
 rcases a with((a|a)|a)|a
 all_goals exact Ek _ _ y a
theorem NJ(d p:Int)(b:List Af):∀y∈Ci d p b,y<256:=by
 intro y a;unfold Ci EW Hf at a;simp only[kY,oF]at a
 rcases a with((a|a)|a)|⟨x,_,a⟩
 ·exact Ek _ _ y a
 ·exact Ek _ _ y a
 ·exact Ek _ _ y a
 ·exact Ws x y a
theorem Rr(c:BY J d f h=BD):∀k,k<h.length->(0<=(h.getD k Af.ad).r/\(h.getD k Af.ad).r<=1099511627776/\0<=(h.getD k Af.ad).a/\(h.getD k Af.ad).a<=65535/\0<=(h.getD k Af.ad).s/\(h.getD k Af.ad).s<=65535):=by
 intro k b;have a:=(Fw.1 c).2.1 (h.getD k Af.ad) (by rw[lp,jW b,nf];exact mQ b);unfold CT at a;rw[kh]at a;exact kQ a.1
theorem Kj(a:BY J d f h=BD):1<=f/\f<=255/\(h.length:Int)<=f/\0<=J/\J<=8/\0<=d/\d<256:=by
 unfold BY FF at a;rw[kh]at a;have b:=kQ a.1;obtain⟨n,c⟩:=kT (show 0<=J by omega);have e:2^n<=256:=jp n Ω;have g:=b.2.2.2.2.2.2;rw[c,km]at g
 have:d<256:=by
  have:(2:Int)^n<=256:=by exact_mod_cast e
  omega
 omega
theorem Og(d p I:Int)(f:List Af)(a:Option C5)(c:Nat)(w:BE)(hr:Ai w 4 (Z a f.length c) f.length (Av f))(J:BY d p I f=BD):
  CA BA 82 #[B8 #[O E d,O E p,Z a f.length c],O E I] w λe w'=>∃a' c',e=A4 (B4 #[Z a' (Ci d p f).length c',O E 0])/\w'.ownsRow w.heap.size 5 1 (Z a' (Ci d p f).length c') (Ci d p f).length (Ao (Ci d p f))/\w.grownBy w' Ax:=by
 obtain⟨bk,bl,bm,aX,bn,aY,bo⟩:=Kj J;have aZ:=zh (Rr J)
 have P:=λW hW=>NV d p I f a c W hW
 rw[J]at P;have al:=zh P;have Q:=zh hr;clear P hr J;obtain⟨l,rfl⟩:=kT aX;obtain⟨m,rfl⟩:=kT aY;obtain⟨sn,rfl⟩:=kT (show 0<=I by omega)
 have bp:Bn.wrap (l:Int)=l:=by rw[BB];omega
 have bq:Bn.wrap (m:Int)=m:=by rw[BB];omega
 have br:Bn.wrap (f.length:Int)=f.length:=by rw[BB];omega
 have HK:=zh (Kt (l:Int) (m:Int) f);have HN:=zh (W9 (l:Int) (m:Int) f);have HH:=zh (XH (l:Int) (m:Int) f)
 go_enter Tryz.func82,Tryz.ntmps82
 go_wp2_with fail;refine(al.o _ (Q.o.alloc _)).mono ?_;rintro e u ⟨rfl,R⟩;have K:=(Aa.new w 160 [O E l,O E m,Z a f.length c]).grown R Δ;have bs:w.heap.size<u.heap.size:=K.lt;have S:=zh (Ae (V w (Bx #[O E l,O E m,Z a f.length c] 160) Ax) R);have M:=zh K;have b0:=K.m 0;clear K R al;go_wp2_with fail;refine(II _ Ω _).mono ?_;rintro e w2 ⟨rfl,N,g2⟩;rw[ke (show(0:Int)<=10+20*(sn:Int) by omega)]at N;obtain⟨L,hL⟩:∃L:Int,10+20*(sn:Int)=L:=⟨_,rfl⟩;rw[hL]at N;have bt:10+20*(f.length:Int)<=L:=Ω
 have y:PW u w2 u.heap.size (Z Ax 0 0) [] L:=⟨N,λk hk=>by
  rcases hk with h|h
  ·omega
  ·simp[CX]at h,g2⟩
 have T:=zh y;clear N y g2 hL;have b0:=((M.o.grown T.o.grown Δ).m 0);go_wp2_with fail;refine(T.o.a8 l 1 Ω Ξ Γ Δ).mono ?_;rintro e w3 ⟨v3,rfl,F,_⟩;have X:=zh F;clear F T;have b2:=((M.o.grown X.o.grown Δ).m 2);go_wp2_with fail;refine(X.o.a8 f.length 1 Ω Ξ (by simp[AI];omega) (by simp[AI])).mono ?_;rintro e w4 ⟨v4,rfl,G,_⟩;have Y:=zh G;clear G X;have b1:=((M.o.grown Y.o.grown Δ).m 1);go_wp2_with fail;refine(Y.o.a8 m 8 Ω Ξ (by simp[AI];omega) (by simp[AI])).mono ?_;rintro e w5 ⟨v5,rfl,p5,_⟩
 have hh:([]++At l 1++At f.length 1)++At m 8=EW (l:Int) (m:Int) f 0:=by
  rw[HH.o];simp[Hf]
 rw[hh]at p5;have P5:=zh p5;clear p5 Y hh b0 b1 HH;have b2:=((M.o.grown P5.o.grown Δ).m 2);go_wp2;have a5:=Q.o.2.1;unfold CV at a5;clear b2
 go_loopw [36] (λi wr=>∃(k:Nat) (v:BR),k<=f.length/\i=O E k/\PW u wr u.heap.size v (EW (l:Int) (m:Int) f k) L) (λi _=>f.length - (CE i).toNat)
 case atStart=>exact⟨0,_,Ω,rfl,P5.o⟩
 case round=>
  obtain⟨k,v,hk,rfl,y⟩:=hrel;have z:=zh y;have A:=y.grown;clear y
  by_cases ab:k<f.length
  ·obtain⟨b,o,rfl,H⟩:=(Q.o.grown S.o Δ).aZ Ω;obtain⟨e0,e1,e2,e3⟩:=FS f k ab;have t:=A.cell (H _ _ e0) Δ;have q:=A.cell (H _ _ e1) Δ;have r:=A.cell (H _ _ e2) Δ;have s:=A.cell (H _ _ e3) Δ;simp only[<-lw]at q r s;have hn:=HN.o k ab;have bB:=HK.o k Ω;obtain⟨q0,q1,q2,q3,q4,q5⟩:=aZ.o k ab;clear H e0 e1 e2 e3 A;generalize f.getD k Af.ad=x at*;obtain⟨B,ad⟩:=kT q0;obtain⟨C,ae⟩:=kT q2;obtain⟨D,af⟩:=kT q4;have aE:U x.h=(x.h.toNat:Int):=rfl;rw[ad]at q q1;rw[ae]at r q3;rw[af]at s q5;rw[aE]at t;have bC:=x.h.isLt;rw[ad,ae,af,km,km,km]at hn;have ba:=zh hn;generalize bb:EW (l:Int) (m:Int) f k=st at*
   have bE:Bn.wrap (B:Int)=B:=by rw[BB];omega
   have bF:Bn.wrap (C:Int)=C:=by rw[BB];omega
   have bG:Bn.wrap (D:Int)=D:=by rw[BB];omega
   clear q0 q2 q4 ad ae af hn aE bb;go_wp2_with fail;have j:Aa (wr.alloc (Bx #[O Bn (x.h.toNat:Int),O E B,O E C,O E D] 237)) wr.heap.size 237 [O Bn (x.h.toNat:Int),O E B,O E C,O E D]:=Aa.new wr _ _
   have n:¬Dm u.heap.size v wr.heap.size:=λh=>by have:=z.o.wr.lt _ h;omega
   have Q0:=zh (z.o.bq (V wr (Bx #[O Bn (x.h.toNat:Int),O E B,O E C,O E D] 237) Ax));clear t q r s z;refine(Q0.o.a8 x.h.toNat 8 Ω Ξ (by(try simp);omega) (by(try simp[AI]);omega)).mono ?_;rintro e y1 ⟨u1,rfl,p1,k1⟩;obtain⟨aH,aI⟩:=k1 _ _ _ j n;have Q1:=zh p1;clear k1 p1 j n;have j:=aH;have n:=aI;clear aH aI;have t:=j.m 0;have q:=j.m 1;have r:=j.m 2;have s:=j.m 3;go_wp2_with fail;refine(Q1.o.a8 B 8 Ω Ξ (by(try simp[AI]);omega) (by(try simp[AI]);omega)).mono ?_;rintro e y2 ⟨u2,rfl,p2,k2⟩;obtain⟨aL,aM⟩:=k2 _ _ _ j n;have Q2:=zh p2;clear k2 p2 j n;have j:=aL;have n:=aM;clear aL aM;have t:=j.m 0;have q:=j.m 1;have r:=j.m 2;have s:=j.m 3;go_wp2_with fail;refine(Q2.o.a8 C 2 Ω Ξ (by(try simp[AI]);omega) (by(try simp[AI]);omega)).mono ?_;rintro e y3 ⟨u3,rfl,F,k3⟩;obtain⟨aO,aP⟩:=k3 _ _ _ j n;have Q3:=zh F;clear k3 F j n;have j:=aO;have n:=aP;clear aO aP;have t:=j.m 0;have q:=j.m 1;have r:=j.m 2;have s:=j.m 3;go_wp2_with fail;refine(Q3.o.a8 D 2 Ω Ξ (by(try simp[AI]);omega) (by(try simp[AI]);omega)).mono ?_;rintro e y4 ⟨u4,rfl,G,k4⟩;obtain⟨aR,aS⟩:=k4 _ _ _ j n;have Q4:=zh G;clear k4 G j n;have j:=aR;have n:=aS;clear aR aS;have t:=j.m 0;have q:=j.m 1;have r:=j.m 2;have s:=j.m 3;have ag:=Q4.o;rw[<-ba.o]at ag;have Q5:=zh ag;clear ag j n t q r s;go_wp2
   go_roundw
   case rel=>exact⟨k+1,_,Ω,by go_num,Q5.o⟩
   case measure=>simp[CE];omega
  ·obtain rfl:k=f.length:=by omega
   clear A;go_wp2_with fail;refine(Hv _ _ _ _ _ _ z.o.wr).mono ?_;rintro e w6 ⟨a6,c6,rfl,o6,g6⟩;have g:=Ae (Ae S.o z.o.grown) g6;have O6:=zh (BQ o6 (Ae S.o z.o.grown).size);have GG:=zh g;clear o6 g6 g;go_wp2;refine Bd (v:=B4 #[Z a6 (Ci (l:Int) (m:Int) f).length c6,O E 0]) (by simp[BL,Tryz.results82,go_sem,Ci]) rfl ?_;exact⟨a6,c6,rfl,O6.o,GG.o⟩
end
section
open Go.RowKit
def Iq(a:List Nat)(j:Nat):Af:=⟨B3 64 (BV a (10+20*j) 8),E.wrap (BV a (18+20*j) 8:Nat),(BV a (26+20*j) 2:Nat),(BV a (28+20*j) 2:Nat)⟩
def Db(a:List Nat)(k:Nat):List Af:=(B7 k).map (Iq a)
theorem GX(a:List Nat)(k:Nat):(Db a k).length=k:=by simp[Db]
theorem WW(a:List Nat)(k:Nat):Db a (k+1)=Db a k++[Iq a k]:=by simp[Db,List.range_succ]
theorem fX(a:List Nat)(b:∀x∈a,x<256)(j:Nat):U (Iq a j).h=((BV a (10+20*j) 8:Nat):Int):=by
 have h:=Ty b (10+20*j) 8;have e:(256:Nat)^8=2^64:=Ξ;show((B3 64 (BV a (10+20*j) 8)).toNat:Int)=_;rw[pY,ny Ω]
def Dq(a:List Nat):Int:=(BV a 0 1:Nat)
def BS(a:List Nat):Nat:=BV a 1 1
def EM(a:List Nat):Int:=E.wrap (BV a 2 8:Nat)
def K0(a:List Nat):Bool:=A3 (a.length=10+20*BS a)
def EC(a:List Nat)(b:Int):Bool:=K0 a&&BY (Dq a) (EM a) b (Db a (BS a))
theorem IL(a c:List Nat)(n k o:Nat)(b:a.length=o):BV (a++(At n k++c)) o k=n%256^k:=by
 subst b;rw[dT (by simp[AI])];unfold J9;rw[mM (jS _),mY (jS _),kv,nk (by simp[AI]),lF (by simp[AI]),OJ]
theorem eo(d p:Int)(a:List Af)(j:Nat)(h:j<a.length):Ci d p a=(Hf d p a.length++(a.take j).flatMap ED)++(ED (a.getD j Af.ad)++(a.drop (j+1)).flatMap ED)/\(Hf d p a.length++(a.take j).flatMap ED).length=10+20*j:=by
 constructor
 ·unfold Ci EW;rw[mI,ls]
  congr 1
  have b:a=a.take j++(a.getD j Af.ad::a.drop (j+1)):=by
   have c:a.getD j Af.ad=a[j]:=by simp[C1,h]
   rw[c,qN,lh]
  conv=>lhs;rw[b]
  rw[mu,mh]
 ·exact Kt d p a j Ω
theorem XD(A C:List Nat)(x:Af)(j:Nat)(e:A.length=10+20*j)(m:0<=x.r)(n:x.r<=1099511627776)(o:0<=x.a)(p:x.a<=65535)(q:0<=x.s)(r:x.s<=65535):Iq (A++(ED x++C)) j=x:=by
 obtain⟨a,b,c,d⟩:=x;simp only at m n o p q r;have f:(256:Nat)^8=18446744073709551616:=Ξ;have g:(256:Nat)^2=65536:=Ξ;unfold Iq ED;simp only
 have h:BV (A++((((At a.toNat 8++At b.toNat 8)++At c.toNat 2)++At d.toNat 2)++C)) (10+20*j) 8=a.toNat:=by
  rw[show A++((((At a.toNat 8++At b.toNat 8)++At c.toNat 2)++At d.toNat 2)++C)=A++(At a.toNat 8++(At b.toNat 8++At c.toNat 2++At d.toNat 2++C)) by simp,IL _ _ _ _ _ e,f];exact ny a.isLt
 have i:BV (A++((((At a.toNat 8++At b.toNat 8)++At c.toNat 2)++At d.toNat 2)++C)) (18+20*j) 8=b.toNat:=by
  rw[show A++((((At a.toNat 8++At b.toNat 8)++At c.toNat 2)++At d.toNat 2)++C)=(A++At a.toNat 8)++(At b.toNat 8++(At c.toNat 2++At d.toNat 2++C)) by simp,IL _ _ _ _ _ (by rw[jU,e,AI];omega),f];omega
 have k:BV (A++((((At a.toNat 8++At b.toNat 8)++At c.toNat 2)++At d.toNat 2)++C)) (26+20*j) 2=c.toNat:=by
  rw[show A++((((At a.toNat 8++At b.toNat 8)++At c.toNat 2)++At d.toNat 2)++C)=(A++At a.toNat 8++At b.toNat 8)++(At c.toNat 2++(At d.toNat 2++C)) by simp,IL _ _ _ _ _ (by rw[jU,jU,e,AI,AI];omega),g];omega
 have l:BV (A++((((At a.toNat 8++At b.toNat 8)++At c.toNat 2)++At d.toNat 2)++C)) (28+20*j) 2=d.toNat:=by
  rw[show A++((((At a.toNat 8++At b.toNat 8)++At c.toNat 2)++At d.toNat 2)++C)=(A++At a.toNat 8++At b.toNat 8++At c.toNat 2)++(At d.toNat 2++C) by simp,IL _ _ _ _ _ (by rw[jU,jU,jU,e,AI,AI,AI];omega),g];omega
 rw[h,i,k,l,BC];clear h i k l e;have s:B3 64 a.toNat=a:=Δ;have v:((b.toNat:Int)+9223372036854775808)%18446744073709551616 - 9223372036854775808=b:=Ω;have t:((c.toNat:Nat):Int)=c:=Ω;have u:((d.toNat:Nat):Int)=d:=Ω;rw[s,t,u]
 congr 1
theorem Xk(p:Int)(a:0<=p)(b:p<256):E.wrap ((p.toNat%18446744073709551616:Nat):Int)=p:=by
 rw[BC];omega
theorem Zk(p:Int)(a:0<=p)(b:p<256):((p.toNat%256:Nat):Int)=p:=Ω
theorem Xv(p:Nat)(a:p<256):p%256=p:=Ω
theorem Ot(c:BY J d f h=BD):EC (Ci J d h) f=BD/\Dq (Ci J d h)=J/\EM (Ci J d h)=d/\Db (Ci J d h) (BS (Ci J d h))=h:=by
 have e:=Kj c;have p:=Rr c;have q:h.length<256:=Ω
 have g:Ci J d h=At J.toNat 1++(At h.length 1++(At d.toNat 8++h.flatMap ED)):=by
  simp[Ci,EW,Hf]
 have r:(256:Nat)^8=18446744073709551616:=Ξ;have k:(256:Nat)^1=256:=Ξ
 have l:Dq (Ci J d h)=J:=by
  have a:=IL [] (At h.length 1++(At d.toNat 8++h.flatMap ED)) J.toNat 1 0 rfl;rw[kv, <-g]at a;unfold Dq;rw[a,k];exact Zk J e.2.2.2.1 Ω
 have m:BS (Ci J d h)=h.length:=by
  have a:=IL (At J.toNat 1) (At d.toNat 8++h.flatMap ED) h.length 1 1 (AI _ _);rw[<-g]at a;unfold BS;rw[a,k];exact Xv _ q
 have n:EM (Ci J d h)=d:=by
  have a:=IL (At J.toNat 1++At h.length 1) (h.flatMap ED) d.toNat 8 2 (by rw[jU,AI,AI]);rw[ls, <-g]at a;unfold EM;rw[a,r];exact Xk d e.2.2.2.2.2.1 e.2.2.2.2.2.2
 have o:Db (Ci J d h) h.length=h:=by
  refine pE (GX _ _) (λj a i=>?_)
  have s:h.getD j Af.ad=h[j]:=by simp[C1,i]
  have b:=p j i;obtain⟨t,u⟩:=eo J d h j i
  have v:(Db (Ci J d h) h.length)[j]=Iq (Ci J d h) j:=by simp[Db]
  rw[v,t];refine(XD _ _ _ j u b.1 b.2.1 b.2.2.1 b.2.2.2.1 b.2.2.2.2.1 b.2.2.2.2.2).trans s
 rw[m];refine⟨?_,l,n,o⟩;unfold EC K0;rw[l,n,m,o,c,qY];exact jT (Kt J d h h.length (jS _))
theorem ed{e i:Int}{g:List Af}(j:BY J d i h=BD)(k:BY f e i g=BD)(l:Ci J d h=Ci f e g):J=f/\d=e/\h=g:=by
 obtain⟨_,a,b,c⟩:=Ot j;obtain⟨_,m,n,o⟩:=Ot k;rw[l]at a b c;exact⟨a.symm.trans m,b.symm.trans n,c.symm.trans o⟩
end
section
open Go.RowKit
structure UB(a w:BE)(R B:Nat)(v:BR)(c:List Nat)(o:Nat)(Q:Nat)(d p:Int)(e:BR)(f:List Af):Prop where
 pr:PR a w B v c o
 ef:B<Q
 eR:c.drop o≠[]->∀b,v.ownBlock=Bs b->b<Q
 dW:a.heap.size<=Q
 hR:R<a.heap.size
 aS:Aa w R 160 [O E 0,O E 0,Z Ax 0 0]
 cS:Aa w Q 160 [O E d,O E p,e]
 aB:w.ownsRow (Q+1) 237 4 e f.length (Av f)
theorem UB.bq{R:Nat}(f:UB a e R b c Y g i J d j h)(k:e.grownBy l Ax):UB a l R b c Y g i J d j h:=
 ⟨f.pr.bq k,f.ef,f.eR,f.dW,f.hR,f.aS.grown k Δ,f.cS.grown k Δ,AP f.aB k⟩
theorem UB.a8{R:Nat}(f:UB e a R b j Y g i J d c h)(k:Nat)(s:E7 k=BD):
  CA BA 184 #[Bk (Bs ⟨b,0,Ax⟩),O E k] a λm p=>∃q,m=A4 (O Bn ((BV Y g k:Nat):Int))/\UB e p R b q Y (g+k) i J d c h/\∀l t r,Aa a l t r->i<l->Aa p l t r/\(c.ownBlock≠Bs l->c.ownBlock≠Bs l):=by
 refine(f.pr.a8 k s).mono ?_;rintro m p ⟨q,rfl,u,v,o⟩
 have w:R≠b:=by have:=f.hR;have:=f.pr.fp;omega
 refine⟨q,rfl,⟨u,f.ef,λx l n=>f.eR (Z5 x) l (v l n),f.dW,f.hR,f.aS.grown o (by simpa using w),f.cS.grown o (by have:=f.ef;simp;omega),?_⟩,λl t r n y=>⟨n.grown o (by have:=f.ef;simp;omega),λf=>f⟩⟩;refine(Ac.of o (S:=λk=>k=b) (λk m=>by cases m;rfl)).aL f.aB (λl n m=>?_);have:=(f.aB.lt l n).1;have:=f.ef;omega
theorem UB.aR{R:Nat}(f:UB e a R g j Y i b J d c h)(X n:Nat)(u:BR)(s:b<X)(o:c.ownBlock≠Bs X):UB e (a.setCell ⟨X,n,Ax⟩ u) R g j Y i b J d c h:=by
 have p:=An a ⟨X,n,Ax⟩ u;have l:Ac (λk=>k=X) a (a.setCell ⟨X,n,Ax⟩ u):=Ac.of p (λk m=>by cases m;rfl);have t:=f.ef;have v:=f.hR;have w:=f.dW;refine⟨f.pr.eM l Ω (λo k q m=>?_) (BN f.pr.grown p Γ),f.ef,f.eR,f.dW,f.hR,l.u f.aS Ω,l.u f.cS Ω,l.aL f.aB (λx r m=>o (m▸r))⟩;have:=f.eR o k q;omega
theorem UB.iQ{R:Nat}(f:UB e a R g c Y i b J d j h)(l:Int):UB e (a.setCell ⟨b,1,Ax⟩ (O E l)) R g c Y i b J l j h:=by
 have o:=An a ⟨b,1,Ax⟩ (O E l);have m:Ac (λk=>k=b) a (a.setCell ⟨b,1,Ax⟩ (O E l)):=Ac.of o (λk n=>by cases n;rfl);have t:=f.ef;have u:=f.hR;have v:=f.dW;refine⟨f.pr.eM m Ω (λp k q n=>?_) (BN f.pr.grown o Γ),f.ef,f.eR,f.dW,f.hR,m.u f.aS Ω,f.cS.setCell 1 _,m.aL f.aB (λr s n=>by have:=(f.aB.lt r s).1;omega)⟩;have:=f.eR p k q;omega
theorem UB.cG{R:Nat}{v:BR}{es':List Af}(m:UB l n R g v Y i b J d j h)(y:n.grownBy e Ax)(t:e.grownBy a j.ownBlock)(z:a.ownsRow (b+1) 237 4 c es'.length (Av es')):
  UB l (a.setCell ⟨b,2,Ax⟩ c) R g v Y i b J d c es':=by
 have k:=m.bq y;have r:Ac (λk=>j.ownBlock=Bs k) e a:=Ac.of t (λ_ f=>f)
 have q:∀o,j.ownBlock=Bs o->b<o:=λo p=>by have:=(m.aB.lt o p).1;omega
 have C:=m.ef;have D:=m.dW;have E:=m.hR
 have u:=k.pr.eM r (λf=>by have:=q g f;omega) (λs o p f=>by
  have:=q o f;have:=m.eR s o p
  omega) (Gt k.pr.grown k.aB Ω t)
 have w:=An a ⟨b,2,Ax⟩ c;have x:Ac (λk=>k=b) a (a.setCell ⟨b,2,Ax⟩ c):=Ac.of w (λk f=>by cases f;rfl);have A:=r.u k.aS (λf=>by have:=q _ f;omega);have B:=r.u k.cS (λf=>by have:=q _ f;omega);refine⟨u.eM x Ω (λs o p f=>?_) (BN u.grown w Γ),m.ef,m.eR,m.dW,m.hR,x.u A Ω,B.setCell 2 _,CI z _ _ Δ⟩;have:=m.eR s o p;omega
theorem UB.iM{R:Nat}(f:UB n a R g j Y i b J d c h)(k:a.grownBy e Ax)(m:e.grownBy l c.ownBlock):Aa l b 160 [O E J,O E d,c]:=
 (f.cS.grown k Δ).grown m (λo=>by have:=(f.aB.lt b o.symm).1;omega)
def uE(a:List Nat)(b:Int):List Af:=if EC a b=BD then Db a (BS a)else[]
def uD(a:List Nat)(b:Int):Int:=if EC a b=BD then Dq a else 0
def uP(a:List Nat)(b:Int):Int:=if EC a b=BD then EM a else 0
def Lh(a:List Nat)(b:Int):Int:=if EC a b=BD then 0 else 5
def Gc(d:List Nat)(f:Int)(w:BE)(e:Ending)(g:BE):Prop:=
 ∃a c,e=A4 (B4 #[B8 #[O E (uD d f),O E (uP d f),Z a (uE d f).length c],O E (Lh d f)])/\Ai g 4 (Z a (uE d f).length c) (uE d f).length (Av (uE d f))/\w.grownBy g Ax/\∀b,(Z a (uE d f).length c).ownBlock=Bs b->w.heap.size<=b/\b<g.heap.size
theorem Gc.no(h:EC Y J=AA)(c:k=A4 (B4 #[B8 #[O E 0,O E 0,Z Ax 0 0],O E 5]))(d:a.grownBy e Ax):Gc Y J a k e:=by
 unfold Gc uE uD uP Lh;rw[h];simp only[pd,if_false];exact⟨Ax,0,c,Ai.nil _ 4,d,λb f=>by simp[CX]at f⟩
theorem Gc.hL{d:BE}{a:Option C5}{c:Nat}(h:EC Y J=BD)(f:k=A4 (B4 #[B8 #[O E (Dq Y),O E (EM Y),Z a (Db Y (BS Y)).length c],O E 0]))(g:Ai d 4 (Z a (Db Y (BS Y)).length c) (Db Y (BS Y)).length (Av (Db Y (BS Y))))(i:e.grownBy d Ax)(j:∀b,(Z a (Db Y (BS Y)).length c).ownBlock=Bs b->e.heap.size<=b/\b<d.heap.size):Gc Y J e k d:=by
 unfold Gc uE uD uP Lh;rw[h];simp only[qW];exact⟨a,c,f,g,i,j⟩
theorem cL{t:Bool}(h:(J==d)=t):(J !=d)=! t:=by unfold bne;rw[h]
theorem Wr(d:List Nat)(H:Int)(a:Option C5)(c:Nat)(w:BE)(hx:d.length<=700)(hs:∀x∈d,x<256)(hr:Ai w 1 (Z a d.length c) d.length (Ao d)):
  CA BA 224 #[Z a d.length c,O E H] w (Gc d H w):=by
 obtain⟨i0,hi,a9,ba,bb⟩:=info_parts Gy;have aG:=zh hs;have HR:=zh hr;have U:=zh (λo k=>Ty hs o k);clear hs hr
 go_enter Tryz.func224,Tryz.ntmps224
 go_wp2_with fail;obtain⟨C,ad⟩:=Ag (w.alloc (Bx #[O E 0,O E 0,Z Ax 0 0] 160));have z:Hd (Aa C w.heap.size 160 [O E 0,O E 0,Z Ax 0 0]):=zh (by rw[<-ad];exact Aa.new w _ _);have aH:Hd (w.grownBy C Ax):=zh (by rw[<-ad];exact V _ _ Ax);have aI:Hd (w.heap.size<C.heap.size):=zh z.o.lt;rw[ad];clear ad;refine(LH d a c C Ω aG.o (HR.o.grown aH.o Δ)).mono ?_;rintro e w1 ⟨B,v,rfl,aJ,M,hV,g1⟩;have D:Hd (PR C w1 B v d 0):=zh ⟨by rw[ot];exact aJ,M,hV,g1⟩;have z:=zh (z.o.grown g1 Δ);clear aJ M hV g1;go_wp2_with fail;refine(D.o.a8 1 rfl).mono ?_;rintro e A ⟨v2,rfl,ae,be,N⟩;have aL:Hd (w.heap.size≠B):=zh (by have:=aI.o;have:=D.o.fp;omega);have z:=zh (z.o.grown N (by simpa using aL.o));have D:=zh ae;have au:Hd (B<A.heap.size):=zh ae.rr.u.lt
 have hd:E.wrap (BV d 0 1:Nat)=Dq d:=by
  have:=U.o 0 1;unfold Dq;rw[BC];omega
 have hn:E.wrap (BV d 1 1:Nat)=(BS d:Int):=by
  have:=U.o 1 1;unfold BS;rw[BC];omega
 have bJ:BS d<=255:=by
  have:=U.o 1 1;unfold BS;omega
 have hp:E.wrap (BV d 2 8:Nat)=EM d:=rfl;have aM:Hd (d.drop (0+1)≠[]->∀b,v2.ownBlock=Bs b->b<A.heap.size):=zh (λbf b hb=>ae.rr.aP.lt (λe=>bf (nT.1 e)) b hb);clear ae be N;go_wp2_with fail;have D:=zh (D.o.bq (V A (Bx #[O E (Dq d),O E 0,Z Ax 0 0] 160) Ax));have z:=zh (z.o.alloc (Bx #[O E (Dq d),O E 0,Z Ax 0 0] 160));have av:Hd (Aa (A.alloc (Bx #[O E (Dq d),O E 0,Z Ax 0 0] 160)) A.heap.size 160 [O E (Dq d),O E 0,Z Ax 0 0]):=zh (Aa.new A _ _);obtain⟨w3,aN⟩:=Ag (A.alloc (Bx #[O E (Dq d),O E 0,Z Ax 0 0] 160));rw[aN]at D z av⊢;have aO:Hd (C.heap.size<=A.heap.size):=zh (by have:=D.o.fp;have:=au.o;omega);have f:Hd (UB C w3 w.heap.size B v2 d (0+1) A.heap.size (Dq d) 0 (Z Ax 0 0) []):=zh ⟨D.o,au.o,aM.o,aO.o,aI.o,z.o,av.o,World.ownsRow_nil _ _ _ _⟩;clear aN D z av au aM aL aO;generalize A.heap.size=Q at*;refine(f.o.a8 1 rfl).mono ?_;rintro e w4 ⟨v4,rfl,W, -⟩;have f:=zh W;clear W;go_wp2_with fail;refine(f.o.a8 8 rfl).mono ?_;rintro e w5 ⟨v5,rfl,ag, -⟩;have b1:=ag.cS.m 1;have f1:=ag.cS.v 1;have f:=zh ag;clear ag;go_wp2_with fail;have f:=zh (show UB C (w5.setCell ⟨Q,1,Ax⟩ (O E (EM d))) w.heap.size B v5 d 10 Q (Dq d) (EM d) (Z Ax 0 0) []from f.o.iQ (EM d));clear b1 f1
 go_loopw [24] (λi wr=>∃(k:Nat) (v:BR) (F:Option C5) (G:Nat),k<=BS d/\i=O E k/\UB C wr w.heap.size B v d (10+20*k) Q (Dq d) (EM d) (Z F k G) (Db d k)) (λi _=>BS d - (CE i).toNat)
 case atStart=>exact⟨0,v5,Ax,0,Ω,rfl,f.o⟩
 case round=>
  clear f;obtain⟨k,v,F,G,hk,rfl,hu⟩:=hrel;have f:=zh hu;clear hu
  by_cases bk:k<BS d
  ·have HK:=zh (WW d k);have HH:=zh (fX d aG.o k);have aS:=zh (U.o (26+20*k) 2);have aT:=zh (U.o (28+20*k) 2);have bM:(k:Int)<(BS d:Int):=Ω;go_wp2_with fail;refine(f.o.a8 8 rfl).mono ?_;rintro e j ⟨v1,rfl,ah, -⟩;obtain⟨u,ax⟩:∃u:Nat,BV d (10+20*k) 8=u:=⟨_,rfl⟩;have aU:=zh ax;rw[ax];have g:Hd (Aa (j.alloc (Bx #[O Bn u,O E 0,O E 0,O E 0] 237)) j.heap.size 237 [O Bn u,O E 0,O E 0,O E 0]):=zh (Aa.new j _ _);have I:Hd (Q<j.heap.size):=zh ah.cS.lt;have ay:Hd ((Z F k G).ownBlock≠Bs j.heap.size):=zh (λe=>by have:=(ah.aB.lt _ e).2;omega);have f:=zh (ah.bq (V j (Bx #[O Bn u,O E 0,O E 0,O E 0] 237) Ax));clear ah ax;go_wp2_with fail;refine(f.o.a8 8 rfl).mono ?_;rintro e x2 ⟨v2,rfl,aW,J⟩;have g:=zh (J _ _ _ g.o I.o).1;have xc:=g.o.m 1;have xf:=g.o.v 1;have f:=zh aW;clear aW J;obtain⟨r2,aA⟩:∃r2:Nat,BV d (18+20*k) 8=r2:=⟨_,rfl⟩;have bn:=zh aA;rw[show 10+20*k+8=18+20*k by omega,aA];obtain⟨y,aX⟩:∃y:Int,E.wrap (r2:Int)=y:=⟨_,rfl⟩;have bo:=zh aX;go_wp2_with fail;have g:=zh (g.o.setCell 1 (O E y));have f:=zh (f.o.aR j.heap.size 1 (O E y) I.o ay.o);clear xc xf aA aX;refine(f.o.a8 2 rfl).mono ?_;rintro e x3 ⟨v3,rfl,aY,J⟩;have g:=zh (J _ _ _ g.o I.o).1;have xc:=g.o.m 2;have xf:=g.o.v 2;have f:=zh aY;clear aY J
   have ak:E.wrap (BV d (26+20*k) 2:Nat)=(BV d (26+20*k) 2:Nat):=by
    have:=aS.o;rw[BC];omega
   obtain⟨t,X⟩:∃t:Nat,BV d (26+20*k) 2=t:=⟨_,rfl⟩;have bq:=zh X;rw[show 10+20*k+8+8=26+20*k by omega,X];rw[X]at ak
   have aZ:C9 (t:Int)=t:=by have:=aS.o;rw[X]at this;unfold C9;omega
   go_wp2_with fail;have g:=zh (g.o.setCell 2 (O E t));have f:=zh (f.o.aR j.heap.size 2 (O E t) I.o ay.o);clear xc xf X ak aZ;refine(f.o.a8 2 rfl).mono ?_;rintro e P ⟨v4,rfl,W,J⟩;have g:=zh (J _ _ _ g.o I.o).1;have xc:=g.o.m 3;have xf:=g.o.v 3;have f:=zh W;clear W J
   have ak:E.wrap (BV d (28+20*k) 2:Nat)=(BV d (28+20*k) 2:Nat):=by
    have:=aT.o;rw[BC];omega
   obtain⟨l,Y⟩:∃l:Nat,BV d (28+20*k) 2=l:=⟨_,rfl⟩;have br:=zh Y;rw[show 10+20*k+8+8+2=28+20*k by omega,Y];rw[Y]at ak
   have aZ:C9 (l:Int)=l:=by have:=aT.o;rw[Y]at this;unfold C9;omega
   have bs:=g.o.m 0;have bt:=g.o.m 1;have bu:=g.o.m 2;have b2:=f.o.cS.m 2
   have bP:¬Q=j.heap.size:=by have:=I.o;omega
   have bQ:¬j.heap.size=Q:=by have:=I.o;omega
   have aa:=zh (f.o.aR j.heap.size 3 (O E l) I.o ay.o)
   have bv:Hd (Iq d k=⟨B3 64 u,y,t,l⟩):=zh (by
    unfold Iq
    rw[aU.o,bn.o,bq.o,br.o,bo.o])
   have a0:Hd (Av (Db d k)++[O Bn u,O E y,O E t,O E l]=Av (Db d (k+1))):=zh (by
    have K:=HH.o
    rw[HK.o,Ex,Gw,Af.cells,K,aU.o,bv.o])
   have bR:k<=255:=Ω
   have a1:Hd (Aa ((P.setCell ⟨j.heap.size,3,Ax⟩ (O E l)).alloc (Bx #[O Bn u,O E y,O E t,O E l] 237)) P.heap.size 237 [O Bn u,O E y,O E t,O E l]):=zh (by
    have h:=Aa.new (P.setCell ⟨j.heap.size,3,Ax⟩ (O E l)) 237 [O Bn u,O E y,O E t,O E l]
    have e:(P.setCell ⟨j.heap.size,3,Ax⟩ (O E l)).heap.size=P.heap.size:=by simp[World.setCell]
    rw[e]at h
    exact h)
   clear Y f g;go_wp2_with (at_builtin;refine Lw rfl _ _ 158 rfl (Q+1) 237 i0 (B8 #[O Bn 0,O E 0,O E 0,O E 0]) 4 32 lG hi a9 ba bb rfl Ξ (v:=Z F k G) (n:=k) (xs:=Av (Db d k)) (sv:=Z (Bs ⟨P.heap.size,0,Ax⟩) 1 1) (m:=1) (news:=[O Bn u,O E y,O E t,O E l]) rfl (by have h:=AP aa.o.aB (V _ (Bx #[O Bn u,O E y,O E t,O E l] 237) Ax);rw[GX]at h;exact h) rfl (Ai.bn a1.o rfl (by unfold CV;omega)) (by simp[Value.oneCell']) (by unfold CV;omega) Ω (by have:=aa.o.cS.lt;rw[BX];omega) ?_;intro vp wp K h2 h3;rw[a0.o]at K;obtain⟨bw,c1,rfl⟩:=(Ai.aj K).slice;have bz:=zh (aa.o.cG (V _ _ Ax) h2 (es':=Db d (k+1)) (by rw[GX];exact K));have aC:=aa.o.iM (V _ _ Ax) h2;have b2:=aC.m 2;have f2:=aC.v 2;clear K h2 h3 aC aa a1 a0 bs bt bu);have hE:=bz.o;rw[show 10+20*k+8+8+2+2=10+20*(k+1) by omega]at hE;exact⟨⟨k+1,v4,bw,c1,Ω,by go_num,hE⟩,by simp[CE];omega⟩
  ·have bA:k=BS d:=by omega
   subst bA;have L:Hd (w.grownBy wr Ax):=zh (Ae aH.o f.o.pr.grown);clear bk hk;go_wp2_with fail;refine(ON B v _ _ wr f.o.pr.rr).mono ?_;rintro e j ⟨rfl,rfl⟩
   by_cases am:d.length<10+20*BS d
   ·have ab:Jc d (10+20*BS d)=BD:=jT am
    have ac:Hd (EC d H=AA):=zh (by
     unfold EC K0;rw[jV Ω]
     rfl)
    have q:=f.o.aS.m 0;have r:=f.o.aS.m 1;have s:=f.o.aS.m 2;have R:=f.o.aS.v 0;have S:=f.o.aS.v 1;have T:=f.o.aS.v 2;rw[ab];clear ab am;go_wp2_with fail;clear q r s R S T;have p:=((f.o.aS.setCell 0 (O E 0)).setCell 1 (O E 0)).setCell 2 (Z Ax 0 0);have q:=p.m 0;have r:=p.m 1;have s:=p.m 2;refine Bd (v:=B4 #[B8 #[O E 0,O E 0,Z Ax 0 0],O E 5]) (by simp[BL,go_sem,q,r,s]) rfl (Gc.no ac.o rfl ?_);exact BN (BN (BN L.o (An _ _ _) Δ) (An _ _ _) Δ) (An _ _ _) Δ
   ·have ab:Jc d (10+20*BS d)=AA:=jV am;rw[ab];clear ab;go_wp2_with fail;refine(Zj B v _ _ wr f.o.pr.rr).mono ?_;rintro e x2 ⟨a2,c2,rfl,o2,N⟩;have f:=zh (f.o.bq N);have L:=zh (Ae L.o N);clear o2 N
    by_cases hm:d.length=10+20*BS d
    ·have ao:(d.drop (10+20*BS d)).length=0:=by rw[kK];omega
     rw[ao];have bC:Hd (K0 d=BD):=zh (jT hm);have b0:=f.o.cS.m 0;have b1:=f.o.cS.m 1;have b2:=f.o.cS.m 2;have bE:=zh (Ai.aj f.o.aB);clear ao hm am;go_wp2_with fail;have aD:=zh (NV (Dq d) (EM d) H (Db d (BS d)) F G x2 (by have:=bE.o;rw[GX]at this⊢;exact this));have hl:=GX d (BS d);rw[hl]at aD;refine aD.o.mono ?_;rintro e x3 ⟨rfl,g3⟩;have f:=zh (f.o.bq g3);have L:=zh (Ae L.o g3);have q:=f.o.aS.m 0;have r:=f.o.aS.m 1;have s:=f.o.aS.m 2;have R:=f.o.aS.v 0;have S:=f.o.aS.v 1;have T:=f.o.aS.v 2;have b0:=f.o.cS.m 0;have b1:=f.o.cS.m 1;have b2:=f.o.cS.m 2;clear g3 aD hl
     cases M:BY (Dq d) (EM d) H (Db d (BS d))
     ·have ac:Hd (EC d H=AA):=zh (by
       unfold EC
       rw[M,qb])
      clear M;go_wp2_with fail;clear q r s R S T;have p:=((f.o.aS.setCell 0 (O E 0)).setCell 1 (O E 0)).setCell 2 (Z Ax 0 0);have q:=p.m 0;have r:=p.m 1;have s:=p.m 2;refine Bd (v:=B4 #[B8 #[O E 0,O E 0,Z Ax 0 0],O E 5]) (by simp[BL,go_sem,q,r,s]) rfl (Gc.no ac.o rfl ?_);exact BN (BN (BN L.o (An _ _ _) Δ) (An _ _ _) Δ) (An _ _ _) Δ
     ·have bF:Hd (EC d H=BD):=zh (by
       unfold EC;rw[bC.o,M]
       rfl)
      clear M;go_wp2_with fail;clear q r s R S T;have p:=((f.o.aS.setCell 0 (O E (Dq d))).setCell 1 (O E (EM d))).setCell 2 (Z F (BS d) G);have q:=p.m 0;have r:=p.m 1;have s:=p.m 2;have a5:=(CI (CI (CI f.o.aB ⟨w.heap.size,0,Ax⟩ (O E (Dq d)) (by have:=f.o.hR;have:=f.o.dW;simp;omega)) ⟨w.heap.size,1,Ax⟩ (O E (EM d)) (by have:=f.o.hR;have:=f.o.dW;simp;omega)) ⟨w.heap.size,2,Ax⟩ (Z F (BS d) G) (by have:=f.o.hR;have:=f.o.dW;simp;omega));have a6:=Ai.aj a5;rw[GX]at a6;refine Bd (v:=B4 #[B8 #[O E (Dq d),O E (EM d),Z F (BS d) G],O E 0]) (by simp[BL,go_sem,q,r,s]) rfl (Gc.hL (a:=F) (c:=G) bF.o (by rw[GX]) (by rw[GX];exact a6) ?_ (λb hb=>by rw[GX]at hb;have K:=a5.lt b hb;have h2:=f.o.hR;have h3:=f.o.dW;exact⟨Ω,K.2⟩));exact BN (BN (BN L.o (An _ _ _) Δ) (An _ _ _) Δ) (An _ _ _) Δ
    ·have ao:(((d.drop (10+20*BS d)).length:Int)==0)=AA:=by rw[lu,kK];omega
     have ac:Hd (EC d H=AA):=zh (by
      unfold EC K0;rw[jV hm]
      rfl)
     have bX:=cL ao;clear hm;generalize(d.drop (10+20*BS d)).length=m at*;have q:=f.o.aS.m 0;have r:=f.o.aS.m 1;have s:=f.o.aS.m 2;have R:=f.o.aS.v 0;have S:=f.o.aS.v 1;have T:=f.o.aS.v 2;go_wp2_with fail;clear q r s R S T;have p:=((f.o.aS.setCell 0 (O E 0)).setCell 1 (O E 0)).setCell 2 (Z Ax 0 0);have q:=p.m 0;have r:=p.m 1;have s:=p.m 2;refine Bd (v:=B4 #[B8 #[O E 0,O E 0,Z Ax 0 0],O E 5]) (by simp[BL,go_sem,q,r,s]) rfl (Gc.no ac.o rfl ?_);exact BN (BN (BN L.o (An _ _ _) Δ) (An _ _ _) Δ) (An _ _ _) Δ
end
