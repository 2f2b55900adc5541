/- Lemmas. -/
import Derived.Test.YtcedibmdelehdaaGreatDoorH20
namespace Go.Proofs.YtcedibmdelehdaaGreatDoor
set_option maxRecDepth 100000
set_option maxHeartbeats 32000000
open Go.Value renaming int->E,slice->A4,pointer->Bd,bool->BL
open Go.World renaming grownBy_alloc->J
open Go.IntKind renaming i64->O,u64->A2
open Option renaming none->V,some->Bn
open Go.Proofs.Tryz renaming prog->Ax,ntmps227->Bx,func227->BA
open Go.Ending renaming returned->AA
open Decidable renaming decide->A3
open Go.RowKit renaming intOf->Bk
open Go.Obj renaming cells->Bs
open Bool renaming false->BB,true->BR
open Go renaming wpQuiet_nil->BC,World->BD,Calls->BE
section
open Go.RowKit
def BI(x y:Int):Int:=if x<y then -1 else if y<x then 1 else 0
theorem Qz(x y:Int)(w:BD):BE Ax 235 #[E O x,E O y] w λe b=>e=AA (E O (BI x y))/\w=b:=by
 have d:(x !=x)=BB:=Δ;have f:(y !=y)=BB:=Δ
 rcases Int.lt_trichotomy x y with h|h|h
 ·have a:BI x y= -1:=by unfold BI;rw[ke h]
  rw[a];clear a
  go_enter pu,oU
  go_wp2;go_ret;exact⟨rfl,rfl⟩
 ·subst h
  have a:BI x x=0:=by unfold BI;rw[j7 Ω,j7 Ω]
  rw[a];have c:¬x<x:=Ω;clear a
  go_enter pu,oU
  go_wp2;go_ret;exact⟨rfl,rfl⟩
 ·have a:BI x y=1:=by unfold BI;rw[j7 Ω,ke h]
  rw[a];have c:¬x<y:=Ω;clear a
  go_enter pu,oU
  go_wp2;go_ret;exact⟨rfl,rfl⟩
theorem V8(x y:Int)(w:BD):BE Ax 227 #[E A2 x,E A2 y] w λe b=>e=AA (E O (BI x y))/\w=b:=by
 have d:(x !=x)=BB:=Δ;have f:(y !=y)=BB:=Δ
 rcases Int.lt_trichotomy x y with h|h|h
 ·have a:BI x y= -1:=by unfold BI;rw[ke h]
  rw[a];clear a
  go_enter BA,Bx
  go_wp2;go_ret;exact⟨rfl,rfl⟩
 ·subst h
  have a:BI x x=0:=by unfold BI;rw[j7 Ω,j7 Ω]
  rw[a];have c:¬x<x:=Ω;clear a
  go_enter BA,Bx
  go_wp2;go_ret;exact⟨rfl,rfl⟩
 ·have a:BI x y=1:=by unfold BI;rw[j7 Ω,ke h]
  rw[a];have c:¬x<y:=Ω;clear a
  go_enter BA,Bx
  go_wp2;go_ret;exact⟨rfl,rfl⟩
def Gr(p q:Int):Int:=if p≠0 then p else q
theorem iE(p q:Int)(b c:Nat)(w:BD)(k:w.cell? ⟨b,0,V⟩=Bn (E O p))(l:w.cell? ⟨b,1,V⟩=Bn (E O q)):
  BE Ax 234 #[A4 (Bn ⟨b,0,V⟩) 2 c] w λe h=>e=AA (E O (Gr p q))/\w=h:=by
 by_cases d:p=0
 ·subst d
  by_cases f:q=0
  ·subst f
   go_enter pw,oV
   go_wp2
   go_loop [8] (λi=>∃j:Nat,j<=2/\i=E O j) (λi=>2 - (Bk i).toNat)
   case atStart=>exact⟨0,Ω,rfl⟩
   case round=>
    obtain⟨j,g,rfl⟩:=hrel
    rcases(show j=0\/j=1\/j=2 by omega)with rfl|rfl|rfl
    ·go_wp2
     go_round
     case rel=>exact⟨1,Ω,by go_num⟩
     case measure=>simp[Bk]
    ·go_wp2
     go_round
     case rel=>exact⟨2,Ω,by go_num⟩
     case measure=>simp[Bk]
    ·go_wp2;go_ret;exact⟨rfl,rfl⟩
  ·have a:Gr 0 q=q:=by unfold Gr;rw[j7 Ω]
   have m:(q !=0)=BR:=by simp[f]
   rw[a];clear a
   go_enter pw,oV
   go_wp2
   go_loop [8] (λi=>∃j:Nat,j<=1/\i=E O j) (λi=>2 - (Bk i).toNat)
   case atStart=>exact⟨0,Ω,rfl⟩
   case round=>
    obtain⟨j,g,rfl⟩:=hrel
    rcases(show j=0\/j=1 by omega)with rfl|rfl
    ·go_wp2
     go_round
     case rel=>exact⟨1,Ω,by go_num⟩
     case measure=>simp[Bk]
    ·go_wp2;go_ret;exact⟨rfl,rfl⟩
 ·have a:Gr p q=p:=by unfold Gr;rw[ke d]
  have n:(p !=0)=BR:=by simp[d]
  rw[a];clear a
  go_enter pw,oV
  go_wp2
  go_loop [8] (λi=>∃j:Nat,j<=0/\i=E O j) (λi=>2 - (Bk i).toNat)
  case atStart=>exact⟨0,Ω,rfl⟩
  case round=>
   obtain⟨j,g,rfl⟩:=hrel;obtain rfl:j=0:=Ω;go_wp2;go_ret;exact⟨rfl,rfl⟩
end
section
open Go.RowKit
attribute [local go_sem ↓] Go.wp_at_zero Go.wp_at_succ
structure Ef(a:List Af)(h:Int)(i:Nat):Prop where
 le:i<=a.length
 lo:∀m,m<i->U (a.getD m Af.ad).h<h
 hi:∀m,i<=m->m<a.length->h<=U (a.getD m Af.ad).h
def AW(a:List Af)(h:Int)(i:Nat):Bool:=A3 (i<a.length)&&A3 (U (a.getD i Af.ad).h=h)
theorem Rc(x:Af)(h:Int)(W:BD):BE Ax 226 #[x.val,E A2 h] W λe a=>e=AA (E O (BI (U x.h) h))/\W.grownBy a V:=by
 unfold Af.val;generalize U x.h=b
 go_enter Tryz.func226,Tryz.ntmps226
 go_wp2_with fail;refine(V8 _ _ _).mono ?_;rintro e a ⟨rfl,rfl⟩;go_wp2_with fail;go_ret;exact⟨rfl,J _ _ V⟩
theorem XW(d:List Af)(h:Int)(a:Option Addr)(c:Nat)(w:BD)(hx:d.length<=300)(L:d.Pairwise (λx y=>U x.h<U y.h))(M:Ai w 4 (A4 a d.length c) d.length (Av d)):
  BE Ax 225 #[A4 a d.length c,E A2 h,.func (.func 226) #[] #[]] w λe w'=>∃i,e=AA (.tuple #[E O (i:Nat),BL (AW d h i)])/\Ef d h i/\w.grownBy w' V:=by
 have N:=zh M
 have P:Hd (∀i j,i<=j->j<d.length->U (d.getD i Af.ad).h<=U (d.getD j Af.ad).h):=zh (λi j Q D=>by
  rcases Nat.eq_or_lt_of_le Q with rfl|h
  ·exact qS _
  ·have:=(mK.1 L) i j Ω D h;simp only[List.getD,jW (show i<d.length by omega),jW D,nf]
   omega)
 clear M L
 go_enter Tryz.func225,Tryz.ntmps225
 go_wp2_with fail
 go_loopw [9,10] (λp q wr=>∃i j:Nat,i<=j/\j<=d.length/\p=E O i/\q=E O j/\(∀m,m<i->U (d.getD m Af.ad).h<h)/\(∀m,j<=m->m<d.length->h<=U (d.getD m Af.ad).h)/\w.grownBy wr V) (λp q _=>(Bk q).toNat - (Bk p).toNat)
 case atStart=>exact⟨0,d.length,Ω,jS _,rfl,rfl,λm hm=>Ω,λm F h2=>Ω,Bf _ _⟩
 case round=>
  obtain⟨i,j,Q,D,rfl,rfl,R,S,f⟩:=hrel;have T:=zh R;have W:=zh S;clear R S
  by_cases al:i<j
  ·have ad:(i:Int)<(j:Int):=by omega
   obtain⟨b,o,rfl,g⟩:=N.o.aZ Ω
   have am:O.wrap ((i:Int)+j)=((i+j:Nat):Int):=by rw[IntWalk.i64_in _ ⟨Ω,Ω⟩];omega
   have an:A2.wrap ((i+j:Nat):Int)=((i+j:Nat):Int):=by rw[IntKind.wrap_u64];omega
   obtain⟨m,hm⟩:=Ag ((i+j)/2);have ao:i<=m:=Ω;have ap:m<j:=Ω;obtain⟨u,v,z,A⟩:=FS d m Ω;have B:=f.cell (g _ _ u) Δ;have k:=f.cell (g _ _ v) Δ;have l:=f.cell (g _ _ z) Δ;have n:=f.cell (g _ _ A) Δ;simp only[<-lw]at k l n;have aq:(m:Int)<(d.length:Int):=Ω;obtain⟨x,s⟩:=Ag (d.getD m Af.ad);rw[s]at B k l n;have X:=zh s;have r:=zh f;clear s g u v z A f;go_wp2_with fail;refine(Rc x h _).mono ?_;rintro e w1 ⟨rfl,C⟩;have G:=zh (Ae r.o C);clear C r B k l n
   rcases(show(BI (U x.h) h= -1/\U x.h<h)\/(BI (U x.h) h=0/\U x.h=h)\/(BI (U x.h) h=1/\h<U x.h) by unfold BI;split<;>(try split)<;>simp<;>omega)with⟨t,H⟩|⟨t,H⟩|⟨t,H⟩
   ·rw[t];clear t
    have af:Hd (∀q,q<m+1->U (d.getD q Af.ad).h<h):=zh (λq Y=>by
     have F:=P.o q m Ω Ω;rw[X.o]at F
     omega)
    clear H;go_wp2_with fail;exact⟨⟨m+1,j,Ω,Ω,by congr 1;omega,rfl,af.o,W.o,G.o⟩,by simp[Bk];omega⟩
   all_goals
    rw[t];clear t
    have ag:Hd (∀q,m<=q->q<d.length->h<=U (d.getD q Af.ad).h):=zh (λq Y ah=>by
     have F:=P.o m q Y ah;rw[X.o]at F
     omega)
    clear H;go_wp2_with fail;exact⟨⟨i,m,Ω,Ω,rfl,by congr 1;omega,T.o,ag.o,G.o⟩,by simp[Bk];omega⟩
  ·obtain rfl:i=j:=by omega
   have ad:¬(i:Int)<(i:Int):=Ω;have Z:Hd (Ef d h i):=zh ⟨D,T.o,W.o⟩
   by_cases J:i<d.length
   ·have ai:(i:Int)<(d.length:Int):=by omega
    obtain⟨b,o,rfl,g⟩:=N.o.aZ Ω;obtain⟨u,v,z,A⟩:=FS d i J;have B:=f.cell (g _ _ u) Δ;have k:=f.cell (g _ _ v) Δ;have l:=f.cell (g _ _ z) Δ;have n:=f.cell (g _ _ A) Δ;simp only[<-lw]at k l n
    have K:AW d h i=A3 (U (d.getD i Af.ad).h=h):=by unfold AW;rw[jT J,nS]
    obtain⟨x,s⟩:=Ag (d.getD i Af.ad);rw[s]at B k l n K;have r:=zh f;have I:=zh K;clear s g u v z A f K;go_wp2_with fail;refine(Rc x h _).mono ?_;rintro e w1 ⟨rfl,C⟩;have G:=zh (Ae r.o C);clear C r B k l n
    have aa:A3 (U x.h=h)=A3 (BI (U x.h) h=0):=by
     rw[qF];unfold BI
     split<;>(try split)<;>simp<;>omega
    rw[aa]at I;clear aa;go_wp2_with fail
    go_ret2
    exact⟨i,by rw[I.o];rfl,Z.o,G.o⟩
   ·have ai:¬(i:Int)<(d.length:Int):=by omega
    have I:Hd (AW d h i=BB):=zh (by unfold AW;rw[jV J];rfl);have r:=zh f;clear f;go_wp2_with fail
    go_ret2
    exact⟨i,by rw[I.o];rfl,Z.o,r.o⟩
theorem Od(d p:Int)(b:List Af)(h:Int)(a:Option Addr)(c:Nat)(w:BD)(m:b.length<=300)(f:b.Pairwise (λx y=>U x.h<U y.h))(g:Ai w 4 (A4 a b.length c) b.length (Av b)):
  BE Ax 168 #[.agg #[E O d,E O p,A4 a b.length c],E A2 h] w λe n=>∃i,e=AA (.tuple #[E O (i:Nat),BL (AW b h i)])/\Ef b h i/\w.grownBy n V:=by
 have o:=zh (XW b h a c _ m f (g.alloc (Bs #[E O d,E O p,A4 a b.length c] 160)));clear f g
 go_enter Tryz.func168,Tryz.ntmps168
 go_wp2_with fail;refine o.o.mono ?_;rintro e q ⟨i,rfl,j,k⟩;have l:=zh (show Ef b h i/\w.grownBy q V from⟨j,Ae (J _ _ V) k⟩);clear j k;go_wp2_with fail
 go_ret2
 exact⟨i,rfl,l.o.1,l.o.2⟩
end
section
open Go.RowKit
theorem el(r b a c:Int):A3 (Gr (BI r b) (BI a c)<0)=A3 (r<b\/(r=b/\a<c)):=by
 congr 1
 unfold Gr BI;rw[eq_iff_iff]
 repeat' split
 all_goals omega
theorem Xz(r t a u:Int)(h s F G:Value)(n m:Int)(d:BD)(L:h=E A2 n)(M:F=E A2 m)(N:∃z,s=E O z)(P:∃z,G=E O z):
  BE Ax 241 #[.agg #[h,E O r,E O a,s],.agg #[F,E O t,E O u,G]] d λe y=>e=AA (BL (A3 (Gr (BI r t) (BI a u)<0)))/\d.grownBy y V:=by
 subst L M;obtain⟨z,rfl⟩:=N;obtain⟨A,rfl⟩:=P
 go_enter Tryz.func241,Tryz.ntmps241
 go_wp2_with fail;have D:=(Aa.new d 237 [E A2 n,E O r,E O a,E O z]).alloc (Bs #[E A2 m,E O t,E O u,E O A] 237);have B:=Aa.new (d.alloc (Bs #[E A2 n,E O r,E O a,E O z] 237)) 237 [E A2 m,E O t,E O u,E O A];rw[World.size_alloc]at B;have f:=D.m 1;have g:=D.m 2;have i:=B.m 1;have k:=B.m 2;have H:d.grownBy ((d.alloc (Bs #[E A2 n,E O r,E O a,E O z] 237)).alloc (Bs #[E A2 m,E O t,E O u,E O A] 237)) V:=Ae (J _ _ V) (J _ _ V);clear D B;obtain⟨w,I⟩:=Ag ((d.alloc (Bs #[E A2 n,E O r,E O a,E O z] 237)).alloc (Bs #[E A2 m,E O t,E O u,E O A] 237));rw[I]at f g i k H⊢;clear I
 refine U2 (λj v W=>match j with
   |0=>v=Bd (Bn ⟨d.heap.size,1,V⟩)
   |1=>v=Bd (Bn ⟨d.heap.size,1,V⟩)
   |2=>v=E O r
   |3=>v=Bd (Bn ⟨d.heap.size+1,1,V⟩)
   |4=>v=Bd (Bn ⟨d.heap.size+1,1,V⟩)
   |5=>v=E O t
   |6=>v=E O (BI r t)
   |7=>v=Bd (Bn ⟨d.heap.size,1,V⟩)
   |8=>v=Bd (Bn ⟨d.heap.size,2,V⟩)
   |9=>v=E O a
   |10=>v=Bd (Bn ⟨d.heap.size+1,1,V⟩)
   |11=>v=Bd (Bn ⟨d.heap.size+1,2,V⟩)
   |12=>v=E O u
   |13=>v=E O (BI a u)
   |14=>∃b,v=A4 (Bn ⟨b,0,V⟩) 2 2/\Aa W b 3 [E O (BI r t),E O (BI a u)]
   |15=>v=E O (Gr (BI r t) (BI a u))
   |16=>v=BL (A3 (Gr (BI r t) (BI a u)<0))
   |17=>v=BL (A3 (Gr (BI r t) (BI a u)<0))
   |_=>True) [0,1,3,0,8,24,63,0,128,384,0,1024,3072,8191,16383,32767,65535,131071] [[],[0],[1],[],[3],[4],[2,5],[],[7],[8],[],[10],[11],[9,12],[6,13],[14],[15],[16]] Φ Φ ?xst ?xobs ?xend
 case xst=>
  intro j v W S Q h
  match j,h with
  |0,h=>exact h
  |1,h=>exact h
  |2,h=>exact h
  |3,h=>exact h
  |4,h=>exact h
  |5,h=>exact h
  |6,h=>exact h
  |7,h=>exact h
  |8,h=>exact h
  |9,h=>exact h
  |10,h=>exact h
  |11,h=>exact h
  |12,h=>exact h
  |13,h=>exact h
  |14,h=>obtain⟨b,C,R⟩:=h;exact⟨b,C,R.grown Q Δ⟩
  |15,h=>exact h
  |16,h=>exact h
  |17,h=>exact h
  |(n+18),_=>trivial
 case xobs=>
  refine DU (λW c=>?_) (DU (λW c=>?_) (DU (λW c=>?_) (DU (λW c=>?_) (DU (λW c=>?_) (DU (λW c=>?_) (DU (λW c=>?_) (DU (λW c=>?_) (DU (λW c=>?_) (DU (λW c=>?_) (DU (λW c=>?_) (DU (λW c=>?_) (DU (λW c=>?_) (DU (λW c=>?_) (DU (λW c=>?_) (DU (λW c=>?_) (DU (λW c=>?_) (DU (λW c=>?_) (VU))))))))))))))))))
  case _=>
   have l:=c.cell f Δ;have o:=c.cell g Δ;have p:=c.cell i Δ;have q:=c.cell k Δ
   (repeat(refine DI rfl (λv h=>?_);(try dsimp only at h);(try subst h)))
   refine DJ ?_
   (refine Ak ?_)
   refine Fg rfl Θ (v:=_) ?_ ⟨Bf _ _,c,rfl⟩;go_simp
   (try with_reducible rfl)
  case _=>
   have l:=c.cell f Δ;have o:=c.cell g Δ;have p:=c.cell i Δ;have q:=c.cell k Δ
   (repeat(refine DI rfl (λv h=>?_);(try dsimp only at h);(try subst h)))
   refine DJ ?_
   (refine Ak ?_)
   refine Fg rfl Θ (v:=_) ?_ ⟨Bf _ _,c,rfl⟩;go_simp
   (try with_reducible rfl)
  case _=>
   have l:=c.cell f Δ;have o:=c.cell g Δ;have p:=c.cell i Δ;have q:=c.cell k Δ
   (repeat(refine DI rfl (λv h=>?_);(try dsimp only at h);(try subst h)))
   refine DJ ?_
   (refine Ak ?_)
   refine Fg rfl Θ (v:=_) ?_ ⟨Bf _ _,c,rfl⟩;go_simp
   (try with_reducible rfl)
  case _=>
   have l:=c.cell f Δ;have o:=c.cell g Δ;have p:=c.cell i Δ;have q:=c.cell k Δ
   (repeat(refine DI rfl (λv h=>?_);(try dsimp only at h);(try subst h)))
   refine DJ ?_
   (refine Ak ?_)
   refine Fg rfl Θ (v:=_) ?_ ⟨Bf _ _,c,rfl⟩;go_simp
   (try with_reducible rfl)
  case _=>
   have l:=c.cell f Δ;have o:=c.cell g Δ;have p:=c.cell i Δ;have q:=c.cell k Δ
   (repeat(refine DI rfl (λv h=>?_);(try dsimp only at h);(try subst h)))
   refine DJ ?_
   (refine Ak ?_)
   refine Fg rfl Θ (v:=_) ?_ ⟨Bf _ _,c,rfl⟩;go_simp
   (try with_reducible rfl)
  case _=>
   have l:=c.cell f Δ;have o:=c.cell g Δ;have p:=c.cell i Δ;have q:=c.cell k Δ
   (repeat(refine DI rfl (λv h=>?_);(try dsimp only at h);(try subst h)))
   refine DJ ?_
   (refine Ak ?_)
   refine Fg rfl Θ (v:=_) ?_ ⟨Bf _ _,c,rfl⟩;go_simp
   (try with_reducible rfl)
  case _=>
   (repeat(refine DI rfl (λv h=>?_);(try dsimp only at h);(try subst h)))
   refine DJ ?_
   (refine Ak ?_)
   refine Al ?_;intro K x;refine(Qz _ _ _).mono ?_;rintro e y ⟨rfl,rfl⟩;exact x _ _ ⟨_,rfl,(Bf _ _),Ae c (Bf _ _),rfl⟩
  case _=>
   have l:=c.cell f Δ;have o:=c.cell g Δ;have p:=c.cell i Δ;have q:=c.cell k Δ
   (repeat(refine DI rfl (λv h=>?_);(try dsimp only at h);(try subst h)))
   refine DJ ?_
   (refine Ak ?_)
   refine Fg rfl Θ (v:=_) ?_ ⟨Bf _ _,c,rfl⟩;go_simp
   (try with_reducible rfl)
  case _=>
   have l:=c.cell f Δ;have o:=c.cell g Δ;have p:=c.cell i Δ;have q:=c.cell k Δ
   (repeat(refine DI rfl (λv h=>?_);(try dsimp only at h);(try subst h)))
   refine DJ ?_
   (refine Ak ?_)
   refine Fg rfl Θ (v:=_) ?_ ⟨Bf _ _,c,rfl⟩;go_simp
   (try with_reducible rfl)
  case _=>
   have l:=c.cell f Δ;have o:=c.cell g Δ;have p:=c.cell i Δ;have q:=c.cell k Δ
   (repeat(refine DI rfl (λv h=>?_);(try dsimp only at h);(try subst h)))
   refine DJ ?_
   (refine Ak ?_)
   refine Fg rfl Θ (v:=_) ?_ ⟨Bf _ _,c,rfl⟩;go_simp
   (try with_reducible rfl)
  case _=>
   have l:=c.cell f Δ;have o:=c.cell g Δ;have p:=c.cell i Δ;have q:=c.cell k Δ
   (repeat(refine DI rfl (λv h=>?_);(try dsimp only at h);(try subst h)))
   refine DJ ?_
   (refine Ak ?_)
   refine Fg rfl Θ (v:=_) ?_ ⟨Bf _ _,c,rfl⟩;go_simp
   (try with_reducible rfl)
  case _=>
   have l:=c.cell f Δ;have o:=c.cell g Δ;have p:=c.cell i Δ;have q:=c.cell k Δ
   (repeat(refine DI rfl (λv h=>?_);(try dsimp only at h);(try subst h)))
   refine DJ ?_
   (refine Ak ?_)
   refine Fg rfl Θ (v:=_) ?_ ⟨Bf _ _,c,rfl⟩;go_simp
   (try with_reducible rfl)
  case _=>
   have l:=c.cell f Δ;have o:=c.cell g Δ;have p:=c.cell i Δ;have q:=c.cell k Δ
   (repeat(refine DI rfl (λv h=>?_);(try dsimp only at h);(try subst h)))
   refine DJ ?_
   (refine Ak ?_)
   refine Fg rfl Θ (v:=_) ?_ ⟨Bf _ _,c,rfl⟩;go_simp
   (try with_reducible rfl)
  case _=>
   (repeat(refine DI rfl (λv h=>?_);(try dsimp only at h);(try subst h)))
   refine DJ ?_
   (refine Ak ?_)
   refine Al ?_;intro K x;refine(Qz _ _ _).mono ?_;rintro e y ⟨rfl,rfl⟩;exact x _ _ ⟨_,rfl,(Bf _ _),Ae c (Bf _ _),rfl⟩
  case _=>
   (repeat(refine DI rfl (λv h=>?_);(try dsimp only at h);(try subst h)))
   refine DJ ?_
   (refine Ak ?_)
   refine Al ?_;intro K x;exact x _ _ ⟨_,rfl,J _ _ V,Ae c (J _ _ V),⟨_,rfl,Aa.new W _ _⟩⟩
  case _=>
   refine DI rfl (λv h=>?_);obtain⟨b,rfl,C⟩:=h;refine DJ ?_
   (refine Ak ?_)
   refine Al ?_;intro K x;refine(iE _ _ b 2 W (C.m 0) (C.m 1)).mono ?_;rintro e y ⟨rfl,rfl⟩;exact x _ _ ⟨_,rfl,Bf _ _,c,rfl⟩
  case _=>
   have l:=c.cell f Δ;have o:=c.cell g Δ;have p:=c.cell i Δ;have q:=c.cell k Δ
   (repeat(refine DI rfl (λv h=>?_);(try dsimp only at h);(try subst h)))
   refine DJ ?_
   (refine Ak ?_)
   refine Fg rfl Θ (v:=_) ?_ ⟨Bf _ _,c,rfl⟩;go_simp
   (try with_reducible rfl)
  case _=>
   have l:=c.cell f Δ;have o:=c.cell g Δ;have p:=c.cell i Δ;have q:=c.cell k Δ
   (repeat(refine DI rfl (λv h=>?_);(try dsimp only at h);(try subst h)))
   refine DJ ?_
   (refine Ak ?_)
   refine Fg rfl Θ (v:=_) ?_ ⟨Bf _ _,c,rfl⟩;go_simp
   (try with_reducible rfl)
 case xend=>
  intro W c
  (repeat(refine DI rfl (λv h=>?_);(try dsimp only at h);(try subst h)))
  refine DJ ?_
  (refine Ak ?_)
  go_wp2_with fail;go_ret;exact⟨rfl,Ae H c⟩
def J7(x y:Af):Bool:=A3 (x.r<y.r\/(x.r=y.r/\x.a<y.a))
theorem Zu(x y:Af)(w:BD):BE Ax 241 #[x.val,y.val] w λe a=>e=AA (BL (J7 x y))/\w.grownBy a V:=by
 have h:=Xz x.r y.r x.a y.a (E A2 (U x.h)) (E O x.s) (E A2 (U y.h)) (E O y.s) _ _ w rfl rfl ⟨_,rfl⟩ ⟨_,rfl⟩;rw[el]at h;exact h
end
section
open Go.RowKit
attribute [local go_sem ↓] Go.wp_at_zero Go.wp_at_succ
def Fp(a:List Af):Nat->Option Nat
 |0=>V
 |k+1=>match Fp a k with
  |none=>Bn k
  |some b=>if J7 (a.getD k Af.ad) (a.getD b Af.ad)=BR then Bn k else Bn b
def oI:Option Nat->Int
 |none=> -1
 |some n=>n
def No(a:List Af):Int:=oI (Fp a a.length)
theorem Pb(a:List Af):∀k b,Fp a k=Bn b->b<k
 |0,b,h=>by cases h
 |k+1,b,h=>by
  rw[Fp]at h
  cases d:Fp a k with
  |none=>rw[d]at h;simp at h;omega
  |some c=>
   rw[d]at h;have:=Pb a k c d;dsimp only at h
   split at h<;>simp at h<;>omega
theorem Y1(x y:Af)(a:x.r=y.r)(b:x.a=y.a):J7 x y=BB:=jV Ω
theorem WK(d p:Int)(f:List Af)(a:Option Addr)(c:Nat)(w:BD)(hx:f.length<=300)(hr:Ai w 4 (A4 a f.length c) f.length (Av f)):
  BE Ax 194 #[.agg #[E O d,E O p,A4 a f.length c]] w λe w'=>e=AA (E O (No f))/\w.grownBy w' V:=by
 have HR:=zh hr;clear hr
 go_enter Tryz.func194,Tryz.ntmps194
 go_wp2_with fail;obtain⟨w2,P⟩:=Ag (w.alloc (Bs #[E O d,E O p,A4 a f.length c] 160))
 have W:Aa w2 w.heap.size 160 [E O d,E O p,A4 a f.length c]:=by rw[<-P];exact Aa.new w _ _
 have hG:w.grownBy w2 V:=by rw[<-P];exact J w _ V
 obtain⟨X,Z⟩:=Ag w.heap.size;rw[Z]at W;rw[Z,P];have aA:=zh W;have HG:=zh hG;clear P W hG Z
 go_loopw [3,9] (λo i wr=>∃k:Nat,k<=f.length/\i=E O k/\o=E O (oI (Fp f k))/\w.grownBy wr V/\Aa wr X 160 [E O d,E O p,A4 a f.length c]) (λ_ i _=>f.length - (Bk i).toNat)
 case atStart=>exact⟨0,Ω,rfl,rfl,HG.o,aA.o⟩
 case round=>
  obtain⟨k,hk,rfl,rfl,j,D⟩:=hrel
  by_cases aC:k<f.length
  ·have aD:(k:Int)<(f.length:Int):=by omega
   obtain⟨b,o,rfl,m⟩:=HR.o.aZ Ω;obtain⟨e0,e1,e2,e3⟩:=FS f k aC;have Q:=j.cell (m _ _ e0) Δ;have F:=j.cell (m _ _ e1) Δ;have G:=j.cell (m _ _ e2) Δ;have H:=j.cell (m _ _ e3) Δ;simp only[<-lw]at F G H;have R:=zh D;have S:=zh j;clear e0 e1 e2 e3
   have al:∀y:Af,J7 (f.getD k Af.ad) y=A3 ((f.getD k Af.ad).r<y.r\/((f.getD k Af.ad).r=y.r/\(f.getD k Af.ad).a<y.a)):=λ_=>rfl
   cases I:Fp f k with
   |none=>
    have K:Fp f (k+1)=Bn k:=by rw[Fp,I]
    have r:=zh K;clear m al K I;obtain⟨x,L⟩:=Ag (f.getD k Af.ad);rw[L]at Q F G H;clear L;have M:oI V= -1:=rfl;rw[M];clear M;have z:=D.m 2;clear D j;go_wp2_with fail;refine CU Φ Φ ?_
    repeat(go_big_quiet_step (fail))
    refine BC ?_;rintro _ ⟨g,rfl⟩;have n:=zh (CY g);go_wp2_with fail
    go_roundw
    case rel=>exact⟨k+1,Ω,by go_num,by rw[r.o];rfl,Ae S.o (Ae (J _ _ V) n.o),R.o.grown (Ae (J _ _ V) n.o) Δ⟩
    case measure=>simp[Bk];omega
   |some q=>
    have aK:=Pb f k q I;obtain⟨f0,f1,f2,f3⟩:=FS f q Ω;have A:=j.cell (m _ _ f0) Δ;have t:=j.cell (m _ _ f1) Δ;have u:=j.cell (m _ _ f2) Δ;have v:=j.cell (m _ _ f3) Δ;simp only[<-lw]at t u v
    have K:Fp f (k+1)=if J7 (f.getD k Af.ad) (f.getD q Af.ad)=BR then Bn k else Bn q:=by rw[Fp,I]
    have r:=zh K;clear m al K I f0 f1 f2 f3;obtain⟨x,L⟩:=Ag (f.getD k Af.ad);obtain⟨y,aq⟩:=Ag (f.getD q Af.ad);rw[L]at Q F G H r;rw[aq]at A t u v r;clear L aq;have M:oI (Bn q)=q:=rfl;rw[M];clear M;have z:=D.m 2;have aL:(q:Int)<(f.length:Int):=Ω;have aM:A3 ((q:Int)<0)=BB:=jV Ω;clear D j;have HX:=zh (Aa.new wr 237 [E A2 (U x.h),E O x.r,E O x.a,E O x.s])
    by_cases T:x.r=y.r/\x.a=y.a/\x.s=y.s
    ·rw[Y1 x y T.1 T.2.1,j7 Δ]at r;obtain⟨l1,l2,l3⟩:=T;rw[l1]at F;rw[l2]at G;rw[l3]at H;clear l1 l2 l3;go_wp2_with fail;obtain⟨N,s⟩:=Ag (wr.alloc (Bs #[E A2 (U x.h),E O y.r,E O y.a,E O y.s] 237))
     have h:wr.grownBy N V:=by rw[<-s];exact J _ _ V
     have l:Aa N wr.heap.size 237 [E A2 (U x.h),E O y.r,E O y.a,E O y.s]:=by rw[<-s];exact Aa.new wr _ _
     obtain⟨Y,B⟩:=Ag wr.heap.size;rw[B]at l;rw[s,B];have C:=zh h
     have A:=AV (h.cell A Δ);have t:=AV (h.cell t Δ);have u:=AV (h.cell u Δ);have v:=AV (h.cell v Δ)
     have z:=AV (h.cell z Δ)
     have z0:=AV (l.m 0);have z1:=AV (l.m 1);have z2:=AV (l.m 2);have z3:=AV (l.m 3)
     clear s B h l Q F G H;refine CU Φ Φ ?_
     repeat(go_big_quiet_step (fail))
     refine BC ?_;rintro _ ⟨g,rfl⟩;have n:=zh (CY g);clear A t u v z z0 z1 z2 z3;go_wp2_with fail
     go_roundw
     case rel=>exact⟨k+1,Ω,by go_num,by rw[r.o];rfl,Ae S.o (Ae C.o n.o),R.o.grown (Ae C.o n.o) Δ⟩
     case measure=>simp[Bk];omega
    ·go_wp2_with fail;obtain⟨N,s⟩:=Ag (wr.alloc (Bs #[E A2 (U x.h),E O x.r,E O x.a,E O x.s] 237))
     have h:wr.grownBy N V:=by rw[<-s];exact J _ _ V
     have l:Aa N wr.heap.size 237 [E A2 (U x.h),E O x.r,E O x.a,E O x.s]:=by rw[<-s];exact Aa.new wr _ _
     obtain⟨Y,B⟩:=Ag wr.heap.size;rw[B]at l;rw[s,B];have C:=zh h
     have A:=AV (h.cell A Δ);have t:=AV (h.cell t Δ);have u:=AV (h.cell u Δ);have v:=AV (h.cell v Δ)
     have z:=AV (h.cell z Δ)
     have z0:=AV (l.m 0);have z1:=AV (l.m 1);have z2:=AV (l.m 2);have z3:=AV (l.m 3)
     clear s B h l Q F G H;refine CU Φ Φ ?_
     have aE:((x.r==y.r)=BB)\/((x.r==y.r)=BR/\(x.a==y.a)=BB)\/((x.r==y.r)=BR/\(x.a==y.a)=BR/\(x.s==y.s)=BB):=by
      simp only[lu,nc];omega
     clear T
     rcases aE with aw|⟨aw,aF⟩|⟨aw,aF,aO⟩
     all_goals
      repeat(go_big_quiet_step ((go_at_call 241;exact LO (Zu x y) _)))
      refine BC ?_;rintro _ ⟨g,rfl⟩;have n:=zh (CY g);clear A t u v z z0 z1 z2 z3;obtain⟨tb,ax⟩:=Ag (J7 x y);rw[ax]at r⊢;clear ax
      cases tb
      ·go_wp2_with fail
       go_roundw
       case rel=>exact⟨k+1,Ω,by go_num,by rw[r.o];rfl,Ae S.o (Ae C.o n.o),R.o.grown (Ae C.o n.o) Δ⟩
       case measure=>simp[Bk];omega
      ·go_wp2_with fail
       go_roundw
       case rel=>exact⟨k+1,Ω,by go_num,by rw[r.o];rfl,Ae S.o (Ae C.o n.o),R.o.grown (Ae C.o n.o) Δ⟩
       case measure=>simp[Bk];omega
  ·obtain rfl:k=f.length:=by omega
   have aH:=zh j;clear j D;have aD:¬(f.length:Int)<(f.length:Int):=Ω;have aP:oI (Fp f f.length)=No f:=rfl;go_wp2_with fail;go_ret;exact⟨rfl,aH.o⟩
end
