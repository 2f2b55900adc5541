/- Lemmas. -/
import Derived.Test.YtcedibmdelehdaaGreatDoorH08
import Derived.Test.YtcedibmdelehdaaGreatDoorH11
import Derived.Laws.EntriesVeiled
namespace Go.Proofs.YtcedibmdelehdaaGreatDoor
set_option maxRecDepth 100000
set_option maxHeartbeats 32000000
open Go.Value renaming int->E,pointer->O,slice->BC
open Option renaming none->V,some->A3
open Go.IntKind renaming i64->Y
open Nat renaming reduceSub->Ax,reduceAdd->AA
open Go renaming callsIn_of_wp->A2,results_none->A4,bodyPost_ret->Bd,World->BB
open Go.Obj renaming cells->Bk
open Go.Proofs.Tryz renaming prog->Bn
open Go.World renaming size_alloc->Bs
open Go.Ending renaming returned->Bx
open Go.Fence renaming wide->BA
section
open Go.RowKit Go.Shelf
attribute [local go_sem] Oper.semAt_some
abbrev KI(p b d:Int):Prop:=0<=b/\b<=d/\d<=20/\0<=p/\p<2^b.toNat
def Ir(p b d:Int)(i:Nat):Int:=p*2^(d - b).toNat+i
def KW(p b d:Int):List Int:=if KI p b d then Cx (Ir p b d) (2^(d - b).toNat)else[]
theorem WF(p b d:Int)(w:BB):
  Calls Bn 260 #[E Y p,E Y b,E Y d] w λe a=>e=Bx (.func (.func 283) #[] #[O (A3 ⟨w.heap.size+1,0,V⟩),O (A3 ⟨w.heap.size+2,0,V⟩),O (A3 ⟨w.heap.size,0,V⟩)])/\
   a=((w.alloc (Bk #[E Y p] 3)).alloc (Bk #[E Y b] 3)).alloc (Bk #[E Y d] 3):=by
 go_enter Tryz.func260,Tryz.ntmps260
 go_wp2;go_ret;exact⟨rfl,rfl⟩
theorem ZT(n l s j x:Nat)(hn:1<=n)(p b d:Int)(I:KI p b d)(J u:List Int->BB->Prop)
  (ae:s+2<j)(K:s≠x/\s+1≠x/\s+2≠x)
  (w:∀f m W,J f W->f.length<2^(d - b).toNat->YieldAt BA (n - 1) Bn l #[E Y m] W λe g=>
   (e=Bx (.bool true)/\J (f++[m]) g/\Bw j x W g)\/(e=Bx (.bool false)/\u (f++[m]) g))
  (W:BB)(y:W.cell? ⟨s,0,V⟩=A3 (E Y p))(L:W.cell? ⟨s+1,0,V⟩=A3 (E Y b))(N:W.cell? ⟨s+2,0,V⟩=A3 (E Y d))(P:J [] W):
  CallsIn BA n Bn 283 #[.func (.yield l) #[] #[],O (A3 ⟨s+1,0,V⟩),O (A3 ⟨s+2,0,V⟩),O (A3 ⟨s,0,V⟩)] W λe g=>(∃v,e=Bx v)/\
   ((∃z,z=Cx (Ir p b d) (2^(d - b).toNat)/\J z g)\/(∃f,(∃k,k<=2^(d - b).toNat/\f=Cx (Ir p b d) k)/\u f g)):=by
 obtain⟨Q,q1,q2,A,o⟩:=I;obtain⟨a,rfl⟩:=kT Q;obtain⟨c,rfl⟩:=kT (show 0<=d by omega);obtain⟨M,h⟩:∃M:Nat,2^((c:Int) - a).toNat=M:=⟨_,rfl⟩
 have ah:M<=1048576:=by
  rw[<-h,show(1048576:Nat)=2^20 from rfl];exact lL Ω Ω
 have ai:1<=M:=by rw[<-h];exact nA
 have q:(2:Int)^((c:Int) - a).toNat=M:=by rw[<-h];norm_cast
 have hz:p/2^a=0:=qL A (by simpa using o)
 have R:p<=1048576:=by
  have:(2:Int)^a<=2^20:=by exact_mod_cast lL Ω Ω
  have S:p<2^a:=by simpa using o
  omega
 have r:∀k:Nat,k<=M->0<=p*M+k/\p*M+k<=9000000000000000000:=by
  intro k B;have h1:0<=p*(M:Int):=Int.mul_nonneg A Ω;have S:p*(M:Int)<=1048576*1048576:=Int.mul_le_mul R Ω Ω Ω;omega
 rw[h]at w⊢
 have C:wrap64 (2^(c - a))=M:=by
  have e:(2:Int)^(c - a)=M:=by rw[<-q];congr 1;omega
  rw[e];exact IntWalk.wrap64_in _ Ω
 have T:=zh q;clear q h o;have d1:decide (c<a)=false:=Γ;have d2:decide ((a:Int)<0)=false:=Δ;have d3:decide ((20:Int)<(c:Int))=false:=Γ;have d4:decide (p<0)=false:=Γ;refine A2 oD rfl kI ?_ rfl;simp only[oT,kR,kj,kP,AA,Ax,kF,kG,kU,kJ,kv,kO]
 gi_wp2
 rw[C];clear C
 gi_loopw [33] (λi wr=>∃k:Nat,k<=M/\i=E Y k/\J (Cx (Ir p a c) k) wr/\Bw j x W wr)
  (λi _=>M - (intOf i).toNat)
 case atStart=>exact⟨0,kN _,rfl,P,Bw.refl _ _ _⟩
 case round=>
  obtain⟨k,B,rfl,D,F⟩:=hrel
  by_cases U:k<M
  ·have h3:wr.cell? ⟨s,0,V⟩=A3 (E Y p):=(F.aq (p:=⟨s,0,V⟩) Γ K.1).trans y;have aq:=r k B;have X:=r 0 Ω;simp only[Int.natCast_zero,Int.add_zero]at X
   have G:Ir p a c k=p*M+k:=by unfold Ir;rw[T.o]
   have t:=Kv (Ir p a c) k;rw[G]at t;obtain⟨fn,au,av,aw,hy,Z⟩:=w _ (p*M+k) wr D (by rw[GU];exact U);have H:=zh t;clear t G y L N r
   gi_wp2
   refine Z.mono ?_;rintro e W3 (⟨rfl,aa,ab⟩|⟨rfl,ac⟩)
   ·gi_wp2
    go_roundw
    case rel=>exact⟨k+1,Ω,Δ,by rw[H.o];exact aa,F.trans ab⟩
    case measure=>simp[intOf];omega
   ·gi_wp2
    refine Bd (A4 rfl _ _ _) rfl ?_;exact⟨⟨_,rfl⟩,.inr ⟨_,⟨k+1,Ω,H.o.symm⟩,ac⟩⟩
  ·obtain rfl:k=M:=by omega
   gi_wp2
   go_end0
   exact⟨⟨_,rfl⟩,.inl ⟨_,rfl,D⟩⟩
theorem YR(n l s:Nat)(p b d:Int)(i:¬KI p b d)(J:List Int->BB->Prop)
  (W:BB)(r:W.cell? ⟨s,0,V⟩=A3 (E Y p))(t:W.cell? ⟨s+1,0,V⟩=A3 (E Y b))(u:W.cell? ⟨s+2,0,V⟩=A3 (E Y d))(a:J [] W):
  CallsIn BA n Bn 283 #[.func (.yield l) #[] #[],O (A3 ⟨s+1,0,V⟩),O (A3 ⟨s+2,0,V⟩),O (A3 ⟨s,0,V⟩)] W λe m=>(∃v,e=Bx v)/\J [] m:=by
 have o:(b<0)\/(¬b<0/\d<b)\/(¬b<0/\¬d<b/\20<d)\/(¬b<0/\¬d<b/\¬20<d/\p<0)\/(¬b<0/\¬d<b/\¬20<d/\¬p<0):=Ω
 rcases o with c|⟨c,f⟩|⟨c,f,j⟩|⟨c,f,j,q⟩|⟨c,f,j,q⟩
 ·refine A2 oD rfl kI ?_ rfl;simp only[oT,kR,kj,kP,AA,Ax,kF,kG,kU,kJ,kv,kO]
  gi_wp2
  refine Bd (A4 rfl _ _ _) rfl ?_;exact⟨⟨_,rfl⟩,a⟩
 ·refine A2 oD rfl kI ?_ rfl;simp only[oT,kR,kj,kP,AA,Ax,kF,kG,kU,kJ,kv,kO]
  gi_wp2
  refine Bd (A4 rfl _ _ _) rfl ?_;exact⟨⟨_,rfl⟩,a⟩
 ·refine A2 oD rfl kI ?_ rfl;simp only[oT,kR,kj,kP,AA,Ax,kF,kG,kU,kJ,kv,kO]
  gi_wp2
  refine Bd (A4 rfl _ _ _) rfl ?_;exact⟨⟨_,rfl⟩,a⟩
 ·refine A2 oD rfl kI ?_ rfl;simp only[oT,kR,kj,kP,AA,Ax,kF,kG,kU,kJ,kv,kO]
  gi_wp2
  refine Bd (A4 rfl _ _ _) rfl ?_;exact⟨⟨_,rfl⟩,a⟩
 ·have k:¬p<2^b.toNat:=λh=>i ⟨Ω,Ω,Ω,Ω,h⟩
  obtain⟨g,rfl⟩:=kT (show 0<=b by omega)
  have w:(p/2^g !=0)=true:=by
   rw[bne_iff_ne];intro h;have x:(1:Int)<=p/2^g:=Int.le_ediv_of_mul_le (by exact_mod_cast nm g) (by rw[ql];simpa using k);omega
  clear k i;refine A2 oD rfl kI ?_ rfl;simp only[oT,kR,kj,kP,AA,Ax,kF,kG,kU,kJ,kv,kO]
  gi_wp2
  refine Bd (A4 rfl _ _ _) rfl ?_;exact⟨⟨_,rfl⟩,a⟩
theorem Vi(n s c x:Nat)(t:1<=n)(p b d:Int)(w:BB)(u:s+2<c)(g:s≠x/\s+1≠x/\s+2≠x)(v:c<=w.heap.size)
  (y:w.cell? ⟨s,0,V⟩=A3 (E Y p))(z:w.cell? ⟨s+1,0,V⟩=A3 (E Y b))(A:w.cell? ⟨s+2,0,V⟩=A3 (E Y d)):
  SeqStopsK BA n Bn 283 #[O (A3 ⟨s+1,0,V⟩),O (A3 ⟨s+2,0,V⟩),O (A3 ⟨s,0,V⟩)] (λx:Int=>#[E Y x]) (Bw c x) (λk=>k=KW p b d)
   (λ_=>True) 1048576 w:=λl J B W C _ _ D m=>by
 have i:Bw c x w W:=LB (C.mono v);have o:=(i.aq (p:=⟨s,0,V⟩) Γ g.1).trans y;have q:=(i.aq (p:=⟨s+1,0,V⟩) Γ g.2.1).trans z;have r:=(i.aq (p:=⟨s+2,0,V⟩) Γ g.2.2).trans A
 by_cases a:KI p b d
 ·have K:2^(d - b).toNat<=1048576:=by
   rw[show(1048576:Nat)=2^20 from rfl];exact lL Ω (by have:=a.2.2.1;have:=a.1;omega)
  refine(ZT n l s c x t p b d a J B u g (λj F G H L=>D j F G H Ω) W o q r m).mono ?_;rintro e I ⟨h,⟨k,rfl,f⟩|⟨j,_,f⟩⟩
  ·exact⟨h,.inl ⟨_,(ke a).symm,f⟩⟩
  ·exact⟨h,.inr ⟨j,kI,f⟩⟩
 ·refine(YR n l s p b d a J W o q r m).mono ?_;rintro e I ⟨h,f⟩;exact⟨h,.inl ⟨[],(j7 a).symm,f⟩⟩
theorem fk:(Bn.info? 3).map (λi=>(i.zero,i.size,i.bytes))=A3 (A3 (E Y 0),1,8):=Φ
theorem Zz(p b d:Int)(w:BB):
  Calls Bn 231 #[E Y p,E Y b,E Y d] w λe o=>∃v,e=Bx v/\o.ownsRow w.heap.size 3 1 v (KW p b d).length ((KW p b d).map (E Y))/\w.grownBy o V:=by
 obtain⟨t,u,y,z,A⟩:=info_parts fk;have q:BA.round=V:=rfl;refine(callsIn_wide (n:=20)).1 ?_;refine callsIn_of_wp_marks Tryz.func231 rfl kI ?_ q;simp only[Tryz.ntmps231,kR,kj,kP,AA,Ax,kF,kG,kU,kJ,kv,kO]
 gi_wp2_with (refine⟨kI,?_⟩;gi_at_call 260;refine(callsIn_wide.2 (WF _ _ _ _)).mono ?_;rintro e T ⟨rfl,rfl⟩)
 obtain⟨a,f⟩:=Ag ((((w.alloc (Bk #[BC V 0 0] 145)).alloc (Bk #[E Y p] 3)).alloc (Bk #[E Y b] 3)).alloc (Bk #[E Y d] 3))
 have B:Below w.heap.size w a:=by rw[<-f];exact((((Below.refl _ w).alloc (jS _) _).alloc Δ _).alloc Γ _).alloc Γ _
 have U:a.heap.size=w.heap.size+4:=by rw[<-f];simp
 have C:Boxed a w.heap.size 145 (BC V 0 0):=by rw[<-f];exact(((Boxed.new w _ _).alloc _).alloc _).alloc _
 have F:a.cell? ⟨w.heap.size+1,0,V⟩=A3 (E Y p):=by
  rw[<-f];have h:=Boxed.new (w.alloc (Bk #[BC V 0 0] 145)) 3 (E Y p);rw[Bs]at h;exact((h.alloc _).alloc _).cell
 have G:a.cell? ⟨w.heap.size+1+1,0,V⟩=A3 (E Y b):=by
  rw[<-f];have h:=Boxed.new ((w.alloc (Bk #[BC V 0 0] 145)).alloc (Bk #[E Y p] 3)) 3 (E Y b);simp only[Bs]at h;exact(h.alloc _).cell
 have H:a.cell? ⟨w.heap.size+1+2,0,V⟩=A3 (E Y d):=by
  rw[<-f];have h:=Boxed.new (((w.alloc (Bk #[BC V 0 0] 145)).alloc (Bk #[E Y p] 3)).alloc (Bk #[E Y b] 3)) 3 (E Y d);simp only[Bs]at h;exact h.cell
 rw[f];clear f
 refine wpIn_rangeFunc_ownG q Ω (gf:=283) (lb:=#[O (A3 ⟨w.heap.size+1+1,0,V⟩),O (A3 ⟨w.heap.size+1+2,0,V⟩),O (A3 ⟨w.heap.size+1,0,V⟩)]) rfl kI (enters_of oD Φ rfl)
  (Vi 19 (w.heap.size+1) a.heap.size w.heap.size Ω p b d a Ω Ω (jS _) F G H)
  Bw.trans (Bw.eL (jS _)) (Below.refl _ _) (λ_=>rfl)
  (λ(g:List Int) W=>(∃v,Boxed W w.heap.size 145 v/\W.ownsRow a.heap.size 3 1 v g.length (g.map (E Y))/\True)/\Below w.heap.size a W)
  (λ_ _ _=>False)
  (OwnFrom.and (Own.from (holdsRow_own a.heap.size w.heap.size 145 3 1 (λg:List Int=>g.length) (λg:List Int=>g.map (E Y)) (λ_ _=>True)) _) (ownFrom_below Ω Ω))
  (λ_ _ _ _ _ I _ _=>I)
  ⟨⟨_,C,World.ownsRow_nil _ _ _ _,kI⟩,Below.refl _ _⟩
  ?a₁ ?assign ?body ?done ?stop
 case assign=>
  intro l x W K i
  gi_wp2
  exact i
 case body=>
  rintro l g x W ⟨⟨v,j,k,_⟩,m⟩ X;have J:=j.cell;have L:=m.size
  gi_wp2_with (gi_at_builtin;refine wpListIn_append_own _ rfl _ _ 145 rfl a.heap.size 3 t (E Y 0) 1 8 mO u y z A rfl Ξ _ _ _ rfl (k.alloc _) ⟨W.heap.size,0,V⟩ 1 1 [E Y x] rfl rfl (cell_one_new _ _ _) (by simp[Value.oneCell']) (by unfold maxLen;omega) Ω Γ ?_;intro Z w1 r M _;obtain⟨g',ac,rfl⟩:=ownsRow_succ r;obtain⟨s,N,P,Q,R,S⟩:=Ss j Ξ k L r M;have ad:=s.cell;have ae:=s.frozen)
  exact⟨Q.from _,R,⟨_,N,by simpa using P,kI⟩,m.trans (S _ (jS _) Ω)⟩
 case done=>
  rintro D ys W hD rfl ⟨⟨v,j,k,_⟩,m⟩ i;have J:=j.cell
  gi_wp2
  refine⟨Δ,.inl ⟨_,_,rfl,run_takeDeferred i,?_⟩⟩;refine⟨_,results_tmp rfl _ _ _,v,rfl,?_,Ff ((B.trans m).trans (belowK_b (w:=w) (jS _) W D _ _ Ω i rfl rfl))⟩;exact BQ (ownsRow_putObj k (.deferred V) i rfl) Ω
 case stop=>
  rintro D c g W _ _ h _;exact h.elim
end
