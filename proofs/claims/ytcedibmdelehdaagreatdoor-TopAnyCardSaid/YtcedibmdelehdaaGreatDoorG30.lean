/- Lemmas. -/
import Derived.Test.YtcedibmdelehdaaGreatDoorG26
import Derived.Test.YtcedibmdelehdaaGreatDoorG28
namespace Go.Proofs.YtcedibmdelehdaaGreatDoor
set_option maxRecDepth 100000
set_option maxHeartbeats 32000000
open Go.Value renaming slice->E,int->Ax,ownBlock->A4
open Go.IntKind renaming wrap_u64->J,i64->O,u64->AA
open Go.World renaming grownBy_alloc->V
open Decidable renaming decide->A2
open Bool renaming false->A3
variable{f:List Nat}{h:Nat}
section
open Go.RowKit
attribute [local go_sem ↓] Go.wp_at_zero Go.wp_at_succ
theorem Jb(n:Nat)(b:96<=n)(c:n<=512)(w:World):Calls Tryz.prog 77 #[Ax O n] w λe a=>e=.returned (Ax O ((n:Int) - 19))/\w=a:=by
 have d:A2 ((n:Int)≥96)=true:=jG Ω;have f:A2 ((n:Int)<=512)=true:=jG Ω;have g:wrap64 ((n:Int) - 19)=(n:Int) - 19:=IntWalk.wrap64_in _ Ω
 go_enter Tryz.func77,Tryz.ntmps77
 go_wp2;go_ret;exact⟨rfl,rfl⟩
theorem Rw(n b d f m:Nat)(a:Option Addr)(c:Nat)(w:World)(l:96<=n)(o:n<=512)(t:1<=b)(u:b<=4)(v:d<=2147483647)(x:f<=9223372036854775807)(y:m<=n - 19):
  Calls Tryz.prog 205 #[.agg #[Ax O b,Ax O d,Ax O f,E a m c],Ax O n] w λe p=>e=.returned (Ax O 0)/\w.grownBy p none:=by
 have z:A2 ((n:Int)≥96)=true:=jG Ω;have A:A2 ((n:Int)<=512)=true:=jG Ω;have B:A2 ((b:Int)<1)=A3:=jH Ω;have C:A2 ((b:Int)>4)=A3:=jH Ω;have D:A2 ((d:Int)<0)=A3:=jH Ω;have F:A2 ((d:Int)>2147483647)=A3:=jH Ω;have G:A2 ((f:Int)<0)=A3:=jH Ω;have H:A2 ((m:Int)>(n:Int) - 19)=A3:=jH Ω
 go_enter Tryz.func205,Tryz.ntmps205
 go_wp2;obtain⟨i,g⟩:=Af (w.alloc (.cells #[Ax O b,Ax O d,Ax O f,E a m c] 174))
 have j:Aa i w.heap.size 174 [Ax O b,Ax O d,Ax O f,E a m c]:=by rw[<-g];exact Aa.new _ _ _
 have k:w.grownBy i none:=by rw[<-g];exact V _ _ none
 have I:=j.m 3;rw[g];have r:=zh k;clear g j k;have s:=zh (λq=>(Jb n l o (i.drewN q)).mono (λ_ _ h=>(⟨h.1,h.2.symm⟩:_/\_)))
 go_quiet ((go_at_call 77;exact Calls.quiet_of_same (s.o _)))
 go_wp2;go_ret;exact⟨rfl,Ab r.o (AZ _ _ none)⟩
def Gd(n b c d:Nat)(a:List Nat):List Nat:=((((At b 1++At a.length 2)++At c 4)++At d 8)++a)++AO (n - 19 - a.length)
def Cd(n a b c:Nat)(d:List Nat):List Nat:=Gd n a b c d++At (IS (Gd n a b c d)).toNat 4
theorem RS{n kind place stamp:Nat}(a:96<=n)(b:f.length<=n - 19):(Gd n kind place stamp f).length=n - 4:=by
 unfold Gd;simp only[jI,AK,Ep];omega
theorem MA{n kind place stamp:Nat}(a:96<=n)(b:f.length<=n - 19):(Cd n kind place stamp f).length=n:=by
 unfold Cd;rw[jI,RS a b,AK];omega
theorem QN{c d e:Nat}(g:∀x∈f,x<256):∀x∈Cd h c d e f,x<256:=by
 intro x b;unfold Cd Gd at b;simp only[kI]at b
 rcases b with(((((a|a)|a)|a)|a)|a)|a
 ·exact Es _ _ x a
 ·exact Es _ _ x a
 ·exact Es _ _ x a
 ·exact Es _ _ x a
 ·exact g x a
 ·exact Qu _ x a
 ·exact Es _ _ x a
theorem PW.e0{o w:World}{v:Value}{ys:List Nat}{c:Int}(d:PW o w h v f c)(g:Option Addr)(i:Nat)(C:(f.length:Int)+ys.length<=c)(D:f.length+ys.length<=49000000)(x:Ag w 1 (E g ys.length i) ys.length (Ar ys))(y:ys≠[]->∀b,(E g ys.length i).ownBlock=some b->b≠h):
  Calls Tryz.prog 125 #[.pointer (some ⟨h,0,none⟩),E g ys.length i] w λe m=>∃k,e=.returned (.tuple #[])/\PW o m h k (f++ys) c/\∀b t n,Aa w b t n->¬DE h v b->Aa m b t n/\¬DE h k b:=by
 refine(PY h v f ys c A3 g i w d.wr Ω x y).mono ?_;rintro e m ⟨k,rfl,p,q,r⟩
 have z:Fo f c A3 ys=(f++ys,A3):=by
  unfold Fo;rw[jN];intro l
  rcases l with l|l
  ·cases l
  ·omega
 rw[z]at p;refine⟨k,rfl,⟨p,λj A=>?_,q.u d.u d.fi⟩,λb t n s u=>⟨q.y s u,λB=>?_⟩⟩
 ·rcases r j A with a|a
  ·exact d.fi j a
  ·exact jM d.u.size a
 ·rcases r b B with a|a
  ·exact u a
  ·have:=s.lt;omega
theorem Rv(n f g i:Nat)(d:List Nat)(a:Option Addr)(c:Nat)(w:World)(s:96<=n)(Y:n<=512)(k0:1<=f)(k1:f<=4)(p1:g<=2147483647)(hs:i<=9223372036854775807)(y:d.length<=n - 19)
  (z:Ag w 1 (E a d.length c) d.length (Ar d)):
  Calls Tryz.prog 206 #[Ax O n,.agg #[Ax O f,Ax O g,Ax O i,E a d.length c]] w λe A=>∃Z c',e=.returned (.tuple #[E Z n c',Ax O 0])/\
   A.ownsRow w.heap.size 5 1 (E Z n c') n (Ar (Cd n f g i d))/\w.grownBy A none:=by
 have q:∀b,d≠[]->(E a d.length c).ownBlock=some b->b<w.heap.size:=λb t l=>z.lt (by intro e;exact t (nm.1 e)) b l
 have aB:=zh q;have HR:=zh z
 have wk:AA.wrap (f:Int)=f:=by rw[J];omega
 have wl:AA.wrap (d.length:Int)=d.length:=by rw[J];omega
 have wp:AA.wrap (g:Int)=g:=by rw[J];omega
 have ws:AA.wrap (i:Int)=i:=by rw[J];omega
 clear q z
 go_enter Tryz.func206,Tryz.ntmps206
 go_wp2_with fail;refine(Rw n f g i d.length a c _ s Y k0 k1 p1 hs y).mono ?_;rintro e u ⟨rfl,B⟩;have l:=(Aa.new w 174 [Ax O f,Ax O g,Ax O i,E a d.length c]).u B Δ;have aZ:w.heap.size<u.heap.size:=l.lt;have C:=zh (Ab (V w (.cells #[Ax O f,Ax O g,Ax O i,E a d.length c] 174) none) B);have o:=zh l;clear l B;go_wp2_with fail;refine(IV _ Ω _).mono ?_;rintro e w2 ⟨rfl,D,g2⟩;rw[jP (show(0:Int)<=n by omega)]at D
 have ac:PW u w2 u.heap.size (E none 0 0) [] n:=⟨D,λk hk=>by
  rcases hk with h|h
  ·omega
  ·simp[A4]at h,g2⟩
 have F:=zh ac;clear D ac g2;have b0:=((o.o.u F.o.u Δ).m 0);go_wp2_with fail;refine(F.o.be f 1 Ω Ξ Γ Δ).mono ?_;rintro e w3 ⟨v3,rfl,p3,_⟩;have G:=zh p3;clear p3 F b0;have H:=((o.o.u G.o.u Δ).m 3);go_wp2_with fail;refine(G.o.be d.length 2 Ω Ξ (by simp[AK];omega) (by simp[AK])).mono ?_;rintro e w4 ⟨v4,rfl,p4,_⟩;have I:=zh p4;clear p4 G H;have b1:=((o.o.u I.o.u Δ).m 1);go_wp2_with fail;refine(I.o.be g 4 Ω Ξ (by simp[AK];omega) (by simp[AK])).mono ?_;rintro e w5 ⟨v5,rfl,p5,_⟩;have L:=zh p5;clear p5 I b1;have b2:=((o.o.u L.o.u Δ).m 2);go_wp2_with fail;refine(L.o.be i 8 Ω Ξ (by simp[AK];omega) (by simp[AK])).mono ?_;rintro e w6 ⟨v6,rfl,p6,_⟩;have v:=zh p6;clear p6 L b2;have H:=((o.o.u v.o.u Δ).m 3);go_wp2_with fail;refine(v.o.e0 (ys:=d) a c (by simp[AK];omega) (by simp[AK];omega) (HR.o.u (Ab C.o v.o.u) (λb h=>by cases h)) (λt b l=>by have:=aB.o b t l;omega)).mono ?_;rintro e M ⟨v7,rfl,p7,_⟩;have P7:=zh p7;clear p7 v H;go_wp2_with fail;refine FU (λW=>W.cell? ⟨w.heap.size,3,none⟩=some (E a d.length c)) [([3,4,5],[0,1],2,true),([],[6],7,A3),([],[],8,A3)] Φ Φ ?_;obtain⟨p,N⟩:=Af M.drew
 have g8:M.grownBy p none:=by rw[<-N];exact AZ M 1 none
 rw[N];have x:=zh (P7.o.bw g8);have P:=zh (o.o.u x.o.u Δ);clear N g8 P7;refine JG (P.o.m 3) ?_
 iterate 3 ((apply AC rfl Θ;(· intro wS j;(try have j:=j rfl);(try dsimp only at j);go_simp;(try with_reducible rfl)));refine Al ?_)
 refine Aj ?_
 iterate 2 ((apply AC rfl Θ;(· intro wS j;(try have j:=j rfl);(try dsimp only at j);(try subst j);go_simp;(try with_reducible rfl)));refine Al ?_)
 refine Aj ?_;refine Am ?_;intro K m;refine(Jb n s Y p).mono ?_;rintro e A ⟨rfl,rfl⟩;dsimp only;refine m _ _ ⟨_,λ_ h=>h,λ_=>P.o.m 3,?_⟩;clear m K;refine Al ?_;have al:=Ox p (n - 19 - d.length) Ω;rw[show((n - 19 - d.length:Nat):Int)=O.wrap ((n:Int) - 19 - (d.length:Int)) by rw[IntWalk.i64_in _ Ω];omega]at al;have P9:=zh (x.o.bw (V p (.cells (Ar (AO (n - 19 - d.length))).toArray 5) none));have an:=zh (Ag.ai (RM p (n - 19 - d.length) Ω))
 have Q:=P9.o.e0 (ys:=AO (n - 19 - d.length)) (some ⟨p.heap.size,0,none⟩) (n - 19 - d.length) (by simp[AK,Ep];omega) (by simp[AK,Ep];omega) (by rw[Ep];exact an.o) (λt b l=>by
  simp[A4]at l;subst l;have:=x.o.wr.lt u.heap.size (.inl rfl)
  omega)
 rw[Ep]at Q;have ao:=zh Q;clear Q;refine Dw ?_
 iterate 1 ((apply AC rfl Θ;(· intro wS j;(try have j:=j rfl);(try dsimp only at j);(try subst j);go_simp;(try with_reducible rfl)));refine Al ?_)
 refine Aj ?_;refine Am ?_;intro K m;refine Aq m ?_;clear m K;refine Dw ?_;refine Aj ?_;refine Am ?_;intro K m;refine ao.o.mono ?_;rintro e a9 ⟨ba,rfl,R,_⟩;dsimp only
 have aI:([]++At f 1++At d.length 2++At g 4++At i 8++d++AO (n - 19 - d.length))=Gd n f g i d:=by rw[jX];rfl
 rw[aI]at R;have S:=zh R;refine m _ _ ⟨_,λ_ h=>h,λhf=>(by cases hf),?_⟩;clear m K R;refine Al ?_;refine Fw (NoPanic.normal ?_);clear an P9 x P al ao;have ap:=zh (RS (n:=n) (kind:=f) (place:=g) (stamp:=i) s y);go_wp2_with fail;refine(Il _ _ _ _ _ _ S.o.wr).mono ?_;rintro e aK ⟨aL,aM,rfl,aq,aN⟩;have ar:=zh (S.o.bw aN);go_wp2_with fail;refine(fP _ aL aM aK (Ag.ai aq)).mono ?_;rintro e bb ⟨rfl,aO⟩;have au:=zh (ar.o.bw aO);obtain⟨r,T⟩:=jU (Ua (Gd n f g i d)).1;have aP:=(Ua (Gd n f g i d)).2
 have bc:AA.wrap (r:Int)=r:=by rw[J];omega
 have av:(IS (Gd n f g i d)).toNat=r:=by rw[T];rfl
 rw[T]at aP⊢;have aQ:=zh av;clear T av S ar aq;go_wp2_with fail;refine(au.o.be r 4 Ω Ξ (Ψ ap.o) (Ψ ap.o)).mono ?_;rintro e bd ⟨be,rfl,U,_⟩
 have q:Gd n f g i d++At r 4=Cd n f g i d:=by unfold Cd;rw[aQ.o]
 rw[q]at U;have X:=zh U;clear U au q;go_wp2_with fail;refine(Il _ _ _ _ _ _ X.o.wr).mono ?_;rintro e bf ⟨aR,aS,rfl,aw,aT⟩;have aU:=MA (n:=n) (kind:=f) (place:=g) (stamp:=i) s y;rw[aU]at aw⊢;go_wp2
 go_ret2
 exact⟨aR,aS,rfl,Cf aw (Ψ ((Ab C.o X.o.u).size)),Ab (Ab C.o X.o.u) aT⟩
end
