/- Lemmas. -/
import Derived.Test.YtcedibmdelehdaaGreatDoorG18
import Derived.Test.YtcedibmdelehdaaGreatDoorG46
import Derived.Test.YtcedibmdelehdaaGreatDoorG47
import Derived.Lib.ConvBytes
import Derived.Lib.SlBytesConst
namespace Go.Proofs.YtcedibmdelehdaaGreatDoor
set_option maxRecDepth 100000
set_option maxHeartbeats 32000000
open Go.IntKind renaming i64->J,wrap_u64->BC,u64->BD,u8->BX
open Go.Proofs.Tryz renaming prog->O,ntmps57->BB,func57->BL
open Go.Value renaming string->V,int->Y,slice->Ax,tuple->Bx,agg->BR,bool->B0
open Go.Ending renaming returned->Z
open Option renaming none->AA,some->Bd
open Go renaming World->A2,Calls->A7,maxLen->Bn,wpQuiet_nil->Bs,Value->BE,Addr->BZ
open Bool renaming false->A3,true->Bk
open Go.IntWalk renaming wrap64_in->A4
open And renaming intro->A5
open Decidable renaming decide->A6
open Or renaming inr->BA,inl->B8
variable{f g n:A2}{h e j k l:Nat}{E:List AQ}{a:Ae}{b:Option BZ}{c o:ByteArray}{d:Pl}{i p:BE}
section
open Go Go.RowKit
attribute [local go_sem ↓] Go.wp_at_zero Go.wp_at_succ
theorem Lr(s:ByteArray)(i:s.size<=1000000)(W:A2):∃(c:Nat) (a:A2),(convert 9 64 (V s)).run O W=.ok (Ax (Bd ⟨W.heap.size,0,AA⟩) s.size c) a/\W.grownBy a AA/\Ag a 1 (Ax (Bd ⟨W.heap.size,0,AA⟩) s.size c) s.size (Ar (bl s))/\W.heap.size<a.heap.size:=by
 have h:=Lib.run_convert_string_bytes (P:=O) W 9 64 5 s nu kY nt;refine⟨_,_,h,⟨rfl,rfl,rfl,by rw[Lib.bytesWorld_size];omega,λk e _=>Lib.bytesWorld_at_old W _ _ k e⟩,⟨by rw[Hh,CP,mj],by unfold Bn;omega,BA ⟨_,_,rfl,λ_=>rfl,λj u b=>?_⟩⟩,by rw[Lib.bytesWorld_size];omega⟩
 have d:j<s.size:=by
  have:=(jL.1 b).1
  rwa[Hh,CP]at this
 rw[KG (bl s) j (by rw[CP];exact d)]at b
 cases b
 rw[lN,Lib.bytesWorld_cell W _ _ j d]
 have f:j<s.data.toList.length:=by rw[mO];exact d
 have g:(bl s).getD j 0=(s.data.toList.getD j 0).toNat:=by
  unfold bl;rw[kH,kH,lh,jK f];rfl
 rw[g]
theorem Ty(t u v:Nat)(y:BitVec 64)(l:List AQ)(n:Nat)(D:l.length=n)(E:n<=1000000)(m:Option BZ)(p:Nat)(f a:ByteArray)(w:A2)(h:Ag w 7 (Ax m n p) n (Cw l)):
  A7 O 16 #[GZ t u v y (Ax m n p) 0,V f,V a] w λe w'=>e=Z (B0 (IK t l f a))/\w.grownBy w' AA:=by
 obtain⟨w1,aj,z,c⟩:=An w 41 [Y J t,Y J u,Y J v,Y BD (U y),Ax m n p,Y J 0];obtain⟨r,F⟩:=Af (Dq l f n);have G:=Sx t u v y l n D E m p 0 f w1 (h.u z Δ);rw[F]at G;have X:=zh G;have HB:=zh c;have HR:=zh (h.u z Δ);have G1:=zh z;have q:=zh (A5 D E);have H:=zh F;have I:=c.m 0;have K:=c.m 1;have L:=c.m 2;have M:=c.m 3;have N:=c.m 4;have P:=c.m 5;clear h D E F G z c
 go_enter Tryz.func16,Tryz.ntmps16
 go_wp2_with fail;refine X.o.mono ?_;rintro e w2 ⟨rfl,A⟩;have B:=zh (Ab G1.o A);have j:=zh (HB.o.u A Δ);have R2:=zh (HR.o.u A Δ);clear aj I K L M N P A X HB HR
 rcases r with _|i
 ·have d:=zh (show IK t l f a=A3 by unfold IK;rw[q.o.1,H.o]);have s:Jr AA= -1:=rfl;rw[s];have d1:A6 ((-1:Int)<0)=Bk:=Ξ;clear s;go_wp2_with fail;go_ret;exact⟨by rw[d.o];exact rfl,B.o⟩
 ·obtain⟨aq,⟨x,C,_⟩,_⟩:=KB (nU q.o.1.symm) H.o;have d:=zh (show IK t l f a=(! x.cq&&Hf x.val a&&! F8 t x) by unfold IK;rw[q.o.1,H.o];dsimp only;rw[C]);have HE:=zh (λW (g:w2.grownBy W AA)=>QW t u v y l n q.o.1 q.o.2 m p 0 i x C W (R2.o.u g Δ));obtain⟨b,o,rfl,Q⟩:=R2.o.bA Ω;obtain⟨-,s,e2, -⟩:=JJ l i x C;have R:=Q _ _ s;have S:=Q _ _ e2;simp only[<-kO]at R S;have I:=j.o.m 0;have K:=j.o.m 1;have L:=j.o.m 2;have M:=j.o.m 3;have N:=j.o.m 4;have P:=j.o.m 5;have e0:Jr (Bd i)=(i:Int):=rfl;rw[e0];have d1:A6 ((i:Int)<0)=A3:=jH Ω;have d2:A6 ((i:Int)≥0)=Bk:=jG Ω;have d0:A6 ((i:Int)<(n:Int))=Bk:=jG Ω;obtain⟨xk,T,xg,xe,xw,xl⟩:=x;dsimp only at R S d;clear e0 s e2 Q C
  cases xg
  ·cases k:Hf T a
   ·rw[k]at d;have t1:(T.toList==a.toList)=A3:=k;clear k;go_wp2_with fail;go_ret;exact⟨by rw[d.o];exact rfl,B.o⟩
   ·rw[k]at d;have t1:(T.toList==a.toList)=Bk:=k;clear k;go_wp2_with fail;refine(HE.o w2 (Bo _ _)).mono ?_;rintro e w3 ⟨rfl,g3⟩;have G3:=zh (Ab B.o g3);clear I K L M N P R S g3;go_wp2_with fail;go_ret;exact⟨by rw[d.o];simp[F8],G3.o⟩
  ·go_wp2_with fail;go_ret;exact⟨by rw[d.o];exact rfl,B.o⟩
def Jl:Option (List Nat)->ByteArray
 |none=>⟨#[45]⟩
 |some v=>⟨#[43]⟩++Di v
def EC:ByteArray:=⟨#[]⟩
def LG(r:Option (List Nat))(g:Int)(e:Ending)(d:A2):Prop:=
 match r with
 |none=>e=Z (Bx #[Ax AA 0 0,B0 A3,Y J g])
 |some v=>∃b c a,e=Z (Bx #[Ax b a c,B0 Bk,Y J g])/\v.length=a/\Ag d 1 (Ax b a c) a (Ar v)
def Cg(w:A2)(s:ByteArray)(a b:Nat)(W:A2):Prop:=w.grownBy W AA/\w.heap.size<=a/\a<W.heap.size/\Ag W 1 (Ax (Bd ⟨a,0,AA⟩) s.size b) s.size (Ar (bl s))
theorem Cg.u(a:Cg f c h e g)(b:g.grownBy n AA):Cg f c h e n:=⟨Ab a.1 b,a.2.1,jJ a.2.2.1 b.size,a.2.2.2.u b Δ⟩
theorem Cg.mk(b:g.grownBy f AA)(s:ByteArray)(e:s.size<=1000000):∃(c:Nat) (a:A2),(convert 9 64 (V s)).run O f=.ok (Ax (Bd ⟨f.heap.size,0,AA⟩) s.size c) a/\Cg g s f.heap.size c a/\f.grownBy a AA:=by
 obtain⟨c,a,h,d,i,j⟩:=Lr s e f;exact⟨c,a,h,⟨Ab b d,b.size,j,i⟩,d⟩
theorem Cg.aS(b:Cg f c h e g)(i:AD f a):∀k,(Ax (Bd ⟨h,0,AA⟩) c.size e).ownBlock=Bd k->a k=0/\k<g.heap.size:=λk d=>by
 simp[Value.ownBlock]at d;subst d;exact⟨i _ b.2.1,b.2.2.1⟩
theorem TM(w:A2)(c:Nat)(a j:Int)(b h:ByteArray)(o: -9223372036854775808<=a/\a<=9223372036854775807)(p:b.size<=1000)(q:h.size<=4000)(g:Int)(R:A2->Prop)(r:CD a=4)
  (s:∀W t k,Cg w b t k W->A7 O 22 #[Ak c,Ax (Bd ⟨t,0,AA⟩) b.size k] W λe l=>e=Z (Y J g)/\R l):
  A7 O 11 #[Ak c,BR #[Y J a,Y J j,V b,V h]] w λe l=>e=Z (Bx #[V EC,Y J g])/\R l:=by
 obtain⟨D,E,u,d⟩:=An w 48 [Y J a,Y J j,V b,V h];have m:=Er a j b h o D;obtain⟨F,v⟩:=Af (CD a);rw[v]at m r;have G:=zh m;have S:((F:Int)==4)=Bk:=Γ;have H:=zh d;have I:=zh u;have K:=zh (A5 p q);have L:=d.m 0;have x:=d.m 1;have y:=d.m 2;have z:=d.m 3;have M:=zh s;clear d u m v r p q o s
 go_enter ow,nW
 go_wp2_with fail;refine G.o.mono ?_;rintro e T ⟨rfl,n⟩;have f:=zh (H.o.u n Δ);have A:=zh (Ab I.o n);clear E n L x y z;have x:=f.o.m 1;have y:=f.o.m 2;have z:=f.o.m 3;obtain⟨k,U,X,B,i⟩:=Cg.mk A.o b (Ψ K.o.1);have N:=zh B;have G3:=zh (Ab A.o i);have y1:=(f.o.u i Δ).m 1;have y3:=(f.o.u i Δ).m 3;clear B;clear i;have P:=zh (M.o _ _ _ N.o);go_wp2_with fail;refine P.o.mono ?_;rintro e w5 ⟨rfl,C⟩;have Q:=zh C;clear C;go_wp2_with fail
 go_ret2
 exact⟨rfl,Q.o⟩
theorem aJ(w:A2)(c:Nat)(a l:Int)(b h:ByteArray)(t: -9223372036854775808<=a/\a<=9223372036854775807)(u:b.size<=1000)(x:h.size<=4000)(g:Int)(R:A2->Prop)(r:Option (List Nat))(y:∀v,r=Bd v->v.length<=4096)(z:CD a=5)
  (A:∀W B m,Cg w b B m W->A7 O 26 #[Ak c,Ax (Bd ⟨B,0,AA⟩) b.size m] W λe i=>R i/\LG r g e i):
  A7 O 11 #[Ak c,BR #[Y J a,Y J l,V b,V h]] w λe i=>e=Z (Bx #[V (Jl r),Y J g])/\R i:=by
 obtain⟨M,N,C,d⟩:=An w 48 [Y J a,Y J l,V b,V h];have n:=Er a l b h t M;obtain⟨D,E⟩:=Af (CD a);rw[E]at n z;have P:=zh n;have e4:((D:Int)==4)=A3:=Γ;have e5:((D:Int)==5)=Bk:=Γ;have Q:=zh d;have S:=zh C;have T:=zh (A5 u x);have U:=d.m 0;have o:=d.m 1;have p:=d.m 2;have q:=d.m 3;have X:=zh A;have F:=zh y;clear d C n E z u x t A y
 go_enter ow,nW
 go_wp2_with fail;refine P.o.mono ?_;rintro e w2 ⟨rfl,s⟩;have f:=zh (Q.o.u s Δ);have G:=zh (Ab S.o s);clear N s U o p q;have o:=f.o.m 1;have p:=f.o.m 2;have q:=f.o.m 3;obtain⟨m,w3,aa,H,j⟩:=Cg.mk G.o b (Ψ T.o.1);have K3:=zh H;have G3:=zh (Ab G.o j);have y1:=(f.o.u j Δ).m 1;have y3:=(f.o.u j Δ).m 3;clear H;clear j;have HG:=zh (X.o _ _ _ K3.o);go_wp2_with fail;refine HG.o.mono ?_;rintro e w4 ⟨I,k⟩;have K:=zh I;clear I aa o p q y1 y3
 rcases r with _|v
 ·have k:e=_:=k;subst k;go_wp2_with fail
  go_ret2
  exact⟨rfl,K.o⟩
 ·obtain⟨va,vc,vn,rfl,rfl,L⟩:=k;have ao:=Jc L
  have ap:(Di v).size<=4096:=by have:=F.o v rfl;rw[I0];omega
  have aq:¬9223372036854775807<1+(Di v).size:=by have:=F.o v rfl;rw[I0];omega
  clear L;go_wp2_with fail
  go_ret2
  exact⟨rfl,K.o⟩
theorem YG(w:A2)(c:Nat)(a l:Int)(b h:ByteArray)(u: -9223372036854775808<=a/\a<=9223372036854775807)(x:b.size<=1000)(y:h.size<=4000)(g:Int)(R:A2->Prop)(r:Option (List Nat))(z:∀v,r=Bd v->v.length<=4096)(A:CD a=6)
  (B:∀W C m,Cg w b C m W->A7 O 26 #[Ak c,Ax (Bd ⟨C,0,AA⟩) b.size m] W λe i=>R i/\LG r g e i):
  A7 O 11 #[Ak c,BR #[Y J a,Y J l,V b,V h]] w λe i=>e=Z (Bx #[V (Jl r),Y J g])/\R i:=by
 obtain⟨M,N,D,d⟩:=An w 48 [Y J a,Y J l,V b,V h];have n:=Er a l b h u M;obtain⟨o,E⟩:=Af (CD a);rw[E]at n A;have P:=zh n;have e4:((o:Int)==4)=A3:=Γ;have e5:((o:Int)==5)=A3:=Γ;have e6:((o:Int)==6)=Bk:=Γ;have Q:=zh d;have S:=zh D;have T:=zh (A5 x y);have U:=d.m 0;have p:=d.m 1;have q:=d.m 2;have s:=d.m 3;have X:=zh B;have F:=zh z;clear d D n E A x y u B z
 go_enter ow,nW
 go_wp2_with fail;refine P.o.mono ?_;rintro e w2 ⟨rfl,t⟩;have f:=zh (Q.o.u t Δ);have G:=zh (Ab S.o t);clear N t U p q s;have p:=f.o.m 1;have q:=f.o.m 2;have s:=f.o.m 3;obtain⟨m,w3,aa,H,j⟩:=Cg.mk G.o b (Ψ T.o.1);have K3:=zh H;have G3:=zh (Ab G.o j);have y1:=(f.o.u j Δ).m 1;have y3:=(f.o.u j Δ).m 3;clear H;clear j;have HG:=zh (X.o _ _ _ K3.o);go_wp2_with fail;refine HG.o.mono ?_;rintro e w4 ⟨I,k⟩;have K:=zh I;clear I aa p q s y1 y3
 rcases r with _|v
 ·have k:e=_:=k;subst k;go_wp2_with fail
  go_ret2
  exact⟨rfl,K.o⟩
 ·obtain⟨va,vc,vn,rfl,rfl,L⟩:=k;have ap:=Jc L
  have aq:(Di v).size<=4096:=by have:=F.o v rfl;rw[I0];omega
  have ar:¬9223372036854775807<1+(Di v).size:=by have:=F.o v rfl;rw[I0];omega
  clear L;go_wp2_with fail
  go_ret2
  exact⟨rfl,K.o⟩
theorem Ts(w:A2)(c:Nat)(a i:Int)(b f:ByteArray)(j: -9223372036854775808<=a/\a<=9223372036854775807)(k:b.size<=1000)(l:f.size<=4000)(g:Int)(R:A2->Prop)(r:Option (List Nat))(m:∀v,r=Bd v->v.length<=4096)(d:CD a=5\/CD a=6)
  (n:∀W o p,Cg w b o p W->A7 O 26 #[Ak c,Ax (Bd ⟨o,0,AA⟩) b.size p] W λe h=>R h/\LG r g e h):
  A7 O 11 #[Ak c,BR #[Y J a,Y J i,V b,V f]] w λe h=>e=Z (Bx #[V (Jl r),Y J g])/\R h:=by
 rcases d with d|d
 ·exact aJ w c a i b f j k l g R r m d n
 ·exact YG w c a i b f j k l g R r m d n
theorem Xa(w:A2)(c:Nat)(a i:Int)(d f:ByteArray)(n: -9223372036854775808<=a/\a<=9223372036854775807)(o:d.size<=1000)(p:f.size<=4000)(g:Int)(R:A2->Prop)(q:CD a=7)
  (r:∀W,w.grownBy W AA->A7 O 52 #[Ak c] W λe j=>e=Z (Y J g)/\R j):
  A7 O 11 #[Ak c,BR #[Y J a,Y J i,V d,V f]] w λe j=>e=Z (Bx #[V EC,Y J g])/\R j:=by
 obtain⟨z,A,s,b⟩:=An w 48 [Y J a,Y J i,V d,V f];have k:=Er a i d f n z;obtain⟨h,t⟩:=Af (CD a);rw[t]at k q;have B:=zh k;have K:((h:Int)==4)=A3:=Γ;have L:((h:Int)==5)=A3:=Γ;have M:((h:Int)==6)=A3:=Γ;have N:((h:Int)==7)=Bk:=Γ;have C:=zh b;have D:=zh s;have P:=zh (A5 o p);have E:=b.m 0;have u:=b.m 1;have v:=b.m 2;have x:=b.m 3;have F:=zh r;clear b s k t q o p n r
 go_enter ow,nW
 go_wp2_with fail;refine B.o.mono ?_;rintro e Q ⟨rfl,l⟩;have m:=zh (C.o.u l Δ);have G:=zh (Ab D.o l);clear A l E u v x;have u:=m.o.m 1;have v:=m.o.m 2;have x:=m.o.m 3;have H:=zh (F.o _ G.o);go_wp2_with fail;refine H.o.mono ?_;rintro e S ⟨rfl,y⟩;have I:=zh y;clear y;go_wp2_with fail
 go_ret2
 exact⟨rfl,I.o⟩
theorem Xs(w:A2)(c:Nat)(a i:Int)(f h:ByteArray)(n: -9223372036854775808<=a/\a<=9223372036854775807)(o:f.size<=1000)(p:h.size<=4000)(g:Int)(R:A2->Prop)(q:CD a=8)
  (r:∀W,w.grownBy W AA->A7 O 53 #[Ak c] W λe j=>e=Z (Y J g)/\R j):
  A7 O 11 #[Ak c,BR #[Y J a,Y J i,V f,V h]] w λe j=>e=Z (Bx #[V EC,Y J g])/\R j:=by
 obtain⟨z,A,s,b⟩:=An w 48 [Y J a,Y J i,V f,V h];have k:=Er a i f h n z;obtain⟨d,t⟩:=Af (CD a);rw[t]at k q;have B:=zh k;have K:((d:Int)==4)=A3:=Γ;have L:((d:Int)==5)=A3:=Γ;have M:((d:Int)==6)=A3:=Γ;have N:((d:Int)==7)=A3:=Γ;have P:((d:Int)==8)=Bk:=Γ;have C:=zh b;have D:=zh s;have Q:=zh (A5 o p);have E:=b.m 0;have u:=b.m 1;have v:=b.m 2;have x:=b.m 3;have F:=zh r;clear b s k t q o p n r
 go_enter ow,nW
 go_wp2_with fail;refine B.o.mono ?_;rintro e S ⟨rfl,l⟩;have m:=zh (C.o.u l Δ);have G:=zh (Ab D.o l);clear A l E u v x;have u:=m.o.m 1;have v:=m.o.m 2;have x:=m.o.m 3;have H:=zh (F.o _ G.o);go_wp2_with fail;refine H.o.mono ?_;rintro e T ⟨rfl,y⟩;have I:=zh y;clear y;go_wp2_with fail
 go_ret2
 exact⟨rfl,I.o⟩
theorem Sq(w:A2)(c:Nat)(a f:Int)(h i:ByteArray)(n: -9223372036854775808<=a/\a<=9223372036854775807)(o:h.size<=1000)(p:i.size<=4000)(g:Int)(R:A2->Prop)(q:CD a=9)
  (r:∀W,w.grownBy W AA->A7 O 25 #[Ak c,Y J f] W λe j=>e=Z (Y J g)/\R j):
  A7 O 11 #[Ak c,BR #[Y J a,Y J f,V h,V i]] w λe j=>e=Z (Bx #[V EC,Y J g])/\R j:=by
 obtain⟨z,A,s,b⟩:=An w 48 [Y J a,Y J f,V h,V i];have k:=Er a f h i n z;obtain⟨d,t⟩:=Af (CD a);rw[t]at k q;have B:=zh k;have K:((d:Int)==4)=A3:=Γ;have L:((d:Int)==5)=A3:=Γ;have M:((d:Int)==6)=A3:=Γ;have N:((d:Int)==7)=A3:=Γ;have P:((d:Int)==8)=A3:=Γ;have Q:((d:Int)==9)=Bk:=Γ;have C:=zh b;have D:=zh s;have S:=zh (A5 o p);have E:=b.m 0;have u:=b.m 1;have v:=b.m 2;have x:=b.m 3;have F:=zh r;clear b s k t q o p n r
 go_enter ow,nW
 go_wp2_with fail;refine B.o.mono ?_;rintro e T ⟨rfl,l⟩;have m:=zh (C.o.u l Δ);have G:=zh (Ab D.o l);clear A l E u v x;have u:=m.o.m 1;have v:=m.o.m 2;have x:=m.o.m 3;have H:=zh (F.o _ G.o);go_wp2_with fail;refine H.o.mono ?_;rintro e U ⟨rfl,y⟩;have I:=zh y;clear y;go_wp2_with fail
 go_ret2
 exact⟨rfl,I.o⟩
theorem Tl(w:A2)(c:Nat)(a k:Int)(b d:ByteArray)(r: -9223372036854775808<=a/\a<=9223372036854775807)(s:b.size<=1000)(t:d.size<=4000)(g:Int)(R:A2->Prop)(u:CD a<4)
  (v:∀W x l y m,Cg w b x l W->Cg w d y m W->A7 O 27 #[Ak c,Ax (Bd ⟨x,0,AA⟩) b.size l,Ax (Bd ⟨y,0,AA⟩) d.size m,Y J k] W λe n=>e=Z (Y J g)/\R n):
  A7 O 11 #[Ak c,BR #[Y J a,Y J k,V b,V d]] w λe n=>e=Z (Bx #[V EC,Y J g])/\R n:=by
 obtain⟨K,L,z,f⟩:=An w 48 [Y J a,Y J k,V b,V d];have o:=Er a k b d r K;obtain⟨h,A⟩:=Af (CD a);rw[A]at o u;have M:=zh o;have e4:((h:Int)==4)=A3:=Γ;have e5:((h:Int)==5)=A3:=Γ;have e6:((h:Int)==6)=A3:=Γ;have e7:((h:Int)==7)=A3:=Γ;have e8:((h:Int)==8)=A3:=Γ;have e9:((h:Int)==9)=A3:=Γ;have N:=zh f;have P:=zh z;have B:=zh (A5 s t);have Q:=f.m 0;have C:=f.m 1;have D:=f.m 2;have E:=f.m 3;have S:=zh v;clear f z o A u s t r v
 go_enter ow,nW
 go_wp2_with fail;refine M.o.mono ?_;rintro e w2 ⟨rfl,p⟩;have i:=zh (N.o.u p Δ);have F:=zh (Ab P.o p);clear L p Q C D E;have C:=i.o.m 1;have D:=i.o.m 2;have E:=i.o.m 3;obtain⟨l,w3,al,G,j⟩:=Cg.mk F.o b (Ψ B.o.1);have T:=zh G;have U:=zh (Ab F.o j);have y1:=(i.o.u j Δ).m 1;have y3:=(i.o.u j Δ).m 3;clear G;obtain⟨m,w4,ap,H,q⟩:=Cg.mk U.o d (Ψ B.o.2);have X:=zh H;have K4:=zh (T.o.u q);have z1:=(i.o.u (Ab j q) Δ).m 1;clear H q;clear j;have HG:=zh (S.o _ _ _ _ _ K4.o X.o);go_wp2_with fail;refine HG.o.mono ?_;rintro e w5 ⟨rfl,I⟩;have ac:=zh I;clear I;go_wp2_with fail
 go_ret2
 exact⟨rfl,ac.o⟩
end
section
open Go Go.RowKit
theorem Ca.mono{A:AI}{N:Az}(b:Ca f a h A d e k l N)(c:e<=j):Ca f a h A d j k l N:=⟨b.p.mono c,b.b,b.c,b.t⟩
def Dn(w:A2)(f:Ae)(c:Nat)(A:AI)(P:Pl)(q t a:Nat)(g:List AQ)(b:A2):Prop:=∃d e,Ad Eh w f b d/\Ca b d c A P (q+120000) t a e/\Cj P e a g
section
variable {w:World} {col:Ae} {c:Nat} {A:AI} {P:Pl} {q t lo:Nat} {N:Az} {ops:List AQ}
theorem Dn.bb(h:Ca w col c A P q t lo N)(a:Cj P N lo ops)(g:w.grownBy f AA):Dn w col c A P q t lo ops f:=
 ⟨col,N,Ad.u h.p.cl g,(h.u g).mono Ω,a⟩
theorem Xf(h:Ca w col c A P q t lo N)(i:Cj P N lo ops)(a:ByteArray)(j:a.size<1\/64<a.size)(m:a.size<=1000):
  ∀W d b,Cg w a d b W->A7 O 22 #[Ak c,Ax (Bd ⟨d,0,AA⟩) a.size b] W λe f=>e=Z (Y J 10)/\Dn w col c A P q t lo ops f:=λW d b k=>
 (XI (h.u k.1).b a.size _ b j (by unfold Bn;omega)).mono λe f ⟨l,g⟩=>⟨l,.bb h i (Ab k.1 g)⟩
abbrev Kd(a:ByteArray):AQ:=⟨a,EC,Bk,0,0,0⟩
theorem gn(h:Ca w col c A P q t lo N)(i:Cj P N lo ops)(r:q<=1073300000)(a:ByteArray)(j:1<=a.size)(l:a.size<=64):
  ∀W d b,Cg w a d b W->A7 O 22 #[Ak c,Ax (Bd ⟨d,0,AA⟩) a.size b] W λe f=>e=Z (Y J 0)/\Dn w col c A P q t lo (ops++[Kd a]) f:=λW d b k=>
 (VC (h.u k.1) Ω (bl a) a.size (CP a) _ b j l (GW a) k.2.2.2 (Co P.aK (bl a)) rfl).mono λe f ⟨m,n,o,s,p,g⟩=>
  ⟨m,n,o,(Ad.u h.p.cl k.1).trans s,p.mono Ω,i.iK (Kd a) rfl (ke _) (ke _) g⟩
theorem XT(h:Ca w col c A P q t lo N)(i:Cj P N lo ops)(a:ByteArray)(j:a.size<1\/64<a.size)(m:a.size<=1000):
  ∀W d b,Cg w a d b W->A7 O 26 #[Ak c,Ax (Bd ⟨d,0,AA⟩) a.size b] W λe f=>Dn w col c A P q t lo ops f/\LG AA 10 e f:=λW d b k=>
 (ff (h.u k.1).b a.size _ b j (by unfold Bn;omega)).mono λe f ⟨l,g⟩=>⟨by subst g;exact .bb h i k.1,l⟩
theorem Ud(h:Ca w col c A P q t lo N)(m:Cj P N lo ops)(R:q<=1073300000)(a:ByteArray)(o:1<=a.size)(p:a.size<=64)(f:Nat)(u:N.aw*P.aA<=f):
  ∃r:Option (List Nat),(∀v,r=Bd v->IK t ops a (Di v)=Bk/\v.length<=4096)/\(∀v,FF P t lo f ops a=Bd v->r=Bd (bl v))/\∀W i d,Cg w a i d W->A7 O 26 #[Ak c,Ax (Bd ⟨i,0,AA⟩) a.size d] W λe j=>Dn w col c A P q t lo ops j/\LG r 0 e j:=by
 obtain⟨x,y,z,B,C,b,l,D,E,F,G,H,I⟩:=m.fN (h.p.a2.fP) t a f u;refine⟨Gq b l t,H,I,λW i d k=>?_⟩;have n:=h.u k.1
 refine(YC n a.size _ d o p b l G (XH n Ω (bl a) a.size (CP a) _ d (GW a) k.2.2.2 (k.aS h.p.cl) (Co P.aK (bl a)) rfl x y z B C D E b l F)).mono λe j ⟨K,L,s,M,g,Q⟩=>⟨⟨K,L,(Ad.u h.p.cl k.1).trans (s.mono (LI Ω)),M.mono Ω,m.cT g⟩,Q⟩
theorem YE(h:Ca w col c A P q t lo N)(b:Cj P N lo ops)(l:q<=1073300000):
  ∀W,w.grownBy W AA->A7 O 52 #[Ak c] W λe a=>e=Z (Y J 0)/\Dn w col c A P q t lo ops a:=λW g=>
 (XY (h.u g) Ω).mono λe a ⟨d,f,i,s,j,k⟩=>⟨d,f,i,(Ad.u h.p.cl g).trans s,j.mono Ω,b.cT k⟩
theorem Ze(h:Ca w col c A P q t lo N)(b:Cj P N lo ops)(l:q<=1073300000):
  ∀W,w.grownBy W AA->A7 O 53 #[Ak c] W λe a=>e=Z (Y J 0)/\Dn w col c A P q t lo ops a:=λW g=>
 (U6 (h.u g) Ω).mono λe a ⟨d,f,i,s,j,k⟩=>⟨d,f,i,(Ad.u h.p.cl g).trans s,j.mono Ω,b.cT k⟩
theorem VU(h:Ca w col c A P q t lo N)(b:Cj P N lo ops)(n:Int)(d:n<0\/281474976710656<(t:Int)+n):
  ∀W,w.grownBy W AA->A7 O 25 #[Ak c,Y J n] W λe a=>e=Z (Y J 2)/\Dn w col c A P q t lo ops a:=λW g=>
 (bw (h.u g) n d).mono λe a ⟨f,i⟩=>⟨f,by subst i;exact .bb h b g⟩
theorem bJ(h:Ca w col c A P q t lo N)(b:Cj P N lo ops)(n:Nat)(d:t+n<=281474976710656):
  ∀W,w.grownBy W AA->A7 O 25 #[Ak c,Y J n] W λe a=>e=Z (Y J 0)/\Dn w col c A P q (t+n) lo ops a:=λW g=>
 (ZA (h.u g) n d).mono λe a ⟨f,s,i⟩=>⟨f,col,N,(Ad.u h.p.cl g).trans s,i.mono Ω,b⟩
theorem XU(h:Ca w col c A P q t lo N)(C:Cj P N lo ops)(a b:ByteArray)(H:a.size<=1000)(I:b.size<=4000)(n:Int)(D:Eu P t a.size b.size n≠0):
  ∀W r f s i,Cg w a r f W->Cg w b s i W->A7 O 27 #[Ak c,Ax (Bd ⟨r,0,AA⟩) a.size f,Ax (Bd ⟨s,0,AA⟩) b.size i,Y J n] W λe d=>e=Z (Y J (Eu P t a.size b.size n))/\Dn w col c A P q t lo ops d:=λW r f s i k v=>by
 have l:=h.u k.1
 have m:a.size<=Bn:=by unfold Bn;omega
 have o:b.size<=Bn:=by unfold Bn;omega
 have p:∀(g:Int) (e:Ending) (d:A2),e=Z (Y J g)/\W.grownBy d AA->g=Eu P t a.size b.size n->e=Z (Y J (Eu P t a.size b.size n))/\Dn w col c A P q t lo ops d:=λg e d ⟨E,F⟩ G=>⟨by rw[<-G];exact E,.bb h C (Ab k.1 F)⟩
 by_cases j:CG a.size b.size 0≠0
 ·exact(ei l (bl a) (bl b) _ _ f i a.size b.size (CP _) (CP _) m o k.2.2.2 v.2.2.2 n j).mono λe d x=>p _ e d x (by unfold Eu;rw[jP j])
 ·have z:=j;unfold CG at z
  have K:¬(a.size<1\/64<a.size):=λe=>z (by rw[jP e];decide)
  by_cases u:n<0
  ·exact(ZV l (bl a) (bl b) _ _ f i a.size b.size (CP _) (CP _) m o k.2.2.2 v.2.2.2 n Ω Ω Ω u).mono λe d x=>p _ e d x (by unfold Eu;rw[jN j,jP (B8 u)])
  by_cases B:281474976710656<(t:Int)+n
  ·exact(YK l (bl a) (bl b) _ _ f i a.size b.size (CP _) (CP _) m o k.2.2.2 v.2.2.2 n Ω Ω Ω u B).mono λe d x=>p _ e d x (by unfold Eu;rw[jN j,jP (BA B)])
  by_cases y:P.aA<13+a.size+b.size
  ·exact(dj l (bl a) (bl b) _ _ f i a.size b.size (CP _) (CP _) m o k.2.2.2 v.2.2.2 n n.toNat Ω Ω Ω Ω Ω y).mono λe d x=>p _ e d x (by unfold Eu;rw[jN j,jN Ω,jP y])
  ·exact absurd (by unfold Eu;rw[jN j,jN Ω,jN y]) D
abbrev Ec(a b:ByteArray)(c d lo:Nat):AQ:=⟨a,b,A3,c,d,lo⟩
theorem Rx{P:Pl}{t:Nat}{n:Int}(a:Eu P t h e n=0):1<=h/\h<=64/\e<=4096/\0<=n/\(t:Int)+n<=281474976710656/\13+h+e<=P.aA:=by
 unfold Eu at a
 split at a
 ·rename_i c
  exact absurd a c
 rename_i c
 split at a
 ·cases a
 split at a
 ·cases a
 unfold CG at c
 have d:¬(h<1\/64<h):=λb=>c (by rw[jP b];decide)
 have f:¬4096<e:=λb=>c (by rw[jN d,jP b];decide)
 omega
theorem Ly.aw{P:Pl}{N a:Az}{e:BitVec 64}{b:List Nat}{lo:Nat}(g:Ly P N a e b lo h):a.aw<=N.aw+1:=by
 obtain⟨_,c,i,d,p,f⟩:=g;rw[f.la,p.la];have:=Nb P c.aw c.aR b.length;rw[d.la]at this;rw[d.la];exact this.2
theorem Tk(h:Ca w col c A P q t lo N)(u:Cj P N lo ops)(M:q<=1073300000)(a b:ByteArray)(n:Nat)(x:Eu P t a.size b.size n=0)(y:lo<=1000000000)(i:Nat)(z:i<=(N.aw+1)*P.aA)(B:i<=1000000000000000):
  ∀W o j p l,Cg w a o j W->Cg w b p l W->A7 O 27 #[Ak c,Ax (Bd ⟨o,0,AA⟩) a.size j,Ax (Bd ⟨p,0,AA⟩) b.size l,Y J n] W λe r=>e=Z (Y J 0)/\∃d m f,d<=lo+1/\Ad Eh w col r m/\Ca r m c A P (q+120000) t d f/\Cj P f d (ops++[Ec a b (FD t n) i d])/\f.aw<=N.aw+1:=λW o j p l k v=>by
 obtain⟨C,D,E,Q,R,F⟩:=Rx x
 have G:FD t n<=281474976710656:=by unfold FD;split<;>omega
 have H:=CP a;have I:=CP b
 exact(Zl (h.u k.1) (bl a) (bl b) _ _ j l a.size b.size H I (by unfold Bn;omega) (by unfold Bn;omega) k.2.2.2 v.2.2.2 n C D E Ω F Ω y (GW a) (GW b) (k.aS h.p.cl) _ rfl (Co P.aK (bl a)) rfl).mono λe r ⟨K,m,f,d,s,L,g⟩=>
  ⟨K,d,m,f,g.1,(Ad.u h.p.cl k.1).trans s,L,u.aV (Ec a b (FD t n) i d) rfl rfl z B (by dsimp only;omega) (by dsimp only;omega) (by dsimp only;omega) G g,g.aw⟩
theorem fU(h:Ca w col c A P q t lo N)(o:Cj P N lo ops)(p:q<=1073300000)(a b:ByteArray)(n:Nat)(r:Eu P t a.size b.size n=0)(s:lo<=1000000000)(f:Nat)(u:f<=(N.aw+1)*P.aA)(x:f<=1000000000000000):
  ∀W g i j l,Cg w a g i W->Cg w b j l W->A7 O 27 #[Ak c,Ax (Bd ⟨g,0,AA⟩) a.size i,Ax (Bd ⟨j,0,AA⟩) b.size l,Y J n] W λe _m=>e=Z (Y J 0)/\∃d,d<=lo+1/\Dn w col c A P q t d (ops++[Ec a b (FD t n) f d]) _m:=λW g i j l k v=>
 (Tk h o p a b n r s f u x W g i j l k v).mono λ_ _m ⟨y,d,z,B,C,D,E,F,_⟩=>⟨y,d,C,z,B,D,E,F⟩
end
end
section
open Go Go.RowKit
attribute [local go_sem ↓] Go.wp_at_zero Go.wp_at_succ
theorem Sl(t:Nat)(P:Pl)(l:List AQ)(n:Nat)(hn:l.length=n)(hm:n<=1000000)(oa:Option BZ)(oc:Nat)(c:ByteArray)(F G:Nat)(w:A2)(h:Ag w 7 (Ax oa n oc) n (Cw l))(a8:c.size<=1000)(a9:∀x∈l,x.aO.size<=1000/\x.wh<=1000000000000000)(ba:F<=1000000000000000)(bb:3<=P.rg/\P.rg<=64)(bc:P.aA<=100000):
  A7 O 15 #[GZ t P.aA P.rg P.aK (Ax oa n oc) 0,V c,Y J F,Y J G] w λe w'=>e=Z (Bx #[V ((FF P t G F l c).getD EC),B0 (FF P t G F l c).isSome])/\w.grownBy w' AA:=by
 obtain⟨w1,bT,g1,H⟩:=An w 41 [Y J t,Y J P.aA,Y J P.rg,Y BD (U P.aK),Ax oa n oc,Y J 0];obtain⟨r,hr⟩:=Af (Dq l c n);have aO:=Sx t P.aA P.rg P.aK l n hn hm oa oc 0 c w1 (h.u g1 Δ);rw[hr]at aO;have HL:=zh aO;have HB:=zh H;have HR:=zh (h.u g1 Δ);have G1:=zh g1;have B:=zh (A5 hn hm);have aP:=zh hr;have HO:=zh a9;have HK:=zh a8;have an:=zh (A5 ba (A5 bb bc));have I:=H.m 0;have L:=H.m 1;have M:=H.m 2;have d:=H.m 3;have s:=H.m 4;have N:=H.m 5;clear h hn hm hr aO g1 H a8 a9 ba bb bc;obtain⟨q,hq⟩:=Af (FF P t G F l c);rw[hq];have bh:=zh hq;clear hq
 go_enter Tryz.func15,Tryz.ntmps15
 go_wp2_with fail;refine HL.o.mono ?_;rintro e w2 ⟨rfl,g2⟩;have G2:=zh (Ab G1.o g2);have Q:=zh (HB.o.u g2 Δ);have R2:=zh (HR.o.u g2 Δ);clear bT I L M d s N g2 HL HB HR
 rcases r with _|i
 ·have f:Hd (q=AA):=zh (by rw[<-bh.o];unfold FF;rw[B.o.1,aP.o]);have e1:Jr AA= -1:=rfl;rw[e1];have d1:A6 ((-1:Int)<0)=Bk:=Ξ;clear e1;go_wp2_with fail;refine Cb Φ Φ ?_
  repeat(go_big_quiet_step (fail))
  refine Bs ?_;rintro _ ⟨g,rfl⟩;have m:=zh (Ab G2.o (Bu g));generalize gw g=w3 at*;clear g;go_wp2_with fail
  go_ret2
  exact⟨by rw[f.o];exact rfl,m.o⟩
 ·obtain⟨bW,⟨x,hx,bi⟩,_⟩:=KB (nU B.o.1.symm) aP.o;have aR:=HO.o x (kp hx);have R:=zh (λW (g:w2.grownBy W AA)=>QW t P.aA P.rg P.aK l n B.o.1 B.o.2 oa oc 0 i x hx W (R2.o.u g Δ))
  have p:q=if x.cq=Bk\/F8 t x=Bk\/x.lo≠G\/(P.rg - 1)*P.aA+x.wh<=F\/Iv P.aK l i (Co P.aK (bl c))=Bk then AA else Bd x.val:=by
   rw[<-bh.o];unfold FF;rw[B.o.1,aP.o];dsimp only;rw[hx]
  obtain⟨b,o,rfl,u⟩:=R2.o.bA Ω;obtain⟨-,e1,e2, -,e4,e5, -⟩:=JJ l i x hx;have A:=u _ _ e1;have S:=u _ _ e2;have T:=u _ _ e4;have X:=u _ _ e5;simp only[<-kO]at A S T X;have I:=Q.o.m 0;have L:=Q.o.m 1;have M:=Q.o.m 2;have d:=Q.o.m 3;have s:=Q.o.m 4;have N:=Q.o.m 5;have e0:Jr (Bd i)=(i:Int):=rfl;rw[e0];have d1:A6 ((i:Int)<0)=A3:=jH Ω;have d0:A6 ((i:Int)<(n:Int))=Bk:=jG Ω;obtain⟨aB,bo⟩:∃k,P.rg - 1=k:=⟨_,rfl⟩;obtain⟨pr,aq⟩:∃k,aB*P.aA=k:=⟨_,rfl⟩
  have bX:pr<=6400000:=by
   rw[<-aq];exact jM (ln (show aB<=64 by have:=an.o;omega) an.o.2.2) Ξ
  have bY:J.wrap ((P.rg:Int) - 1)=(aB:Int):=Ba (by rw[A4 _ (Ψ an.o)];have:=an.o;omega);have bZ:J.wrap ((aB:Int)*(P.aA:Int))=(pr:Int):=Ba (by rw[<-aq, <-Int.natCast_mul];exact A4 _ (by rw[aq];omega));rw[bo,aq]at p;obtain⟨D,hD⟩:∃D:Int,(F:Int) - (x.wh:Int)=D:=⟨_,rfl⟩
  have bp:J.wrap ((F:Int) - (x.wh:Int))=D:=by rw[<-hD];exact Ba (A4 _ (Ψ an.o))
  obtain⟨xk,xv,xg,xe,xw,xl⟩:=x;dsimp only at A S T X p hD aR bp R;have k0:=AJ I;have k1:=AJ L;have k2:=AJ M;have k3:=AJ d;have k4:=AJ s;have k5:=AJ N;have m2:=AJ S;have m4:=AJ T;have m5:=AJ X;clear e0 e1 e2 e4 e5 u;have HX:=zh hx;have cz:=zh bi;have cA:=zh aR;clear hx bi aR bo aq bX
  cases xg
  case true=>
   have f:Hd (q=AA):=zh (by rw[p];exact jP (B8 rfl));clear p;go_wp2_with fail;clear I L M d s N A S T X;refine Cb Φ Φ ?_
   repeat(go_big_quiet_step (fail))
   refine Bs ?_;rintro _ ⟨g,rfl⟩;have m:=zh (Ab G2.o (Bu g));generalize gw g=w3 at*;clear g;go_wp2_with fail
   go_ret2
   exact⟨by rw[f.o];exact rfl,m.o⟩
  case false=>
   cases he:F8 t ⟨xk,xv,A3,xe,xw,xl⟩
   case true=>
    rw[he]at R;have f:Hd (q=AA):=zh (by rw[p];exact jP (BA (B8 he)));clear p he;go_wp2_with fail;clear I L M d s N A S T X;refine Cb Φ Φ ?_
    repeat(go_big_quiet_step (fail))
    go_big_quiet_step ((go_at_call 55;exact FY R.o _))
    repeat(go_big_quiet_step (fail))
    refine Bs ?_;rintro _ ⟨g,rfl⟩;have m:=zh (Ab G2.o (Bu g));generalize gw g=w3 at*;clear g;go_wp2_with fail
    go_ret2
    exact⟨by rw[f.o];exact rfl,m.o⟩
   case false=>
    rw[he]at R
    by_cases v:xl=G
    case neg=>
     have t1:((xl:Int)==(G:Int))=A3:=Γ;have t2:((xl:Int)!=(G:Int))=Bk:=Γ;have f:Hd (q=AA):=zh (by rw[p];exact jP (BA (BA (B8 v))));clear p he v;go_wp2_with fail;clear I L M d s N A S T X;refine Cb Φ Φ ?_
     repeat(go_big_quiet_step (fail))
     go_big_quiet_step ((go_at_call 55;exact FY R.o _))
     repeat(go_big_quiet_step (fail))
     refine Bs ?_;rintro _ ⟨g,rfl⟩;have m:=zh (Ab G2.o (Bu g));generalize gw g=w3 at*;clear g;go_wp2_with fail
     go_ret2
     exact⟨by rw[f.o];exact rfl,m.o⟩
    case pos=>
     subst v;have t1:((xl:Int)==(xl:Int))=Bk:=Δ;have t2:((xl:Int)!=(xl:Int))=A3:=Δ
     by_cases hw:(pr:Int)<=D
     case pos=>
      have t3:A6 (D≥(pr:Int))=Bk:=jG hw;have t4:A6 ((pr:Int)<=D)=Bk:=jG hw;have f:Hd (q=AA):=zh (by rw[p];exact jP (BA (BA (BA (B8 Ω)))));clear p he hw hD;go_wp2_with fail;clear I L M d s N A S T X;refine Cb Φ Φ ?_
      repeat(go_big_quiet_step (fail))
      go_big_quiet_step ((go_at_call 55;exact FY R.o _))
      repeat(go_big_quiet_step (fail))
      refine Bs ?_;rintro _ ⟨g,rfl⟩;have m:=zh (Ab G2.o (Bu g));generalize gw g=w3 at*;clear g;go_wp2_with fail
      go_ret2
      exact⟨by rw[f.o];exact rfl,m.o⟩
     case neg=>
      have t3:A6 (D≥(pr:Int))=A3:=jH hw;have t4:A6 ((pr:Int)<=D)=A3:=jH hw
      have f:Hd (q=if Iv P.aK l i (Co P.aK (bl c))=Bk then AA else Bd xv):=zh (by
       rw[p]
       by_cases hb:Iv P.aK l i (Co P.aK (bl c))=Bk
       ·rw[jP hb,jP (BA (BA (BA (BA hb))))]
       ·rw[jN hb,jN];rintro(e|e|e|e|e)
        ·cases e
        ·rw[he]at e;cases e
        ·exact e rfl
        ·omega
        ·exact hb e)
      clear p he hw hD;go_wp2_with fail;clear I L M d s N A S T X;refine Cb Φ Φ ?_
      repeat(go_big_quiet_step (fail))
      go_big_quiet_step ((go_at_call 55;exact FY R.o _))
      repeat(go_big_quiet_step (fail))
      refine Bs ?_;rintro _ ⟨g,rfl⟩;have aE:=Bu g;generalize gw g=w3 at*;clear g k0 k1 k2 k3 k4 k5 m2 m4 m5 t1 t2 t3 t4 d1 bp bY bZ;have m:=zh (Ab G2.o aE);have B3:=zh (Q.o.u aE Δ);have R3:=zh (R2.o.u aE Δ);have d:=B3.o.m 3;obtain⟨ck,w4,cg,gk,rk,_⟩:=Lr c (Ψ HK.o) w3;have G4:=zh (Ab m.o gk);have B4:=zh (B3.o.u gk Δ);have R4:=zh (R3.o.u gk Δ);have v:=CP c;have ac:=RW P.aK (bl c) (Bd ⟨w3.heap.size,0,AA⟩) ck w4 (GW c) (by rw[v];exact rk);rw[v]at ac;have HH:=zh ac;obtain⟨hh,bA⟩:=Af (Co P.aK (bl c));rw[bA]at HH f;clear aE gk rk v ac bA;go_wp2_with fail;refine HH.o.mono ?_;rintro e w5 ⟨rfl,g5⟩;have G5:=zh (Ab G4.o g5);have B5:=zh (B4.o.u g5 Δ);have R5:=zh (R4.o.u g5 Δ);clear cg d g5 Q R2 B3 R3 B4 R4 G2 m G4 R;have HI:=zh (show i+1<=n by omega);have wi:J.wrap ((i:Int)+1)=((i+1:Nat):Int):=Ba (by have:=B.o.2;rw[A4 _ Ω];omega);obtain⟨i1,aX⟩:∃k,i+1=k:=⟨_,rfl⟩;rw[aX]at wi HI;have aY:=zh aX;clear aX;go_wp2_with fail;clear wi
      go_loopg [12] (n - i1) (λk a wr=>∃j:Nat,a=Y J (j:Int)/\j+k=n/\i1<=j/\w5.grownBy wr AA/\∀C y,i<C->C<j->l[C]?=Bd y->y.h P.aK≠hh)
      case atStart=>exact⟨i1,rfl,Ψ HI.o,jF _,Bo _ _,λC y h1 h2=>Ψ aY.o⟩
      case round=>
       obtain⟨j,rfl,aZ,a0,E,aI⟩:=hrel;have d:=(B5.o.u E Δ).m 3;have s:=(B5.o.u E Δ).m 4
       by_cases h0:gk=0
       ·subst h0;obtain rfl:j=n:=Ω;have d1:A6 ((j:Int)<(j:Int))=A3:=Δ
        have bW:i<j:=by have:=HI.o;have:=aY.o;omega
        obtain⟨b',o',au,u⟩:=(R5.o.u E Δ).bA Ω;simp only[mK,Addr.mk.injEq,and_true]at au;obtain⟨rfl,rfl⟩:=au;have A:=u _ _ (JJ l i _ HX.o).2.1;dsimp only at A;simp only[<-kO]at A
        have a1:Hd (q=Bd xv):=zh (by
         rw[f.o,jN];rw[On.2 λC y h1 h2=>aI C y h1 (by have:=(jL.1 h2).1;have:=B.o.1;omega) h2]
         exact pC)
        have G6:=zh (Ab G5.o E);clear u E aI aZ a0 d;go_wp2_with fail
        go_ret2
        exact⟨by rw[a1.o];exact rfl,G6.o⟩
       ·obtain⟨y,hy⟩:∃y,l[j]?=Bd y:=⟨_,jK (by rw[B.o.1];omega)⟩;have bF:=HO.o y (kp hy);have cB:j<n:=Ω;have d1:A6 ((j:Int)<(n:Int))=Bk:=jG Ω;have R6:=zh (R5.o.u E Δ);have B6:=zh (B5.o.u E Δ);have G6:=zh E;have cl:=zh aI;have bH:=zh (A5 a0 aZ);have cm:=zh bF.1;have HY:=zh hy;have HK:Hd (gk - 1<gk/\j+1+(gk - 1)=n):=zh Ω;clear E aI a0 aZ bF h0;go_wp2_with fail;refine AS (λW=>wr.grownBy W AA) (.am [0,1,2,3,4,5,6,7,10] [] 8 Bk (.am [] [] 9 A3 (.am [] [] 11 A3 (.nil)))) Φ Φ ?_;obtain⟨w7,bK,g7⟩:=AP wr;have D7:=zh g7;rw[bK];clear d s bK;have R7:=zh (R6.o.u g7 Δ);have B7:=zh (B6.o.u g7 Δ);have G7:=zh (Ab G6.o g7);have bM:=zh (A5 (B6.o.m 3) (B6.o.m 4));obtain⟨b',o',au,u⟩:=R6.o.bA Ω;simp only[mK,Addr.mk.injEq,and_true]at au;obtain⟨rfl,rfl⟩:=au;have y0:=u _ _ (JJ l j y hy).1;obtain⟨yk,yv,yg,ye,yw,yl⟩:=y;dsimp only at y0;have co:=zh y0;obtain⟨cy,w8,cr,g8,r8,_⟩:=Lr yk (by have:=cm.o;dsimp only at this;omega) w7;have v:=CP yk;have ac:=RW P.aK (bl yk) (Bd ⟨w7.heap.size,0,AA⟩) cy w8 (GW yk) (by rw[v];exact r8);rw[v]at ac;obtain⟨hz,a6⟩:=Af (Co P.aK (bl yk));rw[a6]at ac;have cs:=zh ac;have bO:=zh a6;have G8:=zh (Ab G7.o g8);have D8:=zh (Ab D7.o g8);clear g7 u ac a6 v r8 g8 hy d1 y0;refine Dz D7.o ?_
        iterate 9 ((apply AC rfl Θ;(· intro wS aj;(try have aj:=aj rfl);(try dsimp only at aj);(try(have d:=aj.cell bM.o.1 Δ;have s:=aj.cell bM.o.2 Δ;have y0:=aj.cell co.o Δ));go_simp;(try with_reducible rfl)));refine Al ?_)
        refine Aj (Aj ?_);refine Am ?_;intro K z;refine z _ _ ⟨_,λ_ h=>h,λ_=>D8.o,?_⟩;clear z K;refine Al ?_;refine Ap ?_;refine Aj ?_;refine Am ?_;intro K z;refine cs.o.mono ?_;rintro e w9 ⟨rfl,g9⟩;have G9:=zh (Ab G8.o g9);clear g9 cr;dsimp only;refine Aq z ?_;clear z K
        by_cases ak:hz=hh
        ·have t1:(U hz==U hh)=Bk:=by rw[ak];simp
         have a1:Hd (q=AA):=zh (by
          rw[f.o,jP]
          cases hb:Iv P.aK l i hh
          ·refine absurd ?_ (On.1 hb j _ (by have:=aY.o;have:=bH.o.1;omega) HY.o);unfold AQ.h;dsimp only;rw[bO.o,ak]
          ·rfl)
         clear ak;refine Ap ?_;refine Aj ?_;refine Am ?_;intro K z;refine Aq z ?_;clear z K;refine AG (NoPanic.normal ?_);go_wp2_with fail
         go_ret2
         exact⟨by rw[a1.o];exact rfl,Ab G5.o G9.o⟩
        ·have t1:(U hz==U hh)=A3:=by rw[UY];simpa using ak
         have cv:=zh ak;have wj:J.wrap ((j:Int)+1)=((j+1:Nat):Int):=Ba (by have:=B.o.2;rw[A4 _ Ω];omega);clear ak;refine Ap ?_;refine Aj ?_;refine Am ?_;intro K z;refine Aq z ?_;clear z K;refine AG (NoPanic.normal ?_);go_wp2_with fail
         go_roundg (gk - 1)
         case measure=>exact HK.o.1
         refine⟨j+1,by first|rfl|rw[wj],HK.o.2,Ψ bH.o.1,G9.o,λC y h1 h2 h3=>?_⟩
         by_cases e:C=j
         ·subst e;rw[HY.o]at h3;obtain rfl:=jV h3;intro e;unfold AQ.h at e;dsimp only at e;rw[bO.o]at e;exact cv.o e
         ·exact cl.o C y h1 Ω h3
structure Gf(w:A2)(a c:ByteArray)(v:BE)(n:Nat)(W:A2):Prop where
 o:∃d,W.ownsRow (w.heap.size+1) 5 1 v n d
 b:Aa W w.heap.size 114 [V a,V c,Y J 0]
 g:w.grownBy W AA
theorem Gf.u(a:Gf f c o i h g)(b:g.grownBy n AA):Gf f c o i h n:=by
 obtain⟨d,e⟩:=a.o;exact⟨⟨d,AV e b⟩,a.b.u b Δ,Ab a.g b⟩
theorem Gf.bK{b:List BE}(a:Gf f c o i e n)(d:n.grownBy g i.ownBlock)(k:g.ownsRow (f.heap.size+1) 5 1 p h b):Gf f c o p h g:=by
 obtain⟨l,j⟩:=a.o;exact⟨⟨b,k⟩,Ho (f.heap.size+1) d (Hj j) a.b (nT _),DT a.g j (j9 _) d⟩
theorem Ll(a:List Nat):∀u∈Ar a,u.oneCell'=Bk:=by
 intro u b;obtain⟨i,_,rfl⟩:=lB.1 b;rfl
theorem ak(a b:ByteArray)(c:a.size<1\/64<a.size)(d:a.size<=1000000)(w:A2):
  A7 O 57 #[BR #[V a,V b,Y J 0]] w λe i=>(∃v,e=Z (Bx #[v,Y J 10]))/\w.grownBy i AA:=by
 obtain⟨m,n,f,g⟩:=An w 114 [V a,V b,Y J 0];have h:=zh f;have o:=g.m 0;clear f g
 rcases(show a.size<1\/(¬a.size<1/\64<a.size) by omega)with j|⟨j,p⟩
 ·have k:A6 ((a.size:Int)<1)=Bk:=jG Ω;have l:a.size=0:=Ω;clear c d
  go_enter BL,BB
  go_wp2_with fail
  go_ret2
  exact⟨⟨_,rfl⟩,h.o⟩
 ·have k:A6 ((a.size:Int)<1)=A3:=jH Ω;have l:¬a.size=0:=Ω;have q:A6 ((a.size:Int)>64)=Bk:=jG Ω;clear c d
  go_enter BL,BB
  go_wp2_with fail
  go_ret2
  exact⟨⟨_,rfl⟩,h.o⟩
theorem WX(a b:ByteArray)(aE:1<=a.size)(H:a.size<=64)(I:b.size<=400)(w:A2):
  A7 O 57 #[BR #[V a,V b,Y J 0]] w λe w'=>(∃v,e=Z (Bx #[v,Y J 0]))/\w.grownBy w' AA:=by
 obtain⟨h,i,j,k,l⟩:=info_parts GK;obtain⟨p,K,L,m⟩:=An w 114 [V a,V b,Y J 0];obtain⟨M,aG,y,N⟩:=An p 5 [Y BX 165,Y BX ((a.size:Nat):Int)]
 have aH:p.heap.size=w.heap.size+1:=by rw[<-K];simp
 have z:Hd (Gf w a b (Ax (Bd ⟨p.heap.size,0,AA⟩) 2 2) 2 M):=zh ⟨⟨_,JI N Ω (jF _) (by unfold Bn;omega) rfl Θ rfl⟩,m.u y Δ,Ab L y⟩;have A:=m.m 0;have o:=m.m 1;have B:=m.m 2
 have P:BX.wrap (a.size:Int)=(a.size:Int):=by rw[IntKind.wrap_u8];omega
 have d1:A6 ((a.size:Int)<1)=A3:=jH Ω;have d3:¬a.size=0:=Ω;have d4:A6 ((a.size:Int)>64)=A3:=jH Ω;have d5:¬64<a.size:=Ω;have d6:A6 ((b.size:Int)>4096)=A3:=jH Ω;have d7:¬4096<b.size:=Ω;have g:=zh H;have f:=zh I;clear L m y N aH aE H I
 go_enter BL,BB
 go_upto_region 8 with fail
 clear K aG A o B d1 d3 d4 d5 d6 d7 P;have o:=z.o.b.m 1
 have Q:BD.wrap (b.size:Int)=(b.size:Int):=by rw[BC];have:=f.o;omega
 go_wp2_with fail;clear Q o;refine(QF b.size 2 (Ψ f.o) Ω M).mono ?_;rintro e w3 ⟨a3,c3,rfl,R,S⟩;have q:=zh (z.o.u S);have T:=zh (Ag.ai R);obtain⟨aQ,U⟩:=q.o.o;have W:=zh U;clear R S U z
 go_upto_region 9 with(at_builtin;refine Gg rfl _ _ 64 rfl (w.heap.size+1) 5 h (Y BX 0) 1 1 kY i j k l rfl Ξ (v:=Ax (Bd ⟨p.heap.size,0,AA⟩) 2 2) (n:=2) (xs:=aQ) (sv:=Ax a3 2 c3) rfl W.o rfl T.o (Ll _) (by have:=g.o;have:=f.o;unfold Bn;omega) (by have:=g.o;have:=f.o;omega) q.o.b.lt ?_;intro v4 X c d _;obtain⟨a4,c4,rfl⟩:=(Ag.ai c).slice;have C:Hd (Gf w a b (Ax a4 4 c4) 4 X):=zh (q.o.bK d c);clear c d q T W;have B:=C.o.b.m 2;have wz:BD.wrap 0=0:=by rw[BC];rfl)
 go_wp2_with fail;clear B wz;refine(QF 0 8 Ω Ω X).mono ?_;rintro e w5 ⟨a5,c5,rfl,o5,g5⟩;have r:=zh (C.o.u g5);have R5:=zh (Ag.ai o5);obtain⟨aU,af⟩:=r.o.o;have O5:=zh af;clear o5 g5 af C
 go_upto_region 10 with(at_builtin;refine Gg rfl _ _ 64 rfl (w.heap.size+1) 5 h (Y BX 0) 1 1 kY i j k l rfl Ξ (v:=Ax a4 4 c4) (n:=4) (xs:=aU) (sv:=Ax a5 8 c5) rfl O5.o rfl R5.o (Ll _) (by have:=g.o;have:=f.o;unfold Bn;omega) (by have:=g.o;have:=f.o;omega) r.o.b.lt ?_;intro v6 D c d _;obtain⟨a6,c6,rfl⟩:=(Ag.ai c).slice;have E:Hd (Gf w a b (Ax a6 12 c6) 12 D):=zh (r.o.bK d c);clear c d r R5 O5;have A:=E.o.b.m 0;obtain⟨ck,P,aW,gk,rk,_⟩:=Lr a (Ψ g.o) D;have s:=zh (E.o.u gk);have R7:=zh rk;clear gk rk)
 obtain⟨aX,al⟩:=s.o.o;have O7:=zh al;clear al E
 go_upto_region 11 with(at_builtin;refine Gg rfl _ _ 64 rfl (w.heap.size+1) 5 h (Y BX 0) 1 1 kY i j k l rfl Ξ (v:=Ax a6 12 c6) (n:=12) (xs:=aX) (sv:=Ax (Bd ⟨D.heap.size,0,AA⟩) a.size ck) rfl O7.o rfl R7.o (Ll _) (by have:=g.o;have:=f.o;unfold Bn;omega) (by have:=g.o;have:=f.o;omega) s.o.b.lt ?_;intro v8 F c d _;obtain⟨a8,c8,rfl⟩:=(Ag.ai c).slice;have G:Hd (Gf w a b (Ax a8 (12+a.size) c8) (12+a.size) F):=zh (s.o.bK d c);clear c d s R7 O7;have o:=G.o.b.m 1;obtain⟨cv,Q,aZ,gv,rv,_⟩:=Lr b (Ψ f.o) F;have t:=zh (G.o.u gv);have R9:=zh rv;clear gv rv)
 obtain⟨a0,au⟩:=t.o.o;have O9:=zh au;clear au G aW A
 go_upto_region 12 with(at_builtin;refine Gg rfl _ _ 64 rfl (w.heap.size+1) 5 h (Y BX 0) 1 1 kY i j k l rfl Ξ (v:=Ax a8 (12+a.size) c8) (n:=12+a.size) (xs:=a0) (sv:=Ax (Bd ⟨F.heap.size,0,AA⟩) b.size cv) rfl O9.o rfl R9.o (Ll _) (by have:=g.o;have:=f.o;unfold Bn;omega) (by have:=g.o;have:=f.o;omega) t.o.b.lt ?_;intro bh u c d _;obtain⟨aw,ax,rfl⟩:=(Ag.ai c).slice;have ay:Hd (Gf w a b (Ax aw (12+a.size+b.size) ax) (12+a.size+b.size) u):=zh (t.o.bK d c);clear c d t R9 O9;obtain⟨wl,bi,gl,bL⟩:=An u 5 [Y BX 90];have x:=zh (ay.o.u gl);have aB:=zh (show Ag wl 1 (Ax (Bd ⟨u.heap.size,0,AA⟩) 1 1) 1 (Ar [90])from Ag.bq bL rfl (by unfold Bn;omega));clear gl bL)
 obtain⟨a2,aC⟩:=x.o.o;have aD:=zh aC;clear aC ay aZ o;go_wp2_with (at_builtin;refine Gg rfl _ _ 64 rfl (w.heap.size+1) 5 h (Y BX 0) 1 1 kY i j k l rfl Ξ (v:=Ax aw (12+a.size+b.size) ax) (n:=12+a.size+b.size) (xs:=a2) (sv:=Ax (Bd ⟨u.heap.size,0,AA⟩) 1 1) rfl aD.o rfl aB.o (Ll _) (by have:=g.o;have:=f.o;unfold Bn;omega) (by have:=g.o;have:=f.o;omega) x.o.b.lt ?_;intro bj a7 c d _;obtain⟨a9,ba,rfl⟩:=(Ag.ai c).slice;have bb:Hd (Gf w a b (Ax a9 (12+a.size+b.size+1) ba) (12+a.size+b.size+1) a7):=zh (x.o.bK d c);clear c d x aB aD)
 go_ret2
 exact⟨⟨_,rfl⟩,bb.o.g⟩
theorem RH(t:Nat)(P:Pl)(T:Option BZ)(n W:Nat)(b i:ByteArray)(k:Int)(x:b.size<=1000)(s:i.size<=400)(y:t<=281474976710656)(u:P.aA<=1000000)(w:A2):
  A7 O 18 #[GZ t P.aA P.rg P.aK (Ax T n W) 0,V b,V i,Y J k] w λe w'=>e=Z (Y J (Eu P t b.size i.size k))/\w.grownBy w' AA:=by
 obtain⟨K,A,B,l⟩:=An w 41 [Y J t,Y J P.aA,Y J P.rg,Y BD (U P.aK),Ax T n W,Y J 0];obtain⟨r,C⟩:=Af P.aA;obtain⟨E,m⟩:=Af (Eu P t b.size i.size k);rw[m];unfold Eu CG at m;rw[C]at m u l A⊢;have B1:=zh l;have X:=zh B;have HS:=zh (A5 x (A5 s (A5 y u)));have D:=l.m 0;have F:=l.m 1
 by_cases o:b.size<1\/64<b.size
 ·have G:=zh (ak b i o Ω K);have p:Hd (E=10):=zh (by rw[jP (by rw[jP o];decide),jP o]at m;exact m.symm);clear m o x s y u B l C
  go_enter pU,pu
  go_wp2_with fail;refine G.o.mono ?_;rintro e g ⟨⟨v,rfl⟩,a⟩;have q:=zh (Ab X.o a);clear a A D F;go_wp2_with fail;go_ret;exact⟨by rw[p.o];exact rfl,q.o⟩
 ·have G:=zh (WX b i Ω Ω s K)
  have h:(if k<0\/281474976710656<(t:Int)+k then 2 else if r<13+b.size+i.size then 9 else 0)=E:=by
   rw[jN (by rw[jN o,jN Ω,jN Ω];decide)]at m;exact m
  clear m;have aa:J.wrap (281474976710656 - (t:Int))=((281474976710656 - t:Nat):Int):=Ba (by rw[A4 _ Ω];omega);obtain⟨M,H⟩:=Af (281474976710656 - t);rw[H]at aa
  have go:Hd (∀g,K.grownBy g AA->w.grownBy g AA/\g.cell? ⟨w.heap.size,0,AA⟩=Bd (Y J t)/\g.cell? ⟨w.heap.size,1,AA⟩=Bd (Y J r)):=zh λg a=>⟨Ab X.o a,a.cell D Δ,a.cell F Δ⟩
  rcases(show k<0\/(¬k<0/\(M:Int)<k)\/(¬k<0/\¬(M:Int)<k/\r<13+b.size+i.size)\/(¬k<0/\¬(M:Int)<k/\¬r<13+b.size+i.size) by omega)with c|⟨c,d⟩|⟨c,d,f⟩|⟨c,d,f⟩
  ·have p:Hd (E=2):=zh (by rw[jP (B8 c)]at h;exact h.symm);have d1:A6 (k<0)=Bk:=jG c;clear h c o x s y u B l C aa H
   go_enter pU,pu
   go_wp2_with fail;refine G.o.mono ?_;rintro e g ⟨⟨v,rfl⟩,a⟩;obtain⟨j,L,N⟩:=go.o g a;have q:=zh j;clear a j A D F;go_wp2_with fail;go_ret;exact⟨by rw[p.o];exact rfl,q.o⟩
  ·have p:Hd (E=2):=zh (by rw[jP (BA Ω)]at h;exact h.symm);have d1:A6 (k<0)=A3:=jH c;have d2:A6 (k>(M:Int))=Bk:=jG d;clear h c d o x s y u B l C H
   go_enter pU,pu
   go_wp2_with fail;refine G.o.mono ?_;rintro e g ⟨⟨v,rfl⟩,a⟩;obtain⟨j,L,N⟩:=go.o g a;have q:=zh j;clear a j A D F;go_wp2_with fail;go_ret;exact⟨by rw[p.o];exact rfl,q.o⟩
  all_goals
   have d1:A6 (k<0)=A3:=jH c;have d2:A6 (k>(M:Int))=A3:=jH d;have ae:J.wrap (13+(b.size:Int))=((13+b.size:Nat):Int):=Ba (by rw[A4 _ Ω];omega);obtain⟨Q,R⟩:∃z,13+b.size=z:=⟨_,rfl⟩;rw[R]at ae h f;have af:J.wrap ((Q:Int)+(i.size:Int))=((Q+i.size:Nat):Int):=Ba (by rw[A4 _ Ω];omega);obtain⟨I,S⟩:∃z,Q+i.size=z:=⟨_,rfl⟩;rw[S]at af h f
  ·have p:Hd (E=9):=zh (by rw[jN Ω,jP f]at h;exact h.symm);have d3:A6 ((I:Int)>(r:Int))=Bk:=jG Ω;have d4:A6 (r<I)=Bk:=jG f;clear h c d f o x s y u B l C H R S
   go_enter pU,pu
   go_wp2_with fail;refine G.o.mono ?_;rintro e g ⟨⟨v,rfl⟩,a⟩;obtain⟨j,L,N⟩:=go.o g a;have q:=zh j;clear a j A D F;go_wp2_with fail;go_ret;exact⟨by rw[p.o];exact rfl,q.o⟩
  ·have p:Hd (E=0):=zh (by rw[jN Ω,jN f]at h;exact h.symm);have d3:A6 ((I:Int)>(r:Int))=A3:=jH Ω;have d4:A6 (r<I)=A3:=jH f;clear h c d f o x s y u B l C H R S
   go_enter pU,pu
   go_wp2_with fail;refine G.o.mono ?_;rintro e g ⟨⟨v,rfl⟩,a⟩;obtain⟨j,L,N⟩:=go.o g a;have q:=zh j;clear a j A D F;go_wp2_with fail;go_ret;exact⟨by rw[p.o];exact rfl,q.o⟩
def Hq:Pl:=⟨140,96,5,4,5,3,8,7#64⟩
theorem VX:Hq.aY:=by
 refine⟨?_,?_,?_,?_,?_,?_,?_,?_,?_,?_,?_,?_,?_,?_,?_⟩<;>decide
theorem ZF(b:AF f a h 140 96 0 (λ_=>AO 96))(c:AD f a)(d:ET f)(e:0<f.heap.size)(g:a 0=0):
  A7 O 7 #[Ak h,BR #[Y J 140,Y J 96,Y J 5,Y J 4,Y J 5,Y J 3,Y J 8,Y BD 7]] f (Ui f a Hq):=
 QB (P:=Hq) b c VX d e g
def kS:ByteArray:=⟨#[107]⟩
def vS:ByteArray:=⟨#[118]⟩
theorem dh(b c:Nat)(h:c<=1):FF Hq 0 b (c*Hq.aA) ([]++[Ec kS vS (FD 0 0) 0 b]) kS=Bd vS:=by
 have d:Dq ([]++[Ec kS vS (FD 0 0) 0 b]) kS ([]++[Ec kS vS (FD 0 0) 0 b]).length=Bd 0:=by
  show(if Hf kS kS then Bd 0 else AA)=Bd 0;exact jP (JX.2 rfl)
 unfold FF;rw[d];refine jN ?_;rintro(a|a|a|a|a)
 ·cases a
 ·cases a
 ·exact a rfl
 ·have e:Hq.aA=308:=by decide
  rw[e]at a;have f:Hq.rg=5:=rfl;rw[f]at a;simp only at a;omega
 ·exact Bool.noConfusion (show A3=Bk from a)
theorem ed(w:A2)(T:TypeId)(a:List BE)(d:a.length<=1000):∃b,w.alloc (.cells a.toArray T (a.length,a.length+1))=b/\w.grownBy b AA/\w.heap.size<b.heap.size/\Ag b 1 (Ax (Bd ⟨w.heap.size,0,AA⟩) a.length a.length) a.length a:=
 ⟨_,rfl,World.grownBy_alloc _ _ AA,Δ,Ω,by unfold Bn;omega,BA ⟨⟨w.heap.size,0,AA⟩,a.length,rfl,λ_=>rfl,λj u c=>by rw[lN,World.cell?_alloc_mark];simpa using c⟩⟩
theorem OP(w:A2)(b:UInt8):∃a,w.alloc (.cells #[Y BX (b.toNat:Int)] 5 (1,2))=a/\Cg w ⟨#[b]⟩ w.heap.size 1 a:=by
 obtain⟨a,c,d,e,f⟩:=ed w 5 [Y BX (b.toNat:Int)] Δ;exact⟨a,c,d,jF _,e,f⟩
theorem Yj(w:A2)(u:ET w)(v:0<w.heap.size):
  A7 O 19 #[] w λe U=>e=Z (B0 Bk)/\w.grownBy U AA:=by
 have X:=zh (Ta 140 96 w (λ_=>0) (λ_ _=>rfl) Ω Ω Ω Ω);have f:=zh (A5 u v);clear u v
 go_enter Tryz.func19,Tryz.ntmps19
 go_wp2_with fail;refine X.o.mono ?_;rintro e w1 ⟨d,rfl,hd,c1,x,y⟩;have i:=zh (x.mono (C':=Eh) (λj e=>B8 Ω));have DV:=zh y;clear x y;go_wp2_with fail;refine(Yb w1).mono ?_;rintro e w2 ⟨rfl,k⟩;have l:=zh (i.o.trans (Ad.u i.o.new k))
 have HF:=zh (ZF (DV.o.u k) l.o.new (f.o.1.bb (by
  rw[k.block _ (jJ f.o.2 i.o.aQ) Δ]
  exact i.o.au.bV _ f.o.2 Dj)) (jJ f.o.2 l.o.aQ) (l.o.ak _ f.o.2))
 clear k;go_wp2_with fail;refine HF.o.mono ?_;rintro e g ⟨c,A,N,c3,rfl,z,B,D,E,F⟩;have S3:=zh (l.o.trans z);have C3:=zh B;have I3:=zh (Cj.dQ (P:=Hq) D F);have ag:=zh E;clear z B D F E
 have kc:=λ(W:A2) (C:Array BE) (n c:Nat)=>Lib.run_convert_bytes_const (P:=O) W 64 5 C n c kY nt
 obtain⟨a,ah,m⟩:∃a,g.alloc (.cells #[Y BX 107] 5 (1,2))=a/\Cg g kS g.heap.size 1 a:=OP g 107;obtain⟨h,ai,b⟩:∃h,a.alloc (.cells #[Y BX 118] 5 (1,2))=h/\Cg a vS a.heap.size 1 h:=OP a 118;have G:=m.u b.1;have b:Cg g vS a.heap.size 1 h:=⟨Ab m.1 b.1,m.1.size,b.2.2.1,b.2.2.2⟩;have q:=zh (Tk C3.o I3.o Ω kS vS 0 Ξ Ω 0 (ke _) (ke _) h _ _ _ _ G b);rw[show kS.size=1 from rfl,show vS.size=1 from rfl]at q;clear m G b;go_wp2_with fail;refine q.o.mono ?_;rintro e o ⟨rfl,aj,c6,s,_,H,I,J,ak⟩;have S6:=zh (S3.o.trans H)
 have K:s.aw<=1:=by have:=ag.o;omega
 obtain⟨r,_,L,M⟩:=Ud I J Ω kS Ξ Ξ (s.aw*Hq.aA) (jF _);obtain rfl:=L vS (dh aj s.aw K);clear L ah ai q;obtain⟨p,am,Q⟩:∃p,o.alloc (.cells #[Y BX 107] 5 (1,2))=p/\Cg o kS o.heap.size 1 p:=OP o 107;have t:=zh (M p _ _ Q);rw[show kS.size=1 from rfl]at t;clear M Q H I J ak K;go_wp2_with fail;refine t.o.mono ?_;rintro e R ⟨⟨c8,N8,S,_,_⟩,va,vc,vn,rfl,ap,T⟩;have S8:=zh (Ot (S6.o.trans S) Dj);subst ap
 have aC:(convert 64 9 (Ax va (bl vS).length vc)).run O R=.ok (V ⟨#[118]⟩) R:=by
  have:=Jc T;rw[F7]at this;exact this
 clear S T am t;go_wp2_with fail;go_ret;exact⟨rfl,S8.o⟩
end
section
open Go Go.RowKit
abbrev PV:Nat->Prop:=CU 500
theorem UR:¬PV 0:=by rintro(h|h)<;>omega
theorem GS:¬Eh 400:=by rintro(h|h)<;>omega
structure BT(W:A2)(d:Ae)(e t:Nat)(P:Pl)(f:List AQ)(a:Option BZ)(m c:Nat):Prop where
 bk:Aa W e 41 [Y J t,Y J P.aA,Y J P.rg,Y BD (U P.aK),Ax a m c,Y J 0]
 cb:d e=400
 rd:Ag W 7 (Ax a m c) m (Cw f)
 rc:∀b,(Ax a m c).ownBlock=Bd b->d b=0/\b<W.heap.size
 aC:f.length=m
theorem BT.ag{C:Nat->Prop}{m:Ae}(c:BT f a h e d E b j k)(s:Ad C f a g m)(n:¬C 0)(o:¬C 400):BT g m h e d E b j k:=
 ⟨s.y c.bk (by rw[c.cb];exact o),by rw[s.ak _ c.bk.lt];exact c.cb,s.aN c.rd (λi l=>by rw[(c.rc i l).1];exact n),λi l=>⟨by rw[s.ak _ (c.rc i l).2];exact(c.rc i l).1,jJ (c.rc i l).2 s.aQ⟩,c.aC⟩
theorem BT.u(i:BT f a h e d E b j k)(l:AD f a)(m:f.grownBy g AA):BT g a h e d E b j k:=
 i.ag (Ad.u (C:=λ_=>False) l m) (λc=>c) (λc=>c)
structure TT(w W:A2)(b:Ae)(c:Nat)(A:AI)(P:Pl)(j q t lo:Nat)(N:Az)(a:List AQ):Prop where
 ca:Ca W b c A P q t lo N
 dw:Cj P N lo a
 st:Ad PV w (λ_=>0) W b
 q:q<=60000+130000*j
 lo:lo<=j
 aC:a.length<=j
 ks:∀x∈a,x.aO.size<=1000
section
variable {w W W':World} {col:Ae} {c:Nat} {A:AI} {P:Pl} {j q t lo:Nat} {N:Az} {ops:List AQ}
theorem TT.u(h:TT w W col c A P j q t lo N ops)(g:W.grownBy W' AA):TT w W' col c A P j q t lo N ops:=
 ⟨h.ca.u g,h.dw,h.st.trans (Ad.u h.ca.p.cl g),h.q,h.lo,h.aC,h.ks⟩
theorem TT.el(a:TT w W col c A P j q t lo N ops)(r:Dn W col c A P q e h E W')(l:h<=lo+1)(m:E.length<=ops.length+1)(f:∀x∈E,x.aO.size<=1000):∃d b,Ad Eh W col W' d/\TT w W' d c A P (j+1) (q+120000) e h b E:=by
 obtain⟨g,b,s,k,i⟩:=r;refine⟨g,b,s,k,i,a.st.trans (s.mono (LI Ω)),?_,?_,?_,f⟩
 ·have:=a.q;omega
 ·have:=a.lo;omega
 ·have:=a.aC;omega
theorem TT.bj(a:TT w W col c A P j q t lo N ops)(b:col h=400)(d:Ac (λk=>k=h) W W'):TT w W' col c A P j q t lo N ops:=by
 have s:Ad (λi=>i=400) W col W' col:=AL a.ca.p.cl d (λi e=>by rw[e];exact b);exact⟨a.ca.ag s (λi f=>Ω),a.dw,a.st.trans (s.mono (λi e=>BA Ω)),a.q,a.lo,a.aC,a.ks⟩
theorem TT.below(h:TT w W col c A P j q t lo N ops):w.grownBy W AA:=Ot h.st UR
theorem Ue{x:AQ}(h:∀x∈ops,x.aO.size<=1000)(b:x.aO.size<=1000):∀y∈ops++[x],y.aO.size<=1000:=λy a=>by
 rcases kI.1 a with a|a
 ·exact h y a
 ·rw[j8.1 a];exact b
end
theorem OW(S:ByteArray):((⟨#[43]⟩:ByteArray)++S).size=1+S.size:=by rw[ByteArray.size_append];rfl
theorem cD:(⟨#[45]⟩:ByteArray).toList=[45]:=by
 have:=KM [45];exact this
theorem Rk(S:ByteArray):((⟨#[43]⟩:ByteArray)++S).extract 1 ((⟨#[43]⟩:ByteArray)++S).size=S:=by
 rw[OW];exact ByteArray.extract_append_eq_right rfl rfl
theorem fZ(S:ByteArray):(((⟨#[43]⟩++S:ByteArray).toList)==((⟨#[45]⟩:ByteArray).toList))=A3:=by
 cases h:(((⟨#[43]⟩++S:ByteArray).toList)==((⟨#[45]⟩:ByteArray).toList))
 ·rfl
 ·have a:(⟨#[43]⟩++S:ByteArray)=⟨#[45]⟩:=JX.1 h;have c:=kM (λb:ByteArray=>b.data.toList.head?) a;simp at c
theorem TD(S:ByteArray):((⟨#[43]⟩++S:ByteArray).toList==([45]:List UInt8))=A3:=by
 have:=fZ S;rw[cD]at this;exact this
theorem TT.cC{A:AI}{c:Nat}{N:Az}(b:TT n f a e A d j k l c N E)(m:f.grownBy g AA)(o:f.heap.size<=h)(p:h<g.heap.size):TT n g (AN a h 400) e A d j k l c N E:=by
 have s:Ad (λi=>i=400) f a g (AN a h 400):=Cl b.ca.p.cl m o p rfl;exact⟨b.ca.ag s (λi q=>Ω),b.dw,b.st.trans (s.mono (λi r=>BA Ω)),b.q,b.lo,b.aC,b.ks⟩
theorem BT.cC(c:BT f a h e d E b j k)(i:f.grownBy g AA)(o:f.heap.size<=l):BT g (AN a l 400) h e d E b j k:=
 ⟨c.bk.u i Δ,by rw[Bz _ _ (Ψ c.bk.lt)];exact c.cb,c.rd.u i Δ,λm n=>⟨by rw[Bz _ _ (Ψ ((c.rc m n).2))];exact(c.rc m n).1,jJ (c.rc m n).2 i.size⟩,c.aC⟩
theorem BT.bj(c:BT f a h j d E b k l)(p:a e=400)(q:h≠e)(n:Ac (λr=>r=e) f g):BT g a h j d E b k l:=
 ⟨n.y c.bk q,c.cb,n.aN c.rd (λi m s=>by have o:=(c.rc i m).1;rw[s,p]at o;cases o),λi m=>⟨(c.rc i m).1,jJ (c.rc i m).2 n.aQ⟩,c.aC⟩
theorem UP{T:TypeId}{m n o q r:BE}(s:Aa f h T [i,p,m,n,o,q,r])(b c d e g j l:BE):∃a,(((((((f.setCell ⟨h,0,AA⟩ b).setCell ⟨h,1,AA⟩ c).setCell ⟨h,2,AA⟩ d).setCell ⟨h,3,AA⟩ e).setCell ⟨h,4,AA⟩ g).setCell ⟨h,5,AA⟩ j).setCell ⟨h,6,AA⟩ l)=a/\Aa a h T [b,c,d,e,g,j,l]/\Ac (λk=>k=h) f a:=
 ⟨_,rfl,(((((((s.setCell 0 _).setCell 1 _).setCell 2 _).setCell 3 _).setCell 4 _).setCell 5 _).setCell 6 _),(((((((Ay _ _ _ _).trans (Ay _ _ _ _)).trans (Ay _ _ _ _)).trans (Ay _ _ _ _)).trans (Ay _ _ _ _)).trans (Ay _ _ _ _)).trans (Ay _ _ _ _))⟩
theorem TT.g8{A:AI}{N:Az}(p:TT g f a h A d e l j k N E)(v:e<=41):
  A7 O 10 #[Ak h] f λq r=>(∃b c s i m n o:Nat,q=Z (BR #[Y J j,Y J (b:Nat),Y J (c:Nat),Y J (s:Nat),Y J (i:Nat),Y J (m:Nat),Y J (n:Nat),Y J k,Y J (o:Nat)]))/\f.grownBy r AA:=
 (Rf p.ca (Ψ p.q)).mono λq r ⟨⟨b,c,i,m,n,o,t⟩,u⟩=>⟨⟨b,c,_,i,m,n,o,t⟩,u⟩
theorem TO(b c d e f g h i:BE)(a:Int)(W:A2):(Instr.field 43 (BR #[b,c,d,e,f,g,h,Y J a,i]) 7).run O W=.ok (Y J a) W:=Θ
end
