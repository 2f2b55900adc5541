/- Lemmas. -/
import Derived.Test.YtcedibmdelehdaaGreatDoorG00
import Derived.Test.YtcedibmdelehdaaGreatDoorG03
import Derived.Deep.AppendLies
import Derived.Deep.DeepFit
import Derived.Deep.DrawnRows
import Derived.Laws.Bits64b
import Derived.Lib.TrailingZeros
import Derived.Test.YtcedibmdelehdaaGreatDoorProg
import Derived.WalkLawsBesides
import Derived.WalkMore
import Derived.WalkSpells
namespace Go.Proofs.YtcedibmdelehdaaGreatDoor
set_option maxRecDepth 100000
set_option maxHeartbeats 32000000
open Go.IntKind renaming u64->E,i64->A2,wrap_u64->BL,wrap_i64->BR
open Go.Ending renaming returned->J
open Bool renaming false->O,true->A5
open Go.Value renaming int->V,pointer->A4,bool->A6,tuple->B0
open Go.Proofs.Tryz renaming prog->Y,results138->Bk,ntmps246->Bs,ntmps202->Bx,func246->BD,func202->BE,ntmps218->BX,ntmps158->BZ,func218->B1,func158->B2
open Go renaming World->Ax,Calls->A7,bodyPost_ret->BC,bits->B3
open Go.Lib renaming ctz->AA
open Option renaming none->A3,some->Bd
open BitVec renaming getLsbD->Bn,getLsbD_not->BA,getLsbD_and->BB
variable{f:List (BitVec 64)}{h b c d i:Nat}{Z g:Ax}{a:Nat->Bool}{e:BitVec 64}
section
open Go.RowKit
def ET(w:Ax):Prop:=∀j,j<64->w.cell? ⟨0,j,A3⟩=Bd (V .u8 ((Lib.deBruijn64tab.getD j 0:Nat):Int))
theorem ET.bb(h:ET Z)(a:g.heap[0]?=Z.heap[0]?):ET g:=λj b=>by
 have:=h j b;unfold World.cell? at*;simp only at*;rw[a];exact this
theorem gN(x a:Nat)(b:x<18446744073709551616)(e:x≠0)(c:x&&&(18446744073709551616 - x)=a):
  E.wrap (B3 BinOp.and E (x:Int) (E.wrap (-(x:Int)))*285870213051353865)/288230376151711744=((a*285870213051353865%18446744073709551616/288230376151711744:Nat):Int):=by
 have d:E.wrap (-(x:Int))=((18446744073709551616 - x:Nat):Int):=by rw[BL];omega
 rw[d,bits_and_u64_nat x _ b Ω,c,BL];omega
theorem eT(x k a:Nat)(w:Ax)(d:((x:Int)==0)=O)
  (b:E.wrap (B3 BinOp.and E (x:Int) (E.wrap (-(x:Int)))*285870213051353865)/288230376151711744=(a:Int))
  (f:a<64)(g:k<64)(h:w.cell? ⟨0,a,A3⟩=Bd (V .u8 k)):
  A7 Y 245 #[V E x] w λe c=>e=J (V A2 k)/\c=w:=by
 go_enter Tryz.func245,Tryz.ntmps245
 go_wp2_with (simp only[b]);go_ret;exact⟨rfl,rfl⟩
theorem iA(x:Nat)(a:x<18446744073709551616)(b:x≠0)(w:Ax)(i:ET w):
  A7 Y 245 #[V E x] w λe c=>e=J (V A2 (AA 64 x:Nat))/\w=c:=by
 obtain⟨j,d⟩:=Lib.lowest_bit 64 x b a;obtain⟨f,k⟩:=Lib.deBruijn64_at _ d;have g:=i _ f;rw[k]at g;exact(eT x _ _ w Γ (gN x _ a b j) f d g).mono (λe c h=>⟨h.1,h.2.symm⟩)
def EX(a:List (BitVec 64)):List Value:=a.map λx=>V E (U x)
theorem RI(a:List (BitVec 64)):(EX a).length=a.length:=by simp[EX]
def wd(a:List (BitVec 64))(q:Nat):BitVec 64:=a.getD q 0
def tk(a:List (BitVec 64))(i:Nat):Bool:=(wd a (i/64)).getLsbD (i%64)
theorem Xe(a:List (BitVec 64))(q:Nat)(h:q<a.length):(EX a)[q]?=Bd (V E (U (wd a q))):=by simp[EX,wd,h,List.getD]
structure ST(w:Ax)(B g c:Nat)(n b:Nat)(a:List (BitVec 64)):Prop where
 y:Aa w B 311 [V A2 n,V A2 b,.slice (Bd ⟨g,0,A3⟩) a.length c]
 aI:∃d,Aa w g 22 (EX a++d)
 ne:B≠g
 gG:ET w
 b0:B≠0
 g0:g≠0
 aC:a.length=(n+63)/64
 n1:1<=n
 n2:n<=65536
 hd:b<n
 dF:∀i,n<=i->tk a i=O
 fv:0<w.heap.size
def Ie(B g:Nat)(k:Nat):Prop:=k=B\/k=g
theorem ST.au{S:Nat->Prop}(a:ST Z h b c d i f)(e:Ac S Z g)(j:¬S h)(k:¬S b)(l:¬S 0):ST g h b c d i f:=by
 obtain⟨m,n⟩:=a.aI;exact⟨e.y a.y j,⟨m,e.y n k⟩,a.ne,a.gG.bb (e.bV _ a.fv l),a.b0,a.g0,a.aC,a.n1,a.n2,a.hd,a.dF,jJ a.fv e.aQ⟩
theorem ST.u(a:ST Z h b c d i f)(e:Z.grownBy g A3):ST g h b c d i f:=
 a.au (S:=λ_=>False) (Ac.az e) (λa=>a) (λa=>a) (λa=>a)
theorem ST.ga(e:ST Z b h c d i f)(q:Nat)(a:q<f.length):Z.cell? ⟨h,q,A3⟩=Bd (V E (U (wd f q))):=by
 obtain⟨j,g⟩:=e.aI;refine g.ap ?_;rw[kL (by rw[RI];exact a)];exact Xe f q a
def Dv(n:Nat)(i:Int):Bool:=decide (0<=i/\i<(n:Int))
theorem Pz(B g c n d:Nat)(f:List (BitVec 64))(i:Int)(w:Ax)(h:ST w B g c n d f):
  A7 Y 246 #[A4 (Bd ⟨B,0,A3⟩),V A2 i] w λe j=>e=J (A6 (Dv n i))/\w=j:=by
 have m:=h.y.m 0;clear h
 rcases(show i<0\/(0<=i/\i<n)\/(0<=i/\(n:Int)<=i) by omega)with a|⟨a,k⟩|⟨a,k⟩
 ·have b:decide (0<=i)=O:=jH Ω;have e:Dv n i=O:=jH Ω;rw[e];clear e
  go_enter BD,Bs
  go_wp2;go_ret;exact⟨rfl,rfl⟩
 ·have b:decide (0<=i)=A5:=jG Ω;have l:decide (i<(n:Int))=A5:=jG Ω;have e:Dv n i=A5:=jG Ω;rw[e];clear e
  go_enter BD,Bs
  go_wp2;go_ret;exact⟨rfl,rfl⟩
 ·have b:decide (0<=i)=A5:=jG Ω;have l:decide (i<(n:Int))=O:=jH Ω;have e:Dv n i=O:=jH Ω;rw[e];clear e
  go_enter BD,Bs
  go_wp2;go_ret;exact⟨rfl,rfl⟩
theorem fO(x:BitVec 64)(s:Nat)(_:s<64):(B3 BinOp.and E (U x/2^s) 1==1)=x.getLsbD s:=by
 rw[Nk];exact iT x s
def FI(n:Nat)(a:List (BitVec 64))(i:Int):Bool:=Dv n i&&tk a i.toNat
theorem Lc(B g c n j:Nat)(a:List (BitVec 64))(i:Int)(w:Ax)(h:ST w B g c n j a):
  A7 Y 218 #[A4 (Bd ⟨B,0,A3⟩),V A2 i] w λe f=>e=J (A6 (FI n a i))/\w=f:=by
 have d:=zh (Pz B g c n j a i w h)
 cases b:Dv n i
 ·have e:FI n a i=O:=by unfold FI;rw[b];rfl
  rw[e];rw[b]at d;clear e b h
  go_enter B1,BX
  go_wp2_with fail;refine d.o.mono ?_;rintro e f ⟨rfl,rfl⟩;go_wp2;go_ret;exact⟨rfl,rfl⟩
 ·obtain⟨l,o⟩:=j7 b;obtain⟨k,rfl⟩:=jU l
  have e:FI n a k=tk a k:=by unfold FI;rw[b];rfl
  rw[e];rw[b]at d;have p:=h.aC;have u:=h.y.m 2;have v:=h.ga (k/64) Ω;have y:k/64<a.length:=Ω;have r:=fO (wd a (k/64)) (k%64) Ω;have m:tk a k=(wd a (k/64)).getLsbD (k%64):=rfl;rw[<-m]at r
  have z:(k:Int).tdiv 64=((k/64:Nat):Int):=by rw[mp Ω];omega
  have A:wrap64 ((k/64:Nat):Int)=((k/64:Nat):Int):=by have:=h.n2;unfold wrap64;omega
  have C:(k:Int).tmod 64=((k%64:Nat):Int):=by rw[kP Ω];omega
  clear e b h l o p m;generalize tk a k=t at*;have D:k%64<64:=Ω;generalize wd a (k/64)=x at*;generalize k/64=q at*;generalize k%64=s at*
  go_enter B1,BX
  go_wp2_with fail;refine d.o.mono ?_;rintro e f ⟨rfl,rfl⟩;go_wp2;go_ret;exact⟨rfl,rfl⟩
theorem fY(B g c n l:Nat)(a:List (BitVec 64))(i:Int)(w:Ax)(h:ST w B g c n l a)(d:(Dv n i&&! tk a i.toNat)=O):
  A7 Y 202 #[A4 (Bd ⟨B,0,A3⟩),V A2 i] w λe f=>e=J (A6 O)/\w=f:=by
 have j:=zh (Pz B g c n l a i w h);have b:=zh (Lc B g c n l a i w h);unfold FI at b;clear h
 cases k:Dv n i
 ·rw[k]at j b;clear k d
  go_enter BE,Bx
  go_wp2_with fail;refine j.o.mono ?_;rintro e f ⟨rfl,rfl⟩;go_wp2;go_ret;exact⟨rfl,rfl⟩
 ·rw[k]at j b d
  have m:tk a i.toNat=A5:=by simpa using d
  rw[m]at b;clear k d m
  go_enter BE,Bx
  go_wp2_with fail;refine j.o.mono ?_;rintro e f ⟨rfl,rfl⟩;go_wp2_with fail;refine b.o.mono ?_;rintro e f ⟨rfl,rfl⟩;go_wp2;go_ret;exact⟨rfl,rfl⟩
theorem ip(x:BitVec 64)(s:Nat)(a:s<64):B3 BinOp.or E (U x) (E.wrap (2^s))=U (x|||(1#64<<<s)):=by
 rw[<-pL ((2:Int)^s),Se s a,ji]
theorem WV(x:BitVec 64)(s:Nat)(a:s<64):B3 BinOp.andNot E (U x) (E.wrap (2^s))=U (x&&&~~~(1#64<<<s)):=by
 rw[<-pL ((2:Int)^s),Se s a,el]
theorem cE(B g c n f:Nat)(a:List (BitVec 64))(k:Nat)(w:Ax)(h:ST w B g c n f a)(u:k<n)(l:tk a k=O):
  A7 Y 202 #[A4 (Bd ⟨B,0,A3⟩),V A2 k] w λe b=>e=J (A6 A5)/\(w.setCell ⟨g,k/64,A3⟩ (V E (U (wd a (k/64)|||(1#64<<<(k%64)))))).drew=b:=by
 have m:=zh (Pz B g c n f a k w h);have i:=zh (Lc B g c n f a k w h);have j:Dv n k=A5:=jG Ω;unfold FI at i;rw[j,jS,l]at i;rw[j]at m;have v:=h.aC;have o:=h.y.m 2;have p:=h.ga (k/64) Ω;have A:k/64<a.length:=Ω;have C:=ip (wd a (k/64)) (k%64) Ω
 have D:(k:Int).tdiv 64=((k/64:Nat):Int):=by rw[mp Ω];omega
 have F:wrap64 ((k/64:Nat):Int)=((k/64:Nat):Int):=by have:=h.n2;unfold wrap64;omega
 have G:A2.wrap ((k/64:Nat):Int)=((k/64:Nat):Int):=by have:=h.n2;rw[BR];omega
 have H:0<=((k/64:Nat):Int)/\((k/64:Nat):Int)<(a.length:Int):=Ω
 have I:(k:Int).tmod 64=((k%64:Nat):Int):=by rw[kP Ω];omega
 obtain⟨L,r⟩:=h.aI;have M:=r.v (k/64);clear j h v l u r;have N:k%64<64:=Ω;generalize(wd a (k/64)|||(1#64<<<(k%64)))=y at*;generalize wd a (k/64)=x at*;generalize k/64=q at*;generalize k%64=s at*
 go_enter BE,Bx
 go_wp2_with fail;refine m.o.mono ?_;rintro e b ⟨rfl,rfl⟩;go_wp2_with fail;refine i.o.mono ?_;rintro e b ⟨rfl,rfl⟩;go_wp2_with fail;refine Dc (λb=>w.grownBy b A3) [([0,1,2,3,4,5,6,7,8,9,10,11,12],13,O)] Φ Φ ?_;refine Cc (AZ w 1 A3) ?_
 repeat(apply AC rfl Θ;(· intro P d;(try have d:=d rfl);(try dsimp only at d);(try have o:=d.cell o Δ);(try have p:=d.cell p Δ);go_simp;(try with_reducible rfl));refine Al ?_)
 refine Aj ?_;refine Am ?_;intro K t;refine t _ _ ?_
 first|refine⟨λz=>(by cases z),?_⟩|skip
 clear t K;refine Al ?_;refine De (NoPanic.normal ?_);go_wp2;go_ret;exact⟨rfl,rfl⟩
theorem YL(B g c n i:Nat)(a:List (BitVec 64))(k:Nat)(w:Ax)(h:ST w B g c n i a)(t:k<n)(j:tk a k=A5):
  A7 Y 158 #[A4 (Bd ⟨B,0,A3⟩),V A2 k] w λe d=>e=J (A6 A5)/\(w.setCell ⟨g,k/64,A3⟩ (V E (U (wd a (k/64)&&&~~~(1#64<<<(k%64)))))).drew=d:=by
 have f:=zh (Lc B g c n i a k w h);have l:Dv n k=A5:=jG Ω;unfold FI at f;rw[l,jS,j]at f;have u:=h.aC;have m:=h.y.m 2;have o:=h.ga (k/64) Ω;have z:k/64<a.length:=Ω;have A:=WV (wd a (k/64)) (k%64) Ω
 have C:(k:Int).tdiv 64=((k/64:Nat):Int):=by rw[mp Ω];omega
 have D:wrap64 ((k/64:Nat):Int)=((k/64:Nat):Int):=by have:=h.n2;unfold wrap64;omega
 have F:A2.wrap ((k/64:Nat):Int)=((k/64:Nat):Int):=by have:=h.n2;rw[BR];omega
 have G:0<=((k/64:Nat):Int)/\((k/64:Nat):Int)<(a.length:Int):=Ω
 have H:(k:Int).tmod 64=((k%64:Nat):Int):=by rw[kP Ω];omega
 obtain⟨I,p⟩:=h.aI;have L:=p.v (k/64);clear l h u j t p;have M:k%64<64:=Ω;generalize(wd a (k/64)&&&~~~(1#64<<<(k%64)))=y at*;generalize wd a (k/64)=x at*;generalize k/64=q at*;generalize k%64=s at*
 go_enter B2,BZ
 go_wp2_with fail;refine f.o.mono ?_;rintro e d ⟨rfl,rfl⟩;go_wp2_with fail;refine Dc (λd=>w.grownBy d A3) [([0,1,2,3,4,5,6,7,8,9,10,11,12],13,O)] Φ Φ ?_;refine Cc (AZ w 1 A3) ?_
 repeat(apply AC rfl Θ;(· intro N b;(try have b:=b rfl);(try dsimp only at b);(try have m:=b.cell m Δ);(try have o:=b.cell o Δ);go_simp;(try with_reducible rfl));refine Al ?_)
 refine Aj ?_;refine Am ?_;intro K r;refine r _ _ ?_
 first|refine⟨λv=>(by cases v),?_⟩|skip
 clear r K;refine Al ?_;refine De (NoPanic.normal ?_);go_wp2;go_ret;exact⟨rfl,rfl⟩
theorem dP(B g c n b:Nat)(a:List (BitVec 64))(i:Int)(w:Ax)(h:ST w B g c n b a)(d:FI n a i=O):
  A7 Y 158 #[A4 (Bd ⟨B,0,A3⟩),V A2 i] w λe f=>e=J (A6 O)/\w=f:=by
 have j:=zh (Lc B g c n b a i w h);rw[d]at j;clear h d
 go_enter B2,BZ
 go_wp2_with fail;refine j.o.mono ?_;rintro e f ⟨rfl,rfl⟩;go_wp2;go_ret;exact⟨rfl,rfl⟩
theorem UC(a:List (BitVec 64))(q:Nat)(y:BitVec 64)(b:q<a.length)(r:Nat):wd (a.set q y) r=if r=q then y else wd a r:=by
 unfold wd;simp only[kH,mL]
 by_cases h:q=r
 ·subst h;simp[b]
 ·rw[jN h,jN (λc=>h c.symm)]
theorem Uh(b s:Nat)(a:b<64):(1#64<<<s).getLsbD b=(b==s):=by
 rw[BitVec.getLsbD_shiftLeft,BitVec.getLsbD_one,m9];simp;omega
theorem Sd(a:List (BitVec 64))(k:Nat)(b:k/64<a.length)(j:Nat):tk (a.set (k/64) (wd a (k/64)|||(1#64<<<(k%64)))) j=(tk a j||j==k):=by
 unfold tk;rw[UC a _ _ b]
 by_cases h:j/64=k/64
 ·have e:(j%64==k%64)=(j==k):=by
   rw[m9,mz,mz];omega
  rw[jP h,BitVec.getLsbD_or,h,Uh _ _ (lA _ Ω),e]
 ·rw[jN h]
  have:(j==k)=O:=by
   rw[kN];intro e;exact h (by rw[e])
  rw[this,Bool.or_false]
theorem Ry(a:List (BitVec 64))(k:Nat)(c:k/64<a.length)(j:Nat):tk (a.set (k/64) (wd a (k/64)&&&~~~(1#64<<<(k%64)))) j=(tk a j&&!(j==k)):=by
 unfold tk;rw[UC a _ _ c]
 by_cases h:j/64=k/64
 ·have e:(j%64==k%64)=(j==k):=by
   rw[m9,mz,mz];omega
  have b:j%64<64:=lA _ Ω;rw[jP h,BB,h,BA,Uh _ _ b,e,jG b,nk]
 ·rw[jN h]
  have:(j==k)=O:=by
   rw[kN];intro e;exact h (by rw[e])
  rw[this,Bool.not_false,qw]
theorem Xk(a:List (BitVec 64))(q:Nat)(y:BitVec 64):EX (a.set q y)=(EX a).set q (V E (U y)):=by simp[EX]
theorem ST.gV{e:Nat}(a:ST Z c h d b e f)(q:Nat)(y:BitVec 64)(g:q<f.length)(j:∀i,b<=i->tk (f.set q y) i=O):
  ST (Z.setCell ⟨h,q,A3⟩ (V E (U y))).drew c h d b e (f.set q y):=by
 obtain⟨k,l⟩:=a.aI
 have m:Aa (Z.setCell ⟨h,q,A3⟩ (V E (U y))) c 311 [V A2 b,V A2 e,.slice (Bd ⟨h,0,A3⟩) (f.set q y).length d]:=by
  rw[kG];exact a.y.fe a.ne _
 refine⟨m.cU,⟨k,?_⟩,a.ne,a.gG.bb ((Ao Z ⟨h,q,A3⟩ (V E (U y))).block _ a.fv (by simp;exact a.g0.symm)),a.b0,a.g0,by rw[kG];exact a.aC,a.n1,a.n2,a.hd,j,jJ a.fv (Ao Z ⟨h,q,A3⟩ (V E (U y))).size⟩;rw[Xk, <-nJ _ _ (by rw[RI];exact g)];exact(l.setCell q _).cU
theorem Qn(w:Ax)(B g q:Nat)(v:Value):Ac (Ie B g) w (w.setCell ⟨g,q,A3⟩ v).drew:=
 Ac.of (row:=Bd g) (Ab (Ao w ⟨g,q,A3⟩ v) (AZ _ 1 _)) (λk h=>.inr (by cases h;rfl))
def SF(w:Ax)(B g:Nat)(n b:Nat)(f:Nat->Bool):Prop:=∃c a,ST w B g c n b a/\∀j,tk a j=f j
theorem SF.au{S:Nat->Prop}(e:SF Z h b c d a)(f:Ac S Z g)(i:¬S h)(j:¬S b)(k:¬S 0):SF g h b c d a:=by
 obtain⟨l,m,n,o⟩:=e;exact⟨l,m,n.au f i j k,o⟩
theorem SF.u(e:SF Z h b c d a)(f:Z.grownBy g A3):SF g h b c d a:=by
 obtain⟨i,j,k,l⟩:=e;exact⟨i,j,k.u f,l⟩
def Ke(n:Nat)(f:Nat->Bool)(i:Int):Bool:=Dv n i&&f i.toNat
theorem bM(B g n a:Nat)(f:Nat->Bool)(i:Int)(w:Ax)(h:SF w B g n a f):
  A7 Y 218 #[A4 (Bd ⟨B,0,A3⟩),V A2 i] w λe b=>e=J (A6 (Ke n f i))/\w=b:=by
 obtain⟨c,d,j,k⟩:=h;have:=Lc B g c n a d i w j;unfold FI at this;rw[k]at this;exact this
def Js(n:Nat)(f:Nat->Bool)(i:Int):Nat->Bool:=λj=>f j||(Dv n i&&j==i.toNat)
def Jg(n:Nat)(f:Nat->Bool)(i:Int):Nat->Bool:=λj=>f j&&!(Dv n i&&j==i.toNat)
theorem TA(B g n m:Nat)(f:Nat->Bool)(i:Int)(w:Ax)(h:SF w B g n m f):
  A7 Y 202 #[A4 (Bd ⟨B,0,A3⟩),V A2 i] w λe o=>e=J (A6 (Dv n i&&! f i.toNat))/\SF o B g n m (Js n f i)/\Ac (Ie B g) w o:=by
 obtain⟨c,b,d,p⟩:=h
 cases a:Dv n i&&! tk b i.toNat
 ·refine(fY B g c n m b i w d a).mono ?_;rintro e o ⟨rfl,rfl⟩;rw[p]at a;refine⟨by rw[a],⟨c,b,d,λj=>?_⟩,Ac.refl _ _⟩;rw[p];unfold Js
  cases l:Dv n i
  ·simp
  ·rw[l]at a
   by_cases s:j=i.toNat
   ·subst s;simp at a;simp[a]
   ·simp[s]
 ·rw[jQ,Bool.not_eq_true']at a;obtain⟨l,q⟩:=a;obtain⟨t,v⟩:=j7 l;obtain⟨k,rfl⟩:=jU t;rw[jS]at q;have x:=d.aC;have r:k/64<b.length:=Ω;refine(cE B g c n m b k w d Ω q).mono ?_;rintro e o ⟨rfl,rfl⟩;rw[jS, <-p,q,l];refine⟨rfl,⟨c,_,d.gV _ _ r (λi u=>?_),λj=>?_⟩,Qn _ _ _ _ _⟩
  ·rw[Sd b k r,d.dF i u];simp;omega
  ·rw[Sd b k r,p];unfold Js;rw[l,jS];simp
theorem RT(B g n m:Nat)(f:Nat->Bool)(i:Int)(w:Ax)(h:SF w B g n m f):
  A7 Y 158 #[A4 (Bd ⟨B,0,A3⟩),V A2 i] w λe o=>e=J (A6 (Ke n f i))/\SF o B g n m (Jg n f i)/\Ac (Ie B g) w o:=by
 obtain⟨c,b,d,p⟩:=h
 cases a:FI n b i
 ·refine(dP B g c n m b i w d a).mono ?_;rintro e o ⟨rfl,rfl⟩;unfold FI at a;rw[p]at a;refine⟨by unfold Ke;rw[a],⟨c,b,d,λj=>?_⟩,Ac.refl _ _⟩;rw[p];unfold Jg
  cases l:Dv n i
  ·simp
  ·rw[l]at a
   by_cases s:j=i.toNat
   ·subst s;simp at a;simp[a]
   ·simp[s]
 ·unfold FI at a;rw[jQ]at a;obtain⟨l,q⟩:=a;obtain⟨t,v⟩:=j7 l;obtain⟨k,rfl⟩:=jU t;rw[jS]at q;have x:=d.aC;have r:k/64<b.length:=Ω;refine(YL B g c n m b k w d Ω q).mono ?_;rintro e o ⟨rfl,rfl⟩;unfold Ke;rw[jS, <-p,q,l];refine⟨rfl,⟨c,_,d.gV _ _ r (λi u=>?_),λj=>?_⟩,Qn _ _ _ _ _⟩
  ·rw[Ry b k r,d.dF i u];rfl
  ·rw[Ry b k r,p];unfold Jg;rw[l,jS];simp
theorem TC(x:Nat)(a:x≠0)(b:x<18446744073709551616):∃m,x=2^AA 64 x*(2*m+1)/\AA 64 x<64:=by
 have h:=Lib.ctzFrom_spec 64 x Ω b
 have e:AA 64 x=Lib.ctzFrom 64 x:=by simp[AA,a]
 rw[e];exact h
theorem fR(x:BitVec 64)(c:x≠0#64):x.getLsbD (AA 64 x.toNat)=A5/\(∀b,b<AA 64 x.toNat->x.getLsbD b=O)/\AA 64 x.toNat<64:=by
 have d:x.toNat≠0:=λh=>c (me h)
 obtain⟨m,e,f⟩:=TC x.toNat d x.isLt;generalize AA 64 x.toNat=t at*
 have a:∀b,x.getLsbD b=if b<t then O else(2*m+1).testBit (b - t):=λb=>by
  unfold Bn;rw[e];have:=nF (i:=t) (b:=0) (2*m+1) (mM t) b;rw[kU]at this;rw[this];simp
 refine⟨?_,λb h=>?_,f⟩
 ·rw[a,jN Ω,lJ,oK];simp
 ·rw[a,jP h]
theorem fC(x:BitVec 64)(c:x≠0#64)(b:Nat):(x&&&(x - 1#64)).getLsbD b=(x.getLsbD b&&!(b==AA 64 x.toNat)):=by
 have f:x.toNat≠0:=λh=>c (me h)
 obtain⟨m,a,q⟩:=TC x.toNat f x.isLt;generalize AA 64 x.toNat=t at*;have r:0<2^t:=mM t
 have g:(x - 1#64).toNat=2^t*(2*m)+(2^t - 1):=by
  have j:(x - 1#64).toNat=x.toNat - 1:=by
   rw[qa];have:=x.isLt;simp;omega
  rw[j,a,oq];omega
 have k:x.getLsbD b=if b<t then O else(2*m+1).testBit (b - t):=by
  unfold Bn;rw[a];have:=nF (i:=t) (b:=0) (2*m+1) (mM t) b;rw[kU]at this;rw[this];simp
 have l:(x - 1#64).getLsbD b=if b<t then(2^t - 1).testBit b else(2*m).testBit (b - t):=by
  unfold Bn;rw[g,nF (i:=t) (b:=2^t - 1) (2*m) Ω b]
 rw[BB,k,l]
 by_cases h:b<t
 ·rw[jP h,jP h];simp
 ·rw[jN h,jN h]
  by_cases e:b=t
  ·subst e;rw[lJ,oK,oK];simp
  ·have n:(b==t)=O:=by simpa using e
   obtain⟨d,o⟩:∃d,b - t=d+1:=⟨b - t - 1,Ω⟩;rw[n,o,Nat.testBit_add_one,Nat.testBit_add_one];have p:(2*m+1)/2=2*m/2:=Ω;rw[p];simp
theorem dT(x:BitVec 64)(a:x≠0#64):(x&&&(x - 1#64)).toNat<x.toNat:=by
 have c:x.toNat≠0:=λh=>a (me h)
 have b:(x - 1#64).toNat=x.toNat - 1:=by
  rw[qa];have:=x.isLt;simp;omega
 rw[BitVec.toNat_and,b];have:=Nat.and_le_right (n:=x.toNat) (m:=x.toNat - 1);omega
def Pr(n:Nat)(f:Nat->Bool)(a:Nat)(r:Int):Prop:=
 (r= -1/\∀j,a<=j->j<n->f j=A5)\/∃i:Nat,r=i/\a<=i/\i<n/\f i=O/\∀j,a<=j->j<i->f j=A5
theorem fa(x:BitVec 64):B3 BinOp.xor E E.max (U x)=U (~~~x):=by
 have e:E.max=U (BitVec.allOnes 64):=by decide+kernel
 rw[e,Nn,BitVec.allOnes_xor]
def Lk(a:List (BitVec 64))(p q:Nat)(x:BitVec 64)(m:Nat):Prop:=m<=64/\(∀b,b<64->x.getLsbD b=(decide (m<=b)&&!(wd a q).getLsbD b))/\∀j,p<=j->j<64*q+m->tk a j=A5
theorem PH(a:List (BitVec 64))(q b:Nat)(c:b<64):tk a (64*q+b)=(wd a q).getLsbD b:=by
 unfold tk;rw[show(64*q+b)/64=q by omega,show(64*q+b)%64=b by omega]
theorem Xc(a:List (BitVec 64))(p q:Nat)(h:∀j,p<=j->j<64*q->tk a j=A5):Lk a p q (~~~(wd a q)) 0:=
 ⟨Ω,λb c=>by rw[BA];simp[c],λj d e=>h j d Ω⟩
theorem ZX(d:Lk f c h e b)(i:e=0#64):∀j,c<=j->j<64*(h+1)->tk f j=A5:=by
 intro j k m
 by_cases l:j<64*h+b
 ·exact d.2.2 j k l
 ·obtain⟨a,rfl⟩:∃a,j=64*h+a:=⟨j - 64*h,Ψ d.1⟩;have g:a<64:=Ω;rw[PH f h a g];have:=d.2.1 a g;rw[i,BitVec.getLsbD_zero,jG (show b<=a by omega)]at this;simpa using this.symm
theorem eI(d:Lk f b h e c)(l:e≠0#64):AA 64 e.toNat<64/\tk f (64*h+AA 64 e.toNat)=O/\(∀j,b<=j->j<64*h+AA 64 e.toNat->tk f j=A5)/\(64*h+AA 64 e.toNat<b->Lk f b h (e&&&(e - 1#64)) (AA 64 e.toNat+1)):=by
 obtain⟨r,m,i⟩:=fR e l;have s:=fC e l;generalize AA 64 e.toNat=t at*;have n:=d.2.1 t i;rw[r]at n
 have u:c<=t/\(wd f h).getLsbD t=O:=by simpa using n.symm
 have o:∀j,b<=j->j<64*h+t->tk f j=A5:=by
  intro j k v
  by_cases w:j<64*h+c
  ·exact d.2.2 j k w
  ·obtain⟨a,rfl⟩:∃a,j=64*h+a:=⟨j - 64*h,Ω⟩;have g:a<t:=Ω;rw[PH f h a Ω];have:=d.2.1 a Ω;rw[m a g,jG (show c<=a by omega)]at this;simpa using this.symm
 refine⟨i,by rw[PH f h t i];exact u.2,o,λy=>⟨Ω,λa g=>?_,λj k v=>o j k Ω⟩⟩;rw[s a,d.2.1 a g]
 by_cases x:a<t
 ·have p:=d.2.1 a g;rw[m a x]at p;rw[<-p,jH (show¬t+1<=a by omega)];rfl
 ·by_cases q:a=t
  ·subst q;rw[jH (show¬a+1<=a by omega)];simp
  ·rw[jG (show c<=a by omega),jG (show t+1<=a by omega)]
   have:(a==t)=O:=by simpa using q
   rw[this];simp
theorem U3(a:h<=64*b+c):decide ((h:Int)<=(b:Int)*64+(c:Int))=A5:=jG Ω
theorem Qd(a:64*b+c<h):decide ((h:Int)<=(b:Int)*64+(c:Int))=O:=jH Ω
theorem iR(n p i:Nat):n<=i\/(i<n/\p<=i)\/(i<n/\i<p):=Ω
theorem iL(q t:Nat):(q:Int)*64+(t:Int)=((64*q+t:Nat):Int):=Ω
theorem jf(x:BitVec 64)(a:x≠0#64):(U x==0)=O:=by
 have b:x.toNat≠0:=λh=>a (me h)
 rw[kN];unfold U;omega
theorem iu{a b:Int}{t:Bool}(h:(a==b)=t):(a !=b)=! t:=by unfold bne;rw[h]
theorem fM(x:BitVec 64):B3 BinOp.and E (U x) (E.wrap (U x - 1))=U (x&&&(x - 1#64)):=by
 rw[show(1:Int)=U 1#64 from rfl,iV,UQ]
theorem dx(B g c n K:Nat)(a:List (BitVec 64))(p:Nat)(w:Ax)(h:ST w B g c n K a)(hp:p<n):
  A7 Y 201 #[A4 (Bd ⟨B,0,A3⟩),V A2 p] w λe L=>(∃r,e=J (V A2 r)/\Pr n (tk a) p r)/\w=L:=by
 have M:=h.aC;have hn:=h.n2;have k0:=h.y.m 0;have k2:=h.y.m 2;have N:=zh (λq v=>h.ga q v);have P:=zh h.gG;clear h;have Q:p/64<=a.length:=Ω;have an:a.length<=1024:=Ω;have R:Hd (n<=64*a.length):=zh Ω;clear M
 have ew:wrap64 ((p/64:Nat):Int)=((p/64:Nat):Int):=by unfold wrap64;omega
 go_enter Tryz.func201,Tryz.ntmps201
 go_wp2_with fail
 go_step3
 go_wp2_with fail
 go_step3
 go_wp2_with fail
 go_loop [5] (λo=>∃q:Nat,o=V A2 q/\q<=a.length/\∀j,p<=j->j<64*q->tk a j=A5) (λo=>a.length - (intOf o).toNat)
 case atStart=>exact⟨p/64,rfl,Q,λj i s=>Ω⟩
 case round=>
  obtain⟨q,rfl,v,k⟩:=hrel
  by_cases z:q<a.length
  ·have hw:=N.o q z;have S:=zh (Xc a p q k);have hx:=fa (wd a q);clear k;go_wp2_with fail
   go_loop [6] (λu=>∃(x:BitVec 64) (m:Nat),u=V E (U x)/\Lk a p q x m) (λu=>(intOf u).toNat)
   case atStart=>exact⟨_,0,rfl,S.o⟩
   case round=>
    obtain⟨x,m,rfl,l⟩:=hrel
    by_cases d:x=0#64
    ·have T:=zh (ZX l d)
     have A:(U x==0)=A5:=by subst d;rfl
     have W:(U x !=0)=O:=by subst d;rfl
     clear l;go_wp2_with fail
     go_round
     case rel=>exact⟨q+1,by go_num,Ω,T.o⟩
     case measure=>simp[intOf];omega
    ·obtain⟨k1,C,D,F⟩:=eI l d;have X:=zh (dT x d)
     have G:x.toNat≠0:=λh=>d (me h)
     have A:(U x==0)=O:=jf x d;have W:(U x !=0)=A5:=iu A;have au:=fM x;have Z:=zh (iA x.toNat x.isLt G w P.o);have K2:=zh C;have H:=zh D;have K4:=zh F;clear l d C D F G;have hU:V E (U x)=V E (x.toNat:Int):=rfl;generalize hy:x&&&(x - 1#64)=y at*;clear hy;generalize AA 64 x.toNat=t at*;go_wp2_with fail;refine Z.o.mono ?_;rintro e w1 ⟨rfl,rfl⟩;have HI:=zh (iL q t)
     rcases iR n p (64*q+t)with b|⟨b,f⟩|⟨b,f⟩
     ·have I:=U3 b;have ae:Hd (∀j,p<=j->j<n->tk a j=A5):=zh (λj i s=>H.o j i (jJ s b));clear b;go_wp2_with fail
      (try simp only[Exit.noGoto_ret])
      go_ret;exact⟨⟨_,rfl,.inl ⟨rfl,ae.o⟩⟩,rfl⟩
     ·have I:=Qd b;have c2:=U3 f;have ag:Hd (Pr n (tk a) p ((q:Int)*64+(t:Int))):=zh (by rw[HI.o];exact .inr ⟨_,rfl,f,b,K2.o,H.o⟩);clear b f;go_wp2_with fail
      (try simp only[Exit.noGoto_ret])
      go_ret;exact⟨⟨_,rfl,ag.o⟩,rfl⟩
     ·have I:=Qd b;have c2:=Qd f;have ah:=zh (K4.o f);clear b f;go_wp2_with fail;exact⟨⟨y,t+1,rfl,ah.o⟩,by have:=X.o;simp only[intOf,U,jS];exact this⟩
  ·have ai:Hd (∀j,p<=j->j<n->tk a j=A5):=zh (λj i s=>k j i (Ψ R.o));obtain rfl:q=a.length:=Ω;clear k z;go_wp2_with fail;go_ret;exact⟨⟨_,rfl,.inl ⟨rfl,ai.o⟩⟩,rfl⟩
theorem ST.eK(a:ST Z h c d b i f)(e:Nat)(g:e<b):ST (Z.setCell ⟨h,1,A3⟩ (V A2 e)) h c d b e f:=by
 obtain⟨j,k⟩:=a.aI;exact⟨a.y.setCell 1 _,⟨j,k.fe a.ne.symm _⟩,a.ne,a.gG.bb ((Ao Z ⟨h,1,A3⟩ (V A2 e)).block _ a.fv (by simp;exact a.b0.symm)),a.b0,a.g0,a.aC,a.n1,a.n2,g,a.dF,jJ a.fv (Ao Z ⟨h,1,A3⟩ (V A2 e)).size⟩
theorem SF.eK(f:SF Z h c b d a)(e:Nat)(g:e<b):SF (Z.setCell ⟨h,1,A3⟩ (V A2 e)) h c b e a:=by
 obtain⟨i,j,k,l⟩:=f;exact⟨i,j,k.eK e g,l⟩
theorem Rh(w:Ax)(B g:Nat)(v:Value):Ac (Ie B g) w (w.setCell ⟨B,1,A3⟩ v):=
 Ac.of (row:=Bd B) (Ao w ⟨B,1,A3⟩ v) (λk h=>.inl (by cases h;rfl))
theorem Sw(B g n a:Nat)(f:Nat->Bool)(p:Nat)(w:Ax)(h:SF w B g n a f)(d:p<n):
  A7 Y 201 #[A4 (Bd ⟨B,0,A3⟩),V A2 p] w λe i=>(∃r,e=J (V A2 r)/\Pr n f p r)/\w=i:=by
 obtain⟨c,b,j,k⟩:=h;have:=dx B g c n a b p w j d
 rwa[show tk b=f from funext k]at this
def Nu(n a:Nat)(f:Nat->Bool)(i:Nat):Prop:=i<n/\f i=O/\((a<=i/\∀j,a<=j->j<i->f j=A5)\/(i<a/\(∀j,a<=j->j<n->f j=A5)/\∀j,j<i->f j=A5))
def iS(B g n b:Nat)(f:Nat->Bool)(w:Ax)(e:Ending)(a:Ax):Prop:=
 (e=J (B0 #[V A2 0,A6 O])/\w=a/\∀j,j<n->f j=A5)\/
 (∃i:Nat,e=J (B0 #[V A2 i,A6 A5])/\Nu n b f i/\SF a B g n ((i+1)%n) (Js n f i)/\Ac (Ie B g) w a)
theorem Xl{i:Nat}(c:h<=i)(d:i<b)(e:a i=O)(f:∀j,h<=j->j<i->a j=A5):Nu b h a i:=⟨d,e,.inl ⟨c,f⟩⟩
theorem Y5{i:Nat}(e:∀j,b<=j->j<h->a j=A5)(f:i<h)(d:a i=O)(g:∀j,0<=j->j<i->a j=A5):Nu h b a i:=by
 refine⟨f,d,.inr ⟨?_,e,λj c=>g j (ke _) c⟩⟩
 rcases mn i b with c|c
 ·exact c
 ·rw[e i c f]at d
  cases d
theorem ep(B g n b:Nat)(f:Nat->Bool)(w:Ax)(h:SF w B g n b f):
  A7 Y 138 #[A4 (Bd ⟨B,0,A3⟩)] w (iS B g n b f w):=by
 have H:=zh h;obtain⟨c,E,a,G⟩:=h;have q:=a.y.m 1;have I:=a.n1;have N:=a.n2;have J:=a.hd;clear a G
 go_enter Tryz.func138,Tryz.ntmps138
 go_wp2_with fail;refine(Sw B g n b f b w H.o J).mono ?_;rintro e k ⟨⟨r,rfl,t⟩,rfl⟩
 rcases t with⟨rfl,l⟩|⟨i,rfl,s,u,m,o⟩
 ·have F:=zh l;clear l;go_wp2_with fail;refine(Sw B g n b f 0 w H.o I).mono ?_;rintro e k ⟨⟨r,rfl,t⟩,rfl⟩
  rcases t with⟨rfl,l⟩|⟨i,rfl,s,u,m,o⟩
  ·have K:=zh l;clear l;go_wp2_with fail;exact BC (v:=B0 #[V A2 0,A6 O]) (by simp[results,Bk,go_sem]) rfl (.inl ⟨rfl,rfl,λj h=>K.o j (ke _) h⟩)
  ·have x:=zh (Y5 F.o u m o);have y:Dv n (i:Int)=A5:=jG Ω;clear s o F q;go_wp2_with fail;refine(TA B g n b f i w H.o).mono ?_;rintro e k ⟨rfl,d,p⟩;rw[y,jS,m];obtain⟨c,E,a,_⟩:=id d;have L:=a.y.m 0;have q:=a.y.m 1;have M:=a.y.v 1;have z:=zh d;have A:=zh p;clear a d p H;go_wp2_with fail;have C:=z.o.eK ((i+1)%n) (lA _ Ω);have D:=A.o.trans (Rh k B g (V A2 (((i+1)%n:Nat):Int)));refine BC (v:=B0 #[V A2 i,A6 A5]) (by simp[results,Bk,go_sem]) rfl (.inr ⟨i,rfl,x.o,?_,?_⟩)
   ·exact C
   ·exact D
 ·have x:=zh (Xl s u m o);have y:Dv n (i:Int)=A5:=jG Ω;clear s o q;go_wp2_with fail;refine(TA B g n b f i w H.o).mono ?_;rintro e k ⟨rfl,d,p⟩;rw[y,jS,m];obtain⟨c,E,a,_⟩:=id d;have L:=a.y.m 0;have q:=a.y.m 1;have M:=a.y.v 1;have z:=zh d;have A:=zh p;clear a d p H;go_wp2_with fail;have C:=z.o.eK ((i+1)%n) (lA _ Ω);have D:=A.o.trans (Rh k B g (V A2 (((i+1)%n:Nat):Int)));refine BC (v:=B0 #[V A2 i,A6 A5]) (by simp[results,Bk,go_sem]) rfl (.inr ⟨i,rfl,x.o,?_,?_⟩)
  ·exact C
  ·exact D
end
