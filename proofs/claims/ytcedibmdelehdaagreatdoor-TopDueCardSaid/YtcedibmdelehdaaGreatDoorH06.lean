/- Lemmas. -/
import Derived.Test.YtcedibmdelehdaaGreatDoorH00
import Derived.Test.YtcedibmdelehdaaGreatDoorH05
import Derived.Deep.AppendLies
import Derived.Deep.DeepFit
import Derived.Deep.DrawnRows
import Derived.Laws.Bits64b
import Derived.Lib.TrailingZeros
import Derived.Test.YtcedibmdelehdaaGreatDoorProg
import Derived.WalkLawsBesides
import Derived.WalkMore
import Derived.WalkSpells
namespace Go.Proofs.YtcedibmdelehdaaGreatDoor
set_option maxRecDepth 100000
set_option maxHeartbeats 32000000
open Go.IntKind renaming u64->E,i64->A2,wrap_u64->B0,wrap_i64->B1
open Go.Ending renaming returned->J
open Bool renaming false->O,true->Bd
open Go.Value renaming int->V,pointer->A4,bool->Bk,tuple->B4
open Go.Proofs.Tryz renaming prog->Y,results138->Bx,ntmps246->BB,ntmps202->BC,func246->BR,func202->BX,ntmps218->B2,ntmps158->B3,func218->B5,func158->B6
open Go renaming World->Ax,Calls->Bn,bodyPost_ret->BL,bits->B7
open Go.Lib renaming ctz->AA
open Option renaming none->A3,some->Bs
open BitVec renaming getLsbD->BA,getLsbD_not->BD,getLsbD_and->BE
variable{h:List (BitVec 64)}{Z c d e i:Nat}{a g:Ax}{b:Nat->Bool}{f:BitVec 64}
section
open Go.RowKit
def EO(w:Ax):Prop:=∀j,j<64->w.cell? ⟨0,j,A3⟩=Bs (V .u8 ((Lib.deBruijn64tab.getD j 0:Nat):Int))
theorem EO.bg(h:EO a)(b:g.heap[0]?=a.heap[0]?):EO g:=λj c=>by
 have:=h j c;unfold World.cell? at*;simp only at*;rw[b];exact this
theorem gN(x a:Nat)(b:x<18446744073709551616)(e:x≠0)(c:x&&&(18446744073709551616 - x)=a):
  E.wrap (B7 BinOp.and E (x:Int) (E.wrap (-(x:Int)))*285870213051353865)/288230376151711744=((a*285870213051353865%18446744073709551616/288230376151711744:Nat):Int):=by
 have d:E.wrap (-(x:Int))=((18446744073709551616 - x:Nat):Int):=by rw[B0];omega
 rw[d,bits_and_u64_nat x _ b Ω,c,B0];omega
theorem eT(x k a:Nat)(w:Ax)(d:((x:Int)==0)=O)
  (b:E.wrap (B7 BinOp.and E (x:Int) (E.wrap (-(x:Int)))*285870213051353865)/288230376151711744=(a:Int))
  (f:a<64)(g:k<64)(h:w.cell? ⟨0,a,A3⟩=Bs (V .u8 k)):
  Bn Y 245 #[V E x] w λe c=>e=J (V A2 k)/\c=w:=by
 go_enter Tryz.func245,Tryz.ntmps245
 go_wp2_with (simp only[b]);go_ret;exact⟨rfl,rfl⟩
theorem iB(x:Nat)(a:x<18446744073709551616)(b:x≠0)(w:Ax)(i:EO w):
  Bn Y 245 #[V E x] w λe c=>e=J (V A2 (AA 64 x:Nat))/\w=c:=by
 obtain⟨j,d⟩:=Lib.lowest_bit 64 x b a;obtain⟨f,k⟩:=Lib.deBruijn64_at _ d;have g:=i _ f;rw[k]at g;exact(eT x _ _ w Γ (gN x _ a b j) f d g).mono (λe c h=>⟨h.1,h.2.symm⟩)
def ET(a:List (BitVec 64)):List Value:=a.map λx=>V E (U x)
theorem Rt(a:List (BitVec 64)):(ET a).length=a.length:=by simp[ET]
def wd(a:List (BitVec 64))(q:Nat):BitVec 64:=a.getD q 0
def tk(a:List (BitVec 64))(i:Nat):Bool:=(wd a (i/64)).getLsbD (i%64)
theorem WX(a:List (BitVec 64))(q:Nat)(h:q<a.length):(ET a)[q]?=Bs (V E (U (wd a q))):=by simp[ET,wd,h,List.getD]
structure ST(w:Ax)(B g c:Nat)(n b:Nat)(a:List (BitVec 64)):Prop where
 u:Aa w B 311 [V A2 n,V A2 b,.slice (Bs ⟨g,0,A3⟩) a.length c]
 aB:∃d,Aa w g 22 (ET a++d)
 ne:B≠g
 gQ:EO w
 b0:B≠0
 g0:g≠0
 aF:a.length=(n+63)/64
 n1:1<=n
 n2:n<=65536
 hd:b<n
 dA:∀i,n<=i->tk a i=O
 fw:0<w.heap.size
def Hn(B g:Nat)(k:Nat):Prop:=k=B\/k=g
theorem ST.ak{S:Nat->Prop}(b:ST a Z c d e i h)(f:Ac S a g)(j:¬S Z)(k:¬S c)(l:¬S 0):ST g Z c d e i h:=by
 obtain⟨m,n⟩:=b.aB;exact⟨f.u b.u j,⟨m,f.u n k⟩,b.ne,b.gQ.bg (f.bK _ b.fw l),b.b0,b.g0,b.aF,b.n1,b.n2,b.hd,b.dA,jY b.fw f.size⟩
theorem ST.grown(b:ST a Z c d e i h)(f:a.grownBy g A3):ST g Z c d e i h:=
 b.ak (S:=λ_=>False) (Ac.au f) (λb=>b) (λb=>b) (λb=>b)
theorem ST.gd(f:ST a c Z d e i h)(q:Nat)(b:q<h.length):a.cell? ⟨Z,q,A3⟩=Bs (V E (U (wd h q))):=by
 obtain⟨j,g⟩:=f.aB;refine g.aq ?_;rw[lj (by rw[Rt];exact b)];exact WX h q b
def Df(n:Nat)(i:Int):Bool:=decide (0<=i/\i<(n:Int))
theorem Pr(B g c n d:Nat)(f:List (BitVec 64))(i:Int)(w:Ax)(h:ST w B g c n d f):
  Bn Y 246 #[A4 (Bs ⟨B,0,A3⟩),V A2 i] w λe j=>e=J (Bk (Df n i))/\w=j:=by
 have m:=h.u.m 0;clear h
 rcases(show i<0\/(0<=i/\i<n)\/(0<=i/\(n:Int)<=i) by omega)with a|⟨a,k⟩|⟨a,k⟩
 ·have b:decide (0<=i)=O:=jV Ω;have e:Df n i=O:=jV Ω;rw[e];clear e
  go_enter BR,BB
  go_wp2;go_ret;exact⟨rfl,rfl⟩
 ·have b:decide (0<=i)=Bd:=jT Ω;have l:decide (i<(n:Int))=Bd:=jT Ω;have e:Df n i=Bd:=jT Ω;rw[e];clear e
  go_enter BR,BB
  go_wp2;go_ret;exact⟨rfl,rfl⟩
 ·have b:decide (0<=i)=Bd:=jT Ω;have l:decide (i<(n:Int))=O:=jV Ω;have e:Df n i=O:=jV Ω;rw[e];clear e
  go_enter BR,BB
  go_wp2;go_ret;exact⟨rfl,rfl⟩
theorem fM(x:BitVec 64)(s:Nat)(_:s<64):(B7 BinOp.and E (U x/2^s) 1==1)=x.getLsbD s:=by
 rw[PA];exact iV x s
def FD(n:Nat)(a:List (BitVec 64))(i:Int):Bool:=Df n i&&tk a i.toNat
theorem KG(B g c n j:Nat)(a:List (BitVec 64))(i:Int)(w:Ax)(h:ST w B g c n j a):
  Bn Y 218 #[A4 (Bs ⟨B,0,A3⟩),V A2 i] w λe f=>e=J (Bk (FD n a i))/\w=f:=by
 have d:=zh (Pr B g c n j a i w h)
 cases b:Df n i
 ·have e:FD n a i=O:=by unfold FD;rw[b];rfl
  rw[e];rw[b]at d;clear e b h
  go_enter B5,B2
  go_wp2_with fail;refine d.o.mono ?_;rintro e f ⟨rfl,rfl⟩;go_wp2;go_ret;exact⟨rfl,rfl⟩
 ·obtain⟨l,o⟩:=kQ b;obtain⟨k,rfl⟩:=kT l
  have e:FD n a k=tk a k:=by unfold FD;rw[b];rfl
  rw[e];rw[b]at d;have p:=h.aF;have u:=h.u.m 2;have v:=h.gd (k/64) Ω;have y:k/64<a.length:=Ω;have r:=fM (wd a (k/64)) (k%64) Ω;have m:tk a k=(wd a (k/64)).getLsbD (k%64):=rfl;rw[<-m]at r
  have z:(k:Int).tdiv 64=((k/64:Nat):Int):=by rw[mV Ω];omega
  have A:wrap64 ((k/64:Nat):Int)=((k/64:Nat):Int):=by have:=h.n2;unfold wrap64;omega
  have C:(k:Int).tmod 64=((k%64:Nat):Int):=by rw[ln Ω];omega
  clear e b h l o p m;generalize tk a k=t at*;have D:k%64<64:=Ω;generalize wd a (k/64)=x at*;generalize k/64=q at*;generalize k%64=s at*
  go_enter B5,B2
  go_wp2_with fail;refine d.o.mono ?_;rintro e f ⟨rfl,rfl⟩;go_wp2;go_ret;exact⟨rfl,rfl⟩
theorem fW(B g c n l:Nat)(a:List (BitVec 64))(i:Int)(w:Ax)(h:ST w B g c n l a)(d:(Df n i&&! tk a i.toNat)=O):
  Bn Y 202 #[A4 (Bs ⟨B,0,A3⟩),V A2 i] w λe f=>e=J (Bk O)/\w=f:=by
 have j:=zh (Pr B g c n l a i w h);have b:=zh (KG B g c n l a i w h);unfold FD at b;clear h
 cases k:Df n i
 ·rw[k]at j b;clear k d
  go_enter BX,BC
  go_wp2_with fail;refine j.o.mono ?_;rintro e f ⟨rfl,rfl⟩;go_wp2;go_ret;exact⟨rfl,rfl⟩
 ·rw[k]at j b d
  have m:tk a i.toNat=Bd:=by simpa using d
  rw[m]at b;clear k d m
  go_enter BX,BC
  go_wp2_with fail;refine j.o.mono ?_;rintro e f ⟨rfl,rfl⟩;go_wp2_with fail;refine b.o.mono ?_;rintro e f ⟨rfl,rfl⟩;go_wp2;go_ret;exact⟨rfl,rfl⟩
theorem ip(x:BitVec 64)(s:Nat)(a:s<64):B7 BinOp.or E (U x) (E.wrap (2^s))=U (x|||(1#64<<<s)):=by
 rw[<-ql ((2:Int)^s),RQ s a,jo]
theorem WO(x:BitVec 64)(s:Nat)(a:s<64):B7 BinOp.andNot E (U x) (E.wrap (2^s))=U (x&&&~~~(1#64<<<s)):=by
 rw[<-ql ((2:Int)^s),RQ s a,ef]
theorem bT(B g c n f:Nat)(a:List (BitVec 64))(k:Nat)(w:Ax)(h:ST w B g c n f a)(u:k<n)(l:tk a k=O):
  Bn Y 202 #[A4 (Bs ⟨B,0,A3⟩),V A2 k] w λe b=>e=J (Bk Bd)/\(w.setCell ⟨g,k/64,A3⟩ (V E (U (wd a (k/64)|||(1#64<<<(k%64)))))).drew=b:=by
 have m:=zh (Pr B g c n f a k w h);have i:=zh (KG B g c n f a k w h);have j:Df n k=Bd:=jT Ω;unfold FD at i;rw[j,km,l]at i;rw[j]at m;have v:=h.aF;have o:=h.u.m 2;have p:=h.gd (k/64) Ω;have A:k/64<a.length:=Ω;have C:=ip (wd a (k/64)) (k%64) Ω
 have D:(k:Int).tdiv 64=((k/64:Nat):Int):=by rw[mV Ω];omega
 have F:wrap64 ((k/64:Nat):Int)=((k/64:Nat):Int):=by have:=h.n2;unfold wrap64;omega
 have G:A2.wrap ((k/64:Nat):Int)=((k/64:Nat):Int):=by have:=h.n2;rw[B1];omega
 have H:0<=((k/64:Nat):Int)/\((k/64:Nat):Int)<(a.length:Int):=Ω
 have I:(k:Int).tmod 64=((k%64:Nat):Int):=by rw[ln Ω];omega
 obtain⟨L,r⟩:=h.aB;have M:=r.v (k/64);clear j h v l u r;have N:k%64<64:=Ω;generalize(wd a (k/64)|||(1#64<<<(k%64)))=y at*;generalize wd a (k/64)=x at*;generalize k/64=q at*;generalize k%64=s at*
 go_enter BX,BC
 go_wp2_with fail;refine m.o.mono ?_;rintro e b ⟨rfl,rfl⟩;go_wp2_with fail;refine i.o.mono ?_;rintro e b ⟨rfl,rfl⟩;go_wp2_with fail;refine Dg (λb=>w.grownBy b A3) [([0,1,2,3,4,5,6,7,8,9,10,11,12],13,O)] Φ Φ ?_;refine BU (AS w 1 A3) ?_
 repeat(apply AB rfl Θ;(· intro P d;(try have d:=d rfl);(try dsimp only at d);(try have o:=d.cell o Δ);(try have p:=d.cell p Δ);go_simp;(try with_reducible rfl));refine Ak ?_)
 refine Aj ?_;refine Al ?_;intro K t;refine t _ _ ?_
 first|refine⟨λz=>(by cases z),?_⟩|skip
 clear t K;refine Ak ?_;refine Di (NoPanic.normal ?_);go_wp2;go_ret;exact⟨rfl,rfl⟩
theorem YA(B g c n i:Nat)(a:List (BitVec 64))(k:Nat)(w:Ax)(h:ST w B g c n i a)(t:k<n)(j:tk a k=Bd):
  Bn Y 158 #[A4 (Bs ⟨B,0,A3⟩),V A2 k] w λe d=>e=J (Bk Bd)/\(w.setCell ⟨g,k/64,A3⟩ (V E (U (wd a (k/64)&&&~~~(1#64<<<(k%64)))))).drew=d:=by
 have f:=zh (KG B g c n i a k w h);have l:Df n k=Bd:=jT Ω;unfold FD at f;rw[l,km,j]at f;have u:=h.aF;have m:=h.u.m 2;have o:=h.gd (k/64) Ω;have z:k/64<a.length:=Ω;have A:=WO (wd a (k/64)) (k%64) Ω
 have C:(k:Int).tdiv 64=((k/64:Nat):Int):=by rw[mV Ω];omega
 have D:wrap64 ((k/64:Nat):Int)=((k/64:Nat):Int):=by have:=h.n2;unfold wrap64;omega
 have F:A2.wrap ((k/64:Nat):Int)=((k/64:Nat):Int):=by have:=h.n2;rw[B1];omega
 have G:0<=((k/64:Nat):Int)/\((k/64:Nat):Int)<(a.length:Int):=Ω
 have H:(k:Int).tmod 64=((k%64:Nat):Int):=by rw[ln Ω];omega
 obtain⟨I,p⟩:=h.aB;have L:=p.v (k/64);clear l h u j t p;have M:k%64<64:=Ω;generalize(wd a (k/64)&&&~~~(1#64<<<(k%64)))=y at*;generalize wd a (k/64)=x at*;generalize k/64=q at*;generalize k%64=s at*
 go_enter B6,B3
 go_wp2_with fail;refine f.o.mono ?_;rintro e d ⟨rfl,rfl⟩;go_wp2_with fail;refine Dg (λd=>w.grownBy d A3) [([0,1,2,3,4,5,6,7,8,9,10,11,12],13,O)] Φ Φ ?_;refine BU (AS w 1 A3) ?_
 repeat(apply AB rfl Θ;(· intro N b;(try have b:=b rfl);(try dsimp only at b);(try have m:=b.cell m Δ);(try have o:=b.cell o Δ);go_simp;(try with_reducible rfl));refine Ak ?_)
 refine Aj ?_;refine Al ?_;intro K r;refine r _ _ ?_
 first|refine⟨λv=>(by cases v),?_⟩|skip
 clear r K;refine Ak ?_;refine Di (NoPanic.normal ?_);go_wp2;go_ret;exact⟨rfl,rfl⟩
theorem dJ(B g c n b:Nat)(a:List (BitVec 64))(i:Int)(w:Ax)(h:ST w B g c n b a)(d:FD n a i=O):
  Bn Y 158 #[A4 (Bs ⟨B,0,A3⟩),V A2 i] w λe f=>e=J (Bk O)/\w=f:=by
 have j:=zh (KG B g c n b a i w h);rw[d]at j;clear h d
 go_enter B6,B3
 go_wp2_with fail;refine j.o.mono ?_;rintro e f ⟨rfl,rfl⟩;go_wp2;go_ret;exact⟨rfl,rfl⟩
theorem Up(a:List (BitVec 64))(q:Nat)(y:BitVec 64)(b:q<a.length)(r:Nat):wd (a.set q y) r=if r=q then y else wd a r:=by
 unfold wd;simp only[lp,mW]
 by_cases h:q=r
 ·subst h;simp[b]
 ·rw[j7 h,j7 (λc=>h c.symm)]
theorem TS(b s:Nat)(a:b<64):(1#64<<<s).getLsbD b=(b==s):=by
 rw[BitVec.getLsbD_shiftLeft,BitVec.getLsbD_one,nH];simp;omega
theorem RP(a:List (BitVec 64))(k:Nat)(b:k/64<a.length)(j:Nat):tk (a.set (k/64) (wd a (k/64)|||(1#64<<<(k%64)))) j=(tk a j||j==k):=by
 unfold tk;rw[Up a _ _ b]
 by_cases h:j/64=k/64
 ·have e:(j%64==k%64)=(j==k):=by
   rw[nH,nc,nc];omega
  rw[ke h,BitVec.getLsbD_or,h,TS _ _ (lT _ Ω),e]
 ·rw[j7 h]
  have:(j==k)=O:=by
   rw[lu];intro e;exact h (by rw[e])
  rw[this,Bool.or_false]
theorem Rq(a:List (BitVec 64))(k:Nat)(c:k/64<a.length)(j:Nat):tk (a.set (k/64) (wd a (k/64)&&&~~~(1#64<<<(k%64)))) j=(tk a j&&!(j==k)):=by
 unfold tk;rw[Up a _ _ c]
 by_cases h:j/64=k/64
 ·have e:(j%64==k%64)=(j==k):=by
   rw[nH,nc,nc];omega
  have b:j%64<64:=lT _ Ω;rw[ke h,BE,h,BD,TS _ _ b,e,jT b,nS]
 ·rw[j7 h]
  have:(j==k)=O:=by
   rw[lu];intro e;exact h (by rw[e])
  rw[this,Bool.not_false,qY]
theorem Xb(a:List (BitVec 64))(q:Nat)(y:BitVec 64):ET (a.set q y)=(ET a).set q (V E (U y)):=by simp[ET]
theorem ST.he{f:Nat}(b:ST a d Z e c f h)(q:Nat)(y:BitVec 64)(g:q<h.length)(j:∀i,c<=i->tk (h.set q y) i=O):
  ST (a.setCell ⟨Z,q,A3⟩ (V E (U y))).drew d Z e c f (h.set q y):=by
 obtain⟨k,l⟩:=b.aB
 have m:Aa (a.setCell ⟨Z,q,A3⟩ (V E (U y))) d 311 [V A2 c,V A2 f,.slice (Bs ⟨Z,0,A3⟩) (h.set q y).length e]:=by
  rw[lm];exact b.u.eH b.ne _
 refine⟨m.cQ,⟨k,?_⟩,b.ne,b.gQ.bg ((An a ⟨Z,q,A3⟩ (V E (U y))).block _ b.fw (by simp;exact b.g0.symm)),b.b0,b.g0,by rw[lm];exact b.aF,b.n1,b.n2,b.hd,j,jY b.fw (An a ⟨Z,q,A3⟩ (V E (U y))).size⟩;rw[Xb, <-nM _ _ (by rw[Rt];exact g)];exact(l.setCell q _).cQ
theorem Qf(w:Ax)(B g q:Nat)(v:Value):Ac (Hn B g) w (w.setCell ⟨g,q,A3⟩ v).drew:=
 Ac.of (row:=Bs g) (Ae (An w ⟨g,q,A3⟩ v) (AS _ 1 _)) (λk h=>.inr (by cases h;rfl))
def SF(w:Ax)(B g:Nat)(n b:Nat)(f:Nat->Bool):Prop:=∃c a,ST w B g c n b a/\∀j,tk a j=f j
theorem SF.ak{S:Nat->Prop}(h:SF a Z c d e b)(f:Ac S a g)(i:¬S Z)(j:¬S c)(k:¬S 0):SF g Z c d e b:=by
 obtain⟨l,m,n,o⟩:=h;exact⟨l,m,n.ak f i j k,o⟩
theorem SF.grown(h:SF a Z c d e b)(f:a.grownBy g A3):SF g Z c d e b:=by
 obtain⟨i,j,k,l⟩:=h;exact⟨i,j,k.grown f,l⟩
def JW(n:Nat)(f:Nat->Bool)(i:Int):Bool:=Df n i&&f i.toNat
theorem bu(B g n a:Nat)(f:Nat->Bool)(i:Int)(w:Ax)(h:SF w B g n a f):
  Bn Y 218 #[A4 (Bs ⟨B,0,A3⟩),V A2 i] w λe b=>e=J (Bk (JW n f i))/\w=b:=by
 obtain⟨c,d,j,k⟩:=h;have:=KG B g c n a d i w j;unfold FD at this;rw[k]at this;exact this
def Jf(n:Nat)(f:Nat->Bool)(i:Int):Nat->Bool:=λj=>f j||(Df n i&&j==i.toNat)
def I0(n:Nat)(f:Nat->Bool)(i:Int):Nat->Bool:=λj=>f j&&!(Df n i&&j==i.toNat)
theorem Tp(B g n m:Nat)(f:Nat->Bool)(i:Int)(w:Ax)(h:SF w B g n m f):
  Bn Y 202 #[A4 (Bs ⟨B,0,A3⟩),V A2 i] w λe o=>e=J (Bk (Df n i&&! f i.toNat))/\SF o B g n m (Jf n f i)/\Ac (Hn B g) w o:=by
 obtain⟨c,b,d,p⟩:=h
 cases a:Df n i&&! tk b i.toNat
 ·refine(fW B g c n m b i w d a).mono ?_;rintro e o ⟨rfl,rfl⟩;rw[p]at a;refine⟨by rw[a],⟨c,b,d,λj=>?_⟩,Ac.refl _ _⟩;rw[p];unfold Jf
  cases l:Df n i
  ·simp
  ·rw[l]at a
   by_cases s:j=i.toNat
   ·subst s;simp at a;simp[a]
   ·simp[s]
 ·rw[kh,Bool.not_eq_true']at a;obtain⟨l,q⟩:=a;obtain⟨t,v⟩:=kQ l;obtain⟨k,rfl⟩:=kT t;rw[km]at q;have x:=d.aF;have r:k/64<b.length:=Ω;refine(bT B g c n m b k w d Ω q).mono ?_;rintro e o ⟨rfl,rfl⟩;rw[km, <-p,q,l];refine⟨rfl,⟨c,_,d.he _ _ r (λi u=>?_),λj=>?_⟩,Qf _ _ _ _ _⟩
  ·rw[RP b k r,d.dA i u];simp;omega
  ·rw[RP b k r,p];unfold Jf;rw[l,km];simp
theorem RI(B g n m:Nat)(f:Nat->Bool)(i:Int)(w:Ax)(h:SF w B g n m f):
  Bn Y 158 #[A4 (Bs ⟨B,0,A3⟩),V A2 i] w λe o=>e=J (Bk (JW n f i))/\SF o B g n m (I0 n f i)/\Ac (Hn B g) w o:=by
 obtain⟨c,b,d,p⟩:=h
 cases a:FD n b i
 ·refine(dJ B g c n m b i w d a).mono ?_;rintro e o ⟨rfl,rfl⟩;unfold FD at a;rw[p]at a;refine⟨by unfold JW;rw[a],⟨c,b,d,λj=>?_⟩,Ac.refl _ _⟩;rw[p];unfold I0
  cases l:Df n i
  ·simp
  ·rw[l]at a
   by_cases s:j=i.toNat
   ·subst s;simp at a;simp[a]
   ·simp[s]
 ·unfold FD at a;rw[kh]at a;obtain⟨l,q⟩:=a;obtain⟨t,v⟩:=kQ l;obtain⟨k,rfl⟩:=kT t;rw[km]at q;have x:=d.aF;have r:k/64<b.length:=Ω;refine(YA B g c n m b k w d Ω q).mono ?_;rintro e o ⟨rfl,rfl⟩;unfold JW;rw[km, <-p,q,l];refine⟨rfl,⟨c,_,d.he _ _ r (λi u=>?_),λj=>?_⟩,Qf _ _ _ _ _⟩
  ·rw[Rq b k r,d.dA i u];rfl
  ·rw[Rq b k r,p];unfold I0;rw[l,km];simp
theorem Ts(x:Nat)(a:x≠0)(b:x<18446744073709551616):∃m,x=2^AA 64 x*(2*m+1)/\AA 64 x<64:=by
 have h:=Lib.ctzFrom_spec 64 x Ω b
 have e:AA 64 x=Lib.ctzFrom 64 x:=by simp[AA,a]
 rw[e];exact h
theorem fP(x:BitVec 64)(c:x≠0#64):x.getLsbD (AA 64 x.toNat)=Bd/\(∀b,b<AA 64 x.toNat->x.getLsbD b=O)/\AA 64 x.toNat<64:=by
 have d:x.toNat≠0:=λh=>c (m9 h)
 obtain⟨m,e,f⟩:=Ts x.toNat d x.isLt;generalize AA 64 x.toNat=t at*
 have a:∀b,x.getLsbD b=if b<t then O else(2*m+1).testBit (b - t):=λb=>by
  unfold BA;rw[e];have:=om (i:=t) (b:=0) (2*m+1) (nm t) b;rw[lD]at this;rw[this];simp
 refine⟨?_,λb h=>?_,f⟩
 ·rw[a,j7 Ω,lU,pB];simp
 ·rw[a,ke h]
theorem fA(x:BitVec 64)(c:x≠0#64)(b:Nat):(x&&&(x - 1#64)).getLsbD b=(x.getLsbD b&&!(b==AA 64 x.toNat)):=by
 have f:x.toNat≠0:=λh=>c (m9 h)
 obtain⟨m,a,q⟩:=Ts x.toNat f x.isLt;generalize AA 64 x.toNat=t at*;have r:0<2^t:=nm t
 have g:(x - 1#64).toNat=2^t*(2*m)+(2^t - 1):=by
  have j:(x - 1#64).toNat=x.toNat - 1:=by
   rw[qD];have:=x.isLt;simp;omega
  rw[j,a,pk];omega
 have k:x.getLsbD b=if b<t then O else(2*m+1).testBit (b - t):=by
  unfold BA;rw[a];have:=om (i:=t) (b:=0) (2*m+1) (nm t) b;rw[lD]at this;rw[this];simp
 have l:(x - 1#64).getLsbD b=if b<t then(2^t - 1).testBit b else(2*m).testBit (b - t):=by
  unfold BA;rw[g,om (i:=t) (b:=2^t - 1) (2*m) Ω b]
 rw[BE,k,l]
 by_cases h:b<t
 ·rw[ke h,ke h];simp
 ·rw[j7 h,j7 h]
  by_cases e:b=t
  ·subst e;rw[lU,pB,pB];simp
  ·have n:(b==t)=O:=by simpa using e
   obtain⟨d,o⟩:∃d,b - t=d+1:=⟨b - t - 1,Ω⟩;rw[n,o,Nat.testBit_add_one,Nat.testBit_add_one];have p:(2*m+1)/2=2*m/2:=Ω;rw[p];simp
theorem dN(x:BitVec 64)(a:x≠0#64):(x&&&(x - 1#64)).toNat<x.toNat:=by
 have c:x.toNat≠0:=λh=>a (m9 h)
 have b:(x - 1#64).toNat=x.toNat - 1:=by
  rw[qD];have:=x.isLt;simp;omega
 rw[BitVec.toNat_and,b];have:=Nat.and_le_right (n:=x.toNat) (m:=x.toNat - 1);omega
def Pi(n:Nat)(f:Nat->Bool)(a:Nat)(r:Int):Prop:=
 (r= -1/\∀j,a<=j->j<n->f j=Bd)\/∃i:Nat,r=i/\a<=i/\i<n/\f i=O/\∀j,a<=j->j<i->f j=Bd
theorem fa(x:BitVec 64):B7 BinOp.xor E E.max (U x)=U (~~~x):=by
 have e:E.max=U (BitVec.allOnes 64):=by decide+kernel
 rw[e,Nc,BitVec.allOnes_xor]
def KO(a:List (BitVec 64))(p q:Nat)(x:BitVec 64)(m:Nat):Prop:=m<=64/\(∀b,b<64->x.getLsbD b=(decide (m<=b)&&!(wd a q).getLsbD b))/\∀j,p<=j->j<64*q+m->tk a j=Bd
theorem Pz(a:List (BitVec 64))(q b:Nat)(c:b<64):tk a (64*q+b)=(wd a q).getLsbD b:=by
 unfold tk;rw[show(64*q+b)/64=q by omega,show(64*q+b)%64=b by omega]
theorem WV(a:List (BitVec 64))(p q:Nat)(h:∀j,p<=j->j<64*q->tk a j=Bd):KO a p q (~~~(wd a q)) 0:=
 ⟨Ω,λb c=>by rw[BD];simp[c],λj d e=>h j d Ω⟩
theorem ZM(a:KO h d Z f c)(g:f=0#64):∀j,d<=j->j<64*(Z+1)->tk h j=Bd:=by
 intro j i l
 by_cases k:j<64*Z+c
 ·exact a.2.2 j i k
 ·obtain⟨b,rfl⟩:∃b,j=64*Z+b:=⟨j - 64*Z,Ψ a.1⟩;have e:b<64:=Ω;rw[Pz h Z b e];have:=a.2.1 b e;rw[g,BitVec.getLsbD_zero,jT (show c<=b by omega)]at this;simpa using this.symm
theorem eJ(a:KO h c Z f d)(l:f≠0#64):AA 64 f.toNat<64/\tk h (64*Z+AA 64 f.toNat)=O/\(∀j,c<=j->j<64*Z+AA 64 f.toNat->tk h j=Bd)/\(64*Z+AA 64 f.toNat<c->KO h c Z (f&&&(f - 1#64)) (AA 64 f.toNat+1)):=by
 obtain⟨q,m,i⟩:=fP f l;have r:=fA f l;generalize AA 64 f.toNat=t at*;have n:=a.2.1 t i;rw[q]at n
 have s:d<=t/\(wd h Z).getLsbD t=O:=by simpa using n.symm
 have o:∀j,c<=j->j<64*Z+t->tk h j=Bd:=by
  intro j k u
  by_cases v:j<64*Z+d
  ·exact a.2.2 j k v
  ·obtain⟨b,rfl⟩:∃b,j=64*Z+b:=⟨j - 64*Z,Ω⟩;have g:b<t:=Ω;rw[Pz h Z b Ω];have:=a.2.1 b Ω;rw[m b g,jT (show d<=b by omega)]at this;simpa using this.symm
 refine⟨i,by rw[Pz h Z t i];exact s.2,o,λx=>⟨Ω,λb g=>?_,λj k u=>o j k Ω⟩⟩;rw[r b,a.2.1 b g]
 by_cases w:b<t
 ·have p:=a.2.1 b g;rw[m b w]at p;rw[<-p,jV (show¬t+1<=b by omega)];rfl
 ·by_cases e:b=t
  ·subst e;rw[jV (show¬b+1<=b by omega)];simp
  ·rw[jT (show d<=b by omega),jT (show t+1<=b by omega)]
   have:(b==t)=O:=by simpa using e
   rw[this];simp
theorem UQ(h:Z<=64*c+d):decide ((Z:Int)<=(c:Int)*64+(d:Int))=Bd:=jT Ω
theorem PU(h:64*c+d<Z):decide ((Z:Int)<=(c:Int)*64+(d:Int))=O:=jV Ω
theorem iT(n p i:Nat):n<=i\/(i<n/\p<=i)\/(i<n/\i<p):=Ω
theorem iK(q t:Nat):(q:Int)*64+(t:Int)=((64*q+t:Nat):Int):=Ω
theorem jm(x:BitVec 64)(a:x≠0#64):(U x==0)=O:=by
 have b:x.toNat≠0:=λh=>a (m9 h)
 rw[lu];unfold U;omega
theorem iu{a b:Int}{t:Bool}(h:(a==b)=t):(a !=b)=! t:=by unfold bne;rw[h]
theorem fK(x:BitVec 64):B7 BinOp.and E (U x) (E.wrap (U x - 1))=U (x&&&(x - 1#64)):=by
 rw[show(1:Int)=U 1#64 from rfl,iY,UC]
theorem cZ(B g c n K:Nat)(a:List (BitVec 64))(p:Nat)(w:Ax)(h:ST w B g c n K a)(hp:p<n):
  Bn Y 201 #[A4 (Bs ⟨B,0,A3⟩),V A2 p] w λe L=>(∃r,e=J (V A2 r)/\Pi n (tk a) p r)/\w=L:=by
 have M:=h.aF;have hn:=h.n2;have k0:=h.u.m 0;have k2:=h.u.m 2;have N:=zh (λq v=>h.gd q v);have P:=zh h.gQ;clear h;have Q:p/64<=a.length:=Ω;have an:a.length<=1024:=Ω;have R:Hd (n<=64*a.length):=zh Ω;clear M
 have ew:wrap64 ((p/64:Nat):Int)=((p/64:Nat):Int):=by unfold wrap64;omega
 go_enter Tryz.func201,Tryz.ntmps201
 go_wp2_with fail
 go_step3
 go_wp2_with fail
 go_step3
 go_wp2_with fail
 go_loop [5] (λo=>∃q:Nat,o=V A2 q/\q<=a.length/\∀j,p<=j->j<64*q->tk a j=Bd) (λo=>a.length - (intOf o).toNat)
 case atStart=>exact⟨p/64,rfl,Q,λj i s=>Ω⟩
 case round=>
  obtain⟨q,rfl,v,k⟩:=hrel
  by_cases z:q<a.length
  ·have hw:=N.o q z;have S:=zh (WV a p q k);have hx:=fa (wd a q);clear k;go_wp2_with fail
   go_loop [6] (λu=>∃(x:BitVec 64) (m:Nat),u=V E (U x)/\KO a p q x m) (λu=>(intOf u).toNat)
   case atStart=>exact⟨_,0,rfl,S.o⟩
   case round=>
    obtain⟨x,m,rfl,l⟩:=hrel
    by_cases d:x=0#64
    ·have T:=zh (ZM l d)
     have A:(U x==0)=Bd:=by subst d;rfl
     have W:(U x !=0)=O:=by subst d;rfl
     clear l;go_wp2_with fail
     go_round
     case rel=>exact⟨q+1,by go_num,Ω,T.o⟩
     case measure=>simp[intOf];omega
    ·obtain⟨k1,C,D,F⟩:=eJ l d;have X:=zh (dN x d)
     have G:x.toNat≠0:=λh=>d (m9 h)
     have A:(U x==0)=O:=jm x d;have W:(U x !=0)=Bd:=iu A;have au:=fK x;have Z:=zh (iB x.toNat x.isLt G w P.o);have K2:=zh C;have H:=zh D;have K4:=zh F;clear l d C D F G;have hU:V E (U x)=V E (x.toNat:Int):=rfl;generalize hy:x&&&(x - 1#64)=y at*;clear hy;generalize AA 64 x.toNat=t at*;go_wp2_with fail;refine Z.o.mono ?_;rintro e w1 ⟨rfl,rfl⟩;have HI:=zh (iK q t)
     rcases iT n p (64*q+t)with b|⟨b,f⟩|⟨b,f⟩
     ·have I:=UQ b;have ae:Hd (∀j,p<=j->j<n->tk a j=Bd):=zh (λj i s=>H.o j i (jY s b));clear b;go_wp2_with fail
      (try simp only[Exit.noGoto_ret])
      go_ret;exact⟨⟨_,rfl,.inl ⟨rfl,ae.o⟩⟩,rfl⟩
     ·have I:=PU b;have c2:=UQ f;have ag:Hd (Pi n (tk a) p ((q:Int)*64+(t:Int))):=zh (by rw[HI.o];exact .inr ⟨_,rfl,f,b,K2.o,H.o⟩);clear b f;go_wp2_with fail
      (try simp only[Exit.noGoto_ret])
      go_ret;exact⟨⟨_,rfl,ag.o⟩,rfl⟩
     ·have I:=PU b;have c2:=PU f;have ah:=zh (K4.o f);clear b f;go_wp2_with fail;exact⟨⟨y,t+1,rfl,ah.o⟩,by have:=X.o;simp only[intOf,U,km];exact this⟩
  ·have ai:Hd (∀j,p<=j->j<n->tk a j=Bd):=zh (λj i s=>k j i (Ψ R.o));obtain rfl:q=a.length:=Ω;clear k z;go_wp2_with fail;go_ret;exact⟨⟨_,rfl,.inl ⟨rfl,ai.o⟩⟩,rfl⟩
theorem ST.eK(b:ST a Z d e c i h)(f:Nat)(g:f<c):ST (a.setCell ⟨Z,1,A3⟩ (V A2 f)) Z d e c f h:=by
 obtain⟨j,k⟩:=b.aB;exact⟨b.u.setCell 1 _,⟨j,k.eH b.ne.symm _⟩,b.ne,b.gQ.bg ((An a ⟨Z,1,A3⟩ (V A2 f)).block _ b.fw (by simp;exact b.b0.symm)),b.b0,b.g0,b.aF,b.n1,b.n2,g,b.dA,jY b.fw (An a ⟨Z,1,A3⟩ (V A2 f)).size⟩
theorem SF.eK(h:SF a Z d c e b)(f:Nat)(g:f<c):SF (a.setCell ⟨Z,1,A3⟩ (V A2 f)) Z d c f b:=by
 obtain⟨i,j,k,l⟩:=h;exact⟨i,j,k.eK f g,l⟩
theorem Q6(w:Ax)(B g:Nat)(v:Value):Ac (Hn B g) w (w.setCell ⟨B,1,A3⟩ v):=
 Ac.of (row:=Bs B) (An w ⟨B,1,A3⟩ v) (λk h=>.inl (by cases h;rfl))
theorem Sm(B g n a:Nat)(f:Nat->Bool)(p:Nat)(w:Ax)(h:SF w B g n a f)(d:p<n):
  Bn Y 201 #[A4 (Bs ⟨B,0,A3⟩),V A2 p] w λe i=>(∃r,e=J (V A2 r)/\Pi n f p r)/\w=i:=by
 obtain⟨c,b,j,k⟩:=h;have:=cZ B g c n a b p w j d
 rwa[show tk b=f from funext k]at this
def Nm(n a:Nat)(f:Nat->Bool)(i:Nat):Prop:=i<n/\f i=O/\((a<=i/\∀j,a<=j->j<i->f j=Bd)\/(i<a/\(∀j,a<=j->j<n->f j=Bd)/\∀j,j<i->f j=Bd))
def iU(B g n b:Nat)(f:Nat->Bool)(w:Ax)(e:Ending)(a:Ax):Prop:=
 (e=J (B4 #[V A2 0,Bk O])/\w=a/\∀j,j<n->f j=Bd)\/
 (∃i:Nat,e=J (B4 #[V A2 i,Bk Bd])/\Nm n b f i/\SF a B g n ((i+1)%n) (Jf n f i)/\Ac (Hn B g) w a)
theorem Xc{i:Nat}(a:Z<=i)(d:i<c)(e:b i=O)(f:∀j,Z<=j->j<i->b j=Bd):Nm c Z b i:=⟨d,e,.inl ⟨a,f⟩⟩
theorem YT{i:Nat}(d:∀j,c<=j->j<Z->b j=Bd)(e:i<Z)(a:b i=O)(f:∀j,0<=j->j<i->b j=Bd):Nm Z c b i:=by
 refine⟨e,a,.inr ⟨?_,d,λj h=>f j (kN _) h⟩⟩
 rcases mU i c with h|h
 ·exact h
 ·rw[d i h e]at a
  cases a
theorem ei(B g n b:Nat)(f:Nat->Bool)(w:Ax)(h:SF w B g n b f):
  Bn Y 138 #[A4 (Bs ⟨B,0,A3⟩)] w (iU B g n b f w):=by
 have H:=zh h;obtain⟨c,E,a,G⟩:=h;have q:=a.u.m 1;have I:=a.n1;have N:=a.n2;have J:=a.hd;clear a G
 go_enter Tryz.func138,Tryz.ntmps138
 go_wp2_with fail;refine(Sm B g n b f b w H.o J).mono ?_;rintro e k ⟨⟨r,rfl,t⟩,rfl⟩
 rcases t with⟨rfl,l⟩|⟨i,rfl,s,u,m,o⟩
 ·have F:=zh l;clear l;go_wp2_with fail;refine(Sm B g n b f 0 w H.o I).mono ?_;rintro e k ⟨⟨r,rfl,t⟩,rfl⟩
  rcases t with⟨rfl,l⟩|⟨i,rfl,s,u,m,o⟩
  ·have K:=zh l;clear l;go_wp2_with fail;exact BL (v:=B4 #[V A2 0,Bk O]) (by simp[results,Bx,go_sem]) rfl (.inl ⟨rfl,rfl,λj h=>K.o j (kN _) h⟩)
  ·have x:=zh (YT F.o u m o);have y:Df n (i:Int)=Bd:=jT Ω;clear s o F q;go_wp2_with fail;refine(Tp B g n b f i w H.o).mono ?_;rintro e k ⟨rfl,d,p⟩;rw[y,km,m];obtain⟨c,E,a,_⟩:=id d;have L:=a.u.m 0;have q:=a.u.m 1;have M:=a.u.v 1;have z:=zh d;have A:=zh p;clear a d p H;go_wp2_with fail;have C:=z.o.eK ((i+1)%n) (lT _ Ω);have D:=A.o.trans (Q6 k B g (V A2 (((i+1)%n:Nat):Int)));refine BL (v:=B4 #[V A2 i,Bk Bd]) (by simp[results,Bx,go_sem]) rfl (.inr ⟨i,rfl,x.o,?_,?_⟩)
   ·exact C
   ·exact D
 ·have x:=zh (Xc s u m o);have y:Df n (i:Int)=Bd:=jT Ω;clear s o q;go_wp2_with fail;refine(Tp B g n b f i w H.o).mono ?_;rintro e k ⟨rfl,d,p⟩;rw[y,km,m];obtain⟨c,E,a,_⟩:=id d;have L:=a.u.m 0;have q:=a.u.m 1;have M:=a.u.v 1;have z:=zh d;have A:=zh p;clear a d p H;go_wp2_with fail;have C:=z.o.eK ((i+1)%n) (lT _ Ω);have D:=A.o.trans (Q6 k B g (V A2 (((i+1)%n:Nat):Int)));refine BL (v:=B4 #[V A2 i,Bk Bd]) (by simp[results,Bx,go_sem]) rfl (.inr ⟨i,rfl,x.o,?_,?_⟩)
  ·exact C
  ·exact D
end
