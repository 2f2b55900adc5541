/- Lemmas. -/
import Derived.Test.YtcedibmdelehdaaGreatDoorG14
import Derived.Test.YtcedibmdelehdaaGreatDoorG20
import Derived.Test.YtcedibmdelehdaaGreatDoorG22
namespace Go.Proofs.YtcedibmdelehdaaGreatDoor
set_option maxRecDepth 100000
set_option maxHeartbeats 32000000
open Decidable renaming decide->E
open Go.IntKind renaming i64->J
open Go.Value renaming int->O,pointer->Bn,slice->Bs
open Go.Proofs.Tryz renaming prog->V,ntmps196->AA,func196->A4,ntmps199->A7,func199->Bd
open Option renaming none->Ax,some->Bk
open Bool renaming false->A2,true->A5,decide_and->A6
open List renaming range->A3
variable{f:List Ah}{h Y Z:Int}
section
open Go.RowKit
def Do(d p:Int)(x:Ah):Bool:=E (0<=x.r/\x.r<=1099511627776/\0<=x.a/\x.a<=65535/\0<=x.s/\x.s<=65535)&&E (EE x.h d=p)
def Kq(a:List Ah)(i:Nat):Bool:=E (i=0)||E (U (a.getD (i - 1) Ah.af).h<U (a.getD i Ah.af).h)
def Ig(d p:Int)(a:List Ah)(i:Nat):Bool:=Do d p (a.getD i Ah.af)&&Kq a i
def FK(d p a:Int)(n:Nat):Bool:=E (1<=a/\a<=255/\(n:Int)<=a/\0<=d/\d<=8/\0<=p/\p<2^d.toNat)
def Cm(d p b:Int)(a:List Ah):Bool:=FK d p b a.length&&(A3 a.length).all (Ig d p a)
theorem cQ(f:Nat->Bool)(k:Nat)(h:∀i,i<k->f i=A5):(A3 k).all f=A5:=by
 rw[lu];intro i a;exact h i (lm.1 a)
theorem Ub(f:Nat->Bool)(n k:Nat)(a:k<n)(h:f k=A2):(A3 n).all f=A2:=by
 rw[List.all_eq_false];exact⟨k,lm.2 a,by simp[h]⟩
theorem V5{d p a:Int}{b:List Ah}(h:¬(1<=a/\a<=255/\(b.length:Int)<=a/\0<=d/\d<=8/\0<=p/\p<2^d.toNat)):Cm d p a b=A2:=by
 unfold Cm FK;rw[jH h];rfl
theorem aQ(k:Nat)(a:k<f.length)(b:Ig h Y f k=A2):Cm h Y Z f=A2:=by
 unfold Cm;rw[Ub _ _ k a b,pD]
theorem jj(d:Nat)(h:d<=8):2^d<=256:=by
 have:2^d<=2^8:=kR Ω h;omega
end
section
open Go.RowKit
theorem Mp(n h:Int)(w:World):
  Calls V 196 #[O J n,O J h] w λe f=>e=.returned (.bool (E (0<=n/\n<=h)))/\w=f:=by
 have g:(n<0/\E (0<=n/\n<=h)=A2)\/(0<=n/\¬n<=h/\E (0<=n/\n<=h)=A2)\/(0<=n/\n<=h/\E (0<=n/\n<=h)=A5):=by
  by_cases b:0<=n
  ·by_cases a:n<=h
   ·exact .inr (.inr ⟨b,a,jG ⟨b,a⟩⟩)
   ·exact .inr (.inl ⟨b,a,jH (λh=>a h.2)⟩)
  ·exact .inl ⟨Ω,jH (λh=>b h.1)⟩
 rcases g with⟨b,a⟩|⟨b,a,c⟩|⟨b,a,c⟩
 ·have H:=zh a;have d:E (0<=n)=A2:=jH Ω;clear a b
  go_enter A4,AA
  go_wp2;go_ret;exact⟨by rw[H.o];rfl,rfl⟩
 ·have H:=zh c;have d:E (0<=n)=A5:=jG b;have i:E (n<=h)=A2:=jH a;clear b a c
  go_enter A4,AA
  go_wp2;go_ret;exact⟨by rw[H.o];rfl,rfl⟩
 ·have H:=zh c;have d:E (0<=n)=A5:=jG b;have i:E (n<=h)=A5:=jG a;clear b a c
  go_enter A4,AA
  go_wp2;go_ret;exact⟨by rw[H.o];rfl,rfl⟩
def Lx(x:Ah):Bool:=E (0<=x.r/\x.r<=1099511627776/\0<=x.a/\x.a<=65535/\0<=x.s/\x.s<=65535)
theorem il(d p:Int)(x:Ah):Do d p x=(Lx x&&E (EE x.h d=p)):=rfl
theorem gF(x:Ah):Lx x=(E (0<=x.r/\x.r<=1099511627776)&&(E (0<=x.a/\x.a<=65535)&&E (0<=x.s/\x.s<=65535))):=by
 unfold Lx;rw[<-A6, <-A6];exact qc.2 (by constructor<;>intro h<;>omega)
theorem Ya(x:Ah)(w:World):
  Calls V 200 #[.agg #[O .u64 (U x.h),O J x.r,O J x.a,O J x.s]] w λe f=>e=.returned (.bool (Lx x))/\w.grownBy f Ax:=by
 have H:=zh (gF x);have a:=zh (λW=>Mp x.r 1099511627776 W);have b:=zh (λW=>Mp x.a 65535 W);have c:=zh (λW=>Mp x.s 65535 W);generalize E (0<=x.r/\x.r<=1099511627776)=g at*;generalize E (0<=x.a/\x.a<=65535)=h at*;generalize E (0<=x.s/\x.s<=65535)=i at*
 cases g
 all_goals cases h
 all_goals cases i
 all_goals
  go_enter Tryz.func200,Tryz.ntmps200
  go_wp2_with (first|(go_at_call 196;refine(a.o _).mono ?_;clear a;rintro e d ⟨rfl,rfl⟩)|(go_at_call 196;refine(b.o _).mono ?_;clear b;rintro e d ⟨rfl,rfl⟩)|(go_at_call 196;refine(c.o _).mono ?_;clear c;rintro e d ⟨rfl,rfl⟩));go_ret;exact⟨by rw[H.o];rfl,World.grownBy_alloc _ _ Ax⟩
theorem XL(B:Nat)(d p:Int)(x:Ah)(w:World)(j:w.cell? ⟨B,0,Ax⟩=Bk (O J d))(k:w.cell? ⟨B,1,Ax⟩=Bk (O J p)):
  Calls V 199 #[.agg #[O .u64 (U x.h),O J x.r,O J x.a,O J x.s],Bn (Bk ⟨B,0,Ax⟩)] w λe n=>e=.returned (.bool (! Do d p x))/\w.grownBy n Ax:=by
 have a:=il d p x;have i:=zh (λW=>Ya x W);have t:=zh (λW=>KC x.h d W);obtain⟨o,q⟩:=Af (w.alloc (.cells #[O .u64 (U x.h),O J x.r,O J x.a,O J x.s] 237))
 have b:Aa o w.heap.size 237 [O .u64 (U x.h),O J x.r,O J x.a,O J x.s]:=by rw[<-q];exact Aa.new w _ _
 have c:w.grownBy o Ax:=by rw[<-q];exact World.grownBy_alloc _ _ Ax
 have r:=zh c;have u:=AJ (b.m 0);have v:=AJ (b.m 1);have y:=AJ (b.m 2);have z:=AJ (b.m 3);have A:=AJ (c.cell j Δ);have C:=AJ (c.cell k Δ)
 cases f:Lx x
 ·rw[f]at a i;have H:=zh a;clear a f b c j k
  go_enter Bd,A7
  go_wp2_with fail;refine Cb Φ Φ ?_
  repeat(go_big_quiet_step ((go_at_call 200;exact Mh i.o _)))
  refine wpQuiet_nil ?_;rintro _ ⟨g,rfl⟩;have l:=zh (Bu g);go_wp2;go_ret;exact⟨by rw[H.o];rfl,Ab r.o l.o⟩
 ·cases m:E (EE x.h d=p)
  all_goals
   rw[f,m]at a;have H:=zh a
   have s:(EE x.h d !=p)=! E (EE x.h d=p):=by simp[bne];rfl
   rw[m]at s;have D:=zh s;rw[f]at i;clear a m f b c j k
   go_enter Bd,A7
   go_wp2_with fail;refine Cb Φ Φ ?_
   repeat(go_big_quiet_step (first|(go_at_call 200;exact Mh i.o _)|(go_at_call 166;exact Mh (λW=>(t.o W).mono (λe n h=>⟨h.1,by rw[<-h.2];exact Bo _ _⟩)) _)))
   refine wpQuiet_nil ?_;rintro _ ⟨g,rfl⟩;have l:=zh (Bu g);go_wp2;go_ret;exact⟨by rw[H.o];rfl,Ab r.o l.o⟩
def Fj(d p:Int)(a:List Ah):Bool:=a.any λx=>! Do d p x
theorem SJ(b:∀i,i<f.length->Do h Y (f.getD i Ah.af)=A5):Fj h Y f=A2:=by
 unfold Fj;rw[pP];intro x c;obtain⟨i,a,rfl⟩:=ng.1 c;have:=b i a;rw[kH,jK a,mD]at this;rw[this];simp
theorem Rt{d p:Int}(i:Nat)(a:i<f.length)(h:Do d p (f.getD i Ah.af)=A2):Fj d p f=A5:=by
 unfold Fj;rw[oL];refine⟨f.getD i Ah.af,?_,by rw[h];rfl⟩;rw[kH,jK a,mD];exact ml a
theorem WG(B:Nat)(d p:Int)(f:List Ah)(a:Option Addr)(c:Nat)(w:World)(s:Ag w 4 (Bs a f.length c) f.length (Aw f))(z:w.cell? ⟨B,0,Ax⟩=Bk (O J d))(A:w.cell? ⟨B,1,Ax⟩=Bk (O J p)):
  Calls V 244 #[Bs a f.length c,.func (.func 199) #[] #[Bn (Bk ⟨B,0,Ax⟩)]] w λe L=>∃r:Int,e=.returned (O J r)/\E (0<=r)=Fj d p f/\w.grownBy L Ax:=by
 have M:=s.2.1;unfold maxLen at M;have N:=zh s;have P:=zh z;have Q:=zh A;clear s z A
 go_enter Tryz.func244,Tryz.ntmps244
 go_wp2
 go_loopw [8] (λi wr=>∃k:Nat,k<=f.length/\i=O J k/\(∀j,j<k->Do d p (f.getD j Ah.af)=A5)/\w.grownBy wr Ax) (λi _=>f.length - (intOf i).toNat)
 case atStart=>exact⟨0,Ω,rfl,λj R=>Ω,Bo _ _⟩
 case round=>
  obtain⟨k,hk,rfl,C,g⟩:=hrel;have t:=zh g;have D:=zh C;clear C
  by_cases F:k<f.length
  ·obtain⟨b,o,rfl,n⟩:=N.o.bA Ω;obtain⟨G,H,I,K⟩:=FZ f k F;have x0:=g.cell (n _ _ G) Δ;have S:=g.cell (n _ _ H) Δ;have T:=g.cell (n _ _ I) Δ;have U:=g.cell (n _ _ K) Δ;simp only[<-kO]at S T U;have l:=zh (XL B d p (f.getD k Ah.af) wr (g.cell P.o Δ) (g.cell Q.o Δ))
   have u:Hd (Do d p (f.getD k Ah.af)=A5->∀j,j<k+1->Do d p (f.getD j Ah.af)=A5):=zh (λh j R=>by
    by_cases W:j=k
    ·subst W;exact h
    ·exact D.o j Ω)
   have v:=zh (Rt (d:=d) (p:=p) k F);clear n G H I K g;generalize f.getD k Ah.af=x at*
   cases m:Do d p x
   ·rw[m]at l;have X:=zh (v.o m);clear m v u;go_wp2_with fail;refine l.o.mono ?_;rintro e Y ⟨rfl,q⟩;have y:=zh q;clear q l;go_wp2_with fail;go_ret;exact⟨(k:Int),rfl,by rw[X.o];simp,Ab t.o y.o⟩
   ·rw[m]at l;have Z:=zh (u.o m);clear m v u;go_wp2_with fail;refine l.o.mono ?_;rintro e Y ⟨rfl,q⟩;have y:=zh q;clear q l;go_wp2_with fail
    go_roundw
    case rel=>exact⟨k+1,Ω,by go_num,Z.o,Ab t.o y.o⟩
    case measure=>simp[intOf];omega
  ·obtain rfl:k=f.length:=by omega
   go_wp2_with fail;go_ret;exact⟨-1,rfl,by rw[SJ D.o];rfl,t.o⟩
theorem Vb(B:Nat)(d p:Int)(b:List Ah)(a:Option Addr)(c:Nat)(w:World)(f:Ag w 4 (Bs a b.length c) b.length (Aw b))(g:w.cell? ⟨B,0,Ax⟩=Bk (O J d))(h:w.cell? ⟨B,1,Ax⟩=Bk (O J p)):
  Calls V 198 #[Bs a b.length c,.func (.func 199) #[] #[Bn (Bk ⟨B,0,Ax⟩)]] w λe i=>e=.returned (.bool (Fj d p b))/\w.grownBy i Ax:=by
 have j:=zh (WG B d p b a c w f g h);clear f g h
 go_enter Tryz.func198,Tryz.ntmps198
 go_wp2_with fail;refine j.o.mono ?_;rintro e o ⟨r,rfl,f,k⟩;have l:=zh f;clear f
 cases m:E (0<=r)
 all_goals
  have n:=zh m;go_wp2_with fail;go_ret;exact⟨by rw[<-l.o,n.o];rfl,k⟩
end
section
open Go.RowKit
theorem Fx:Cm h Y Z f=A5↔FK h Y Z f.length=A5/\(∀x∈f,Do h Y x=A5)/\f.Pairwise (λx y=>U x.h<U y.h):=by
 have c:∀i,(a:i<f.length)->f.getD i Ah.af=f[i]:=λi a=>by simp[List.getD,a]
 unfold Cm;rw[jQ,lu]
 refine and_congr_right λ_=>⟨λa=>⟨λx n=>?_,?_⟩,λa i b=>?_⟩
 ·obtain⟨i,b,rfl⟩:=ng.1 n;have:=a i (lm.2 b);unfold Ig at this;rw[jQ,c i b]at this;exact this.1
 ·rw[l9];intro i j b l o
  have d:∀k,(e:k+1<f.length)->U (f[k]' Ω).h<U f[k+1].h:=by
   intro k e;have:=a (k+1) (lm.2 e);unfold Ig Kq at this;rw[jQ,mw,c (k+1) e,show k+1 - 1=k by omega,c k Ω]at this
   rcases this.2 with g|g
   ·have:=j7 g;omega
   ·exact j7 g
  obtain⟨m,rfl⟩:∃m,j=i+1+m:=⟨j - i - 1,Ω⟩;clear o
  induction m with
  |zero=>exact d i l
  |succ m p=>exact Int.lt_trans (p Ω d) (d (i+1+m) l)
 ·rw[lm]at b;unfold Ig Kq;rw[jQ,mw,c i b];refine⟨a.1 _ (ml b),?_⟩
  by_cases q:i=0
  ·exact .inl (jG q)
  ·right
   rw[c (i - 1) Ω];exact jG ((l9.1 a.2) (i - 1) i Ω b Ω)
def IG(a:List Nat)(j:Nat):Ah:=⟨BitVec.ofNat 64 (Ci a (10+20*j) 8),J.wrap (Ci a (18+20*j) 8:Nat),(Ci a (26+20*j) 2:Nat),(Ci a (28+20*j) 2:Nat)⟩
def Ds(a:List Nat)(k:Nat):List Ah:=(A3 k).map (IG a)
theorem Hk(a:List Nat)(k:Nat):(Ds a k).length=k:=by simp[Ds]
theorem Xd(a:List Nat)(k:Nat):Ds a (k+1)=Ds a k++[IG a k]:=by simp[Ds,List.range_succ]
theorem gh(a:List Nat)(b:∀x∈a,x<256)(j:Nat):U (IG a j).h=((Ci a (10+20*j) 8:Nat):Int):=by
 have h:=TP b (10+20*j) 8;have e:(256:Nat)^8=2^64:=Ξ;show((BitVec.ofNat 64 (Ci a (10+20*j) 8)).toNat:Int)=_;rw[mS,mR Ω]
def DI(a:List Nat):Int:=(Ci a 0 1:Nat)
def Ch(a:List Nat):Nat:=Ci a 1 1
def EP(a:List Nat):Int:=J.wrap (Ci a 2 8:Nat)
def Lw(a:List Nat):Bool:=E (a.length=10+20*Ch a)
def EH(a:List Nat)(b:Int):Bool:=Lw a&&Cm (DI a) (EP a) b (Ds a (Ch a))
end
