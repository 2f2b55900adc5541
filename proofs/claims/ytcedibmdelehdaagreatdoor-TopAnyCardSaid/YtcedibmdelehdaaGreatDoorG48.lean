/- Lemmas. -/
import Derived.Test.YtcedibmdelehdaaGreatDoorG45
import Derived.Lib.SmallJoins
namespace Go.Proofs.YtcedibmdelehdaaGreatDoor
set_option maxRecDepth 100000
set_option maxHeartbeats 32000000
open Go.DataW renaming trod_int->E,trod_string->Ax,Trod->A2
open Go renaming bounds_i64->J,MemPlace->AA
open Go.Proofs.Tryz renaming prog->O,underlying24->V
variable{f:List AA}{h:Type}{Y:Value}
section
open Go.RowKit Go.WideShapes Go.ChangeShapes Go.ChangeAt Go.Joins Go.Deep
section
variable {H:Type} {enc:TypeId×Value->H} {r:Reach} {b0:Nat}
theorem i7(l:List h)(e:l.length=4):∃a b c d,l=[a,b,c,d]:=by
 match l,e with
 |[a,b,c,d],_=>exact⟨a,b,c,d,rfl⟩
def Dk.f9(x:Dk):Prop:=(-9223372036854775808<=x.k/\x.k<=9223372036854775807)/\(-9223372036854775808<=x.n/\x.n<=9223372036854775807)
theorem fV(w:World)(n:Nat)(a:List Value)(y:DataW H×List AA)(h:DataW.trod enc O w 0 (λ_=>true) true n 48 a=some y):
  ∃x:Dk,a=x.cells/\x.f9:=by
 obtain⟨u,v,z,A,B,C,k,b,c,d,e⟩:=trod_struct4 Tryz.underlying48 h;obtain⟨D,F,G,I,rfl⟩:=i7 a (k.trans Φ);have l:O.cellsOf 3=1:=Φ;have m:O.cellsOf 9=1:=Φ;simp[l,m]at b c d e;obtain⟨o,f,_,p⟩:=E kj b;obtain⟨q,g,_,r⟩:=E kj c;obtain⟨s,i,_,_⟩:=Ax nu d;obtain⟨t,j,_,_⟩:=Ax nu e;simp at f g i j;subst f g i j;exact⟨⟨o,q,s,t⟩,rfl,J p,J r⟩
theorem Zq(w:World){b:DataW H}(d:Value.okWide O w r b0 25 Y)(e:A2 enc O w 0 (λ_=>true) true 25 Y b f):
  ∃(l:List Dk) (a:Option Addr) (c:Nat),Y=.slice a l.length c/\Ag w 4 (.slice a l.length c) l.length (Jq l)/\l.length<=c/\∀x∈l,x.f9:=by
 obtain⟨g,a,h,rfl,i,j,k⟩:=YO Dk.cells Dk.f9 4 Ω Tryz.underlying25 Φ (λ_=>rfl) (fV w) d e;exact⟨g,a,h,rfl,i,j,k⟩
theorem im{a:Array h}(k:a.size=8):∃b c d e f g i j,a=#[b,c,d,e,f,g,i,j]:=by
 obtain⟨l⟩:=a
 match l,k with
 |[b,c,d,e,f,g,i,j],_=>exact⟨b,c,d,e,f,g,i,j,rfl⟩
theorem jh{l:List h}(j:l.length=8):∃a b c d e f g i,l=[a,b,c,d,e,f,g,i]:=by
 match l,j with
 |[a,b,c,d,e,f,g,i],_=>exact⟨a,b,c,d,e,f,g,i,rfl⟩
def JD(x:Int):Prop:= -9223372036854775808<=x/\x<=9223372036854775807
theorem Yo(w:World){I:DataW H}(k:Value.okWide O w r b0 24 Y)(b:A2 enc O w 0 (λ_=>true) true 24 Y I f):
  ∃(c d e g h i j:Int) (s:BitVec 64),Y=.agg #[.int .i64 c,.int .i64 d,.int .i64 e,.int .i64 g,.int .i64 h,.int .i64 i,.int .i64 j,.int .u64 (U s)]/\JD c/\JD d/\JD e/\JD g/\JD h/\JD i/\JD j:=by
 obtain⟨cs,rfl,K⟩:=okWide_struct V k;obtain⟨c0,c1,c2,c3,c4,c5,c6,c7,rfl⟩:=im (K.trans Φ);obtain⟨aj,a⟩:=b;obtain⟨xs,n,_,hx,hl,L,a⟩:=DataW.trod_struct V a;obtain⟨y0,y1,y2,y3,y4,y5,y6,y7,rfl⟩:=jh L;have k:O.cellsOf 3=1:=Φ;have M:O.cellsOf 22=1:=Φ;have b:=a 0 _ rfl;have l:=a 1 _ rfl;have m:=a 2 _ rfl;have o:=a 3 _ rfl;have p:=a 4 _ rfl;have q:=a 5 _ rfl;have t:=a 6 _ rfl;have u:=a 7 _ rfl;simp[k,M,Value.cells]at b l m o p q t u;obtain⟨c,v,_,N⟩:=E kj b;obtain⟨d,y,_,P⟩:=E kj l;obtain⟨e,z,_,Q⟩:=E kj m;obtain⟨g,A,_,R⟩:=E kj o;obtain⟨h,B,_,S⟩:=E kj p;obtain⟨i,C,_,T⟩:=E kj q;obtain⟨j,D,_,W⟩:=E kj t;obtain⟨X,F,_,Z⟩:=E Tryz.underlying22 u;simp at v y z A B C D F;subst v y z A B C D F;have G:=bounds_u64 Z;obtain⟨x,rfl⟩:=jc X G.1 G.2;exact⟨c,d,e,g,h,i,j,x,rfl,J N,J P,J Q,J R,J S,J T,J W⟩
end
end
