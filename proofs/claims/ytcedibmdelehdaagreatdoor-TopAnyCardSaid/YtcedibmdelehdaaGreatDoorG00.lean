/- Lemmas. -/
import Derived.Test.YtcedibmdelehdaaGreatDoorBase
import Derived.PlainAid
import Derived.WalkKit
namespace Go.Proofs.YtcedibmdelehdaaGreatDoor
set_option maxRecDepth 100000
set_option maxHeartbeats 32000000
open Go.IntKind renaming u64->E,wrap_u64->J
open BitVec renaming ofInt->O,ofNat->Ax
section
open Go.RowKit
def U(x:BitVec 64):Int:=(x.toNat:Int)
theorem Ic(x:BitVec 64):0<=U x:=by unfold U;omega
theorem IL(x:BitVec 64):U x<=18446744073709551615:=by unfold U;have:=x.isLt;omega
theorem ja(n:Int)(a:0<=n)(b:n<=18446744073709551615):U (Ax 64 n.toNat)=n:=by
 unfold U;rw[mS];omega
theorem jc(n:Int)(a:0<=n)(b:n<=18446744073709551615):∃x,n=U x:=⟨_,(ja n a b).symm⟩
theorem PG{a b:BitVec 64}(h:U a=U b):a=b:=by
 unfold U at h;exact me Ω
theorem ik(n:Nat):E.wrap (n:Int)=U (Ax 64 n):=by
 unfold U;rw[J,mS];omega
theorem J7(a b:BitVec 64):E.wrap (U a*U b)=U (a*b):=by
 unfold U;rw[J,BitVec.toNat_mul, <-Int.natCast_mul];omega
theorem UL(a b:BitVec 64):E.wrap (U a+U b)=U (a+b):=by
 unfold U;rw[J,BitVec.toNat_add];omega
theorem iV(a b:BitVec 64):E.wrap (U a - U b)=U (a - b):=by
 unfold U;rw[J,qa];have:=b.isLt;omega
theorem Nn(a b:BitVec 64):bits BinOp.xor E (U a) (U b)=U (a^^^b):=by
 unfold U;rw[bits_xor_u64_nat _ _ a.isLt b.isLt,BitVec.toNat_xor]
theorem Nk(a:BitVec 64)(s:Nat):U a/2^s=U (a>>>s):=by
 unfold U;rw[nj,mX]
 norm_cast
theorem UY(a b:BitVec 64):(U a==U b)=(a==b):=by
 rw[m9];simp only[mz];exact⟨PG,λh=>by rw[h]⟩
theorem J5(a:BitVec 64):O 64 (U a)=a:=by
 unfold U;rw[BitVec.ofInt_natCast];simp
theorem OO(a:BitVec 64):E.wrap (U a)=U a:=by
 have:=a.isLt;rw[J];unfold U;omega
theorem UQ(a b:BitVec 64):bits BinOp.and E (U a) (U b)=U (a&&&b):=by
 show E.wrap ((O 64 (U a)&&&O 64 (U b)).toNat:Int)=_;rw[J5,J5];exact OO _
theorem ji(a b:BitVec 64):bits BinOp.or E (U a) (U b)=U (a|||b):=by
 show E.wrap ((O 64 (U a)|||O 64 (U b)).toNat:Int)=_;rw[J5,J5];exact OO _
theorem el(a b:BitVec 64):bits BinOp.andNot E (U a) (U b)=U (a&&&~~~b):=by
 show E.wrap ((O 64 (U a)&&&~~~(O 64 (U b))).toNat:Int)=_;rw[J5,J5];exact OO _
theorem Se(s:Nat)(a:s<64):E.wrap (1*2^s)=U (1#64<<<s):=by
 unfold U;rw[BitVec.toNat_shiftLeft,J,pL];have h:2^s<2^64:=Nat.pow_lt_pow_right Ω a
 have e:((2:Int)^s)=((2^s:Nat):Int):=by push_cast;rfl
 rw[e];simp[Nat.shiftLeft_eq]
theorem iT(x:BitVec 64)(s:Nat):(bits BinOp.and E (U (x>>>s)) 1==1)=x.getLsbD s:=by
 have a:(1:Int)=U 1#64:=rfl;rw[a,UQ,UY]
 have h:x.getLsbD s=(x>>>s).getLsbD 0:=by rw[pw,kU]
 rw[h];generalize x>>>s=y;rw[m9,mz, <-BitVec.toNat_inj,BitVec.toNat_and];show y.toNat&&&1=1↔y.toNat.testBit 0=true;rw[Nat.and_one_is_mod,oK,decide_eq_true_iff]
def Cr(d:Nat)(x:BitVec 64):BitVec 64:=x^^^(x>>>d)
theorem gy(x:BitVec 64)(n:Nat)(h:64<=n):x>>>n=0#64:=by
 apply me;rw[nj,mX];have a:=x.isLt;have:2^64<=2^n:=kR Ω h;rw[mQ Ω];rfl
def c1:BitVec 64:=13787848793156543929#64
def c2:BitVec 64:=10723151780598845931#64
def Ks(x:BitVec 64):BitVec 64:=Cr 31 (Cr 27 (Cr 30 x*c1)*c2)*1#64
def PQ(f:BitVec 64):Nat->BitVec 64
 |0=>f
 |k+1=>PQ f k*(2#64 - f*PQ f k)
def jz(f:BitVec 64):BitVec 64:=PQ f 5
end
