/- Lemmas. -/
import Derived.Test.YtcedibmdelehdaaGreatDoorHBase
import Derived.PlainAid
import Derived.WalkKit
namespace Go.Proofs.YtcedibmdelehdaaGreatDoor
set_option maxRecDepth 100000
set_option maxHeartbeats 32000000
open Go.IntKind renaming u64->E,wrap_u64->J
open BitVec renaming ofInt->O
section
open Go.RowKit
def U(x:BitVec 64):Int:=(x.toNat:Int)
theorem J2(x:BitVec 64):0<=U x:=by unfold U;omega
theorem Ld(x:BitVec 64):U x<=18446744073709551615:=by unfold U;have:=x.isLt;omega
theorem Px{a b:BitVec 64}(h:U a=U b):a=b:=by
 unfold U at h;exact m9 Ω
theorem Py(a b:BitVec 64):E.wrap (U a*U b)=U (a*b):=by
 unfold U;rw[J,BitVec.toNat_mul, <-Int.natCast_mul];omega
theorem iL(a b:BitVec 64):E.wrap (U a+U b)=U (a+b):=by
 unfold U;rw[J,BitVec.toNat_add];omega
theorem iY(a b:BitVec 64):E.wrap (U a - U b)=U (a - b):=by
 unfold U;rw[J,qD];have:=b.isLt;omega
theorem Nc(a b:BitVec 64):bits BinOp.xor E (U a) (U b)=U (a^^^b):=by
 unfold U;rw[bits_xor_u64_nat _ _ a.isLt b.isLt,BitVec.toNat_xor]
theorem PA(a:BitVec 64)(s:Nat):U a/2^s=U (a>>>s):=by
 unfold U;rw[qx,qh]
 norm_cast
theorem jn(a b:BitVec 64):(U a==U b)=(a==b):=by
 rw[nH];simp only[nc];exact⟨Px,λh=>by rw[h]⟩
theorem JP(a:BitVec 64):O 64 (U a)=a:=by
 unfold U;rw[BitVec.ofInt_natCast];simp
theorem OG(a:BitVec 64):E.wrap (U a)=U a:=by
 have:=a.isLt;rw[J];unfold U;omega
theorem UC(a b:BitVec 64):bits BinOp.and E (U a) (U b)=U (a&&&b):=by
 show E.wrap ((O 64 (U a)&&&O 64 (U b)).toNat:Int)=_;rw[JP,JP];exact OG _
theorem jo(a b:BitVec 64):bits BinOp.or E (U a) (U b)=U (a|||b):=by
 show E.wrap ((O 64 (U a)|||O 64 (U b)).toNat:Int)=_;rw[JP,JP];exact OG _
theorem ef(a b:BitVec 64):bits BinOp.andNot E (U a) (U b)=U (a&&&~~~b):=by
 show E.wrap ((O 64 (U a)&&&~~~(O 64 (U b))).toNat:Int)=_;rw[JP,JP];exact OG _
theorem RQ(s:Nat)(a:s<64):E.wrap (1*2^s)=U (1#64<<<s):=by
 unfold U;rw[BitVec.toNat_shiftLeft,J,ql];have h:2^s<2^64:=Nat.pow_lt_pow_right Ω a
 have e:((2:Int)^s)=((2^s:Nat):Int):=by push_cast;rfl
 rw[e];simp[Nat.shiftLeft_eq]
theorem iV(x:BitVec 64)(s:Nat):(bits BinOp.and E (U (x>>>s)) 1==1)=x.getLsbD s:=by
 have a:(1:Int)=U 1#64:=rfl;rw[a,UC,jn]
 have h:x.getLsbD s=(x>>>s).getLsbD 0:=by rw[BitVec.getLsbD_ushiftRight,lD]
 rw[h];generalize x>>>s=y;rw[nH,nc, <-BitVec.toNat_inj,BitVec.toNat_and];show y.toNat&&&1=1↔y.toNat.testBit 0=true;rw[Nat.and_one_is_mod,pB,decide_eq_true_iff]
def GT(d:Nat)(x:BitVec 64):BitVec 64:=x^^^(x>>>d)
def c1:BitVec 64:=13787848793156543929#64
def c2:BitVec 64:=10723151780598845931#64
def PY(x:BitVec 64):BitVec 64:=GT 31 (GT 27 (GT 30 x*c1)*c2)*1#64
def PF(f:BitVec 64):Nat->BitVec 64
 |0=>f
 |k+1=>PF f k*(2#64 - f*PF f k)
def jL(f:BitVec 64):BitVec 64:=PF f 5
end
