/- Lemmas. -/
import Derived.Test.YtcedibmdelehdaaGreatDoorH00
import Derived.Test.YtcedibmdelehdaaGreatDoorH05
import Derived.Test.YtcedibmdelehdaaGreatDoorProg
import Derived.WalkLawsBesides
import Derived.WalkSpells
namespace Go.Proofs.YtcedibmdelehdaaGreatDoor
set_option maxRecDepth 100000
set_option maxHeartbeats 32000000
open Go.IntKind renaming u64->E,i64->Bd
open Go.Value renaming int->J,agg->A4
open Go.World renaming grownBy_alloc->O
open Go.Proofs.Tryz renaming prog->Ax,ntmps166->A2,func166->A3
open Go.Ending renaming returned->AA
section
open Go.RowKit
theorem fj{k:IntKind}{a b:Int}(h:a=b):AA (J k a)=AA (J k b):=by rw[h]
theorem Zs(h b:Int)(w:World)(a:b<1\/30<b):
  Calls Ax 166 #[J E h,J Bd b] w λe c=>e=AA (J Bd 0)/\w=c:=by
 rcases a with a|a
 ·go_enter A3,A2
  go_wp2;go_ret;exact⟨rfl,rfl⟩
 ·have d:¬b<1:=by omega
  go_enter A3,A2
  go_wp2;go_ret;exact⟨rfl,rfl⟩
def Ev(x:BitVec 64)(b:Int):Int:=if b<1\/30<b then 0 else U x/2^(64 - b).toNat
theorem RU(x:BitVec 64)(b:Int)(e:1<=b)(f:b<=30):0<=U x/2^(64 - b).toNat/\U x/2^(64 - b).toNat<2^b.toNat:=by
 obtain⟨n,rfl⟩:=kT (show 0<=b by omega);have a:((64:Int) - n).toNat=64 - n:=Ω;rw[a,PA];refine⟨J2 _,?_⟩;unfold U;rw[qx,qh,km];have c:=x.isLt
 have:2^64=2^n*2^(64 - n):=by rw[<-qR];congr 1;omega
 have d:x.toNat/2^(64 - n)<2^n:=oq (by rw[lM, <-this];exact c)
 exact_mod_cast d
theorem Kn(x:BitVec 64)(b:Int)(w:World):
  Calls Ax 166 #[J E (U x),J Bd b] w λe f=>e=AA (J Bd (Ev x b))/\w=f:=by
 by_cases a:b<1\/30<b
 ·have:=Zs (U x) b w a;rw[show Ev x b=0 from ke a];exact this
 ·have g:1<=b:=by omega
  have h:b<=30:=Ω;have l:=J2 x;have m:=Ld x;have i:=RU x b g h
  have j:(2:Int)^b.toNat<=2^30:=by exact_mod_cast lL Ω Ω
  have c:Ev x b=U x/2^(64 - b).toNat:=j7 a;have d:wrap64 (U x/2^(64 - b).toNat)=U x/2^(64 - b).toNat:=IntWalk.wrap64_in _ Ω;rw[c];have k:=zh d;clear a c d i j
  go_enter A3,A2
  go_wp2;go_ret;exact⟨fj (by rw[k.o]),rfl⟩
theorem Zo(w:World):
  Calls Ax 219 #[] w λe a=>e=AA (A4 #[J E 30,J E 13787848793156543929,J E 27,J E 10723151780598845931,J E 31,J E 1])/\w.grownBy a none:=by
 go_enter Tryz.func219,Tryz.ntmps219
 go_wp2;exact bodyPost_ret (v:=A4 #[J E 30,J E 13787848793156543929,J E 27,J E 10723151780598845931,J E 31,J E 1]) (by simp[results,Tryz.results219,go_sem]) rfl ⟨rfl,O w _ none⟩
def PM(x:BitVec 64):Nat->BitVec 64
 |0=>x
 |1=>GT 30 x*c1
 |2=>GT 27 (GT 30 x*c1)*c2
 |_=>PY x
theorem Pj(d:Nat)(x:BitVec 64):bits BinOp.xor E (U x) (U x/2^d)=U (GT d x):=by rw[PA,Nc];rfl
theorem ig(x:BitVec 64):E.wrap (bits BinOp.xor E (U x) (U x/1073741824)*13787848793156543929)=U (GT 30 x*c1):=by
 rw[show(1073741824:Int)=2^30 from rfl,Pj 30 x,show(13787848793156543929:Int)=U c1 from rfl,Py]
theorem gR(x:BitVec 64):E.wrap (bits BinOp.xor E (U x) (U x/134217728)*10723151780598845931)=U (GT 27 x*c2):=by
 rw[show(134217728:Int)=2^27 from rfl,Pj 27 x,show(10723151780598845931:Int)=U c2 from rfl,Py]
theorem it(x:BitVec 64):E.wrap (bits BinOp.xor E (U x) (U x/2147483648))=U (GT 31 x*1#64):=by
 rw[show(2147483648:Int)=2^31 from rfl,Pj 31 x,BitVec.mul_one];exact IntWalk.u64_in _ ⟨J2 _,Ld _⟩
theorem Vs(x:BitVec 64)(w:World):
  Calls Ax 164 #[J E (U x)] w λe h=>e=AA (J E (U (PY x)))/\w.grownBy h none:=by
 have b:∀W,(Instr.index 332 (A4 #[J E 30,J E 13787848793156543929,J E 27,J E 10723151780598845931,J E 31,J E 1]) (J Bd 0)).run Ax W=.ok (A4 #[J E 30,J E 13787848793156543929]) W:=λ_=>Φ
 have c:∀W,(Instr.index 332 (A4 #[J E 30,J E 13787848793156543929,J E 27,J E 10723151780598845931,J E 31,J E 1]) (J Bd 1)).run Ax W=.ok (A4 #[J E 27,J E 10723151780598845931]) W:=λ_=>Φ
 have d:∀W,(Instr.index 332 (A4 #[J E 30,J E 13787848793156543929,J E 27,J E 10723151780598845931,J E 31,J E 1]) (J Bd 2)).run Ax W=.ok (A4 #[J E 31,J E 1]) W:=λ_=>Φ
 go_enter Tryz.func164,Tryz.ntmps164
 go_wp2_with (go_at_call 219;refine(Zo _).mono ?_;rintro e j ⟨rfl,f⟩)
 go_loopw [0,6] (λo i wr=>∃k:Nat,k<=3/\i=J Bd k/\o=J E (U (PM x k))/\w.grownBy wr none) (λ_ i _=>3 - (intOf i).toNat)
 case atStart=>exact⟨0,Ω,rfl,rfl,f⟩
 case round=>
  obtain⟨k,l,rfl,rfl,g⟩:=hrel;have a:=zh g;have m:=J2 (PM x k);have n:=Ld (PM x k);clear g f
  rcases(show k=0\/k=1\/k=2\/k=3 by omega)with rfl|rfl|rfl|rfl
  ·clear c d;go_wp2
   go_roundw
   case rel=>exact⟨1,Ω,rfl,by rw[ig];rfl,Ae a.o (O _ _ none)⟩
   case measure=>simp[intOf]
  ·clear b d;go_wp2
   go_roundw
   case rel=>exact⟨2,Ω,rfl,by rw[gR];rfl,Ae a.o (O _ _ none)⟩
   case measure=>simp[intOf]
  ·clear b c;go_wp2
   go_roundw
   case rel=>exact⟨3,Ω,rfl,by rw[it];rfl,Ae a.o (O _ _ none)⟩
   case measure=>simp[intOf]
  ·clear b c d;go_wp2;go_ret;exact⟨rfl,a.o⟩
end
