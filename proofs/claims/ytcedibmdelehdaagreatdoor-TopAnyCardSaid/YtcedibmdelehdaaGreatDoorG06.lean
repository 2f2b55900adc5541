/- Lemmas. -/
import Derived.Test.YtcedibmdelehdaaGreatDoorG00
import Derived.Test.YtcedibmdelehdaaGreatDoorG03
import Derived.Test.YtcedibmdelehdaaGreatDoorProg
import Derived.WalkLawsBesides
import Derived.WalkSpells
namespace Go.Proofs.YtcedibmdelehdaaGreatDoor
set_option maxRecDepth 100000
set_option maxHeartbeats 32000000
open Go.IntKind renaming u64->E,i64->A5
open Go.Value renaming int->J,agg->A4
open Go.World renaming grownBy_alloc->O
open Go.Proofs.Tryz renaming prog->Ax,ntmps166->A2,func166->A3
open Go.Ending renaming returned->AA
section
open Go.RowKit
theorem fo{k:IntKind}{a b:Int}(h:a=b):AA (J k a)=AA (J k b):=by rw[h]
theorem ZD(h b:Int)(w:World)(a:b<1\/30<b):
  Calls Ax 166 #[J E h,J A5 b] w λe c=>e=AA (J A5 0)/\w=c:=by
 rcases a with a|a
 ·go_enter A3,A2
  go_wp2;go_ret;exact⟨rfl,rfl⟩
 ·have d:¬b<1:=by omega
  go_enter A3,A2
  go_wp2;go_ret;exact⟨rfl,rfl⟩
def EE(x:BitVec 64)(b:Int):Int:=if b<1\/30<b then 0 else U x/2^(64 - b).toNat
theorem Sh(x:BitVec 64)(b:Int)(e:1<=b)(f:b<=30):0<=U x/2^(64 - b).toNat/\U x/2^(64 - b).toNat<2^b.toNat:=by
 obtain⟨n,rfl⟩:=jU (show 0<=b by omega);have a:((64:Int) - n).toNat=64 - n:=Ω;rw[a,Nk];refine⟨Ic _,?_⟩;unfold U;rw[nj,mX,jS];have c:=x.isLt
 have:2^64=2^n*2^(64 - n):=by rw[<-qn];congr 1;omega
 have d:x.toNat/2^(64 - n)<2^n:=nK (by rw[lp, <-this];exact c)
 exact_mod_cast d
theorem KC(x:BitVec 64)(b:Int)(w:World):
  Calls Ax 166 #[J E (U x),J A5 b] w λe f=>e=AA (J A5 (EE x b))/\w=f:=by
 by_cases a:b<1\/30<b
 ·have:=ZD (U x) b w a;rw[show EE x b=0 from jP a];exact this
 ·have g:1<=b:=by omega
  have h:b<=30:=Ω;have l:=Ic x;have m:=IL x;have i:=Sh x b g h
  have j:(2:Int)^b.toNat<=2^30:=by exact_mod_cast kR Ω Ω
  have c:EE x b=U x/2^(64 - b).toNat:=jN a;have d:wrap64 (U x/2^(64 - b).toNat)=U x/2^(64 - b).toNat:=IntWalk.wrap64_in _ Ω;rw[c];have k:=zh d;clear a c d i j
  go_enter A3,A2
  go_wp2;go_ret;exact⟨fo (by rw[k.o]),rfl⟩
theorem Zz(w:World):
  Calls Ax 219 #[] w λe a=>e=AA (A4 #[J E 30,J E 13787848793156543929,J E 27,J E 10723151780598845931,J E 31,J E 1])/\w.grownBy a none:=by
 go_enter Tryz.func219,Tryz.ntmps219
 go_wp2;exact bodyPost_ret (v:=A4 #[J E 30,J E 13787848793156543929,J E 27,J E 10723151780598845931,J E 31,J E 1]) (by simp[results,Tryz.results219,go_sem]) rfl ⟨rfl,O w _ none⟩
def P0(x:BitVec 64):Nat->BitVec 64
 |0=>x
 |1=>Cr 30 x*c1
 |2=>Cr 27 (Cr 30 x*c1)*c2
 |_=>Ks x
theorem Ps(d:Nat)(x:BitVec 64):bits BinOp.xor E (U x) (U x/2^d)=U (Cr d x):=by rw[Nk,Nn];rfl
theorem ig(x:BitVec 64):E.wrap (bits BinOp.xor E (U x) (U x/1073741824)*13787848793156543929)=U (Cr 30 x*c1):=by
 rw[show(1073741824:Int)=2^30 from rfl,Ps 30 x,show(13787848793156543929:Int)=U c1 from rfl,J7]
theorem gR(x:BitVec 64):E.wrap (bits BinOp.xor E (U x) (U x/134217728)*10723151780598845931)=U (Cr 27 x*c2):=by
 rw[show(134217728:Int)=2^27 from rfl,Ps 27 x,show(10723151780598845931:Int)=U c2 from rfl,J7]
theorem it(x:BitVec 64):E.wrap (bits BinOp.xor E (U x) (U x/2147483648))=U (Cr 31 x*1#64):=by
 rw[show(2147483648:Int)=2^31 from rfl,Ps 31 x,BitVec.mul_one];exact IntWalk.u64_in _ ⟨Ic _,IL _⟩
theorem VA(x:BitVec 64)(w:World):
  Calls Ax 164 #[J E (U x)] w λe h=>e=AA (J E (U (Ks x)))/\w.grownBy h none:=by
 have b:∀W,(Instr.index 332 (A4 #[J E 30,J E 13787848793156543929,J E 27,J E 10723151780598845931,J E 31,J E 1]) (J A5 0)).run Ax W=.ok (A4 #[J E 30,J E 13787848793156543929]) W:=λ_=>Φ
 have c:∀W,(Instr.index 332 (A4 #[J E 30,J E 13787848793156543929,J E 27,J E 10723151780598845931,J E 31,J E 1]) (J A5 1)).run Ax W=.ok (A4 #[J E 27,J E 10723151780598845931]) W:=λ_=>Φ
 have d:∀W,(Instr.index 332 (A4 #[J E 30,J E 13787848793156543929,J E 27,J E 10723151780598845931,J E 31,J E 1]) (J A5 2)).run Ax W=.ok (A4 #[J E 31,J E 1]) W:=λ_=>Φ
 go_enter Tryz.func164,Tryz.ntmps164
 go_wp2_with (go_at_call 219;refine(Zz _).mono ?_;rintro e j ⟨rfl,f⟩)
 go_loopw [0,6] (λo i wr=>∃k:Nat,k<=3/\i=J A5 k/\o=J E (U (P0 x k))/\w.grownBy wr none) (λ_ i _=>3 - (intOf i).toNat)
 case atStart=>exact⟨0,Ω,rfl,rfl,f⟩
 case round=>
  obtain⟨k,l,rfl,rfl,g⟩:=hrel;have a:=zh g;have m:=Ic (P0 x k);have n:=IL (P0 x k);clear g f
  rcases(show k=0\/k=1\/k=2\/k=3 by omega)with rfl|rfl|rfl|rfl
  ·clear c d;go_wp2
   go_roundw
   case rel=>exact⟨1,Ω,rfl,by rw[ig];rfl,Ab a.o (O _ _ none)⟩
   case measure=>simp[intOf]
  ·clear b d;go_wp2
   go_roundw
   case rel=>exact⟨2,Ω,rfl,by rw[gR];rfl,Ab a.o (O _ _ none)⟩
   case measure=>simp[intOf]
  ·clear b c;go_wp2
   go_roundw
   case rel=>exact⟨3,Ω,rfl,by rw[it];rfl,Ab a.o (O _ _ none)⟩
   case measure=>simp[intOf]
  ·clear b c d;go_wp2;go_ret;exact⟨rfl,a.o⟩
end
