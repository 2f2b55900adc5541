/- Lemmas. -/
import Derived.Test.YtcedibmdelehdaaGreatDoorH34
import Derived.Handy
import Derived.Sort.Grow
namespace Go.Proofs.YtcedibmdelehdaaGreatDoor
set_option maxRecDepth 100000
set_option maxHeartbeats 32000000
open Go.Value renaming int->E
open Go.IntKind renaming i64->J
open Go.Sort renaming alloc_eq_grow->O,grow_grow->AA
open Go.Obj renaming cells->Ax
section
open Go Go.RowKit
attribute [local go_sem ↓] Go.wp_at_zero Go.wp_at_succ
def Gm(x y:Int):Int:=if x<y then -1 else if y<x then 1 else 0
theorem Oy(x:Int)(w:World):Calls Tryz.prog 271 #[E J x] w λe a=>e=.returned (.bool false)/\a=w:=by
 have h:(x !=x)=false:=Δ
 go_enter Tryz.func271,Tryz.ntmps271
 go_wp2;go_ret;exact⟨rfl,rfl⟩
theorem SJ(x y:Int)(w:World):Calls Tryz.prog 235 #[E J x,E J y] w λe c=>e=.returned (E J (Gm x y))/\c=w:=by
 by_cases b:x<y
 ·have d:decide (x<y)=true:=jT b;rw[show Gm x y= -1 from ke b]
  go_enter pu,oU
  go_wp2_with (go_at_call 271;refine(Oy _ _).mono ?_;rintro e c ⟨rfl,rfl⟩);go_ret;exact⟨rfl,rfl⟩
 ·have d:decide (x<y)=false:=jV b
  by_cases a:y<x
  ·have f:decide (y<x)=true:=jT a;have g:decide (x>y)=true:=jT a;rw[show Gm x y=1 by unfold Gm;rw[j7 b,ke a]]
   go_enter pu,oU
   go_wp2_with (go_at_call 271;refine(Oy _ _).mono ?_;rintro e c ⟨rfl,rfl⟩);go_ret;exact⟨rfl,rfl⟩
  ·have f:decide (y<x)=false:=jV a;have g:decide (x>y)=false:=jV a;rw[show Gm x y=0 by unfold Gm;rw[j7 b,j7 a]]
   go_enter pu,oU
   go_wp2_with (go_at_call 271;refine(Oy _ _).mono ?_;rintro e c ⟨rfl,rfl⟩);go_ret;exact⟨rfl,rfl⟩
def Lm(x y:Int):Int:=if x=0 then y else x
theorem eW(x y:Int)(b:Nat)(w:World)(c:Aa w b 3 [E J x,E J y]):Calls Tryz.prog 234 #[.slice (some ⟨b,0,none⟩) 2 2] w λe f=>e=.returned (E J (Lm x y))/\f=w:=by
 have i:=c.m 0;have j:=c.m 1;clear c
 by_cases a:x=0
 ·have g:(x !=0)=false:=by simp[a]
  rw[show Lm x y=y from ke a]
  by_cases d:y=0
  ·have h:(y !=0)=false:=by simp[d]
   go_enter pw,oV
   subst d;go_wp2
   go_rounds 3
   go_ret;exact⟨rfl,rfl⟩
  ·have h:(y !=0)=true:=by simp[d]
   go_enter pw,oV
   go_wp2
   go_rounds 3
   go_ret;exact⟨rfl,rfl⟩
 ·have g:(x !=0)=true:=by simp[a]
  rw[show Lm x y=x from j7 a]
  go_enter pw,oV
  go_wp2
  go_rounds 3
  go_ret;exact⟨rfl,rfl⟩
structure Du where
 n:Int
 aZ:Int
def EB(x:Du):List Value:=[E J x.n,E J x.aZ]
def Jk(x y:Du):Int:=Lm (Gm x.aZ y.aZ) (Gm x.n y.n)
theorem Vk(x y:Du)(w:World):Calls Tryz.prog 177 #[.agg #[E J x.n,E J x.aZ],.agg #[E J y.n,E J y.aZ]] w λe k=>e=.returned (E J (Jk x y))/\∃q n,k=Sort.grow (w.drewN q) n:=by
 obtain⟨a,b⟩:=x;obtain⟨c,d⟩:=y;unfold Jk;dsimp only;generalize o:Gm b d=g;generalize p:Gm a c=h
 have l:=λW=>SJ b d W
 have m:=λW=>SJ a c W
 rw[o]at l;rw[p]at m
 go_enter Tryz.func177,Tryz.ntmps177
 go_wp2_with fail;obtain⟨i,f⟩:∃x,((w.alloc (Ax #[E J a,E J b] 75)).alloc (Ax #[E J c,E J d] 75))=x:=⟨_,rfl⟩;rw[f]
 have t:i.cell? ⟨w.heap.size,0,none⟩=some (E J a):=by rw[<-f];exact((Aa.new w _ [E J a,E J b]).grown (World.grownBy_alloc _ _ none) Δ).aq rfl
 have u:i.cell? ⟨w.heap.size,1,none⟩=some (E J b):=by rw[<-f];exact((Aa.new w _ [E J a,E J b]).grown (World.grownBy_alloc _ _ none) Δ).aq rfl
 have j:=Aa.new (w.alloc (Ax #[E J a,E J b] 75)) 75 [E J c,E J d];rw[World.size_alloc,show(w.alloc (Ax #[E J a,E J b] 75)).alloc (Ax [E J c,E J d].toArray 75)=i from f]at j;have v:=j.m 0;have z:=j.m 1;have r:=zh f;clear j f;refine Lx 10 Φ Φ ?_;simp only[oL,pq,oM,ot]
 repeat(go_big_quiet_step (fail))
 go_big_quiet_want
 go_big_quiet_op
 refine⟨_,l _,?_⟩
 go_big_quiet_on
 repeat(go_big_quiet_step (fail))
 go_big_quiet_want
 go_big_quiet_op
 refine⟨_,m _,?_⟩
 go_big_quiet_on
 repeat(go_big_quiet_step (fail))
 refine wpQuiet_nil ?_;have s:=Aa.new i.drew 3 [E J g,E J h];go_wp2_with (go_at_call 234;refine(eW g h _ _ s).mono ?_;rintro e k ⟨rfl,rfl⟩);go_ret;refine⟨rfl,1,#[Ax #[E J a,E J b] 75,Ax #[E J c,E J d] 75,Ax #[E J g,E J h] 3],?_⟩;rw[<-r.o,O,O,O,AA];exact AA (w.drewN 1) (#[Ax #[E J a,E J b] 75]++#[Ax #[E J c,E J d] 75]) #[Ax #[E J g,E J h] 3]
end
