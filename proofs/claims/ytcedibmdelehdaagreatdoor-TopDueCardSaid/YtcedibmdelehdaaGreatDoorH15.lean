/- Lemmas. -/
import Derived.Test.YtcedibmdelehdaaGreatDoorH07
import Derived.Test.YtcedibmdelehdaaGreatDoorH11
import Derived.Test.YtcedibmdelehdaaGreatDoorProg
import Derived.WalkLawsBesides
import Derived.WalkSpells
namespace Go.Proofs.YtcedibmdelehdaaGreatDoor
set_option maxRecDepth 100000
set_option maxHeartbeats 32000000
open Go.Proofs.Tryz renaming prog->E,ntmps80->J,func80->O
section
open Go.RowKit
theorem Ub(k:Int)(w:World):Calls E 187 #[.int .i64 k] w λe g=>e=.returned (.bool (E7 k))/\w=g:=by
 by_cases a:k=1
 ·subst a
  go_enter pS,pJ
  go_wp2;go_ret;exact⟨rfl,rfl⟩
 by_cases b:k=2
 ·subst b
  go_enter pS,pJ
  go_wp2;go_ret;exact⟨rfl,rfl⟩
 by_cases c:k=4
 ·subst c
  go_enter pS,pJ
  go_wp2;go_ret;exact⟨rfl,rfl⟩
 by_cases d:k=8
 ·subst d
  go_enter pS,pJ
  go_wp2;go_ret;exact⟨rfl,rfl⟩
 have f:E7 k=false:=jV Ω;rw[f]
 have h:(k==1)=false:=by rw[lu];exact a
 have i:(k==2)=false:=by rw[lu];exact b
 have j:(k==4)=false:=by rw[lu];exact c
 have l:(k==8)=false:=by rw[lu];exact d
 clear a b c d f
 go_enter pS,pJ
 go_wp2;go_ret;exact⟨rfl,rfl⟩
theorem Ia:(E.info? 5).map (λi=>(i.zero,i.size,i.bytes))=some (some (.int .u8 0),1,1):=Φ
theorem QN(b:List Nat):∀u∈Ao b,u.oneCell'=true:=by
 intro u a;unfold Ao at a;rw[lP]at a;obtain⟨x,_,rfl⟩:=a;rfl
theorem Km(a b:List Nat):Ao (a++b)=Ao a++Ao b:=oX
theorem DW(b:List Nat)(a:Option Addr)(c:Nat)(w:World)(C:b.length<=100000000)(d:Ai w 1 (.slice a b.length c) b.length (Ao b)):
  Calls E 80 #[.slice a b.length c] w λe g=>∃i j,e=.returned (.slice i b.length j)/\g.ownsRow w.heap.size 5 1 (.slice i b.length j) b.length (Ao b)/\w.grownBy g none:=by
 obtain⟨o,p,q,r,s⟩:=info_parts Ia
 cases a with
 |none=>
  have t:=Lib.run_eql_slice_nil (P:=E)
  have u:b=[]:=by
   rcases d.2.2 with⟨_,h⟩|⟨k,D,h,_⟩
   ·exact kV h
   ·simp at h
  subst u;clear d
  go_enter O,J
  go_wp2;go_ret;exact⟨none,0,rfl,World.ownsRow_nil _ _ _ _,Bf _ _⟩
 |some k=>
  have t:=Lib.run_eql_slice_nil (P:=E);have x:=zh d;clear d
  go_enter O,J
  go_wp2_with (at_builtin;refine IG rfl _ _ 64 rfl w.heap.size 5 o (.int .u8 0) 1 1 mc p q r s rfl Ξ (v:=.slice (some ⟨w.heap.size,0,none⟩) 0 0) (n:=0) (xs:=[]) (sv:=.slice (some k) b.length c) rfl (World.ownsRow_made w #[] 0 (jS _) Δ Δ) rfl (x.o.alloc _) (QN b) (by unfold maxLen;omega) Ω Δ ?_;intro F G f l _;simp only[mx,kv]at f;have m:=Ai.aj f;obtain⟨y,z,rfl⟩:=m.slice;have A:=zh f;have B:=zh (Jt l);clear f l m);go_ret;exact⟨y,z,rfl,A.o,B.o⟩
end
