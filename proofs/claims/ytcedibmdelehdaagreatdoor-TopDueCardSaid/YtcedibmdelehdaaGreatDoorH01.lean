/- Lemmas. -/
import Derived.Test.YtcedibmdelehdaaGreatDoorHBase
import Derived.ControlIn
import Derived.RangeFuncNested
import Derived.Scope
namespace Go.Proofs.YtcedibmdelehdaaGreatDoor
set_option maxRecDepth 100000
set_option maxHeartbeats 32000000
variable{h:List Frame}{E:List Item}{J:Code}{O:Frame}
section
open Go
variable {F:Fence} {n:Nat} {P:Program} {Q:Exit->Act->World->Prop} {a:Act} {w:World}
theorem Js:step P (lone (O.atR a (.code (.scope J)::E)) h w)=.next (lone (O.atR a (.code J::.inScope J::E)) h w):=
 step_lone_go (by simp[stepG,stepG.exec,Frame.atR])
theorem Va:step P (lone (O.atR a (.inScope J::E)) h w)=.next (lone (O.atR a E) h w):=
 step_lone_go (by simp[stepG,stepG.exec,Frame.atR])
theorem US(h:J.wpIn F n P (Exit.noGoto Q) a w):(Code.scope J).wpIn F n P Q a w:=by
 intro b k q s j m;have c:(lone (b.atR a (.code (.scope J)::k)) q w).fenced P F:=fenced_calm j m rfl;obtain⟨e,g,i,d,f⟩:=h b (.inScope J::k) q s j m
 cases e with
 |normal=>exact⟨.normal,g,i,d,.head c Js (StepsIn.trans f (.one (fenced_calm j m rfl) Va))⟩
 |exit o=>
  have r:exitTo o (.inScope J::k)=exitTo o k:=by simp[exitTo]
  exact⟨.exit o,g,i,d,λt p=>.head c Js (f.1 t (by rw[r];exact p)),
   λu p=>let⟨v,x,y⟩:=f.2 u (by rw[r];exact p);⟨v,x,.head c Js y⟩⟩
 |goto l=>exact d.elim
 |ret=>exact⟨_,g,i,d,.of_steps (.one c Js) f⟩
 |panic z=>exact⟨_,g,i,d,.of_steps (.one c Js) f⟩
 |outgrown=>exact⟨_,g,i,d,.of_steps (.one c Js) f⟩
end
