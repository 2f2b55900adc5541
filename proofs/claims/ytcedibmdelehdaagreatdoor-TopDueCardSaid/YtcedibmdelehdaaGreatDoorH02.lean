/- Lemmas. -/
import Derived.Test.YtcedibmdelehdaaGreatDoorHBase
import Derived.Ground.NamesProg
import Derived.Ground.SlsfProg
import Derived.Shelf.SlGeneric
import Derived.Shelf.SlLaysF0
import Derived.Test.YtcedibmdelehdaaGreatDoorProg
namespace Go.Proofs.YtcedibmdelehdaaGreatDoor
set_option maxRecDepth 100000
set_option maxHeartbeats 32000000
open Option renaming some->E
section
open Go.Shelf
def ZK:Go.Shelf.Ren:=⟨λ|6=>176|15=>233|14=>232|28=>269|29=>270|20=>261|21=>262|22=>263|23=>264|24=>265|25=>266|26=>267|27=>268|46=>284|47=>285|48=>286|49=>287|50=>288|57=>293|n=>n,λ|22=>68|24=>75|25=>289|3=>3|39=>329|0=>0|53=>362|55=>22|4=>4|46=>381|45=>380|50=>66|5=>5|9=>9|66=>397|70=>401|76=>407|77=>408|n=>n,λ|n=>n⟩
theorem ja:SlLaysF0.n6 Tryz.prog ZK:={
 mixed:=Φ
 f6:=⟨Tryz.f176.name,Ξ,Tryz.func176.trans (kL E Φ)⟩
 f14:=⟨Tryz.f232.name,Ξ,Tryz.func232.trans (kL E Φ)⟩
 f15:=Tryz.func233.trans (kL E Φ)
 f20:=⟨Tryz.f261.name,Ξ,Tryz.func261.trans (kL E Φ)⟩
 f21:=⟨Tryz.f262.name,Ξ,Tryz.func262.trans (kL E Φ)⟩
 f22:=⟨Tryz.f263.name,Ξ,Tryz.func263.trans (kL E Φ)⟩
 f23:=⟨Tryz.f264.name,Ξ,Tryz.func264.trans (kL E Φ)⟩
 f24:=⟨Tryz.f265.name,Ξ,Tryz.func265.trans (kL E Φ)⟩
 f25:=⟨Tryz.f266.name,Ξ,Tryz.func266.trans (kL E Φ)⟩
 f26:=⟨Tryz.f267.name,Ξ,Tryz.func267.trans (kL E Φ)⟩
 f27:=⟨Tryz.f268.name,Ξ,Tryz.func268.trans (kL E Φ)⟩
 f28:=Tryz.func269.trans (kL E Φ)
 f29:=Tryz.func270.trans (kL E Φ)
 f46:=⟨Tryz.f284.name,Ξ,Tryz.func284.trans (kL E Φ)⟩
 f47:=Tryz.func285.trans (kL E Φ)
 f48:=Tryz.func286.trans (kL E Φ)
 f49:=⟨Tryz.f287.name,Ξ,Tryz.func287.trans (kL E Φ)⟩
 f50:=⟨Tryz.f288.name,Ξ,Tryz.func288.trans (kL E Φ)⟩
 f57:=⟨Tryz.f293.name,Ξ,Tryz.func293.trans (kL E Φ)⟩
 t0:=Tryz.underlying0
 a0:=Tryz.isAgg0
 z0:=Tryz.sizeOf0
 v0:=Tryz.zeroValue0
 t3:=kr
 a3:=qm
 z3:=pQ
 v3:=pN
 t4:=Tryz.underlying4
 a4:=Tryz.isAgg4
 z4:=Tryz.sizeOf4
 v4:=Tryz.zeroValue4
 t5:=np
 a5:=Tryz.isAgg5
 z5:=Tryz.sizeOf5
 v5:=Tryz.zeroValue5
 t9:=nt
 a9:=Tryz.isAgg9
 z9:=Tryz.sizeOf9
 v9:=Tryz.zeroValue9
 t22:=Tryz.underlying68
 a22:=Tryz.isAgg68
 z22:=Tryz.sizeOf68
 v22:=Tryz.zeroValue68
 t25:=Tryz.underlying289
 a25:=Tryz.isAgg289
 z25:=Tryz.sizeOf289
 v25:=Tryz.zeroValue289
 t39:=Tryz.underlying329
 a39:=Tryz.isAgg329
 z39:=Tryz.sizeOf329
 v39:=Tryz.zeroValue329
 t45:=Tryz.underlying380
 a45:=Tryz.isAgg380
 z45:=Tryz.sizeOf380
 v45:=Tryz.zeroValue380
 t46:=Tryz.underlying381
 a46:=Tryz.isAgg381
 z46:=Tryz.sizeOf381
 v46:=Tryz.zeroValue381
 t50:=Tryz.underlying66
 a50:=Tryz.isAgg66
 z50:=Tryz.sizeOf66
 v50:=Tryz.zeroValue66
 t53:=Tryz.underlying362
 a53:=Tryz.isAgg362
 z53:=Tryz.sizeOf362
 v53:=Tryz.zeroValue362
 t55:=Tryz.underlying22
 a55:=Tryz.isAgg22
 z55:=Tryz.sizeOf22
 v55:=Tryz.zeroValue22
 t66:=Tryz.underlying397
 a66:=Tryz.isAgg397
 z66:=Tryz.sizeOf397
 v66:=Tryz.zeroValue397
 t70:=Tryz.underlying401
 a70:=Tryz.isAgg401
 z70:=Tryz.sizeOf401
 v70:=Tryz.zeroValue401
 t76:=Tryz.underlying407
 a76:=Tryz.isAgg407
 z76:=Tryz.sizeOf407
 v76:=Tryz.zeroValue407
 t77:=Tryz.underlying408
 a77:=Tryz.isAgg408
 z77:=Tryz.sizeOf408
 v77:=Tryz.zeroValue408}
end
