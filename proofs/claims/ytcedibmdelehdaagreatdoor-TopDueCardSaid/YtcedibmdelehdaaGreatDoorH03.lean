/- Lemmas. -/
import Derived.Test.YtcedibmdelehdaaGreatDoorHBase
import Derived.Ground.SlgfProg
import Derived.Ground.SlgmProg
import Derived.Ground.SlgnProg
import Derived.Ground.SlsfProg
import Derived.Shelf.SlGeneric
import Derived.Shelf.SlicesE.Clone
import Derived.Shelf.SlicesE.IndexFunc
import Derived.Shelf.SortM.AssemblyIn
import Derived.Sort.EveryDepth
import Derived.Sort.OwnSortedInts
import Derived.Test.YtcedibmdelehdaaGreatDoorProg
namespace Go.Proofs.YtcedibmdelehdaaGreatDoor
set_option maxRecDepth 100000
set_option maxHeartbeats 32000000
open Option renaming some->E
open Go.Proofs.Tryz renaming zeroValue145->J,sizeOf145->O,isAgg145->Ax,underlying4->AA,underlying0->A2,zeroValue4->A3,zeroValue0->A4,sizeOf4->Bd,sizeOf0->Bk,isAgg4->Bn,isAgg0->Bs,prog->Bx
section
open Go.Shelf
def YU:Ren:=⟨λ|5=>282|8=>233|7=>292|19=>269|20=>270|10=>298|11=>299|12=>300|13=>301|14=>302|15=>303|16=>304|17=>305|18=>306|30=>309|31=>285|32=>286|33=>310|34=>311|35=>271|40=>312|n=>n,λ|23=>145|25=>3|3=>3|32=>329|22=>145|0=>0|44=>362|46=>22|4=>4|36=>381|35=>380|41=>66|5=>5|9=>9|53=>397|57=>401|63=>407|64=>408|n=>n,λ|n=>n⟩
theorem iR:SlLaysM.n5 Bx YU:={
 mixed:=Φ
 f5:=⟨Tryz.f282.name,Ξ,Tryz.func282.trans (kL E Φ)⟩
 f7:=⟨Tryz.f292.name,Ξ,Tryz.func292.trans (kL E Φ)⟩
 f8:=Tryz.func233.trans (kL E Φ)
 f10:=⟨Tryz.f298.name,Ξ,Tryz.func298.trans (kL E Φ)⟩
 f11:=⟨Tryz.f299.name,Ξ,Tryz.func299.trans (kL E Φ)⟩
 f12:=⟨Tryz.f300.name,Ξ,Tryz.func300.trans (kL E Φ)⟩
 f13:=⟨Tryz.f301.name,Ξ,Tryz.func301.trans (kL E Φ)⟩
 f14:=⟨Tryz.f302.name,Ξ,Tryz.func302.trans (kL E Φ)⟩
 f15:=⟨Tryz.f303.name,Ξ,Tryz.func303.trans (kL E Φ)⟩
 f16:=⟨Tryz.f304.name,Ξ,Tryz.func304.trans (kL E Φ)⟩
 f17:=⟨Tryz.f305.name,Ξ,Tryz.func305.trans (kL E Φ)⟩
 f18:=⟨Tryz.f306.name,Ξ,Tryz.func306.trans (kL E Φ)⟩
 f19:=Tryz.func269.trans (kL E Φ)
 f20:=Tryz.func270.trans (kL E Φ)
 f30:=⟨Tryz.f309.name,Ξ,Tryz.func309.trans (kL E Φ)⟩
 f31:=Tryz.func285.trans (kL E Φ)
 f32:=Tryz.func286.trans (kL E Φ)
 f33:=⟨Tryz.f310.name,Ξ,Tryz.func310.trans (kL E Φ)⟩
 f34:=⟨Tryz.f311.name,Ξ,Tryz.func311.trans (kL E Φ)⟩
 f35:=⟨Tryz.f271.name,Ξ,Tryz.func271.trans (kL E Φ)⟩
 f40:=⟨Tryz.f312.name,Ξ,Tryz.func312.trans (kL E Φ)⟩
 t0:=A2
 a0:=Bs
 z0:=Bk
 v0:=A4
 t3:=kr
 a3:=qm
 z3:=pQ
 v3:=pN
 t4:=AA
 a4:=Bn
 z4:=Bd
 v4:=A3
 t5:=np
 a5:=Tryz.isAgg5
 z5:=Tryz.sizeOf5
 v5:=Tryz.zeroValue5
 t9:=nt
 a9:=Tryz.isAgg9
 z9:=Tryz.sizeOf9
 v9:=Tryz.zeroValue9
 t22:=mO
 a22:=Ax
 z22:=O
 v22:=J
 t23:=mO
 a23:=Ax
 z23:=O
 v23:=J
 t25:=kr
 a25:=qm
 z25:=pQ
 v25:=pN
 t32:=Tryz.underlying329
 a32:=Tryz.isAgg329
 z32:=Tryz.sizeOf329
 v32:=Tryz.zeroValue329
 t35:=Tryz.underlying380
 a35:=Tryz.isAgg380
 z35:=Tryz.sizeOf380
 v35:=Tryz.zeroValue380
 t36:=Tryz.underlying381
 a36:=Tryz.isAgg381
 z36:=Tryz.sizeOf381
 v36:=Tryz.zeroValue381
 t41:=Tryz.underlying66
 a41:=Tryz.isAgg66
 z41:=Tryz.sizeOf66
 v41:=Tryz.zeroValue66
 t44:=Tryz.underlying362
 a44:=Tryz.isAgg362
 z44:=Tryz.sizeOf362
 v44:=Tryz.zeroValue362
 t46:=Tryz.underlying22
 a46:=Tryz.isAgg22
 z46:=Tryz.sizeOf22
 v46:=Tryz.zeroValue22
 t53:=Tryz.underlying397
 a53:=Tryz.isAgg397
 z53:=Tryz.sizeOf397
 v53:=Tryz.zeroValue397
 t57:=Tryz.underlying401
 a57:=Tryz.isAgg401
 z57:=Tryz.sizeOf401
 v57:=Tryz.zeroValue401
 t63:=Tryz.underlying407
 a63:=Tryz.isAgg407
 z63:=Tryz.sizeOf407
 v63:=Tryz.zeroValue407
 t64:=Tryz.underlying408
 a64:=Tryz.isAgg408
 z64:=Tryz.sizeOf408
 v64:=Tryz.zeroValue408}
def Vd:Ren:=⟨λ|8=>257|6=>279|n=>n,λ|22=>145|23=>3|25=>244|4=>4|3=>3|0=>0|n=>n,λ|n=>n⟩
theorem ZZ:SlLaysH.n8 Bx Vd:={
 mixed:=Φ
 f6:=⟨Tryz.f279.name,Ξ,Tryz.func279.trans (kL E Φ)⟩
 f8:=⟨Tryz.f257.name,Ξ,Tryz.func257.trans (kL E Φ)⟩
 t0:=A2
 a0:=Bs
 z0:=Bk
 v0:=A4
 t3:=kr
 a3:=qm
 z3:=pQ
 v3:=pN
 t4:=AA
 a4:=Bn
 z4:=Bd
 v4:=A3
 t22:=mO
 a22:=Ax
 z22:=O
 v22:=J
 a23:=qm
 z23:=pQ
 t25:=Tryz.underlying244
 a25:=Tryz.isAgg244
 z25:=Tryz.sizeOf244
 v25:=Tryz.zeroValue244}
end
