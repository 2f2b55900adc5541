/- Lemmas. -/
import Derived.Test.YtcedibmdelehdaaGreatDoorH06
import Derived.LaidMore
import Derived.OpenShut
import Derived.ProofKit
import Derived.Stop.Joined
import Derived.Test.YtcedibmdelehdaaGreatDoorRows
namespace Go.Proofs.YtcedibmdelehdaaGreatDoor
set_option maxRecDepth 100000
set_option maxHeartbeats 32000000
open Go.Lib renaming deBruijn64tab->E
open Go.Proofs.Tryz renaming prog->J
section
open Go.ChangeShapes Go.WideShapes Go.ChangeAt Go.WideMaps Go.WideElems Go.RowKit
def KY{H:Type}:List (String×DataW H):=[("math/bits.deBruijn64tab",Rows.laid_math_bits_deBruijn64tab)]
theorem jh:J.globalNamed "math/bits.deBruijn64tab"=some 0:=Φ
theorem iQ:(J.globals[0]?).map (·.type)=some 390:=Φ
theorem gS{H:Type}:(Rows.laid_math_bits_deBruijn64tab:DataW H)=.agg (E.map λk:Nat=>.lit (.int .u8 (k:Int))):=rfl
theorem Uu:E.length=64:=rfl
theorem dL(a:Os)(b:Array Value):laidMetH J KY ((World.doorLaid J 14 a).forCall (λ_ _=>0) ⟨#[],b,[]⟩).memory:=
 laidMetH_of_parts3 (fuel:=8) (laidMet_of_run' 8 Φ Φ) Φ Φ
theorem Wj{W:World}(h:laidMetH J KY W):EO W/\0<W.heap.size:=by
 rw[MakeChecks.laidMetH_plain _ _ _ Φ]at h;obtain⟨w,⟨x,y,n,z,A,B,c,o,p,q,_,_⟩,_,_⟩:=h;obtain rfl:=kE (jh.symm.trans c);obtain rfl:=kE (iQ.symm.trans o)
 have d:EO W:=by
  obtain⟨e,C,rfl,f,D,F,r⟩:=DataW.trod_array Tryz.underlying390 q;have s:J.cellsOf 5=1:=Φ;simp only[qz]at f;have g:=f.1;rw[gS,DataW.agg.injEq]at g;intro j b;have a:=r j b;have i:j<e.length:=Ω;rw[jW i,s]at a;obtain⟨k,t,u,_⟩:=DataW.trod_int np a
  have l:(e.map (·.1))[j]?=some (.lit (.int .u8 k)):=by
   rw[lB,jW i,u];rfl
  rw[<-g,lB,jW (by rw[Uu];exact b)]at l
  have v:k=((E.getD j 0:Nat):Int):=by
   rw[lp,jW (by rw[Uu];exact b),nf];simpa using l.symm
  rw[World.var?_cell c p j, <-v]
  have m:((n.toList.drop (j*1)).take 1)[0]?=some (.int .u8 k):=by rw[t];rfl
  rw[ng,ke Ω,mj,mL,lD]at m;simpa using m
 refine⟨d,?_⟩;have a:=d 0 Ω;unfold World.cell? at a;apply Decidable.byContradiction;intro G;rw[lI Ω]at a
 cases a
end
