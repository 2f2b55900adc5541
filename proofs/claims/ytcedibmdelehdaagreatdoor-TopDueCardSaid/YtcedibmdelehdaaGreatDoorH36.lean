/- Lemmas. -/
import Derived.Test.YtcedibmdelehdaaGreatDoorH25
import Derived.Test.YtcedibmdelehdaaGreatDoorH33
namespace Go.Proofs.YtcedibmdelehdaaGreatDoor
set_option maxRecDepth 100000
set_option maxHeartbeats 32000000
open Go.Value renaming int->E,slice->J,pointer->BB,cells->CB
open Go.IntKind renaming i64->O,u8->B2
open Go.NoPanic renaming normal->V
open Option renaming none->Y,some->Bk
open Go.IntWalk renaming wrap64_in->Ax
open List renaming length->AA,replicate->A2,take_left->B4
open Go.Proofs.Tryz renaming prog->A3,ntmps127->B7,ntmps90->B9,func127->CA,func90->CE
open Decidable renaming decide->A4
open Bool renaming false->Bd,true->B0
open Go.World renaming grownBy_alloc->Bn
open Go.Builtin renaming zeroCells->Bs,append_->BD
open Or renaming inr->Bx
open Go renaming bodyPost_ret->BC,World->BL,run_underlying->B5,info_parts->B6,Value->B8,maxLen->CL,Calls->CV
open Nat renaming sub_le_sub_right->BE,mul_mod_left->B1
variable{h f i j:Nat}{Z:Int->List Nat}{a k:BL}{b:Pl}{c:Ad}{d:List Nat}{e:Bz}{g:B8}
section
open Go Go.RowKit
theorem NC(k:Nat):(Bs (E B2 0).cells k).toList=A2 k (E B2 0):=by
 apply lR;intro j;rw[nV];unfold Bs;simp[CB]
 by_cases h:j<k
 ·rw[jW (by simpa using h)];simp[h,qo]
 ·rw[lH Γ,j7 h];rfl
theorem Qa(w:BL)(i:TypeId)(l:IntKind)(v:B8)(n:Nat)(b:List B8)(c:w.ownsRow 0 5 1 v n b)(X:0<n)(k:Nat)(F:0<k)(Z:n+k<=1000000):
  ∃f m,(BD #[64,3] i #[v,E l k]).run A3 w=.ok f m/\m.ownsRow 0 5 1 f (n+k) (b++A2 k (E B2 0))/\w.grownBy m v.ownBlock/\(f.ownBlock=v.ownBlock\/f.ownBlock=Bk w.heap.size):=by
 obtain⟨o,t,x,p,q⟩:=B6 Ia;have y:=mc;have z:=kr
 have h:(b++A2 k (E B2 0)).length=(n+k)*1:=by rw[jU,c.1,mw];omega
 have aa:(Bs (E B2 0).cells k).size=k:=by rw[<-mZ,NC,mw]
 rcases c.2 with⟨rfl,rfl⟩|⟨g,a,d,rfl,G,A,ab,H,I,B⟩
 ·have:=c.1;simp at this;omega
 ·by_cases C:n+k<=a
  ·have K:O.wrap (k:Int)=k:=by rw[IntKind.wrap_i64];omega
   have L:¬((k:Int)<0):=Ω;have M:¬(281474976710656<(k:Int)):=Ω;have N:k≠0:=Ω;have D:=run_storeCells_at A3 g n 5 (A2 k (E B2 0)) 0 d w A (by rw[mw,I];omega) (λu Q=>by rw[lN Q];rfl);simp only[lD]at D
   have r:(BD #[64,3] i #[J (Bk ⟨g,0,Y⟩) n a,E l k]).run A3 w=.ok (J (Bk ⟨g,0,Y⟩) (n+k) a) (w.setRow g (d.toList.take n++A2 k (E B2 0)++d.toList.drop (n+(A2 k (E B2 0)).length)).toArray):=by
    simp[BD,B5 y,B5 z,sizeOf,typeInfo,zeroValue,t,x,p,q,asInt,asIntOf,K,L,M,N,C,Addr.add_lit,NC]
    have R:(storeCells {block:=g,off:=n} (A2 k (E B2 0))).run A3 w=.ok () (w.setRow g (List.take n d.toList++(A2 k (E B2 0)++List.drop (n+k) d.toList)).toArray):=by simpa using D
    rw[R];rfl
   refine⟨_,_,r,⟨h,Bx ⟨g,a,_,rfl,G,setRow_heap w g d _ 5 _ A,C,H,?_,?_⟩⟩,⟨rfl,rfl,rfl,Δ,λj _ s=>setRow_other w g j _ (λe=>s (by simp[Value.ownBlock,e]))⟩,Or.inl rfl⟩
   ·simp only[kR,jU,kA,kK,mw,mZ];omega
   ·rw[mL]at B;rw[B, <-h];exact B4
  ·have S:∀j u,b[j]?=Bk u->w.cell? ((⟨g,0,Y⟩:Addr).add j)=Bk u:=c.cells (g:=g) rfl
   have T:b.length=n*o.size:=by rw[p];exact c.1
   have U:=run_firstCells_some (P:=A3) w.drew o.size n ⟨g,0,Y⟩ n a b T (by simpa using S);have r:=Lib.run_append_grow_zeros (P:=A3) w 64 3 i 5 o (E B2 0) l _ y z t x (Bk ⟨g,0,Y⟩) n a b U k F (by rw[p];omega) Ω Ω (by rw[q];omega) (growslice_fits Ω (by rw[q];omega));have V:=grownCap_ge w (n+k) a 5;have W:grownCap w (n+k) a 5<=CL:=grownCap_le_maxLen w (n+k) a 5 (by unfold CL;omega);refine⟨_,_,r,⟨h,Bx ⟨w.heap.size,_,_,rfl,kN _,heap_alloc_new w.drew _,V,W,?_,?_⟩⟩,⟨rfl,rfl,rfl,Δ,λj s _=>heap_alloc_old w.drew _ s⟩,Bx rfl⟩
   ·have:=c.1;simp only[Array.size_append,kR,size_zeroCells];simp[CB];omega
   ·rw[Array.toList_append,Array.toList_append,NC,ls, <-ls, <-h];exact B4
end
section
open Go.RowKit
attribute [local go_sem ↓] Go.wp_at_zero Go.wp_at_succ
def Hk(P:Pl)(L:Nat):Nat:=(P.n - 19 - L%(P.n - 19))%(P.n - 19)
def Ed(P:Pl)(a:Nat)(b:Bz):Bz:=Ck b a (AJ (Hk P (b a).length))
theorem RK(a:h%(b.n - 19)=0):Hk b h=0:=by
 unfold Hk;rw[a,mA,Nat.mod_self]
theorem Tu(a:0<b.n - 19)(c:h%(b.n - 19)≠0):Hk b h=b.n - 19 - h%(b.n - 19):=by
 unfold Hk;exact ny Ω
theorem SO(P:Pl)(d:P.aU)(a:Nat)(b:Bz):(Ed P a b a).length%(P.n - 19)=0:=by
 have c:0<P.n - 19:=by have:=d.n0;omega
 unfold Ed;rw[CW,jU,Ei]
 by_cases h:(b a).length%(P.n - 19)=0
 ·rw[RK h,lD];exact h
 ·rw[Tu c h];have f:=lT (b a).length c;obtain⟨g,e⟩:=JI (L:=(b a).length) (k:=P.n - 19 - (b a).length%(P.n - 19)) c Ω;rw[<-e];exact B1 _ _
theorem cK{R:Nat}(a:0<f)(g:h<=R*f)(b:h%f≠0):h+(f - h%f)<=R*f/\h/f<R:=by
 have i:=lT h a;obtain⟨_,e⟩:=JI (L:=h) (k:=f - h%f) a Ω
 have c:h/f<R:=by
  rw[Nat.div_lt_iff_lt_mul a]
  rcases mU h (R*f)with d|d
  ·exact d
  ·have:h=R*f:=by omega
   rw[this,B1]at b;exact absurd rfl b
 rw[<-e];exact⟨mg _ c,c⟩
theorem Ps{L k:Nat}(a:0<h)(b:L%h+k=h):(L+k - 1)/h=L/h:=by
 obtain⟨_,c⟩:=JI (L:=L) (k:=k) a b;rw[<-c,mS,nZ,show L/h*h+h - 1=h*(L/h)+(h - 1) by rw[lM];omega,oY a,nw (show h - 1<h by omega),lD]
theorem A8.cG{s:Nat}{t:B8}{C:List Nat}(n:A8 k c h f b s j t C)(D:Aw k c)(x:k.grownBy a t.ownBlock)(o:a.ownsRow 0 5 1 g d.length (Ao d))(l:g.ownBlock=t.ownBlock\/g.ownBlock=Bk k.heap.size):
  ∃m,Ab (λp=>p=4) k c (a.setCell ⟨h,20,Y⟩ g) m/\Aa a h 172 (BB (Bk ⟨f,0,Y⟩)::(b.cells++(b.c7++[E O (b.n - 19:Nat),E O s,E O j,t])))/\
   A8 (a.setCell ⟨h,20,Y⟩ g) m h f b s j g d:=by
 have v:=n.u.grown x (λe=>Bh n.u n.aM Ξ e.symm);have y:Ab (λp=>p=4) k c a c:=Ab.of D x (λu e=>n.cp u e)
 have z:∀m,Ab (λp=>p=4) k c a m->(∀q,g.ownBlock=Bk q->m q=4)->∃m,Ab (λp=>p=4) k c (a.setCell ⟨h,20,Y⟩ g) m/\Aa a h 172 (BB (Bk ⟨f,0,Y⟩)::(b.cells++(b.c7++[E O (b.n - 19:Nat),E O s,E O j,t])))/\
   A8 (a.setCell ⟨h,20,Y⟩ g) m h f b s j g d:=λm w F=>by
  have A:m h=4:=by rw[w.ah _ n.u.lt];exact n.c0
  refine⟨m,w.trans (Ab.of w.new (An _ _ _) (λu e=>by cases e;exact A)),v,v.setCell 20 _,?_,A,F⟩;exact(Ac.of (S:=λu=>u=h) (An _ _ _) (λu e=>by cases e;rfl)).aL o (λq r e=>by subst e;exact Bh v o Ξ r)
 rcases l with e|e
 ·exact z c y (λq r=>n.cp q (by rw[<-e];exact r))
 ·have G:=(o.lt _ e).2;exact z _ (y.bC (B:=k.heap.size) (i:=4) (jS _) G rfl) (λq r=>by rw[e]at r;cases r;exact AY _ _ _)
theorem VG(k:A8 a c h f b i j g d)(l:d.length=0):
  CV A3 90 #[BB (Bk ⟨h,0,Y⟩)] a λe m=>e=.returned (E O 0)/\a=m:=by
 obtain⟨p,q,rfl,n⟩:=k.aP;obtain⟨_,_,_,_,_,_,_,_,o⟩:=k.cells;rw[l]at o;clear k n l
 go_enter CE,B9
 go_wp2_with fail;go_ret;exact⟨rfl,rfl⟩
theorem VW{l:Nat}{q:Nat}(o:A8 a c f l b j h g d)(hD:AD a c l b.ss b.n q Z)(hC:Aw a c)(v:b.aU)(hq:q<=1073741824)(hl:j<=1099511627776)
  (i k:Nat)(hi:i<b.rs)(w:0<d.length)(hk:d.length+k=b.n - 19)(ak:0<k)(al:(h+k - 1)/(b.n - 19)=i)(am:h+k<=b.aI)(hs:∀x∈d,x<256):
  CV A3 90 #[BB (Bk ⟨f,0,Y⟩)] a λe F=>e=.returned (E O 0)/\∃G,Ab Bo a c F G/\A8 F G f l b j (h+k) (J Y 0 0) []/\
   AD F G l b.ss b.n (q+1) (Cu Z ((b.region+BM b j i:Nat):Int) (BO b.n 3 (BM b j i) j (d++AJ k))):=by
 have hw:=λ(W:BL) (I:Ad) (aI:B8) (hW:A8 W I f l b j (h+k) aI (d++AJ k)) (aK:AD W I l b.ss b.n q Z) (aL:Aw W I)=>NW hW aK aL v hq hl i hi Ω al am (by rw[jU,Ei];omega) (λx hx=>by
  rcases kY.1 hx with e|e
  ·exact hs x e
  ·have:=lN e
   omega)
 have aN:=v.n1;have aO:b.aI<=32*493:=mn v.dq Ω;obtain⟨pa,pc,rfl,aP⟩:=o.aP;obtain⟨M,L⟩:=Ag (b.n - 19)
 have bd:(((d.length:Nat):Int)==0)=Bd:=by simp;intro e;rw[e]at w;simp at w
 have p:wrap64 ((M:Int) - ((d.length:Nat):Int))=(k:Int):=by rw[Ax _ Ω];omega
 have r:wrap64 ((h:Int)+(k:Int))=((h+k:Nat):Int):=by rw[Ax _ Ω];omega
 have hz:=Qa;have aR:=zh hw;have H:=zh o;have HD:=zh hD;have N:=zh hC;have HM:=zh L;have au:=zh p;have aT:=zh r;have y:=zh (show 0<d.length/\0<k/\d.length+k<=1000 from⟨w,ak,Ω⟩);obtain⟨_,_,_,_,_,m,_,s,t⟩:=o.cells;rw[L]at m;clear o hD hC hw L aN aO aP v hq hl hi w hk ak al am hs hz p r
 have be:¬d=[]:=λe=>by have:=y.o.1;rw[e]at this;simp at this
 go_enter CE,B9
 go_wp2_with fail;clear m s t;obtain⟨u,p⟩:=Ag a.drew
 have P:a.grownBy u Y:=by rw[<-p];exact Be a
 have z:=H.o.grown P;obtain⟨_,_,_,_,_,m,_,s,t⟩:=z.cells;have aU:=z.u.v 19;rw[HM.o]at m;have A:=zh P;have H1:=zh z;have aW:=zh p;clear p P z;refine A7 (λ_=>True) (.an [] [0,1,2,3,4,5,6,7,8,9,10,11,12,13,14,15,16] 17 Bd (.nil)) Φ Φ ?_;rw[aW.o];refine Ar ?_
 iterate 17 refine Az ?_
 refine Aj ?_;rw[Cn au.o,Cn aT.o];refine Al ?_;intro K n;obtain⟨Q,r⟩:=Ag (u.setCell ⟨f,19,Y⟩ (E O ((h:Int)+(k:Int))));have R:A8 (u.setCell ⟨f,19,Y⟩ (E O ((h:Int)+(k:Int)))) c f l b j (h+k) (J pa d.length pc) d:=H1.o.f6 (h+k);have S:Ab Bo a c (u.setCell ⟨f,19,Y⟩ (E O ((h:Int)+(k:Int)))) c:=(Ab.grown N.o A.o).trans (Ha (N.o.grown A.o) _ (Bx H.o.c0));have T:AD (u.setCell ⟨f,19,Y⟩ (E O ((h:Int)+(k:Int)))) c l b.ss b.n q Z:=(HD.o.grown A.o).ae (Ha (C:=λU=>U=4) (N.o.grown A.o) _ H.o.c0) Ω;rw[r]at R S T⊢;have H2:=zh R;have S2:=zh S;have D2:=zh T;clear R S T r aU m s t;refine As n ?_;clear n K;refine AK (V ?_);go_wp2_with fail;obtain⟨w3,X⟩:=Ag Q.drew
 have B:Q.grownBy w3 Y:=by rw[<-X];exact Be Q
 have h3:=H2.o.grown B;obtain⟨_,_,_,_,_,m,_,s,t⟩:=h3.cells;rw[HM.o]at m;have H3:=zh h3;have S3:=zh (S2.o.trans (Ab.grown S2.o.new B));have D3:=zh (D2.o.grown B);have a0:=zh X;clear X B h3;refine A7 (λ_=>True) (.an [] [0,1,2,3,4,5,6,7,8,9,10,11,12,13,14] 15 B0 (.an [] [16,17] 18 Bd (.nil))) Φ Φ ?_;rw[a0.o];refine Ar ?_
 iterate 15 refine Az ?_
 refine Aj ?_;rw[Cn au.o];obtain⟨bf,w4,hr,o4,g4,l4⟩:=Qa w3 64 O (J pa d.length pc) d.length (Ao d) H3.o.aM y.o.1 k y.o.2.1 (Ψ y.o.2.2);obtain⟨la,lc,rfl⟩:=(Ai.aj o4).slice;refine AH rfl (λK n=>?_);refine NB Θ _ _ 64 3 Θ Θ Θ hr ?_
 have aF:w4.ownsRow 0 5 1 (J la (d.length+k) lc) (d++AJ k).length (Ao (d++AJ k)):=by
  rw[jU,Ei,Km,Tk];exact o4
 obtain⟨a1,D,b4,h5⟩:=H3.o.cG S3.o.new g4 aF l4;have a2:=b4.v 20;have a3:=b4.m 20;clear hr o4 g4 l4 aF m s t;obtain⟨w5,ae⟩:=Ag (w4.setCell ⟨f,20,Y⟩ (J la (d.length+k) lc));rw[ae]at D h5;have H5:=zh h5;have S5:=zh (S3.o.trans (D.mono (λU hj=>(Bx hj:Bo U))));have D5:=zh (D3.o.ae D Ω);have a8:=zh ae;clear D h5 ae b4;refine n _ _ ⟨λ_=>True,λ_ o=>o,λ_=>kI,?_⟩;clear n K;refine Ak ?_;refine Ar ?_
 iterate 2 refine Az ?_
 refine Aj ?_;refine Al ?_;intro K n;rw[a8.o];refine As n ?_;clear n K;refine AK (V ?_);clear a2 a3;go_wp2_with fail;refine(aR.o w5 a1 _ H5.o D5.o S5.o.new).mono ?_;rintro e w6 ⟨rfl,a9,s6,h6,d6⟩;go_wp2_with fail;go_ret;exact⟨rfl,a9,S5.o.trans s6,h6,d6⟩
theorem QO(y:Ds a c i f b h e Z)(t:AD a c f b.ss b.n j Z)(u:Aw a c)(m:b.aU)(z:j<=1073741824)(A:h<=1099511627776):
  CV A3 90 #[BB (Bk ⟨i,0,Y⟩)] a λp g=>p=.returned (E O 0)/\∃l q,Ab Bo a c g l/\AD g l f b.ss b.n (j+1) q/\Ds g l i f b h (Ed b h e) q/\DN b Z q:=by
 obtain⟨B,C,r,d⟩:=y
 have n:0<b.n - 19:=by have:=m.n0;omega
 have v:b.aI=b.rs*(b.n - 19):=rfl
 by_cases o:(e h).length%(b.n - 19)=0
 ·refine(VG r (by rw[d.dN,o])).mono ?_;rintro p g ⟨rfl,rfl⟩
  have D:Ed b h e=e:=by
   unfold Ed;rw[RK o];exact OM _ _
  rw[D];exact⟨rfl,c,Z,Ab.refl u,t.mono Ω,⟨B,C,r,d⟩,DN.refl _ _⟩
 ·have N:=lT (e h).length n;have P:=d.dN;obtain⟨F,w⟩:=cK n (by rw[<-v];exact d.dh h) o;rw[<-v]at F;have Q:=Tu n o;have G:=Ps (L:=(e h).length) (k:=Hk b (e h).length) n Ω;refine(VW r t u m z A ((e h).length/(b.n - 19)) (Hk b (e h).length) w Ω Ω Ω G Ω d.gB).mono ?_;rintro p g ⟨rfl,l,s,H,I⟩;have K:=d.gO m (AJ (Hk b (e h).length)) (λx M=>by have:=lN M;omega) (by rw[Ei];omega) (by rw[Ei];omega);refine⟨rfl,l,_,s,I,⟨J Y 0 0,[],?_,K⟩,DN.dn m Z w _⟩;rw[show(Ed b h e h).length=(e h).length+Hk b (e h).length by unfold Ed;rw[CW,jU,Ei]];exact H
theorem Xl(q:Ds a c f i b h e Z)(z:AD a c i b.ss b.n j Z)(A:Aw a c)(l:b.aU)(K:j<=1073741824)(B:h<=1099511627776):
  CV A3 189 #[BB (Bk ⟨f,0,Y⟩)] a λC r=>C=.returned (E O 0)/\∃s t,Ab Bo a c r s/\AD r s i b.ss b.n (j+1) t/\Ds r s f i b (h+1) (Ed b h e) t/\DN b Z t/\Ed b h e (h+1)=[]:=by
 have L:=zh (QO q z A l K B)
 have D:Ed b h e (h+1)=[]:=by
  obtain⟨u,v,hi,M⟩:=q;unfold Ed;rw[Gb _ _ Ω];exact M.ew _ Ω
 have ab:h<=1099511627776:=B;have ac:wrap64 ((h:Int)+1)=(h:Int)+1:=Ax _ Ω;have F:=zh D;clear q z A D
 go_enter Tryz.func189,Tryz.ntmps189
 go_wp2_with fail;refine L.o.mono ?_;rintro C g ⟨rfl,m,N,n,G,⟨u,v,d,H⟩,P⟩;have Q:=H.iL l (SO b l h e);have I:A8 (g.setCell ⟨f,18,Y⟩ (E O ((h:Int)+1))) m f i b (h+1) (Ed b h e h).length u v:=d.iq (h+1);have w:=I.f6 0;have R:v=[]:=kV (by rw[H.dN];exact SO b l h e);have p:=n.trans (Ha n.new (g:=f) (o:=18) (E O ((h:Int)+1)) (Bx d.c0));have x:=p.trans (Ha p.new (g:=f) (o:=19) (E O ((0:Nat):Int)) (Bx d.c0));have J:Ab (λS=>S=4) g m ((g.setCell ⟨f,18,Y⟩ (E O ((h:Int)+1))).setCell ⟨f,19,Y⟩ (E O ((0:Nat):Int))) m:=(Ha n.new (g:=f) (o:=18) (E O ((h:Int)+1)) d.c0).trans (Ha p.new (g:=f) (o:=19) (E O ((0:Nat):Int)) d.c0);have y:=G.ae J Ω;have ad:=d.cells.2.2.2.2.2.2.1;have ae:=d.u.v 18;have af:=d.cells.2.2.2.2.2.2.2.1;have ag:=d.u.v 19;obtain⟨T,k⟩:=Ag ((g.setCell ⟨f,18,Y⟩ (E O ((h:Int)+1))).setCell ⟨f,19,Y⟩ (E O ((0:Nat):Int)));rw[k]at w x y;have U:=zh k;have V:=zh w;have W:=zh x;have X:=zh y;clear I w p x y J k G d n;go_wp2_with fail;have k:((g.setCell ⟨f,18,Y⟩ (E O ((h:Int)+1))).setCell ⟨f,19,Y⟩ (E O 0))=T:=U.o;rw[k];go_ret;refine⟨rfl,m,N,W.o,X.o,⟨u,[],?_,Q⟩,P,F.o⟩;rw[F.o];subst R;exact V.o
end
section
open Go.RowKit
def Dy(l:List Nat)(a n:Nat):List Nat:=(l.drop a).take n
def DP(M:Nat)(l:List Nat)(i:Nat):List Nat:=Dy l (i*M) M
theorem Sx(M:Nat)(l:List Nat)(i:Nat):(DP M l i).length=min M (l.length - i*M):=by
 unfold DP Dy;rw[kA,kK]
theorem be(l:List Nat)(i:Nat){n:Nat}(a:f+n<=h):Dy (DP h l i) f n=Dy l (i*h+f) n:=by
 unfold DP Dy;rw[List.drop_take,List.take_take,ou,nJ Ω]
theorem dK(l:List Nat)(a n m:Nat):Dy l a n++Dy l (a+n) m=Dy l a (n+m):=by
 unfold Dy;rw[<-ou,List.take_add]
theorem Cl.iO(g:Cl b f d e Z)(r:b.aU){i:Nat}(s:1<=h)(t:h<=f)(u:f<h+b.rg)(A:i*(b.n - 19)<(e h).length):
  (h=f/\0<d.length/\i=((e f).length - 1)/(b.n - 19)/\d=DP (b.n - 19) (e h) i)\/
  ((h=f->0<d.length->i≠((e f).length - 1)/(b.n - 19))/\Z ((b.region+BM b h i:Nat):Int)=BO b.n 3 (BM b h i) h (DP (b.n - 19) (e h) i)):=by
 have a:0<b.n - 19:=by have:=r.n0;omega
 by_cases m:(i+1)*(b.n - 19)<=(e h).length
 ·refine Bx ⟨λv n j=>?_,g.fq h i s t u m⟩;subst v;rw[g.dN]at n;have w:=lT (e h).length a
  have o:((e h).length - 1)/(b.n - 19)=(e h).length/(b.n - 19):=by
   have p:=Oz (L:=(e h).length - 1) (k:=1) a (by
    have c:=lW (e h).length (b.n - 19);have l:(e h).length - 1=(b.n - 19)*((e h).length/(b.n - 19))+((e h).length%(b.n - 19) - 1):=Ω;rw[l,Nat.mul_add_mod,ny Ω]
    omega)
   rw[<-p]
   congr 1
   have c:=lW (e h).length (b.n - 19);omega
  rw[o]at j;rw[I4 a]at m;omega
 ·have x:h=f:=by
   rcases mU h f with o|o
   ·exfalso
    have p:=g.fZ h o;have c:=lW (e h).length (b.n - 19);rw[p,lD]at c;rw[I4 a]at m;have l:(e h).length/(b.n - 19)*(b.n - 19)<=i*(b.n - 19):=mg _ Ω;rw[lM]at c;omega
   ·omega
  subst x
  have j:(e h).length/(b.n - 19)=i:=by
   rw[I4 a]at m
   have l:i<=(e h).length/(b.n - 19):=by rw[Nat.le_div_iff_mul_le a];omega
   omega
  have n:0<d.length:=by
   rw[g.dN];have c:=lW (e h).length (b.n - 19);rw[j,lM]at c;omega
  have y:((e h).length - 1)/(b.n - 19)=i:=by
   rw[g.dN]at n;have w:=lT (e h).length a;have c:=lW (e h).length (b.n - 19);rw[j]at c;have l:(e h).length - 1=(b.n - 19)*i+((e h).length%(b.n - 19) - 1):=Ω;rw[l,oY a,nw Ω,lD]
  refine .inl ⟨rfl,n,y.symm,?_⟩;have q:=g.fM;rw[j]at q;rw[q];unfold DP Dy;rw[lF];have z:=g.ft r;rw[q]at z;omega
end
section
open Go.RowKit
attribute [local go_sem ↓] Go.wp_at_zero Go.wp_at_succ
def BJ(P:Pl)(a:Nat)(b:Bz)(n:Nat):Nat:=if n<=P.aI - (b a).length then a else a+1
def DQ(P:Pl)(b:Nat)(a:Bz)(n:Nat):Bz:=if n<=P.aI - (a b).length then a else Ed P b a
theorem Ab.bq{C S:Nat->Prop}{b:BL}{d:Ad}(h:Ab C a c k d)(t:Ac S k b)(e:∀j,S j->a.heap.size<=j):Ab C a c b d:=
 ⟨h.ak.ae t (λj f=>Bx (e j f)),h.ah,h.dx,h.new.ak t⟩
def Nu(w:BL)(o:Ad)(g d:Nat)(P:Pl)(l n:Nat)(p:Bz)(q:Nat)(r:Int->List Nat)(b:List Nat)(X R:Nat)(k:Nat)(v:B8)(wr:BL):Prop:=
 ∃f a h e c i s m,v=J h a.length e/\b=f++a/\Ai wr 1 (J h a.length e) a.length (Ao a)/\(∀j,(J h a.length e).ownBlock=Bk j->¬Bo (c j))/\
  A8 wr c g d P l (n+f.length) s m/\Cl P l m (Ck p l f) i/\(AD wr c d P.ss P.n (q+(P.rs+1 - k)) i/\Ab Bo w o wr c/\DN P r i)/\
  (Aa wr X 128 [E O l,E O n,E O b.length]/\c X=0/\Aa wr R 128 [E O 0,E O 0,E O 0]/\c R=0)/\m.length+a.length<k*(P.n - 19)/\k<=P.rs+1/\a.length<=e
theorem V4(t:Ds a c f i b h e Z)(hD:AD a c i b.ss b.n j Z)(hC:Aw a c)(P:b.aU)(hq:j<=1073741000)(hl:h<=1099511627776 - 1)
  (b5:Option Addr)(bd:Nat)(l:List Nat)(ca:0<l.length)(du:l.length<=b.aI)(eE:∀x∈l,x<256)(eF:l.length<=bd)(eG:Ai a 1 (J b5 l.length bd) l.length (Ao l))(eH:∀k,(J b5 l.length bd).ownBlock=Bk k->¬Bo (c k)):
  CV A3 127 #[BB (Bk ⟨f,0,Y⟩),J b5 l.length bd] a λm w'=>m=.returned (.tuple #[.agg #[E O (BJ b h e l.length:Nat),E O ((DQ b h e l.length (BJ b h e l.length)).length:Nat),E O l.length],E O 0])/\
   ∃dE dF,Ab Bo a c w' dE/\AD w' dE i b.ss b.n (j+40) dF/\Ds w' dE f i b (BJ b h e l.length) (Ck (DQ b h e l.length) (BJ b h e l.length) l) dF/\DN b Z dF:=by
 have e0:=P.n1;have e1:b.aI<=32*493:=mn P.dq Ω;have e2:=P.dq
 have aN:(e h).length<=b.aI:=by
  obtain⟨pv,dG,hi,hL⟩:=t;exact hL.dh h
 have dv:=λ(W:BL) (hW:Ds W c f i b h e Z) (e4:AD W c i b.ss b.n j Z) (e5:Aw W c)=>Xl hW e4 e5 P Ω Ω
 obtain⟨M,dH⟩:=Ag (b.n - 19);obtain⟨Q,dI⟩:=Ag b.aI
 have aO:77<=M:=by have:=P.n0;omega
 have e6:M<=493:=Ω
 have e7:Q=b.rs*M:=by rw[<-dI, <-dH];rfl
 have fu:(((l.length:Nat):Int)==0)=Bd:=by simp;intro m;rw[m]at ca;simp at ca
 have fv:A4 ((Q:Int)<((l.length:Nat):Int))=Bd:=jV Ω;have fw:A4 (Q<l.length)=Bd:=jV Ω;have fx:¬Q<l.length:=Ω
 have e8:¬l=[]:=λm=>by rw[m]at ca;simp at ca
 have eJ:wrap64 ((Q:Int) - (((e h).length:Nat):Int))=((Q - (e h).length:Nat):Int):=by rw[Ax _ Ω];omega
 obtain⟨w0,dw⟩:=Ag (a.alloc (.cells #[E O 0,E O 0,E O 0] 128))
 have g0:a.grownBy w0 Y:=by rw[<-dw];exact Bn _ _ Y
 have r0:Aa w0 a.heap.size 128 [E O 0,E O 0,E O 0]:=by rw[<-dw];exact Aa.new _ _ _
 have dx:=zh dw;have G0:=zh g0;have R0:=zh r0;have H:=zh t;have HD:=zh hD;have HC:=zh hC;have y:=zh dH;have HR:=zh dI;have HB:=zh eG;have dJ:=zh eH;have eN:=zh eE;have w:=zh (show 77<=M/\M<=493/\Q=b.rs*M/\b.rs<=32/\0<l.length/\l.length<=Q/\(e h).length<=Q/\j<=1073741000/\h<=1099511627776 - 1/\Q<=32*493 by omega);clear hD hC dH dI eG eH eE e0 e1 e2 aO e6 e7 ca du aN hl hq dw g0 r0
 by_cases dA:l.length<=Q - (e h).length
 ·have eR:BJ b h e l.length=h:=by unfold BJ;rw[HR.o];exact ke dA
  have eB:DQ b h e l.length=e:=by unfold DQ;rw[HR.o];exact ke dA
  rw[eR,eB];have e9:A4 (((Q - (e h).length:Nat):Int)<((l.length:Nat):Int))=Bd:=jV Ω;have fa:A4 (Q - (e h).length<l.length)=Bd:=jV Ω;obtain⟨pv,dG,hi,hL⟩:=t;have aP:=zh (hi.grown G0.o);have ao:=aP.o.cells.2.2.2.2.1;have R:=aP.o.cells.2.2.2.2.2.2.2.1;rw[HR.o]at ao;rw[<-dx.o]at ao R;clear hi dv R
  go_enter CA,B7
  go_wp2_with fail;rw[dx.o];clear ao;obtain⟨wA,bf⟩:=Ag w0.drew
  have gA:w0.grownBy wA Y:=by rw[<-bf];exact Be w0
  have HA:=zh (aP.o.grown gA);have LA:=zh hL;have SA:=zh (Ab.grown (C:=Bo) HC.o (Ae G0.o gA));have DA:=zh (HD.o.grown (Ae G0.o gA));have BA:=zh (HB.o.grown (Ae G0.o gA) Δ);have RA:=zh (R0.o.grown gA Δ);have RC:Hd (c a.heap.size=0):=zh (HC.o _ (jS _));have OA:=zh (DN.refl b Z);have ce:=dJ;have aS:Hd ((e h).length=(e h).length):=zh rfl;have bh:Hd ((e h).length+l.length<=Q):=zh (Ψ w.o);have dN:=zh bf;clear bf gA aP R0 HB hL;have ao:=HA.o.cells.2.2.2.2.1;have R:=HA.o.cells.2.2.2.2.2.2.2.1;rw[HR.o]at ao;refine A7 (λ_=>True) (.an [] [0,1,2,3,4,5,6,7,8,9,10,11,12] 13 Bd (.nil)) Φ Φ ?_;rw[dN.o];refine Ar ?_
  iterate 13 refine Az ?_
  refine Aj ?_;rw[Cn eJ];refine Al ?_;intro K s;refine As s ?_;clear s K;refine AK (V ?_);clear ao R;go_wp2_with fail;obtain⟨w1,ar⟩:=Ag wA.drew
  have g1:wA.grownBy w1 Y:=by rw[<-ar];exact Be wA
  have H1:=zh (HA.o.grown g1);have G1:=zh g1;have cf:=zh ar;clear g1 ar;refine A7 (λW=>W.cell? ⟨f,18,Y⟩=Bk (E O h)/\W.cell? ⟨f,19,Y⟩=Bk (E O ((e h).length:Nat))) (.an [0,1,2,3,4,5,6,7,8,9,10] [] 11 B0 (.an [] [] 12 Bd (.nil))) Φ Φ ?_;rw[cf.o];refine DK ⟨H1.o.cells.2.2.2.2.2.2.1,H1.o.cells.2.2.2.2.2.2.2.1⟩ ?_
  iterate 11 ((apply AB rfl Θ;(· intro wS aC;(try have aC:=aC rfl);(try dsimp only at aC);(try(have fc:=aC.1;have fd:=aC.2));go_simp;(try with_reducible rfl)));refine Ak ?_)
  refine Aj ?_;refine Aj ?_;refine Al ?_;intro K s;obtain⟨w2,aU⟩:=Ag (w1.alloc (.cells #[E O 0,E O 0,E O 0] 128))
  have g2:w1.grownBy w2 Y:=by rw[<-aU];exact Bn _ _ Y
  have ch:Aa w2 w1.heap.size 128 [E O 0,E O 0,E O 0]:=by rw[<-aU];exact Aa.new _ _ _
  rw[aU];have H2:=zh (H1.o.grown g2);have S:=zh ch;have G2:=zh (Ae G1.o g2);have HX:Hd (wA.heap.size<=w1.heap.size):=zh G1.o.size;clear aU g2 ch;generalize w1.heap.size=X at*;refine s _ _ ⟨_,λ_ t=>t,λ_=>⟨H2.o.cells.2.2.2.2.2.2.1,H2.o.cells.2.2.2.2.2.2.2.1⟩,?_⟩;clear s K;refine Ak ?_;refine Ar ?_;refine Aj ?_;have f0:=S.o.v 0;have f1:=S.o.v 1;have f2:=S.o.v 2;have z0:=S.o.m 0;have z1:=S.o.m 1;have z2:=S.o.m 2;refine Al ?_;intro K s;obtain⟨w3,cj,b3,t3⟩:=Br S.o (E O h) (E O ((e h).length:Nat)) (E O l.length);rw[cj];have t0:Ac (λ_=>False) wA w3:=(Ac.au G2.o).ae t3 (λq m=>Bx (by rw[m];exact HX.o));have H3:=zh (HA.o.am t0 (λ_ _ t=>t) (λ_ _=>rfl));have D3:=zh (DA.o.am t0 (λ_ _ t=>t) (λ_ _=>rfl));have S3:=zh (SA.o.trans (AG SA.o.new t0 (λk t=>t.elim)));have B3:=zh (t0.aP BA.o (λ_ _ t=>t));have R3:=zh (t0.u RA.o (λt=>t));have X3:=zh b3;have cs:Hd (c X=0):=zh (SA.o.new X HX.o);have XR:Hd (X≠a.heap.size):=zh (λm=>by have:=RA.o.lt;have:=HX.o;omega);clear f0 f1 f2 z0 z1 z2 cj b3 t3 t0;refine As s ?_;clear s K;refine AK (V ?_);clear H1 H2 HA DA SA BA RA S G1 G2 cf;go_wp2_with fail
  go_loopg [1] (b.rs+1) (λk s1 wr=>Nu a c f i b h (e h).length e j Z l X a.heap.size k s1 wr)
  case atStart=>
   refine⟨[],l,b5,bd,c,Z,_,dG,rfl,rfl,B3.o,ce.o,H3.o,?_,⟨D3.o.mono Ω,S3.o,OA.o⟩,⟨X3.o,cs.o,R3.o,RC.o⟩,?_,jS _,eF⟩
   ·rw[OM];exact LA.o
   ·have z:=LA.o.ft P;have h2:=w.o;rw[y.o]at z⊢;rw[mS,nZ, <-h2.2.2.1];omega
  case round=>
   obtain⟨aV,d,ya,D,dQ,aW,dR,r,rfl,ct,cu,cv,cw,cx,⟨cy,cz,cA⟩,⟨cB,cX,cD,cR⟩,aE,bt,bu⟩:=hrel;clear H3 D3 S3 B3 R3 X3 cs ce OA LA;have HI:=zh cw;have av:=zh cx;have bv:=zh cy;have aX:=zh cz;have bw:=zh cA;have BX:=zh cB;have G:=zh cD;have CX:=zh cX;have CR:=zh cR;have dS:=zh aE;have cF:=zh bt;have T:=zh ct;have bz:=zh cu;have cG:=zh cv;clear cw cx cy cz cA cB cD cX cR aE bt ct cu cv
   by_cases hy:d.length=0
   ·have dT:d=[]:=kV hy;subst dT
    have dU:l=aV:=by have:=T.o;rw[lX]at this;exact this
    subst dU;have z0:=G.o.m 0;have z1:=G.o.m 1;have z2:=G.o.m 2;have x0:=BX.o.m 0;have x1:=BX.o.m 1;have x2:=BX.o.m 2;have f0:=G.o.v 0;have f1:=G.o.v 1;have f2:=G.o.v 2;go_wp2_with fail;obtain⟨wZ,hZ,bZ,tZ⟩:=Br G.o (E O h) (E O ((e h).length:Nat)) (E O l.length);rw[hZ]
    have aN:(Ck e h l h).length=(e h).length+l.length:=by rw[CW,jU];try rw[aS.o]
    have aH:=CR.o;refine BC (DH (p:=4) (ty:=128) rfl _ _ a.heap.size _ _ _ _ rfl bZ oc rfl rfl) rfl ⟨rfl,dQ,aW,aX.o.bq tZ (λq m=>by rw[m];exact jS _),(bv.o.am tZ (λq g m=>by rw[m,aH]at g;cases g) (λ_ _=>rfl)).mono (Ψ w.o),⟨dR,r,?_,av.o⟩,bw.o⟩;rw[aN];exact HI.o.am tZ (λq g m=>by rw[m,aH]at g;cases g) (λ_ _=>rfl)
   ·have dy:A4 ((0:Int)<((d.length:Nat):Int))=B0:=jT Ω;have fh:A4 (0<d.length)=B0:=jT Ω;obtain⟨yb,yo,rfl,_⟩:=bz.o.aZ Ω;obtain⟨N,hN⟩:=Ag (min d.length (M - r.length))
    have cI:r.length<M:=by rw[<-y.o];exact av.o.ft P
    have aZ:N<=d.length:=Ω;have fi:N<=M - r.length:=Ω
    have ar:wrap64 ((M:Int) - ((r.length:Nat):Int))=((M - r.length:Nat):Int):=by have fj:=w.o;rw[Ax _ Ω];omega
    have d0:min ((d.length:Nat):Int) ((M - r.length:Nat):Int)=(N:Int):=Ω;have cJ:N=d.length\/N=M - r.length:=Ω;have a0:=zh cJ;have a1:=zh cI;clear hN cJ cI;obtain⟨d1,d2,rfl,d3⟩:=HI.o.aP;go_wp2_with fail;obtain⟨w4,bC⟩:=Ag wr.drew
    have g4:wr.grownBy w4 Y:=by rw[<-bC];exact Be wr
    have G4:=zh g4;have cL:=zh bC;have cM:=zh (HI.o.grown g4);obtain⟨_,_,_,_,_,ax,_,R,ah⟩:=cM.o.cells;rw[y.o]at ax;clear g4 bC d3;refine A7 (λ_=>True) (.an [] [0,1,2,3,4,5,6,7,8,9,10,11,12] 13 Bd (.nil)) Φ Φ ?_;rw[cL.o];refine Ar ?_
    iterate 13 refine Az ?_
    refine Aj ?_;rw[Cn ar];refine Al ?_;intro K s;refine As s ?_;clear s K;refine AK (V ?_);clear ax R ah ar d0;go_wp2_with fail;obtain⟨w5,bE⟩:=Ag w4.drew;have g5:=Ae G4.o (show w4.grownBy w5 Y by rw[<-bE];exact Be w4);have d5:=zh bE;have a3:=zh (HI.o.grown g5);have cN:=zh (bv.o.grown g5);have bF:=zh (aX.o.trans (Ab.grown aX.o.new g5));have bG:=zh (BX.o.grown g5 Δ);have bH:=zh (G.o.grown g5 Δ);have a4:=zh (bz.o.grown g5 Δ);have ah:=a3.o.cells.2.2.2.2.2.2.2.2;have fk:N<=D:=j8 aZ bu;clear bE g5 HI bv aX BX G bz G4 cL cM;refine A7 (λ_=>True) (.an [] [0,1,2,3,4,5,6,7] 8 B0 (.an [] [9,10] 11 Bd (.nil))) Φ Φ ?_;rw[d5.o];refine Ar ?_
    iterate 8 refine Az ?_
    refine Aj ?_;obtain⟨i0,cO,cP,cQ,cS⟩:=B6 Ia;have cT:=a4.o.f7 aZ D;refine AH rfl (λK s=>?_);refine Kh Θ _ _ 64 Θ 0 5 i0 _ 1 1 mc cO cP cQ cS rfl Ξ (v:=J d1 r.length d2) Θ a3.o.aM Θ cT (λu hu=>by obtain⟨x,_,rfl⟩:=lP.1 hu;rfl) (by have:=w.o;have:=a1.o;unfold CL;omega) (by have:=w.o;have:=a1.o;omega) (kN _) ?_;intro fl w6 o6 g6 l6;obtain⟨la,lc,rfl⟩:=(Ai.aj o6).slice
    have bJ:(r++d.take N).length=r.length+N:=by rw[jU,kA];omega
    have cY:w6.ownsRow 0 5 1 (J la (r.length+N) lc) (r++d.take N).length (Ao (r++d.take N)):=by
     rw[bJ,Km];exact o6
    obtain⟨aj,B,b6,h7⟩:=a3.o.cG bF.o.new g6 cY l6;have d8:=b6.v 20;have d9:=b6.m 20;obtain⟨w7,bM⟩:=Ag (w6.setCell ⟨f,20,Y⟩ (J la (r.length+N) lc));rw[bM]at B h7;have ay:=zh h7;have bN:=zh (bF.o.trans (B.mono (λq g=>(Bx g:Bo q))));have c0:=zh (cN.o.ae B Ω);have c1:=zh (B.u bG.o (by rw[CX.o];omega));have c2:=zh (B.u bH.o (by rw[CR.o];omega));have bO:Hd (aj X=0):=zh (by rw[B.ah _ bG.o.lt];exact CX.o);have a5:Hd (aj a.heap.size=0):=zh (by rw[B.ah _ bH.o.lt];exact CR.o)
    have ea:d≠[]:=λm=>hy (by rw[m];rfl)
    have bP:=cG.o yb rfl;have bQ:=a4.o.lt (λm=>by have:=kL AA m;rw[GV]at this;exact hy this) yb rfl;have c3:=zh (B.aP a4.o (λq g m=>by cases g;exact bP (Bx m)));have bR:Hd (¬Bo (aj yb)):=zh (by rw[B.ah _ bQ];exact bP);have eb:=zh bM;have fm:=zh bJ;have ec:=zh (jY bQ B.size);clear B h7 bM b6 o6 g6 l6 cY bJ cT cO cP cQ cS bP bQ ea ah a3 bF cN bG bH a4 CX CR cG;refine s _ _ ⟨λ_=>True,λ_ t=>t,λ_=>kI,?_⟩;clear s K;refine Ak ?_;refine Ar ?_
    iterate 2 refine Az ?_
    refine Aj ?_;refine Al ?_;intro K s;rw[eb.o];refine As s ?_;clear s K;refine AK (V ?_);clear d8 d9;obtain⟨A,hA⟩:=Ag ((e h).length+aV.length)
    have fn:A<=100000:=by
     have z:=kL AA T.o;rw[jU]at z;have:=w.o;have:=bh.o;omega
    have an:=zh hA;rw[hA]at ay;have R:=ay.o.cells.2.2.2.2.2.2.2.1;have ed:=ay.o.u.v 19;have ee:wrap64 ((A:Int)+(N:Int))=(A:Int)+(N:Int):=Ax _ (Ψ w.o);obtain⟨w8,bT⟩:=Ag (w7.setCell ⟨f,19,Y⟩ (E O ((A:Int)+(N:Int))));have h8:A8 (w7.setCell ⟨f,19,Y⟩ (E O ((A:Int)+(N:Int)))) aj f i b h (A+N) (J la (r.length+N) lc) (r++d.take N):=ay.o.f6 (A+N);have U:=Ha (C:=λq=>q=4) bN.o.new (g:=f) (o:=19) (E O ((A:Int)+(N:Int))) ay.o.c0;rw[bT]at h8 U;have c4:=zh h8;have bV:=zh (bN.o.trans (U.mono (λq g=>(Bx g:Bo q))));have c5:=zh (c0.o.ae U Ω);have c6:=zh (U.u c1.o (by rw[bO.o];omega));have c7:=zh (U.u c2.o (by rw[a5.o];omega));have c8:=zh (U.aP c3.o (λq g m=>by cases g;exact bR.o (Bx m)));have c9:=zh bT;have ef:=zh (jY ec.o U.size);clear h8 U bT hA ay bN c0 c1 c2 c3;obtain⟨aa,ak⟩:∃aa:Option Addr,(if D=N then Bk (⟨yb,yo,Y⟩:Addr)else Bk ⟨yb,yo+N,Y⟩)=aa:=⟨_,rfl⟩
    have bW:Hd (Ai w8 1 (J aa (d.drop N).length (D - N)) (d.drop N).length (Ao (d.drop N))):=by
     rw[<-ak]
     split
     ·next eg=>
      have eh:d.drop N=[]:=mY (by rw[<-eg];exact bu);rw[eh];exact zh ⟨rfl,kN _,Bx ⟨_,_,rfl,λt=>absurd rfl t,λq u g=>by simp[Ao]at g⟩⟩
     ·exact zh (c8.o.f8 aZ (D - N))
    have da:Hd (∀q,(J aa (d.drop N).length (D - N)).ownBlock=Bk q->¬Bo (aj q)):=by
     refine zh (λq g=>?_)
     have ei:yb=q:=by
      rw[<-ak]at g
      split at g<;>exact kE g
     rw[<-ei];exact bR.o
    have HJ:Hd (∀q,(J aa (d.length - N) (D - N)).ownBlock=Bk q->yb=q):=by
     refine zh (λq g=>?_);rw[<-ak]at g
     split at g<;>exact kE g
    have ab:(d.drop N).length=d.length - N:=kK;rw[ab]at bW da;have ek:=zh ak;clear ab c8 ak;have ak:=ek.o;go_wp2_with fail;rw[c9.o];clear ak R ed ee c9;obtain⟨w9,bX⟩:=Ag w8.drew
    have g9:w8.grownBy w9 Y:=by rw[<-bX];exact Be w8
    have el:=zh bX;have a7:=zh (c4.o.grown g9);have dc:=zh (c5.o.grown g9);have bY:=zh (bV.o.trans (Ab.grown bV.o.new g9));have aK:=zh (c6.o.grown g9 Δ);have I:=zh (c7.o.grown g9 Δ);have em:=zh (bW.o.grown g9 Δ);have ax:=a7.o.cells.2.2.2.2.2.1;have ah:=a7.o.cells.2.2.2.2.2.2.2.2;rw[y.o]at ax;have en:=zh (jY ef.o g9.size);clear bX g9 c4 c5 bV c6 c7 bW
    have dd:∀x∈d,x<256:=λx hx=>eN.o x (by rw[T.o];exact lY _ hx)
    have de:(Ck e h aV h).length=A:=by rw[CW,jU];(try rw[aS.o]);exact an.o
    have b0:=zh dd;have a8:=zh de;clear dd de;obtain⟨aM,hZ⟩:=Ag (r.length+N);rw[hZ]at ah;have HZ:=zh hZ;refine A7 (λ_=>True) (.an [] [0,1,2,3,4,5,6,7,8] 9 Bd (.nil)) Φ Φ ?_;rw[el.o];refine Ar ?_
    by_cases bc:aM<M
    ·have eo:A4 ((aM:Int)<(M:Int))=B0:=jT Ω;have d6:A4 (aM<M)=B0:=jT bc
     have eq:Hd (A8 w9 aj f i b h ((e h).length+l.length) (J la (r.length+N) lc) (r++d)):=by
      have z:d.take N=d:=lF (Ψ a0.o)
      have h2:(e h).length+l.length=A+N:=by
       have h3:=kL AA T.o;rw[jU]at h3;have:=a0.o;have:=an.o;omega
      rw[h2];have h4:=a7;rw[z]at h4;exact h4
     have er:Hd (Cl b h (r++d) (Ck e h l) aW):=by
      have z:=av.o.grow P d b0.o (by rw[y.o];have:=a0.o;omega) (by have h3:=kL AA T.o;rw[jU]at h3;rw[a8.o,HR.o];have:=bh.o;have:=an.o;omega);rw[Mn, <-T.o]at z;exact zh z
     iterate 9 refine Az ?_
     refine Aj ?_;refine Al ?_;intro K s;refine As s ?_;clear s K;refine AK (V ?_);clear ax ah;have z0:=I.o.m 0;have z1:=I.o.m 1;have z2:=I.o.m 2;have x0:=aK.o.m 0;have x1:=aK.o.m 1;have x2:=aK.o.m 2;have f0:=I.o.v 0;have f1:=I.o.v 1;have f2:=I.o.v 2;go_wp2_with fail;obtain⟨wZ,hZ,bZ,tZ⟩:=Br I.o (E O h) (E O ((e h).length:Nat)) (E O l.length);rw[hZ]
     have aN:(Ck e h l h).length=(e h).length+l.length:=by rw[CW,jU];try rw[aS.o]
     have aH:=a5.o;refine BC (DH (p:=4) (ty:=128) rfl _ _ a.heap.size _ _ _ _ rfl bZ oc rfl rfl) rfl ⟨rfl,aj,aW,bY.o.bq tZ (λq m=>by rw[m];exact jS _),(dc.o.am tZ (λq g m=>by rw[m,aH]at g;cases g) (λ_ _=>rfl)).mono (Ψ w.o),⟨(J la (r.length+N) lc),_,?_,er.o⟩,bw.o⟩;rw[aN];exact eq.o.am tZ (λq g m=>by rw[m,aH]at g;cases g) (λ_ _=>rfl)
    ·have eo:A4 ((aM:Int)<(M:Int))=Bd:=jV Ω;have d6:A4 (aM<M)=Bd:=jV bc
     iterate 9 refine Az ?_
     refine Aj ?_;refine Al ?_;intro K s;refine As s ?_;clear s K;refine AK (V ?_);clear ax ah
     have es:r.length+N=M:=by have:=a0.o;have:=a1.o;omega
     have a9:(d.take N).length=N:=qP aZ
     have aO:0<M:=by have:=w.o;omega
     have fp:r.length=A%M:=by have z:=av.o.dN;rw[a8.o,y.o]at z;exact z
     have et:=Ps (L:=A) (k:=N) aO Ω
     have b1:A+N<=b.aI:=by
      have h3:=kL AA T.o;rw[jU]at h3;have:=bh.o;have:=an.o;rw[HR.o];omega
     have dg:A/M<b.rs:=by
      obtain⟨_,h2⟩:=JI (L:=A) (k:=N) aO Ω;have h3:=w.o.2.2.1;refine Jz (P:=b) aO (L:=A+N) ?_ (pU h2);rw[<-h3, <-HR.o];exact b1
     have eu:∀x∈r++d.take N,x<256:=λx hx=>by
      rcases kY.1 hx with m|m
      ·exact av.o.gB x m
      ·exact b0.o x (lV m)
     go_wp2_with fail;refine(NW a7.o dc.o bY.o.new P (by have:=w.o;have:=cF.o;omega) (Ψ w.o) (A/M) dg (Ψ a1.o) (by rw[y.o];exact et) b1 (by rw[jU,a9,y.o];omega) eu).mono ?_;rintro m wB ⟨rfl,ba,sB,dh,di⟩;have b2:=av.o.gO P (d.take N) (λx hx=>b0.o x (lV hx)) (by rw[a9,y.o];exact es) (by rw[a8.o,a9];exact b1);rw[Mn,a8.o,y.o]at b2
     have dj:ba X=0:=by rw[sB.ah _ aK.o.lt];exact bO.o
     have dk:ba a.heap.size=0:=by rw[sB.ah _ I.o.lt];exact a5.o
     have n0:¬Bo 0:=by unfold Bo;omega
     have dl:=sB.u aK.o (by rw[bO.o];exact n0);have dm:=sB.u I.o (by rw[a5.o];exact n0);have dn:=sB.aP em.o (λq g=>da.o q g);have dp:=bY.o.trans sB;have dq:=bw.o.trans (DN.dn (q:=h) P aW dg (BO b.n 3 (BM b h (A/M)) h (r++d.take N)))
     have dr:∀q,(J aa (d.length - N) (D - N)).ownBlock=Bk q->¬Bo (ba q):=λq g=>by rw[<-HJ.o q g,sB.ah _ en.o];exact bR.o
     have aE:=dS.o;have bt:=cF.o;obtain⟨ds,rfl⟩:∃g',gk=g'+1:=⟨gk - 1,by rcases gk with _|n;(· simp at aE);omega⟩
     have ex:Hd (Nu a c f i b h (e h).length e j Z l X a.heap.size ds (J aa (d.length - N) (D - N)) wB):=by
      have ab:(d.drop N).length=d.length - N:=kK;refine zh ⟨aV++d.take N,d.drop N,aa,D - N,ba,_,J Y 0 0,[],by rw[ab],?_,by rw[ab];exact dn,by rw[ab];exact dr,?_,b2,⟨di.mono Ω,dp,dq⟩,⟨dl,dj,dm,dk⟩,?_,Ω,by rw[ab];exact BE bu N⟩
      ·rw[ls,lh];exact T.o
      ·rw[jU,a9, <-lw,an.o];exact dh
      ·rw[ab,y.o];rw[y.o,mS,nZ]at aE;simp only[kP];omega
     clear b2 dj dk n0 dl dm dn dp dq dr sB dh di;go_wp2_with fail
     go_roundg ds
     case measure=>omega
     case rel=>exact ex.o
 ·have eR:BJ b h e l.length=h+1:=by unfold BJ;rw[HR.o];exact j7 dA
  have eB:DQ b h e l.length=Ed b h e:=by unfold DQ;rw[HR.o];exact j7 dA
  rw[eR,eB];have e9:A4 (((Q - (e h).length:Nat):Int)<((l.length:Nat):Int))=B0:=jT Ω;have fa:A4 (Q - (e h).length<l.length)=B0:=jT Ω;obtain⟨F,eO⟩:=Ag (h+1);obtain⟨b4,du⟩:=Ag (Ed b h e)
  have fy:F<=1099511627776:=by have:=w.o;omega
  rw[eO,du]at dv⊢;have eP:=zh dv;obtain⟨az,ey⟩:=Ag ((b4 F).length);rw[ey];have aS:=zh ey;obtain⟨pv,dG,hi,hL⟩:=t;have aP:=zh (hi.grown G0.o);have eQ:=zh H.o;have ao:=aP.o.cells.2.2.2.2.1;have R:=aP.o.cells.2.2.2.2.2.2.2.1;rw[HR.o]at ao;rw[<-dx.o]at ao R;clear hi dv R eO du ey hL
  go_enter CA,B7
  go_wp2_with fail;rw[dx.o];clear ao;obtain⟨wA,bf⟩:=Ag w0.drew
  have gA:w0.grownBy wA Y:=by rw[<-bf];exact Be w0
  have HA:=zh (aP.o.grown gA);have GA:=zh (Ae G0.o gA);have BA:=zh (HB.o.grown (Ae G0.o gA) Δ);have RA:=zh (R0.o.grown gA Δ);have dN:=zh bf;clear bf gA aP R0 HB;have ao:=HA.o.cells.2.2.2.2.1;have R:=HA.o.cells.2.2.2.2.2.2.2.1;rw[HR.o]at ao;refine A7 (λ_=>True) (.an [] [0,1,2,3,4,5,6,7,8,9,10,11,12] 13 Bd (.nil)) Φ Φ ?_;rw[dN.o];refine Ar ?_
  iterate 13 refine Az ?_
  refine Aj ?_;rw[Cn eJ];refine Al ?_;intro K s;refine As s ?_;clear s K;refine AK (V ?_);clear ao R;go_wp2_with fail;refine(eP.o wA (eQ.o.grown GA.o) (HD.o.grown GA.o) (HC.o.grown GA.o)).mono ?_;rintro m wI ⟨rfl,dB,fr,sI,eS,⟨fz,fs,ez,eT⟩,oI,eV⟩
  have ft:az=0:=by rw[<-aS.o,eV];rfl
  rw[aS.o]at ez;have bc:=BA.o.lt (λm=>by have:=kL AA m;rw[GV]at this;exact e8 (kV this));have ce:Hd (∀k,(J b5 l.length bd).ownBlock=Bk k->¬Bo (dB k)):=zh (λk hk=>by rw[sI.ah _ (bc k hk)];exact dJ.o k hk);have eW:=zh (sI.aP BA.o (λk hk=>dJ.o k hk));have eA:c a.heap.size=0:=HC.o _ (jS _);have eX:=zh (sI.u RA.o (by rw[eA];unfold Bo;omega));have RC:Hd (dB a.heap.size=0):=zh (by rw[sI.ah _ RA.o.lt];exact eA);have an:=zh ez;have LA:=zh eT;have SA:=zh ((Ab.grown (C:=Bo) HC.o GA.o).trans sI);have DA:=zh eS;have OA:=zh oI;have bh:Hd (az+l.length<=Q):=zh (Ψ w.o);clear ez eT sI eS oI eV ft bc eA HA BA RA GA eQ eP;have HA:=an;have BA:=eW;have RA:=eX;clear an eW eX;generalize wI=wA at*;go_wp2_with fail;obtain⟨w1,ar⟩:=Ag wA.drew
  have g1:wA.grownBy w1 Y:=by rw[<-ar];exact Be wA
  have H1:=zh (HA.o.grown g1);have G1:=zh g1;have cf:=zh ar;clear g1 ar;refine A7 (λW=>W.cell? ⟨f,18,Y⟩=Bk (E O F)/\W.cell? ⟨f,19,Y⟩=Bk (E O az)) (.an [0,1,2,3,4,5,6,7,8,9,10] [] 11 B0 (.an [] [] 12 Bd (.nil))) Φ Φ ?_;rw[cf.o];refine DK ⟨H1.o.cells.2.2.2.2.2.2.1,H1.o.cells.2.2.2.2.2.2.2.1⟩ ?_
  iterate 11 ((apply AB rfl Θ;(· intro wS aC;(try have aC:=aC rfl);(try dsimp only at aC);(try(have fc:=aC.1;have fd:=aC.2));go_simp;(try with_reducible rfl)));refine Ak ?_)
  refine Aj ?_;refine Aj ?_;refine Al ?_;intro K s;obtain⟨w2,aU⟩:=Ag (w1.alloc (.cells #[E O 0,E O 0,E O 0] 128))
  have g2:w1.grownBy w2 Y:=by rw[<-aU];exact Bn _ _ Y
  have ch:Aa w2 w1.heap.size 128 [E O 0,E O 0,E O 0]:=by rw[<-aU];exact Aa.new _ _ _
  rw[aU];have H2:=zh (H1.o.grown g2);have S:=zh ch;have G2:=zh (Ae G1.o g2);have HX:Hd (wA.heap.size<=w1.heap.size):=zh G1.o.size;clear aU g2 ch;generalize w1.heap.size=X at*;refine s _ _ ⟨_,λ_ t=>t,λ_=>⟨H2.o.cells.2.2.2.2.2.2.1,H2.o.cells.2.2.2.2.2.2.2.1⟩,?_⟩;clear s K;refine Ak ?_;refine Ar ?_;refine Aj ?_;have f0:=S.o.v 0;have f1:=S.o.v 1;have f2:=S.o.v 2;have z0:=S.o.m 0;have z1:=S.o.m 1;have z2:=S.o.m 2;refine Al ?_;intro K s;obtain⟨w3,cj,b3,t3⟩:=Br S.o (E O F) (E O az) (E O l.length);rw[cj];have t0:Ac (λ_=>False) wA w3:=(Ac.au G2.o).ae t3 (λq m=>Bx (by rw[m];exact HX.o));have H3:=zh (HA.o.am t0 (λ_ _ t=>t) (λ_ _=>rfl));have D3:=zh (DA.o.am t0 (λ_ _ t=>t) (λ_ _=>rfl));have S3:=zh (SA.o.trans (AG SA.o.new t0 (λk t=>t.elim)));have B3:=zh (t0.aP BA.o (λ_ _ t=>t));have R3:=zh (t0.u RA.o (λt=>t));have X3:=zh b3;have cs:Hd (dB X=0):=zh (SA.o.new X HX.o);have XR:Hd (X≠a.heap.size):=zh (λm=>by have:=RA.o.lt;have:=HX.o;omega);clear f0 f1 f2 z0 z1 z2 cj b3 t3 t0;refine As s ?_;clear s K;refine AK (V ?_);clear H1 H2 HA DA SA BA RA S G1 G2 cf;go_wp2_with fail
  go_loopg [1] (b.rs+1) (λk s1 wr=>Nu a c f i b F az b4 (j+1) Z l X a.heap.size k s1 wr)
  case atStart=>
   refine⟨[],l,b5,bd,dB,fr,_,fs,rfl,rfl,B3.o,ce.o,H3.o,?_,⟨D3.o.mono Ω,S3.o,OA.o⟩,⟨X3.o,cs.o,R3.o,RC.o⟩,?_,jS _,eF⟩
   ·rw[OM];exact LA.o
   ·have z:=LA.o.ft P;have h2:=w.o;rw[y.o]at z⊢;rw[mS,nZ, <-h2.2.2.1];omega
  case round=>
   obtain⟨aV,d,ya,D,dQ,aW,dR,r,rfl,ct,cu,cv,cw,cx,⟨cy,cz,cA⟩,⟨cB,cX,cD,cR⟩,aE,bt,bu⟩:=hrel;clear H3 D3 S3 B3 R3 X3 cs ce OA LA;have HI:=zh cw;have av:=zh cx;have bv:=zh cy;have aX:=zh cz;have bw:=zh cA;have BX:=zh cB;have G:=zh cD;have CX:=zh cX;have CR:=zh cR;have dS:=zh aE;have cF:=zh bt;have T:=zh ct;have bz:=zh cu;have cG:=zh cv;clear cw cx cy cz cA cB cD cX cR aE bt ct cu cv
   by_cases hy:d.length=0
   ·have dT:d=[]:=kV hy;subst dT
    have dU:l=aV:=by have:=T.o;rw[lX]at this;exact this
    subst dU;have z0:=G.o.m 0;have z1:=G.o.m 1;have z2:=G.o.m 2;have x0:=BX.o.m 0;have x1:=BX.o.m 1;have x2:=BX.o.m 2;have f0:=G.o.v 0;have f1:=G.o.v 1;have f2:=G.o.v 2;go_wp2_with fail;obtain⟨wZ,hZ,bZ,tZ⟩:=Br G.o (E O F) (E O az) (E O l.length);rw[hZ]
    have aN:(Ck b4 F l F).length=az+l.length:=by rw[CW,jU];try rw[aS.o]
    have aH:=CR.o;refine BC (DH (p:=4) (ty:=128) rfl _ _ a.heap.size _ _ _ _ rfl bZ oc rfl rfl) rfl ⟨rfl,dQ,aW,aX.o.bq tZ (λq m=>by rw[m];exact jS _),(bv.o.am tZ (λq g m=>by rw[m,aH]at g;cases g) (λ_ _=>rfl)).mono (Ψ w.o),⟨dR,r,?_,av.o⟩,bw.o⟩;rw[aN];exact HI.o.am tZ (λq g m=>by rw[m,aH]at g;cases g) (λ_ _=>rfl)
   ·have dy:A4 ((0:Int)<((d.length:Nat):Int))=B0:=jT Ω;have fh:A4 (0<d.length)=B0:=jT Ω;obtain⟨yb,yo,rfl,_⟩:=bz.o.aZ Ω;obtain⟨N,hN⟩:=Ag (min d.length (M - r.length))
    have cI:r.length<M:=by rw[<-y.o];exact av.o.ft P
    have aZ:N<=d.length:=Ω;have fi:N<=M - r.length:=Ω
    have ar:wrap64 ((M:Int) - ((r.length:Nat):Int))=((M - r.length:Nat):Int):=by have fj:=w.o;rw[Ax _ Ω];omega
    have d0:min ((d.length:Nat):Int) ((M - r.length:Nat):Int)=(N:Int):=Ω;have cJ:N=d.length\/N=M - r.length:=Ω;have a0:=zh cJ;have a1:=zh cI;clear hN cJ cI;obtain⟨d1,d2,rfl,d3⟩:=HI.o.aP;go_wp2_with fail;obtain⟨w4,bC⟩:=Ag wr.drew
    have g4:wr.grownBy w4 Y:=by rw[<-bC];exact Be wr
    have G4:=zh g4;have cL:=zh bC;have cM:=zh (HI.o.grown g4);obtain⟨_,_,_,_,_,ax,_,R,ah⟩:=cM.o.cells;rw[y.o]at ax;clear g4 bC d3;refine A7 (λ_=>True) (.an [] [0,1,2,3,4,5,6,7,8,9,10,11,12] 13 Bd (.nil)) Φ Φ ?_;rw[cL.o];refine Ar ?_
    iterate 13 refine Az ?_
    refine Aj ?_;rw[Cn ar];refine Al ?_;intro K s;refine As s ?_;clear s K;refine AK (V ?_);clear ax R ah ar d0;go_wp2_with fail;obtain⟨w5,bE⟩:=Ag w4.drew;have g5:=Ae G4.o (show w4.grownBy w5 Y by rw[<-bE];exact Be w4);have d5:=zh bE;have a3:=zh (HI.o.grown g5);have cN:=zh (bv.o.grown g5);have bF:=zh (aX.o.trans (Ab.grown aX.o.new g5));have bG:=zh (BX.o.grown g5 Δ);have bH:=zh (G.o.grown g5 Δ);have a4:=zh (bz.o.grown g5 Δ);have ah:=a3.o.cells.2.2.2.2.2.2.2.2;have fk:N<=D:=j8 aZ bu;clear bE g5 HI bv aX BX G bz G4 cL cM;refine A7 (λ_=>True) (.an [] [0,1,2,3,4,5,6,7] 8 B0 (.an [] [9,10] 11 Bd (.nil))) Φ Φ ?_;rw[d5.o];refine Ar ?_
    iterate 8 refine Az ?_
    refine Aj ?_;obtain⟨i0,cO,cP,cQ,cS⟩:=B6 Ia;have cT:=a4.o.f7 aZ D;refine AH rfl (λK s=>?_);refine Kh Θ _ _ 64 Θ 0 5 i0 _ 1 1 mc cO cP cQ cS rfl Ξ (v:=J d1 r.length d2) Θ a3.o.aM Θ cT (λu hu=>by obtain⟨x,_,rfl⟩:=lP.1 hu;rfl) (by have:=w.o;have:=a1.o;unfold CL;omega) (by have:=w.o;have:=a1.o;omega) (kN _) ?_;intro fl w6 o6 g6 l6;obtain⟨la,lc,rfl⟩:=(Ai.aj o6).slice
    have bJ:(r++d.take N).length=r.length+N:=by rw[jU,kA];omega
    have cY:w6.ownsRow 0 5 1 (J la (r.length+N) lc) (r++d.take N).length (Ao (r++d.take N)):=by
     rw[bJ,Km];exact o6
    obtain⟨aj,B,b6,h7⟩:=a3.o.cG bF.o.new g6 cY l6;have d8:=b6.v 20;have d9:=b6.m 20;obtain⟨w7,bM⟩:=Ag (w6.setCell ⟨f,20,Y⟩ (J la (r.length+N) lc));rw[bM]at B h7;have ay:=zh h7;have bN:=zh (bF.o.trans (B.mono (λq g=>(Bx g:Bo q))));have c0:=zh (cN.o.ae B Ω);have c1:=zh (B.u bG.o (by rw[CX.o];omega));have c2:=zh (B.u bH.o (by rw[CR.o];omega));have bO:Hd (aj X=0):=zh (by rw[B.ah _ bG.o.lt];exact CX.o);have a5:Hd (aj a.heap.size=0):=zh (by rw[B.ah _ bH.o.lt];exact CR.o)
    have ea:d≠[]:=λm=>hy (by rw[m];rfl)
    have bP:=cG.o yb rfl;have bQ:=a4.o.lt (λm=>by have:=kL AA m;rw[GV]at this;exact hy this) yb rfl;have c3:=zh (B.aP a4.o (λq g m=>by cases g;exact bP (Bx m)));have bR:Hd (¬Bo (aj yb)):=zh (by rw[B.ah _ bQ];exact bP);have eb:=zh bM;have fm:=zh bJ;have ec:=zh (jY bQ B.size);clear B h7 bM b6 o6 g6 l6 cY bJ cT cO cP cQ cS bP bQ ea ah a3 bF cN bG bH a4 CX CR cG;refine s _ _ ⟨λ_=>True,λ_ t=>t,λ_=>kI,?_⟩;clear s K;refine Ak ?_;refine Ar ?_
    iterate 2 refine Az ?_
    refine Aj ?_;refine Al ?_;intro K s;rw[eb.o];refine As s ?_;clear s K;refine AK (V ?_);clear d8 d9;obtain⟨A,hA⟩:=Ag (az+aV.length)
    have fn:A<=100000:=by
     have z:=kL AA T.o;rw[jU]at z;have:=w.o;have:=bh.o;omega
    have an:=zh hA;rw[hA]at ay;have R:=ay.o.cells.2.2.2.2.2.2.2.1;have ed:=ay.o.u.v 19;have ee:wrap64 ((A:Int)+(N:Int))=(A:Int)+(N:Int):=Ax _ (Ψ w.o);obtain⟨w8,bT⟩:=Ag (w7.setCell ⟨f,19,Y⟩ (E O ((A:Int)+(N:Int))));have h8:A8 (w7.setCell ⟨f,19,Y⟩ (E O ((A:Int)+(N:Int)))) aj f i b F (A+N) (J la (r.length+N) lc) (r++d.take N):=ay.o.f6 (A+N);have U:=Ha (C:=λq=>q=4) bN.o.new (g:=f) (o:=19) (E O ((A:Int)+(N:Int))) ay.o.c0;rw[bT]at h8 U;have c4:=zh h8;have bV:=zh (bN.o.trans (U.mono (λq g=>(Bx g:Bo q))));have c5:=zh (c0.o.ae U Ω);have c6:=zh (U.u c1.o (by rw[bO.o];omega));have c7:=zh (U.u c2.o (by rw[a5.o];omega));have c8:=zh (U.aP c3.o (λq g m=>by cases g;exact bR.o (Bx m)));have c9:=zh bT;have ef:=zh (jY ec.o U.size);clear h8 U bT hA ay bN c0 c1 c2 c3;obtain⟨aa,ak⟩:∃aa:Option Addr,(if D=N then Bk (⟨yb,yo,Y⟩:Addr)else Bk ⟨yb,yo+N,Y⟩)=aa:=⟨_,rfl⟩
    have bW:Hd (Ai w8 1 (J aa (d.drop N).length (D - N)) (d.drop N).length (Ao (d.drop N))):=by
     rw[<-ak]
     split
     ·next eg=>
      have eh:d.drop N=[]:=mY (by rw[<-eg];exact bu);rw[eh];exact zh ⟨rfl,kN _,Bx ⟨_,_,rfl,λt=>absurd rfl t,λq u g=>by simp[Ao]at g⟩⟩
     ·exact zh (c8.o.f8 aZ (D - N))
    have da:Hd (∀q,(J aa (d.drop N).length (D - N)).ownBlock=Bk q->¬Bo (aj q)):=by
     refine zh (λq g=>?_)
     have ei:yb=q:=by
      rw[<-ak]at g
      split at g<;>exact kE g
     rw[<-ei];exact bR.o
    have HJ:Hd (∀q,(J aa (d.length - N) (D - N)).ownBlock=Bk q->yb=q):=by
     refine zh (λq g=>?_);rw[<-ak]at g
     split at g<;>exact kE g
    have ab:(d.drop N).length=d.length - N:=kK;rw[ab]at bW da;have ek:=zh ak;clear ab c8 ak;have ak:=ek.o;go_wp2_with fail;rw[c9.o];clear ak R ed ee c9;obtain⟨w9,bX⟩:=Ag w8.drew
    have g9:w8.grownBy w9 Y:=by rw[<-bX];exact Be w8
    have el:=zh bX;have a7:=zh (c4.o.grown g9);have dc:=zh (c5.o.grown g9);have bY:=zh (bV.o.trans (Ab.grown bV.o.new g9));have aK:=zh (c6.o.grown g9 Δ);have I:=zh (c7.o.grown g9 Δ);have em:=zh (bW.o.grown g9 Δ);have ax:=a7.o.cells.2.2.2.2.2.1;have ah:=a7.o.cells.2.2.2.2.2.2.2.2;rw[y.o]at ax;have en:=zh (jY ef.o g9.size);clear bX g9 c4 c5 bV c6 c7 bW
    have dd:∀x∈d,x<256:=λx hx=>eN.o x (by rw[T.o];exact lY _ hx)
    have de:(Ck b4 F aV F).length=A:=by rw[CW,jU];(try rw[aS.o]);exact an.o
    have b0:=zh dd;have a8:=zh de;clear dd de;obtain⟨aM,hZ⟩:=Ag (r.length+N);rw[hZ]at ah;have HZ:=zh hZ;refine A7 (λ_=>True) (.an [] [0,1,2,3,4,5,6,7,8] 9 Bd (.nil)) Φ Φ ?_;rw[el.o];refine Ar ?_
    by_cases bc:aM<M
    ·have eo:A4 ((aM:Int)<(M:Int))=B0:=jT Ω;have d6:A4 (aM<M)=B0:=jT bc
     have eq:Hd (A8 w9 aj f i b F (az+l.length) (J la (r.length+N) lc) (r++d)):=by
      have z:d.take N=d:=lF (Ψ a0.o)
      have h2:az+l.length=A+N:=by
       have h3:=kL AA T.o;rw[jU]at h3;have:=a0.o;have:=an.o;omega
      rw[h2];have h4:=a7;rw[z]at h4;exact h4
     have er:Hd (Cl b F (r++d) (Ck b4 F l) aW):=by
      have z:=av.o.grow P d b0.o (by rw[y.o];have:=a0.o;omega) (by have h3:=kL AA T.o;rw[jU]at h3;rw[a8.o,HR.o];have:=bh.o;have:=an.o;omega);rw[Mn, <-T.o]at z;exact zh z
     iterate 9 refine Az ?_
     refine Aj ?_;refine Al ?_;intro K s;refine As s ?_;clear s K;refine AK (V ?_);clear ax ah;have z0:=I.o.m 0;have z1:=I.o.m 1;have z2:=I.o.m 2;have x0:=aK.o.m 0;have x1:=aK.o.m 1;have x2:=aK.o.m 2;have f0:=I.o.v 0;have f1:=I.o.v 1;have f2:=I.o.v 2;go_wp2_with fail;obtain⟨wZ,hZ,bZ,tZ⟩:=Br I.o (E O F) (E O az) (E O l.length);rw[hZ]
     have aN:(Ck b4 F l F).length=az+l.length:=by rw[CW,jU];try rw[aS.o]
     have aH:=a5.o;refine BC (DH (p:=4) (ty:=128) rfl _ _ a.heap.size _ _ _ _ rfl bZ oc rfl rfl) rfl ⟨rfl,aj,aW,bY.o.bq tZ (λq m=>by rw[m];exact jS _),(dc.o.am tZ (λq g m=>by rw[m,aH]at g;cases g) (λ_ _=>rfl)).mono (Ψ w.o),⟨(J la (r.length+N) lc),_,?_,er.o⟩,bw.o⟩;rw[aN];exact eq.o.am tZ (λq g m=>by rw[m,aH]at g;cases g) (λ_ _=>rfl)
    ·have eo:A4 ((aM:Int)<(M:Int))=Bd:=jV Ω;have d6:A4 (aM<M)=Bd:=jV bc
     iterate 9 refine Az ?_
     refine Aj ?_;refine Al ?_;intro K s;refine As s ?_;clear s K;refine AK (V ?_);clear ax ah
     have es:r.length+N=M:=by have:=a0.o;have:=a1.o;omega
     have a9:(d.take N).length=N:=qP aZ
     have aO:0<M:=by have:=w.o;omega
     have fp:r.length=A%M:=by have z:=av.o.dN;rw[a8.o,y.o]at z;exact z
     have et:=Ps (L:=A) (k:=N) aO Ω
     have b1:A+N<=b.aI:=by
      have h3:=kL AA T.o;rw[jU]at h3;have:=bh.o;have:=an.o;rw[HR.o];omega
     have dg:A/M<b.rs:=by
      obtain⟨_,h2⟩:=JI (L:=A) (k:=N) aO Ω;have h3:=w.o.2.2.1;refine Jz (P:=b) aO (L:=A+N) ?_ (pU h2);rw[<-h3, <-HR.o];exact b1
     have eu:∀x∈r++d.take N,x<256:=λx hx=>by
      rcases kY.1 hx with m|m
      ·exact av.o.gB x m
      ·exact b0.o x (lV m)
     go_wp2_with fail;refine(NW a7.o dc.o bY.o.new P (by have:=w.o;have:=cF.o;omega) (Ψ w.o) (A/M) dg (Ψ a1.o) (by rw[y.o];exact et) b1 (by rw[jU,a9,y.o];omega) eu).mono ?_;rintro m wB ⟨rfl,ba,sB,dh,di⟩;have b2:=av.o.gO P (d.take N) (λx hx=>b0.o x (lV hx)) (by rw[a9,y.o];exact es) (by rw[a8.o,a9];exact b1);rw[Mn,a8.o,y.o]at b2
     have dj:ba X=0:=by rw[sB.ah _ aK.o.lt];exact bO.o
     have dk:ba a.heap.size=0:=by rw[sB.ah _ I.o.lt];exact a5.o
     have n0:¬Bo 0:=by unfold Bo;omega
     have dl:=sB.u aK.o (by rw[bO.o];exact n0);have dm:=sB.u I.o (by rw[a5.o];exact n0);have dn:=sB.aP em.o (λq g=>da.o q g);have dp:=bY.o.trans sB;have dq:=bw.o.trans (DN.dn (q:=F) P aW dg (BO b.n 3 (BM b F (A/M)) F (r++d.take N)))
     have dr:∀q,(J aa (d.length - N) (D - N)).ownBlock=Bk q->¬Bo (ba q):=λq g=>by rw[<-HJ.o q g,sB.ah _ en.o];exact bR.o
     have aE:=dS.o;have bt:=cF.o;obtain⟨ds,rfl⟩:∃g',gk=g'+1:=⟨gk - 1,by rcases gk with _|n;(· simp at aE);omega⟩
     have ex:Hd (Nu a c f i b F az b4 (j+1) Z l X a.heap.size ds (J aa (d.length - N) (D - N)) wB):=by
      have ab:(d.drop N).length=d.length - N:=kK;refine zh ⟨aV++d.take N,d.drop N,aa,D - N,ba,_,J Y 0 0,[],by rw[ab],?_,by rw[ab];exact dn,by rw[ab];exact dr,?_,b2,⟨di.mono Ω,dp,dq⟩,⟨dl,dj,dm,dk⟩,?_,Ω,by rw[ab];exact BE bu N⟩
      ·rw[ls,lh];exact T.o
      ·rw[jU,a9, <-lw,an.o];exact dh
      ·rw[ab,y.o];rw[y.o,mS,nZ]at aE;simp only[kP];omega
     clear b2 dj dk n0 dl dm dn dp dq dr sB dh di;go_wp2_with fail
     go_roundg ds
     case measure=>omega
     case rel=>exact ex.o
end
