/- Lemmas. -/
import Derived.Test.YtcedibmdelehdaaGreatDoorG24
import Derived.Test.YtcedibmdelehdaaGreatDoorG35
namespace Go.Proofs.YtcedibmdelehdaaGreatDoor
set_option maxRecDepth 100000
set_option maxHeartbeats 32000000
open Go.Value renaming int->E,slice->J,pointer->Bn,cells->B7
open Go.IntKind renaming i64->O,u8->BL
open Go.NoPanic renaming normal->V
open Option renaming none->Y,some->A6
open Go.IntWalk renaming wrap64_in->Ax
open List renaming length->AA,replicate->A2,take_left->BZ
open Go.Proofs.Tryz renaming prog->A3,ntmps127->B2,ntmps90->B5,func127->B6,func90->B8
open Decidable renaming decide->A4
open Bool renaming false->A5,true->BD
open Go.World renaming grownBy_alloc->A7
open Go.Builtin renaming zeroCells->Bd,append_->Bx
open Or renaming inr->Bk
open Go renaming bodyPost_ret->Bs,World->BC,run_underlying->B0,info_parts->B1,Value->B4,maxLen->B9,Calls->CA
open Nat renaming sub_le_sub_right->BB,mul_mod_left->BE
variable{f e i j:Nat}{h:Int->List Nat}{Z k:BC}{a:Pl}{b:Ae}{c:List Nat}{d:BO}{g:B4}
section
open Go Go.RowKit
theorem NL(k:Nat):(Bd (E BL 0).cells k).toList=A2 k (E BL 0):=by
 apply lQ;intro j;rw[ot];unfold Bd;simp[B7]
 by_cases h:j<k
 ·rw[jK (by simpa using h)];simp[h,pN]
 ·rw[lF Γ,jN h];rfl
theorem Qh(w:BC)(i:TypeId)(l:IntKind)(v:B4)(n:Nat)(b:List B4)(c:w.ownsRow 0 5 1 v n b)(X:0<n)(k:Nat)(F:0<k)(Z:n+k<=1000000):
  ∃f m,(Bx #[64,3] i #[v,E l k]).run A3 w=.ok f m/\m.ownsRow 0 5 1 f (n+k) (b++A2 k (E BL 0))/\w.grownBy m v.ownBlock/\(f.ownBlock=v.ownBlock\/f.ownBlock=A6 w.heap.size):=by
 obtain⟨o,t,x,p,q⟩:=B1 GK;have y:=kY;have z:=kj
 have h:(b++A2 k (E BL 0)).length=(n+k)*1:=by rw[jI,c.1,lU];omega
 have aa:(Bd (E BL 0).cells k).size=k:=by rw[<-mO,NL,lU]
 rcases c.2 with⟨rfl,rfl⟩|⟨g,a,d,rfl,G,A,ab,H,I,B⟩
 ·have:=c.1;simp at this;omega
 ·by_cases C:n+k<=a
  ·have K:O.wrap (k:Int)=k:=by rw[IntKind.wrap_i64];omega
   have L:¬((k:Int)<0):=Ω;have M:¬(281474976710656<(k:Int)):=Ω;have N:k≠0:=Ω;have D:=run_storeCells_at A3 g n 5 (A2 k (E BL 0)) 0 d w A (by rw[lU,I];omega) (λu Q=>by rw[ls Q];rfl);simp only[kU]at D
   have r:(Bx #[64,3] i #[J (A6 ⟨g,0,Y⟩) n a,E l k]).run A3 w=.ok (J (A6 ⟨g,0,Y⟩) (n+k) a) (w.setRow g (d.toList.take n++A2 k (E BL 0)++d.toList.drop (n+(A2 k (E BL 0)).length)).toArray):=by
    simp[Bx,B0 y,B0 z,sizeOf,typeInfo,zeroValue,t,x,p,q,asInt,asIntOf,K,L,M,N,C,Addr.add_lit,NL]
    have R:(storeCells {block:=g,off:=n} (A2 k (E BL 0))).run A3 w=.ok () (w.setRow g (List.take n d.toList++(A2 k (E BL 0)++List.drop (n+k) d.toList)).toArray):=by simpa using D
    rw[R];rfl
   refine⟨_,_,r,⟨h,Bk ⟨g,a,_,rfl,G,setRow_heap w g d _ 5 _ A,C,H,?_,?_⟩⟩,⟨rfl,rfl,rfl,Δ,λj _ s=>setRow_other w g j _ (λe=>s (by simp[Value.ownBlock,e]))⟩,Or.inl rfl⟩
   ·simp only[kB,jI,jW,j0,lU,mO];omega
   ·rw[mj]at B;rw[B, <-h];exact BZ
  ·have S:∀j u,b[j]?=A6 u->w.cell? ((⟨g,0,Y⟩:Addr).add j)=A6 u:=c.cells (g:=g) rfl
   have T:b.length=n*o.size:=by rw[p];exact c.1
   have U:=run_firstCells_some (P:=A3) w.drew o.size n ⟨g,0,Y⟩ n a b T (by simpa using S);have r:=Lib.run_append_grow_zeros (P:=A3) w 64 3 i 5 o (E BL 0) l _ y z t x (A6 ⟨g,0,Y⟩) n a b U k F (by rw[p];omega) Ω Ω (by rw[q];omega) (growslice_fits Ω (by rw[q];omega));have V:=grownCap_ge w (n+k) a 5;have W:grownCap w (n+k) a 5<=B9:=grownCap_le_maxLen w (n+k) a 5 (by unfold B9;omega);refine⟨_,_,r,⟨h,Bk ⟨w.heap.size,_,_,rfl,ke _,heap_alloc_new w.drew _,V,W,?_,?_⟩⟩,⟨rfl,rfl,rfl,Δ,λj s _=>heap_alloc_old w.drew _ s⟩,Bk rfl⟩
   ·have:=c.1;simp only[Array.size_append,kB,size_zeroCells];simp[B7];omega
   ·rw[Array.toList_append,Array.toList_append,NL,kK, <-kK, <-h];exact BZ
end
section
open Go.RowKit
attribute [local go_sem ↓] Go.wp_at_zero Go.wp_at_succ
def Hz(P:Pl)(L:Nat):Nat:=(P.n - 19 - L%(P.n - 19))%(P.n - 19)
def Eg(P:Pl)(a:Nat)(b:BO):BO:=Cv b a (AO (Hz P (b a).length))
theorem RV(h:f%(a.n - 19)=0):Hz a f=0:=by
 unfold Hz;rw[h,lW,Nat.mod_self]
theorem TG(b:0<a.n - 19)(h:f%(a.n - 19)≠0):Hz a f=a.n - 19 - f%(a.n - 19):=by
 unfold Hz;exact mR Ω
theorem Td(P:Pl)(d:P.aY)(a:Nat)(b:BO):(Eg P a b a).length%(P.n - 19)=0:=by
 have c:0<P.n - 19:=by have:=d.n0;omega
 unfold Eg;rw[Dp,jI,Ep]
 by_cases h:(b a).length%(P.n - 19)=0
 ·rw[RV h,kU];exact h
 ·rw[TG c h];have f:=lA (b a).length c;obtain⟨g,e⟩:=JW (L:=(b a).length) (k:=P.n - 19 - (b a).length%(P.n - 19)) c Ω;rw[<-e];exact BE _ _
theorem da{R:Nat}(a:0<e)(g:f<=R*e)(h:f%e≠0):f+(e - f%e)<=R*e/\f/e<R:=by
 have i:=lA f a;obtain⟨_,d⟩:=JW (L:=f) (k:=e - f%e) a Ω
 have b:f/e<R:=by
  rw[Nat.div_lt_iff_lt_mul a]
  rcases mn f (R*e)with c|c
  ·exact c
  ·have:f=R*e:=by omega
   rw[this,BE]at h;exact absurd rfl h
 rw[<-d];exact⟨lC _ b,b⟩
theorem PA{L k:Nat}(a:0<f)(h:L%f+k=f):(L+k - 1)/f=L/f:=by
 obtain⟨_,b⟩:=JW (L:=L) (k:=k) a h;rw[<-b,lT,mP,show L/f*f+f - 1=f*(L/f)+(f - 1) by rw[lp];omega,og a,mQ (show f - 1<f by omega),kU]
theorem Bf.bK{r:Nat}{s:B4}{A:List Nat}(h:Bf k b f e a r j s A)(C:AD k b)(w:k.grownBy Z s.ownBlock)(o:Z.ownsRow 0 5 1 g c.length (Ar c))(l:g.ownBlock=s.ownBlock\/g.ownBlock=A6 k.heap.size):
  ∃m,Ad (λn=>n=4) k b (Z.setCell ⟨f,20,Y⟩ g) m/\Aa Z f 172 (Bn (A6 ⟨e,0,Y⟩)::(a.cells++(a.dj++[E O (a.n - 19:Nat),E O r,E O j,s])))/\
   Bf (Z.setCell ⟨f,20,Y⟩ g) m f e a r j g c:=by
 have u:=h.y.u w (λd=>Bv h.y h.aS Ξ d.symm);have x:Ad (λn=>n=4) k b Z b:=Ad.of C w (λt d=>h.cp t d)
 have y:∀m,Ad (λn=>n=4) k b Z m->(∀p,g.ownBlock=A6 p->m p=4)->∃m,Ad (λn=>n=4) k b (Z.setCell ⟨f,20,Y⟩ g) m/\Aa Z f 172 (Bn (A6 ⟨e,0,Y⟩)::(a.cells++(a.dj++[E O (a.n - 19:Nat),E O r,E O j,s])))/\
   Bf (Z.setCell ⟨f,20,Y⟩ g) m f e a r j g c:=λm v D=>by
  have z:m f=4:=by rw[v.ak _ h.y.lt];exact h.c0
  refine⟨m,v.trans (Ad.of v.new (Ao _ _ _) (λt d=>by cases d;exact z)),u,u.setCell 20 _,?_,z,D⟩;exact(Ac.of (S:=λt=>t=f) (Ao _ _ _) (λt d=>by cases d;rfl)).aT o (λp q d=>by subst d;exact Bv u o Ξ q)
 rcases l with d|d
 ·exact y b x (λp q=>h.cp p (by rw[<-d];exact q))
 ·have F:=(o.lt _ d).2;exact y _ (x.bQ (B:=k.heap.size) (i:=4) (jF _) F rfl) (λp q=>by rw[d]at q;cases q;exact A0 _ _ _)
theorem VN(h:Bf Z b f e a i j g c)(d:c.length=0):
  CA A3 90 #[Bn (A6 ⟨f,0,Y⟩)] Z λk l=>k=.returned (E O 0)/\Z=l:=by
 obtain⟨o,p,rfl,m⟩:=h.aN;obtain⟨_,_,_,_,_,_,_,_,n⟩:=h.cells;rw[d]at n;clear h m d
 go_enter B8,B5
 go_wp2_with fail;go_ret;exact⟨rfl,rfl⟩
theorem V6{d:Nat}{q:Nat}(o:Bf Z b e d a j f g c)(hD:AF Z b d a.ss a.n q h)(hC:AD Z b)(v:a.aY)(hq:q<=1073741824)(hl:j<=1099511627776)
  (i k:Nat)(hi:i<a.rs)(w:0<c.length)(hk:c.length+k=a.n - 19)(ak:0<k)(al:(f+k - 1)/(a.n - 19)=i)(am:f+k<=a.aA)(hs:∀x∈c,x<256):
  CA A3 90 #[Bn (A6 ⟨e,0,Y⟩)] Z λl F=>l=.returned (E O 0)/\∃G,Ad Bp Z b F G/\Bf F G e d a j (f+k) (J Y 0 0) []/\
   AF F G d a.ss a.n (q+1) (CJ h ((a.region+BY a j i:Nat):Int) (Cd a.n 3 (BY a j i) j (c++AO k))):=by
 have hw:=λ(W:BC) (I:Ae) (aI:B4) (hW:Bf W I e d a j (f+k) aI (c++AO k)) (aK:AF W I d a.ss a.n q h) (aL:AD W I)=>Of hW aK aL v hq hl i hi Ω al am (by rw[jI,Ep];omega) (λx hx=>by
  rcases kI.1 hx with l|l
  ·exact hs x l
  ·have:=ls l
   omega)
 have aN:=v.n1;have aO:a.aA<=32*493:=ln v.cQ Ω;obtain⟨pa,pc,rfl,aP⟩:=o.aN;obtain⟨M,L⟩:=Af (a.n - 19)
 have bd:(((c.length:Nat):Int)==0)=A5:=by simp;intro l;rw[l]at w;simp at w
 have p:wrap64 ((M:Int) - ((c.length:Nat):Int))=(k:Int):=by rw[Ax _ Ω];omega
 have r:wrap64 ((f:Int)+(k:Int))=((f+k:Nat):Int):=by rw[Ax _ Ω];omega
 have hz:=Qh;have aR:=zh hw;have H:=zh o;have HD:=zh hD;have N:=zh hC;have HM:=zh L;have au:=zh p;have aT:=zh r;have y:=zh (show 0<c.length/\0<k/\c.length+k<=1000 from⟨w,ak,Ω⟩);obtain⟨_,_,_,_,_,m,_,s,t⟩:=o.cells;rw[L]at m;clear o hD hC hw L aN aO aP v hq hl hi w hk ak al am hs hz p r
 have be:¬c=[]:=λl=>by have:=y.o.1;rw[l]at this;simp at this
 go_enter B8,B5
 go_wp2_with fail;clear m s t;obtain⟨u,p⟩:=Af Z.drew
 have P:Z.grownBy u Y:=by rw[<-p];exact Bm Z
 have z:=H.o.u P;obtain⟨_,_,_,_,_,m,_,s,t⟩:=z.cells;have aU:=z.y.v 19;rw[HM.o]at m;have A:=zh P;have H1:=zh z;have aW:=zh p;clear p P z;refine AS (λ_=>True) (.am [] [0,1,2,3,4,5,6,7,8,9,10,11,12,13,14,15,16] 17 A5 (.nil)) Φ Φ ?_;rw[aW.o];refine Ap ?_
 iterate 17 refine Av ?_
 refine Aj ?_;rw[Ba au.o,Ba aT.o];refine Am ?_;intro K n;obtain⟨Q,r⟩:=Af (u.setCell ⟨e,19,Y⟩ (E O ((f:Int)+(k:Int))));have R:Bf (u.setCell ⟨e,19,Y⟩ (E O ((f:Int)+(k:Int)))) b e d a j (f+k) (J pa c.length pc) c:=H1.o.fZ (f+k);have S:Ad Bp Z b (u.setCell ⟨e,19,Y⟩ (E O ((f:Int)+(k:Int)))) b:=(Ad.u N.o A.o).trans (Hn (N.o.u A.o) _ (Bk H.o.c0));have T:AF (u.setCell ⟨e,19,Y⟩ (E O ((f:Int)+(k:Int)))) b d a.ss a.n q h:=(HD.o.u A.o).ag (Hn (C:=λU=>U=4) (N.o.u A.o) _ H.o.c0) Ω;rw[r]at R S T⊢;have H2:=zh R;have S2:=zh S;have D2:=zh T;clear R S T r aU m s t;refine Aq n ?_;clear n K;refine AG (V ?_);go_wp2_with fail;obtain⟨w3,X⟩:=Af Q.drew
 have B:Q.grownBy w3 Y:=by rw[<-X];exact Bm Q
 have h3:=H2.o.u B;obtain⟨_,_,_,_,_,m,_,s,t⟩:=h3.cells;rw[HM.o]at m;have H3:=zh h3;have S3:=zh (S2.o.trans (Ad.u S2.o.new B));have D3:=zh (D2.o.u B);have a0:=zh X;clear X B h3;refine AS (λ_=>True) (.am [] [0,1,2,3,4,5,6,7,8,9,10,11,12,13,14] 15 BD (.am [] [16,17] 18 A5 (.nil))) Φ Φ ?_;rw[a0.o];refine Ap ?_
 iterate 15 refine Av ?_
 refine Aj ?_;rw[Ba au.o];obtain⟨bf,w4,hr,o4,g4,l4⟩:=Qh w3 64 O (J pa c.length pc) c.length (Ar c) H3.o.aS y.o.1 k y.o.2.1 (Ψ y.o.2.2);obtain⟨la,lc,rfl⟩:=(Ag.ai o4).slice;refine AE rfl (λK n=>?_);refine NK Θ _ _ 64 3 Θ Θ Θ hr ?_
 have aF:w4.ownsRow 0 5 1 (J la (c.length+k) lc) (c++AO k).length (Ar (c++AO k)):=by
  rw[jI,Ep,JK,Tv];exact o4
 obtain⟨a1,D,b4,h5⟩:=H3.o.bK S3.o.new g4 aF l4;have a2:=b4.v 20;have a3:=b4.m 20;clear hr o4 g4 l4 aF m s t;obtain⟨w5,ae⟩:=Af (w4.setCell ⟨e,20,Y⟩ (J la (c.length+k) lc));rw[ae]at D h5;have H5:=zh h5;have S5:=zh (S3.o.trans (D.mono (λU hj=>(Bk hj:Bp U))));have D5:=zh (D3.o.ag D Ω);have a8:=zh ae;clear D h5 ae b4;refine n _ _ ⟨λ_=>True,λ_ o=>o,λ_=>ki,?_⟩;clear n K;refine Al ?_;refine Ap ?_
 iterate 2 refine Av ?_
 refine Aj ?_;refine Am ?_;intro K n;rw[a8.o];refine Aq n ?_;clear n K;refine AG (V ?_);clear a2 a3;go_wp2_with fail;refine(aR.o w5 a1 _ H5.o D5.o S5.o.new).mono ?_;rintro l w6 ⟨rfl,a9,s6,h6,d6⟩;go_wp2_with fail;go_ret;exact⟨rfl,a9,S5.o.trans s6,h6,d6⟩
theorem NW(y:DJ Z b i e a f d h)(t:AF Z b e a.ss a.n j h)(u:AD Z b)(m:a.aY)(z:j<=1073741824)(A:f<=1099511627776):
  CA A3 90 #[Bn (A6 ⟨i,0,Y⟩)] Z λp g=>p=.returned (E O 0)/\∃l q,Ad Bp Z b g l/\AF g l e a.ss a.n (j+1) q/\DJ g l i e a f (Eg a f d) q/\Ea a h q:=by
 obtain⟨B,C,r,c⟩:=y
 have n:0<a.n - 19:=by have:=m.n0;omega
 have v:a.aA=a.rs*(a.n - 19):=rfl
 by_cases o:(d f).length%(a.n - 19)=0
 ·refine(VN r (by rw[c.dS,o])).mono ?_;rintro p g ⟨rfl,rfl⟩
  have D:Eg a f d=d:=by
   unfold Eg;rw[RV o];exact OS _ _
  rw[D];exact⟨rfl,b,h,Ad.refl u,t.mono Ω,⟨B,C,r,c⟩,Ea.refl _ _⟩
 ·have N:=lA (d f).length n;have P:=c.dS;obtain⟨F,w⟩:=da n (by rw[<-v];exact c.dg f) o;rw[<-v]at F;have Q:=TG n o;have G:=PA (L:=(d f).length) (k:=Hz a (d f).length) n Ω;refine(V6 r t u m z A ((d f).length/(a.n - 19)) (Hz a (d f).length) w Ω Ω Ω G Ω c.gt).mono ?_;rintro p g ⟨rfl,l,s,H,I⟩;have K:=c.gF m (AO (Hz a (d f).length)) (λx M=>by have:=ls M;omega) (by rw[Ep];omega) (by rw[Ep];omega);refine⟨rfl,l,_,s,I,⟨J Y 0 0,[],?_,K⟩,Ea.cX m h w _⟩;rw[show(Eg a f d f).length=(d f).length+Hz a (d f).length by unfold Eg;rw[Dp,jI,Ep]];exact H
theorem Xx(q:DJ Z b e i a f d h)(z:AF Z b i a.ss a.n j h)(A:AD Z b)(l:a.aY)(K:j<=1073741824)(B:f<=1099511627776):
  CA A3 189 #[Bn (A6 ⟨e,0,Y⟩)] Z λC r=>C=.returned (E O 0)/\∃s t,Ad Bp Z b r s/\AF r s i a.ss a.n (j+1) t/\DJ r s e i a (f+1) (Eg a f d) t/\Ea a h t/\Eg a f d (f+1)=[]:=by
 have L:=zh (NW q z A l K B)
 have D:Eg a f d (f+1)=[]:=by
  obtain⟨u,v,hi,M⟩:=q;unfold Eg;rw[Gn _ _ Ω];exact M.eA _ Ω
 have ab:f<=1099511627776:=B;have ac:wrap64 ((f:Int)+1)=(f:Int)+1:=Ax _ Ω;have F:=zh D;clear q z A D
 go_enter Tryz.func189,Tryz.ntmps189
 go_wp2_with fail;refine L.o.mono ?_;rintro C g ⟨rfl,m,N,n,G,⟨u,v,c,H⟩,P⟩;have Q:=H.iv l (Td a l f d);have I:Bf (g.setCell ⟨e,18,Y⟩ (E O ((f:Int)+1))) m e i a (f+1) (Eg a f d f).length u v:=c.ia (f+1);have w:=I.fZ 0;have R:v=[]:=km (by rw[H.dS];exact Td a l f d);have p:=n.trans (Hn n.new (g:=e) (o:=18) (E O ((f:Int)+1)) (Bk c.c0));have x:=p.trans (Hn p.new (g:=e) (o:=19) (E O ((0:Nat):Int)) (Bk c.c0));have J:Ad (λS=>S=4) g m ((g.setCell ⟨e,18,Y⟩ (E O ((f:Int)+1))).setCell ⟨e,19,Y⟩ (E O ((0:Nat):Int))) m:=(Hn n.new (g:=e) (o:=18) (E O ((f:Int)+1)) c.c0).trans (Hn p.new (g:=e) (o:=19) (E O ((0:Nat):Int)) c.c0);have y:=G.ag J Ω;have ad:=c.cells.2.2.2.2.2.2.1;have ae:=c.y.v 18;have af:=c.cells.2.2.2.2.2.2.2.1;have ag:=c.y.v 19;obtain⟨T,k⟩:=Af ((g.setCell ⟨e,18,Y⟩ (E O ((f:Int)+1))).setCell ⟨e,19,Y⟩ (E O ((0:Nat):Int)));rw[k]at w x y;have U:=zh k;have V:=zh w;have W:=zh x;have X:=zh y;clear I w p x y J k G c n;go_wp2_with fail;have k:((g.setCell ⟨e,18,Y⟩ (E O ((f:Int)+1))).setCell ⟨e,19,Y⟩ (E O 0))=T:=U.o;rw[k];go_ret;refine⟨rfl,m,N,W.o,X.o,⟨u,[],?_,Q⟩,P,F.o⟩;rw[F.o];subst R;exact V.o
end
section
open Go.RowKit
def DN(l:List Nat)(a n:Nat):List Nat:=(l.drop a).take n
def Ee(M:Nat)(l:List Nat)(i:Nat):List Nat:=DN l (i*M) M
theorem SQ(M:Nat)(l:List Nat)(i:Nat):(Ee M l i).length=min M (l.length - i*M):=by
 unfold Ee DN;rw[jW,j0]
theorem bI(l:List Nat)(i:Nat){n:Nat}(h:e+n<=f):DN (Ee f l i) e n=DN l (i*f+e) n:=by
 unfold Ee DN;rw[List.drop_take,List.take_take,nL,nf Ω]
theorem dQ(l:List Nat)(a n m:Nat):DN l a n++DN l (a+n) m=DN l a (n+m):=by
 unfold DN;rw[<-nL,List.take_add]
theorem Cx.iz(j:Cx a e c d h)(s:a.aY){i:Nat}(t:1<=f)(u:f<=e)(v:e<f+a.rg)(B:i*(a.n - 19)<(d f).length):
  (f=e/\0<c.length/\i=((d e).length - 1)/(a.n - 19)/\c=Ee (a.n - 19) (d f) i)\/
  ((f=e->0<c.length->i≠((d e).length - 1)/(a.n - 19))/\h ((a.region+BY a f i:Nat):Int)=Cd a.n 3 (BY a f i) f (Ee (a.n - 19) (d f) i)):=by
 have b:0<a.n - 19:=by have:=s.n0;omega
 by_cases n:(i+1)*(a.n - 19)<=(d f).length
 ·refine Bk ⟨λw o l=>?_,j.fl f i t u v n⟩;subst w;rw[j.dS]at o;have x:=lA (d f).length b
  have p:((d f).length - 1)/(a.n - 19)=(d f).length/(a.n - 19):=by
   have q:=OL (L:=(d f).length - 1) (k:=1) b (by
    have g:=lE (d f).length (a.n - 19);have m:(d f).length - 1=(a.n - 19)*((d f).length/(a.n - 19))+((d f).length%(a.n - 19) - 1):=Ω;rw[m,Nat.mul_add_mod,mR Ω]
    omega)
   rw[<-q]
   congr 1
   have g:=lE (d f).length (a.n - 19);omega
  rw[p]at l;rw[Jh b]at n;omega
 ·have y:f=e:=by
   rcases mn f e with p|p
   ·exfalso
    have q:=j.fX f p;have g:=lE (d f).length (a.n - 19);rw[q,kU]at g;rw[Jh b]at n;have m:(d f).length/(a.n - 19)*(a.n - 19)<=i*(a.n - 19):=lC _ Ω;rw[lp]at g;omega
   ·omega
  subst y
  have l:(d f).length/(a.n - 19)=i:=by
   rw[Jh b]at n
   have m:i<=(d f).length/(a.n - 19):=by rw[Nat.le_div_iff_mul_le b];omega
   omega
  have o:0<c.length:=by
   rw[j.dS];have g:=lE (d f).length (a.n - 19);rw[l,lp]at g;omega
  have z:((d f).length - 1)/(a.n - 19)=i:=by
   rw[j.dS]at o;have x:=lA (d f).length b;have g:=lE (d f).length (a.n - 19);rw[l]at g;have m:(d f).length - 1=(a.n - 19)*i+((d f).length%(a.n - 19) - 1):=Ω;rw[m,og b,mQ Ω,kU]
  refine .inl ⟨rfl,o,z.symm,?_⟩;have r:=j.fI;rw[l]at r;rw[r];unfold Ee DN;rw[lf];have A:=j.fs s;rw[r]at A;omega
end
section
open Go.RowKit
attribute [local go_sem ↓] Go.wp_at_zero Go.wp_at_succ
def BW(P:Pl)(a:Nat)(b:BO)(n:Nat):Nat:=if n<=P.aA - (b a).length then a else a+1
def Ef(P:Pl)(b:Nat)(a:BO)(n:Nat):BO:=if n<=P.aA - (a b).length then a else Eg P b a
theorem Ad.bw{C S:Nat->Prop}{a:BC}{c:Ae}(h:Ad C Z b k c)(t:Ac S k a)(d:∀j,S j->Z.heap.size<=j):Ad C Z b a c:=
 ⟨h.au.ag t (λj e=>Bk (d j e)),h.ak,h.dQ,h.new.au t⟩
def NC(w:BC)(o:Ae)(g d:Nat)(P:Pl)(l n:Nat)(p:BO)(q:Nat)(r:Int->List Nat)(b:List Nat)(X R:Nat)(k:Nat)(v:B4)(wr:BC):Prop:=
 ∃f a h e c i s m,v=J h a.length e/\b=f++a/\Ag wr 1 (J h a.length e) a.length (Ar a)/\(∀j,(J h a.length e).ownBlock=A6 j->¬Bp (c j))/\
  Bf wr c g d P l (n+f.length) s m/\Cx P l m (Cv p l f) i/\(AF wr c d P.ss P.n (q+(P.rs+1 - k)) i/\Ad Bp w o wr c/\Ea P r i)/\
  (Aa wr X 128 [E O l,E O n,E O b.length]/\c X=0/\Aa wr R 128 [E O 0,E O 0,E O 0]/\c R=0)/\m.length+a.length<k*(P.n - 19)/\k<=P.rs+1/\a.length<=e
theorem Wd(t:DJ Z b e i a f d h)(hD:AF Z b i a.ss a.n j h)(hC:AD Z b)(P:a.aY)(hq:j<=1073741000)(hl:f<=1099511627776 - 1)
  (b5:Option Addr)(bd:Nat)(l:List Nat)(ca:0<l.length)(du:l.length<=a.aA)(eE:∀x∈l,x<256)(eF:l.length<=bd)(eG:Ag Z 1 (J b5 l.length bd) l.length (Ar l))(eH:∀k,(J b5 l.length bd).ownBlock=A6 k->¬Bp (b k)):
  CA A3 127 #[Bn (A6 ⟨e,0,Y⟩),J b5 l.length bd] Z λm w'=>m=.returned (.tuple #[.agg #[E O (BW a f d l.length:Nat),E O ((Ef a f d l.length (BW a f d l.length)).length:Nat),E O l.length],E O 0])/\
   ∃dE dF,Ad Bp Z b w' dE/\AF w' dE i a.ss a.n (j+40) dF/\DJ w' dE e i a (BW a f d l.length) (Cv (Ef a f d l.length) (BW a f d l.length) l) dF/\Ea a h dF:=by
 have e0:=P.n1;have e1:a.aA<=32*493:=ln P.cQ Ω;have e2:=P.cQ
 have aN:(d f).length<=a.aA:=by
  obtain⟨pv,dG,hi,hL⟩:=t;exact hL.dg f
 have dv:=λ(W:BC) (hW:DJ W b e i a f d h) (e4:AF W b i a.ss a.n j h) (e5:AD W b)=>Xx hW e4 e5 P Ω Ω
 obtain⟨M,dH⟩:=Af (a.n - 19);obtain⟨Q,dI⟩:=Af a.aA
 have aO:77<=M:=by have:=P.n0;omega
 have e6:M<=493:=Ω
 have e7:Q=a.rs*M:=by rw[<-dI, <-dH];rfl
 have fu:(((l.length:Nat):Int)==0)=A5:=by simp;intro m;rw[m]at ca;simp at ca
 have fv:A4 ((Q:Int)<((l.length:Nat):Int))=A5:=jH Ω;have fw:A4 (Q<l.length)=A5:=jH Ω;have fx:¬Q<l.length:=Ω
 have e8:¬l=[]:=λm=>by rw[m]at ca;simp at ca
 have eJ:wrap64 ((Q:Int) - (((d f).length:Nat):Int))=((Q - (d f).length:Nat):Int):=by rw[Ax _ Ω];omega
 obtain⟨w0,dw⟩:=Af (Z.alloc (.cells #[E O 0,E O 0,E O 0] 128))
 have g0:Z.grownBy w0 Y:=by rw[<-dw];exact A7 _ _ Y
 have r0:Aa w0 Z.heap.size 128 [E O 0,E O 0,E O 0]:=by rw[<-dw];exact Aa.new _ _ _
 have dx:=zh dw;have G0:=zh g0;have R0:=zh r0;have H:=zh t;have HD:=zh hD;have HC:=zh hC;have y:=zh dH;have HR:=zh dI;have HB:=zh eG;have dJ:=zh eH;have eN:=zh eE;have w:=zh (show 77<=M/\M<=493/\Q=a.rs*M/\a.rs<=32/\0<l.length/\l.length<=Q/\(d f).length<=Q/\j<=1073741000/\f<=1099511627776 - 1/\Q<=32*493 by omega);clear hD hC dH dI eG eH eE e0 e1 e2 aO e6 e7 ca du aN hl hq dw g0 r0
 by_cases dA:l.length<=Q - (d f).length
 ·have eR:BW a f d l.length=f:=by unfold BW;rw[HR.o];exact jP dA
  have eB:Ef a f d l.length=d:=by unfold Ef;rw[HR.o];exact jP dA
  rw[eR,eB];have e9:A4 (((Q - (d f).length:Nat):Int)<((l.length:Nat):Int))=A5:=jH Ω;have fa:A4 (Q - (d f).length<l.length)=A5:=jH Ω;obtain⟨pv,dG,hi,hL⟩:=t;have aP:=zh (hi.u G0.o);have ao:=aP.o.cells.2.2.2.2.1;have R:=aP.o.cells.2.2.2.2.2.2.2.1;rw[HR.o]at ao;rw[<-dx.o]at ao R;clear hi dv R
  go_enter B6,B2
  go_wp2_with fail;rw[dx.o];clear ao;obtain⟨wA,bf⟩:=Af w0.drew
  have gA:w0.grownBy wA Y:=by rw[<-bf];exact Bm w0
  have HA:=zh (aP.o.u gA);have LA:=zh hL;have SA:=zh (Ad.u (C:=Bp) HC.o (Ab G0.o gA));have DA:=zh (HD.o.u (Ab G0.o gA));have BA:=zh (HB.o.u (Ab G0.o gA) Δ);have RA:=zh (R0.o.u gA Δ);have RC:Hd (b Z.heap.size=0):=zh (HC.o _ (jF _));have OA:=zh (Ea.refl a h);have ce:=dJ;have aS:Hd ((d f).length=(d f).length):=zh rfl;have bh:Hd ((d f).length+l.length<=Q):=zh (Ψ w.o);have dN:=zh bf;clear bf gA aP R0 HB hL;have ao:=HA.o.cells.2.2.2.2.1;have R:=HA.o.cells.2.2.2.2.2.2.2.1;rw[HR.o]at ao;refine AS (λ_=>True) (.am [] [0,1,2,3,4,5,6,7,8,9,10,11,12] 13 A5 (.nil)) Φ Φ ?_;rw[dN.o];refine Ap ?_
  iterate 13 refine Av ?_
  refine Aj ?_;rw[Ba eJ];refine Am ?_;intro K s;refine Aq s ?_;clear s K;refine AG (V ?_);clear ao R;go_wp2_with fail;obtain⟨w1,ar⟩:=Af wA.drew
  have g1:wA.grownBy w1 Y:=by rw[<-ar];exact Bm wA
  have H1:=zh (HA.o.u g1);have G1:=zh g1;have cf:=zh ar;clear g1 ar;refine AS (λW=>W.cell? ⟨e,18,Y⟩=A6 (E O f)/\W.cell? ⟨e,19,Y⟩=A6 (E O ((d f).length:Nat))) (.am [0,1,2,3,4,5,6,7,8,9,10] [] 11 BD (.am [] [] 12 A5 (.nil))) Φ Φ ?_;rw[cf.o];refine Dz ⟨H1.o.cells.2.2.2.2.2.2.1,H1.o.cells.2.2.2.2.2.2.2.1⟩ ?_
  iterate 11 ((apply AC rfl Θ;(· intro wS aC;(try have aC:=aC rfl);(try dsimp only at aC);(try(have fc:=aC.1;have fd:=aC.2));go_simp;(try with_reducible rfl)));refine Al ?_)
  refine Aj ?_;refine Aj ?_;refine Am ?_;intro K s;obtain⟨w2,aU⟩:=Af (w1.alloc (.cells #[E O 0,E O 0,E O 0] 128))
  have g2:w1.grownBy w2 Y:=by rw[<-aU];exact A7 _ _ Y
  have ch:Aa w2 w1.heap.size 128 [E O 0,E O 0,E O 0]:=by rw[<-aU];exact Aa.new _ _ _
  rw[aU];have H2:=zh (H1.o.u g2);have S:=zh ch;have G2:=zh (Ab G1.o g2);have HX:Hd (wA.heap.size<=w1.heap.size):=zh G1.o.size;clear aU g2 ch;generalize w1.heap.size=X at*;refine s _ _ ⟨_,λ_ t=>t,λ_=>⟨H2.o.cells.2.2.2.2.2.2.1,H2.o.cells.2.2.2.2.2.2.2.1⟩,?_⟩;clear s K;refine Al ?_;refine Ap ?_;refine Aj ?_;have f0:=S.o.v 0;have f1:=S.o.v 1;have f2:=S.o.v 2;have z0:=S.o.m 0;have z1:=S.o.m 1;have z2:=S.o.m 2;refine Am ?_;intro K s;obtain⟨w3,cj,b3,t3⟩:=Bq S.o (E O f) (E O ((d f).length:Nat)) (E O l.length);rw[cj];have t0:Ac (λ_=>False) wA w3:=(Ac.az G2.o).ag t3 (λq m=>Bk (by rw[m];exact HX.o));have H3:=zh (HA.o.ao t0 (λ_ _ t=>t) (λ_ _=>rfl));have D3:=zh (DA.o.ao t0 (λ_ _ t=>t) (λ_ _=>rfl));have S3:=zh (SA.o.trans (AL SA.o.new t0 (λk t=>t.elim)));have B3:=zh (t0.aN BA.o (λ_ _ t=>t));have R3:=zh (t0.y RA.o (λt=>t));have X3:=zh b3;have cs:Hd (b X=0):=zh (SA.o.new X HX.o);have XR:Hd (X≠Z.heap.size):=zh (λm=>by have:=RA.o.lt;have:=HX.o;omega);clear f0 f1 f2 z0 z1 z2 cj b3 t3 t0;refine Aq s ?_;clear s K;refine AG (V ?_);clear H1 H2 HA DA SA BA RA S G1 G2 cf;go_wp2_with fail
  go_loopg [1] (a.rs+1) (λk s1 wr=>NC Z b e i a f (d f).length d j h l X Z.heap.size k s1 wr)
  case atStart=>
   refine⟨[],l,b5,bd,b,h,_,dG,rfl,rfl,B3.o,ce.o,H3.o,?_,⟨D3.o.mono Ω,S3.o,OA.o⟩,⟨X3.o,cs.o,R3.o,RC.o⟩,?_,jF _,eF⟩
   ·rw[OS];exact LA.o
   ·have z:=LA.o.fs P;have h2:=w.o;rw[y.o]at z⊢;rw[lT,mP, <-h2.2.2.1];omega
  case round=>
   obtain⟨aV,c,ya,D,dQ,aW,dR,r,rfl,ct,cu,cv,cw,cx,⟨cy,cz,cA⟩,⟨cB,cX,cD,cR⟩,aE,bt,bu⟩:=hrel;clear H3 D3 S3 B3 R3 X3 cs ce OA LA;have HI:=zh cw;have av:=zh cx;have bv:=zh cy;have aX:=zh cz;have bw:=zh cA;have BX:=zh cB;have G:=zh cD;have CX:=zh cX;have CR:=zh cR;have dS:=zh aE;have cF:=zh bt;have T:=zh ct;have bz:=zh cu;have cG:=zh cv;clear cw cx cy cz cA cB cD cX cR aE bt ct cu cv
   by_cases hy:c.length=0
   ·have dT:c=[]:=km hy;subst dT
    have dU:l=aV:=by have:=T.o;rw[lw]at this;exact this
    subst dU;have z0:=G.o.m 0;have z1:=G.o.m 1;have z2:=G.o.m 2;have x0:=BX.o.m 0;have x1:=BX.o.m 1;have x2:=BX.o.m 2;have f0:=G.o.v 0;have f1:=G.o.v 1;have f2:=G.o.v 2;go_wp2_with fail;obtain⟨wZ,hZ,bZ,tZ⟩:=Bq G.o (E O f) (E O ((d f).length:Nat)) (E O l.length);rw[hZ]
    have aN:(Cv d f l f).length=(d f).length+l.length:=by rw[Dp,jI];try rw[aS.o]
    have aH:=CR.o;refine Bs (BQ (p:=4) (ty:=128) rfl _ _ Z.heap.size _ _ _ _ rfl bZ nA rfl rfl) rfl ⟨rfl,dQ,aW,aX.o.bw tZ (λq m=>by rw[m];exact jF _),(bv.o.ao tZ (λq g m=>by rw[m,aH]at g;cases g) (λ_ _=>rfl)).mono (Ψ w.o),⟨dR,r,?_,av.o⟩,bw.o⟩;rw[aN];exact HI.o.ao tZ (λq g m=>by rw[m,aH]at g;cases g) (λ_ _=>rfl)
   ·have dy:A4 ((0:Int)<((c.length:Nat):Int))=BD:=jG Ω;have fh:A4 (0<c.length)=BD:=jG Ω;obtain⟨yb,yo,rfl,_⟩:=bz.o.bA Ω;obtain⟨N,hN⟩:=Af (min c.length (M - r.length))
    have cI:r.length<M:=by rw[<-y.o];exact av.o.fs P
    have aZ:N<=c.length:=Ω;have fi:N<=M - r.length:=Ω
    have ar:wrap64 ((M:Int) - ((r.length:Nat):Int))=((M - r.length:Nat):Int):=by have fj:=w.o;rw[Ax _ Ω];omega
    have d0:min ((c.length:Nat):Int) ((M - r.length:Nat):Int)=(N:Int):=Ω;have cJ:N=c.length\/N=M - r.length:=Ω;have a0:=zh cJ;have a1:=zh cI;clear hN cJ cI;obtain⟨d1,d2,rfl,d3⟩:=HI.o.aN;go_wp2_with fail;obtain⟨w4,bC⟩:=Af wr.drew
    have g4:wr.grownBy w4 Y:=by rw[<-bC];exact Bm wr
    have G4:=zh g4;have cL:=zh bC;have cM:=zh (HI.o.u g4);obtain⟨_,_,_,_,_,ax,_,R,ah⟩:=cM.o.cells;rw[y.o]at ax;clear g4 bC d3;refine AS (λ_=>True) (.am [] [0,1,2,3,4,5,6,7,8,9,10,11,12] 13 A5 (.nil)) Φ Φ ?_;rw[cL.o];refine Ap ?_
    iterate 13 refine Av ?_
    refine Aj ?_;rw[Ba ar];refine Am ?_;intro K s;refine Aq s ?_;clear s K;refine AG (V ?_);clear ax R ah ar d0;go_wp2_with fail;obtain⟨w5,bE⟩:=Af w4.drew;have g5:=Ab G4.o (show w4.grownBy w5 Y by rw[<-bE];exact Bm w4);have d5:=zh bE;have a3:=zh (HI.o.u g5);have cN:=zh (bv.o.u g5);have bF:=zh (aX.o.trans (Ad.u aX.o.new g5));have bG:=zh (BX.o.u g5 Δ);have bH:=zh (G.o.u g5 Δ);have a4:=zh (bz.o.u g5 Δ);have ah:=a3.o.cells.2.2.2.2.2.2.2.2;have fk:N<=D:=jM aZ bu;clear bE g5 HI bv aX BX G bz G4 cL cM;refine AS (λ_=>True) (.am [] [0,1,2,3,4,5,6,7] 8 BD (.am [] [9,10] 11 A5 (.nil))) Φ Φ ?_;rw[d5.o];refine Ap ?_
    iterate 8 refine Av ?_
    refine Aj ?_;obtain⟨i0,cO,cP,cQ,cS⟩:=B1 GK;have cT:=a4.o.f0 aZ D;refine AE rfl (λK s=>?_);refine Gh Θ _ _ 64 Θ 0 5 i0 _ 1 1 kY cO cP cQ cS rfl Ξ (v:=J d1 r.length d2) Θ a3.o.aS Θ cT (λu hu=>by obtain⟨x,_,rfl⟩:=lB.1 hu;rfl) (by have:=w.o;have:=a1.o;unfold B9;omega) (by have:=w.o;have:=a1.o;omega) (ke _) ?_;intro fl w6 o6 g6 l6;obtain⟨la,lc,rfl⟩:=(Ag.ai o6).slice
    have bJ:(r++c.take N).length=r.length+N:=by rw[jI,jW];omega
    have cY:w6.ownsRow 0 5 1 (J la (r.length+N) lc) (r++c.take N).length (Ar (r++c.take N)):=by
     rw[bJ,JK];exact o6
    obtain⟨aj,B,b6,h7⟩:=a3.o.bK bF.o.new g6 cY l6;have d8:=b6.v 20;have d9:=b6.m 20;obtain⟨w7,bM⟩:=Af (w6.setCell ⟨e,20,Y⟩ (J la (r.length+N) lc));rw[bM]at B h7;have ay:=zh h7;have bN:=zh (bF.o.trans (B.mono (λq g=>(Bk g:Bp q))));have c0:=zh (cN.o.ag B Ω);have c1:=zh (B.y bG.o (by rw[CX.o];omega));have c2:=zh (B.y bH.o (by rw[CR.o];omega));have bO:Hd (aj X=0):=zh (by rw[B.ak _ bG.o.lt];exact CX.o);have a5:Hd (aj Z.heap.size=0):=zh (by rw[B.ak _ bH.o.lt];exact CR.o)
    have ea:c≠[]:=λm=>hy (by rw[m];rfl)
    have bP:=cG.o yb rfl;have bQ:=a4.o.lt (λm=>by have:=kM AA m;rw[Hh]at this;exact hy this) yb rfl;have c3:=zh (B.aN a4.o (λq g m=>by cases g;exact bP (Bk m)));have bR:Hd (¬Bp (aj yb)):=zh (by rw[B.ak _ bQ];exact bP);have eb:=zh bM;have fm:=zh bJ;have ec:=zh (jJ bQ B.aQ);clear B h7 bM b6 o6 g6 l6 cY bJ cT cO cP cQ cS bP bQ ea ah a3 bF cN bG bH a4 CX CR cG;refine s _ _ ⟨λ_=>True,λ_ t=>t,λ_=>ki,?_⟩;clear s K;refine Al ?_;refine Ap ?_
    iterate 2 refine Av ?_
    refine Aj ?_;refine Am ?_;intro K s;rw[eb.o];refine Aq s ?_;clear s K;refine AG (V ?_);clear d8 d9;obtain⟨A,hA⟩:=Af ((d f).length+aV.length)
    have fn:A<=100000:=by
     have z:=kM AA T.o;rw[jI]at z;have:=w.o;have:=bh.o;omega
    have an:=zh hA;rw[hA]at ay;have R:=ay.o.cells.2.2.2.2.2.2.2.1;have ed:=ay.o.y.v 19;have ee:wrap64 ((A:Int)+(N:Int))=(A:Int)+(N:Int):=Ax _ (Ψ w.o);obtain⟨w8,bT⟩:=Af (w7.setCell ⟨e,19,Y⟩ (E O ((A:Int)+(N:Int))));have h8:Bf (w7.setCell ⟨e,19,Y⟩ (E O ((A:Int)+(N:Int)))) aj e i a f (A+N) (J la (r.length+N) lc) (r++c.take N):=ay.o.fZ (A+N);have U:=Hn (C:=λq=>q=4) bN.o.new (g:=e) (o:=19) (E O ((A:Int)+(N:Int))) ay.o.c0;rw[bT]at h8 U;have c4:=zh h8;have bV:=zh (bN.o.trans (U.mono (λq g=>(Bk g:Bp q))));have c5:=zh (c0.o.ag U Ω);have c6:=zh (U.y c1.o (by rw[bO.o];omega));have c7:=zh (U.y c2.o (by rw[a5.o];omega));have c8:=zh (U.aN c3.o (λq g m=>by cases g;exact bR.o (Bk m)));have c9:=zh bT;have ef:=zh (jJ ec.o U.aQ);clear h8 U bT hA ay bN c0 c1 c2 c3;obtain⟨aa,ak⟩:∃aa:Option Addr,(if D=N then A6 (⟨yb,yo,Y⟩:Addr)else A6 ⟨yb,yo+N,Y⟩)=aa:=⟨_,rfl⟩
    have bW:Hd (Ag w8 1 (J aa (c.drop N).length (D - N)) (c.drop N).length (Ar (c.drop N))):=by
     rw[<-ak]
     split
     ·next eg=>
      have eh:c.drop N=[]:=lR (by rw[<-eg];exact bu);rw[eh];exact zh ⟨rfl,ke _,Bk ⟨_,_,rfl,λt=>absurd rfl t,λq u g=>by simp[Ar]at g⟩⟩
     ·exact zh (c8.o.f4 aZ (D - N))
    have da:Hd (∀q,(J aa (c.drop N).length (D - N)).ownBlock=A6 q->¬Bp (aj q)):=by
     refine zh (λq g=>?_)
     have ei:yb=q:=by
      rw[<-ak]at g
      split at g<;>exact jV g
     rw[<-ei];exact bR.o
    have HJ:Hd (∀q,(J aa (c.length - N) (D - N)).ownBlock=A6 q->yb=q):=by
     refine zh (λq g=>?_);rw[<-ak]at g
     split at g<;>exact jV g
    have ab:(c.drop N).length=c.length - N:=j0;rw[ab]at bW da;have ek:=zh ak;clear ab c8 ak;have ak:=ek.o;go_wp2_with fail;rw[c9.o];clear ak R ed ee c9;obtain⟨w9,bX⟩:=Af w8.drew
    have g9:w8.grownBy w9 Y:=by rw[<-bX];exact Bm w8
    have el:=zh bX;have a7:=zh (c4.o.u g9);have dc:=zh (c5.o.u g9);have bY:=zh (bV.o.trans (Ad.u bV.o.new g9));have aK:=zh (c6.o.u g9 Δ);have I:=zh (c7.o.u g9 Δ);have em:=zh (bW.o.u g9 Δ);have ax:=a7.o.cells.2.2.2.2.2.1;have ah:=a7.o.cells.2.2.2.2.2.2.2.2;rw[y.o]at ax;have en:=zh (jJ ef.o g9.size);clear bX g9 c4 c5 bV c6 c7 bW
    have dd:∀x∈c,x<256:=λx hx=>eN.o x (by rw[T.o];exact lG _ hx)
    have de:(Cv d f aV f).length=A:=by rw[Dp,jI];(try rw[aS.o]);exact an.o
    have b0:=zh dd;have a8:=zh de;clear dd de;obtain⟨aM,hZ⟩:=Af (r.length+N);rw[hZ]at ah;have HZ:=zh hZ;refine AS (λ_=>True) (.am [] [0,1,2,3,4,5,6,7,8] 9 A5 (.nil)) Φ Φ ?_;rw[el.o];refine Ap ?_
    by_cases bc:aM<M
    ·have eo:A4 ((aM:Int)<(M:Int))=BD:=jG Ω;have d6:A4 (aM<M)=BD:=jG bc
     have eq:Hd (Bf w9 aj e i a f ((d f).length+l.length) (J la (r.length+N) lc) (r++c)):=by
      have z:c.take N=c:=lf (Ψ a0.o)
      have h2:(d f).length+l.length=A+N:=by
       have h3:=kM AA T.o;rw[jI]at h3;have:=a0.o;have:=an.o;omega
      rw[h2];have h4:=a7;rw[z]at h4;exact h4
     have er:Hd (Cx a f (r++c) (Cv d f l) aW):=by
      have z:=av.o.fj P c b0.o (by rw[y.o];have:=a0.o;omega) (by have h3:=kM AA T.o;rw[jI]at h3;rw[a8.o,HR.o];have:=bh.o;have:=an.o;omega);rw[Mz, <-T.o]at z;exact zh z
     iterate 9 refine Av ?_
     refine Aj ?_;refine Am ?_;intro K s;refine Aq s ?_;clear s K;refine AG (V ?_);clear ax ah;have z0:=I.o.m 0;have z1:=I.o.m 1;have z2:=I.o.m 2;have x0:=aK.o.m 0;have x1:=aK.o.m 1;have x2:=aK.o.m 2;have f0:=I.o.v 0;have f1:=I.o.v 1;have f2:=I.o.v 2;go_wp2_with fail;obtain⟨wZ,hZ,bZ,tZ⟩:=Bq I.o (E O f) (E O ((d f).length:Nat)) (E O l.length);rw[hZ]
     have aN:(Cv d f l f).length=(d f).length+l.length:=by rw[Dp,jI];try rw[aS.o]
     have aH:=a5.o;refine Bs (BQ (p:=4) (ty:=128) rfl _ _ Z.heap.size _ _ _ _ rfl bZ nA rfl rfl) rfl ⟨rfl,aj,aW,bY.o.bw tZ (λq m=>by rw[m];exact jF _),(dc.o.ao tZ (λq g m=>by rw[m,aH]at g;cases g) (λ_ _=>rfl)).mono (Ψ w.o),⟨(J la (r.length+N) lc),_,?_,er.o⟩,bw.o⟩;rw[aN];exact eq.o.ao tZ (λq g m=>by rw[m,aH]at g;cases g) (λ_ _=>rfl)
    ·have eo:A4 ((aM:Int)<(M:Int))=A5:=jH Ω;have d6:A4 (aM<M)=A5:=jH bc
     iterate 9 refine Av ?_
     refine Aj ?_;refine Am ?_;intro K s;refine Aq s ?_;clear s K;refine AG (V ?_);clear ax ah
     have es:r.length+N=M:=by have:=a0.o;have:=a1.o;omega
     have a9:(c.take N).length=N:=ql aZ
     have aO:0<M:=by have:=w.o;omega
     have fp:r.length=A%M:=by have z:=av.o.dS;rw[a8.o,y.o]at z;exact z
     have et:=PA (L:=A) (k:=N) aO Ω
     have b1:A+N<=a.aA:=by
      have h3:=kM AA T.o;rw[jI]at h3;have:=bh.o;have:=an.o;rw[HR.o];omega
     have dg:A/M<a.rs:=by
      obtain⟨_,h2⟩:=JW (L:=A) (k:=N) aO Ω;have h3:=w.o.2.2.1;refine JP (P:=a) aO (L:=A+N) ?_ (nU h2);rw[<-h3, <-HR.o];exact b1
     have eu:∀x∈r++c.take N,x<256:=λx hx=>by
      rcases kI.1 hx with m|m
      ·exact av.o.gt x m
      ·exact b0.o x (lD m)
     go_wp2_with fail;refine(Of a7.o dc.o bY.o.new P (by have:=w.o;have:=cF.o;omega) (Ψ w.o) (A/M) dg (Ψ a1.o) (by rw[y.o];exact et) b1 (by rw[jI,a9,y.o];omega) eu).mono ?_;rintro m wB ⟨rfl,ba,sB,dh,di⟩;have b2:=av.o.gF P (c.take N) (λx hx=>b0.o x (lD hx)) (by rw[a9,y.o];exact es) (by rw[a8.o,a9];exact b1);rw[Mz,a8.o,y.o]at b2
     have dj:ba X=0:=by rw[sB.ak _ aK.o.lt];exact bO.o
     have dk:ba Z.heap.size=0:=by rw[sB.ak _ I.o.lt];exact a5.o
     have n0:¬Bp 0:=by unfold Bp;omega
     have dl:=sB.y aK.o (by rw[bO.o];exact n0);have dm:=sB.y I.o (by rw[a5.o];exact n0);have dn:=sB.aN em.o (λq g=>da.o q g);have dp:=bY.o.trans sB;have dq:=bw.o.trans (Ea.cX (q:=f) P aW dg (Cd a.n 3 (BY a f (A/M)) f (r++c.take N)))
     have dr:∀q,(J aa (c.length - N) (D - N)).ownBlock=A6 q->¬Bp (ba q):=λq g=>by rw[<-HJ.o q g,sB.ak _ en.o];exact bR.o
     have aE:=dS.o;have bt:=cF.o;obtain⟨ds,rfl⟩:∃g',gk=g'+1:=⟨gk - 1,by rcases gk with _|n;(· simp at aE);omega⟩
     have ex:Hd (NC Z b e i a f (d f).length d j h l X Z.heap.size ds (J aa (c.length - N) (D - N)) wB):=by
      have ab:(c.drop N).length=c.length - N:=j0;refine zh ⟨aV++c.take N,c.drop N,aa,D - N,ba,_,J Y 0 0,[],by rw[ab],?_,by rw[ab];exact dn,by rw[ab];exact dr,?_,b2,⟨di.mono Ω,dp,dq⟩,⟨dl,dj,dm,dk⟩,?_,Ω,by rw[ab];exact BB bu N⟩
      ·rw[kK,kF];exact T.o
      ·rw[jI,a9, <-kO,an.o];exact dh
      ·rw[ab,y.o];rw[y.o,lT,mP]at aE;simp only[kA];omega
     clear b2 dj dk n0 dl dm dn dp dq dr sB dh di;go_wp2_with fail
     go_roundg ds
     case measure=>omega
     case rel=>exact ex.o
 ·have eR:BW a f d l.length=f+1:=by unfold BW;rw[HR.o];exact jN dA
  have eB:Ef a f d l.length=Eg a f d:=by unfold Ef;rw[HR.o];exact jN dA
  rw[eR,eB];have e9:A4 (((Q - (d f).length:Nat):Int)<((l.length:Nat):Int))=BD:=jG Ω;have fa:A4 (Q - (d f).length<l.length)=BD:=jG Ω;obtain⟨F,eO⟩:=Af (f+1);obtain⟨b4,du⟩:=Af (Eg a f d)
  have fy:F<=1099511627776:=by have:=w.o;omega
  rw[eO,du]at dv⊢;have eP:=zh dv;obtain⟨az,ey⟩:=Af ((b4 F).length);rw[ey];have aS:=zh ey;obtain⟨pv,dG,hi,hL⟩:=t;have aP:=zh (hi.u G0.o);have eQ:=zh H.o;have ao:=aP.o.cells.2.2.2.2.1;have R:=aP.o.cells.2.2.2.2.2.2.2.1;rw[HR.o]at ao;rw[<-dx.o]at ao R;clear hi dv R eO du ey hL
  go_enter B6,B2
  go_wp2_with fail;rw[dx.o];clear ao;obtain⟨wA,bf⟩:=Af w0.drew
  have gA:w0.grownBy wA Y:=by rw[<-bf];exact Bm w0
  have HA:=zh (aP.o.u gA);have GA:=zh (Ab G0.o gA);have BA:=zh (HB.o.u (Ab G0.o gA) Δ);have RA:=zh (R0.o.u gA Δ);have dN:=zh bf;clear bf gA aP R0 HB;have ao:=HA.o.cells.2.2.2.2.1;have R:=HA.o.cells.2.2.2.2.2.2.2.1;rw[HR.o]at ao;refine AS (λ_=>True) (.am [] [0,1,2,3,4,5,6,7,8,9,10,11,12] 13 A5 (.nil)) Φ Φ ?_;rw[dN.o];refine Ap ?_
  iterate 13 refine Av ?_
  refine Aj ?_;rw[Ba eJ];refine Am ?_;intro K s;refine Aq s ?_;clear s K;refine AG (V ?_);clear ao R;go_wp2_with fail;refine(eP.o wA (eQ.o.u GA.o) (HD.o.u GA.o) (HC.o.u GA.o)).mono ?_;rintro m wI ⟨rfl,dB,fr,sI,eS,⟨fz,fs,ez,eT⟩,oI,eV⟩
  have ft:az=0:=by rw[<-aS.o,eV];rfl
  rw[aS.o]at ez;have bc:=BA.o.lt (λm=>by have:=kM AA m;rw[Hh]at this;exact e8 (km this));have ce:Hd (∀k,(J b5 l.length bd).ownBlock=A6 k->¬Bp (dB k)):=zh (λk hk=>by rw[sI.ak _ (bc k hk)];exact dJ.o k hk);have eW:=zh (sI.aN BA.o (λk hk=>dJ.o k hk));have eA:b Z.heap.size=0:=HC.o _ (jF _);have eX:=zh (sI.y RA.o (by rw[eA];unfold Bp;omega));have RC:Hd (dB Z.heap.size=0):=zh (by rw[sI.ak _ RA.o.lt];exact eA);have an:=zh ez;have LA:=zh eT;have SA:=zh ((Ad.u (C:=Bp) HC.o GA.o).trans sI);have DA:=zh eS;have OA:=zh oI;have bh:Hd (az+l.length<=Q):=zh (Ψ w.o);clear ez eT sI eS oI eV ft bc eA HA BA RA GA eQ eP;have HA:=an;have BA:=eW;have RA:=eX;clear an eW eX;generalize wI=wA at*;go_wp2_with fail;obtain⟨w1,ar⟩:=Af wA.drew
  have g1:wA.grownBy w1 Y:=by rw[<-ar];exact Bm wA
  have H1:=zh (HA.o.u g1);have G1:=zh g1;have cf:=zh ar;clear g1 ar;refine AS (λW=>W.cell? ⟨e,18,Y⟩=A6 (E O F)/\W.cell? ⟨e,19,Y⟩=A6 (E O az)) (.am [0,1,2,3,4,5,6,7,8,9,10] [] 11 BD (.am [] [] 12 A5 (.nil))) Φ Φ ?_;rw[cf.o];refine Dz ⟨H1.o.cells.2.2.2.2.2.2.1,H1.o.cells.2.2.2.2.2.2.2.1⟩ ?_
  iterate 11 ((apply AC rfl Θ;(· intro wS aC;(try have aC:=aC rfl);(try dsimp only at aC);(try(have fc:=aC.1;have fd:=aC.2));go_simp;(try with_reducible rfl)));refine Al ?_)
  refine Aj ?_;refine Aj ?_;refine Am ?_;intro K s;obtain⟨w2,aU⟩:=Af (w1.alloc (.cells #[E O 0,E O 0,E O 0] 128))
  have g2:w1.grownBy w2 Y:=by rw[<-aU];exact A7 _ _ Y
  have ch:Aa w2 w1.heap.size 128 [E O 0,E O 0,E O 0]:=by rw[<-aU];exact Aa.new _ _ _
  rw[aU];have H2:=zh (H1.o.u g2);have S:=zh ch;have G2:=zh (Ab G1.o g2);have HX:Hd (wA.heap.size<=w1.heap.size):=zh G1.o.size;clear aU g2 ch;generalize w1.heap.size=X at*;refine s _ _ ⟨_,λ_ t=>t,λ_=>⟨H2.o.cells.2.2.2.2.2.2.1,H2.o.cells.2.2.2.2.2.2.2.1⟩,?_⟩;clear s K;refine Al ?_;refine Ap ?_;refine Aj ?_;have f0:=S.o.v 0;have f1:=S.o.v 1;have f2:=S.o.v 2;have z0:=S.o.m 0;have z1:=S.o.m 1;have z2:=S.o.m 2;refine Am ?_;intro K s;obtain⟨w3,cj,b3,t3⟩:=Bq S.o (E O F) (E O az) (E O l.length);rw[cj];have t0:Ac (λ_=>False) wA w3:=(Ac.az G2.o).ag t3 (λq m=>Bk (by rw[m];exact HX.o));have H3:=zh (HA.o.ao t0 (λ_ _ t=>t) (λ_ _=>rfl));have D3:=zh (DA.o.ao t0 (λ_ _ t=>t) (λ_ _=>rfl));have S3:=zh (SA.o.trans (AL SA.o.new t0 (λk t=>t.elim)));have B3:=zh (t0.aN BA.o (λ_ _ t=>t));have R3:=zh (t0.y RA.o (λt=>t));have X3:=zh b3;have cs:Hd (dB X=0):=zh (SA.o.new X HX.o);have XR:Hd (X≠Z.heap.size):=zh (λm=>by have:=RA.o.lt;have:=HX.o;omega);clear f0 f1 f2 z0 z1 z2 cj b3 t3 t0;refine Aq s ?_;clear s K;refine AG (V ?_);clear H1 H2 HA DA SA BA RA S G1 G2 cf;go_wp2_with fail
  go_loopg [1] (a.rs+1) (λk s1 wr=>NC Z b e i a F az b4 (j+1) h l X Z.heap.size k s1 wr)
  case atStart=>
   refine⟨[],l,b5,bd,dB,fr,_,fs,rfl,rfl,B3.o,ce.o,H3.o,?_,⟨D3.o.mono Ω,S3.o,OA.o⟩,⟨X3.o,cs.o,R3.o,RC.o⟩,?_,jF _,eF⟩
   ·rw[OS];exact LA.o
   ·have z:=LA.o.fs P;have h2:=w.o;rw[y.o]at z⊢;rw[lT,mP, <-h2.2.2.1];omega
  case round=>
   obtain⟨aV,c,ya,D,dQ,aW,dR,r,rfl,ct,cu,cv,cw,cx,⟨cy,cz,cA⟩,⟨cB,cX,cD,cR⟩,aE,bt,bu⟩:=hrel;clear H3 D3 S3 B3 R3 X3 cs ce OA LA;have HI:=zh cw;have av:=zh cx;have bv:=zh cy;have aX:=zh cz;have bw:=zh cA;have BX:=zh cB;have G:=zh cD;have CX:=zh cX;have CR:=zh cR;have dS:=zh aE;have cF:=zh bt;have T:=zh ct;have bz:=zh cu;have cG:=zh cv;clear cw cx cy cz cA cB cD cX cR aE bt ct cu cv
   by_cases hy:c.length=0
   ·have dT:c=[]:=km hy;subst dT
    have dU:l=aV:=by have:=T.o;rw[lw]at this;exact this
    subst dU;have z0:=G.o.m 0;have z1:=G.o.m 1;have z2:=G.o.m 2;have x0:=BX.o.m 0;have x1:=BX.o.m 1;have x2:=BX.o.m 2;have f0:=G.o.v 0;have f1:=G.o.v 1;have f2:=G.o.v 2;go_wp2_with fail;obtain⟨wZ,hZ,bZ,tZ⟩:=Bq G.o (E O F) (E O az) (E O l.length);rw[hZ]
    have aN:(Cv b4 F l F).length=az+l.length:=by rw[Dp,jI];try rw[aS.o]
    have aH:=CR.o;refine Bs (BQ (p:=4) (ty:=128) rfl _ _ Z.heap.size _ _ _ _ rfl bZ nA rfl rfl) rfl ⟨rfl,dQ,aW,aX.o.bw tZ (λq m=>by rw[m];exact jF _),(bv.o.ao tZ (λq g m=>by rw[m,aH]at g;cases g) (λ_ _=>rfl)).mono (Ψ w.o),⟨dR,r,?_,av.o⟩,bw.o⟩;rw[aN];exact HI.o.ao tZ (λq g m=>by rw[m,aH]at g;cases g) (λ_ _=>rfl)
   ·have dy:A4 ((0:Int)<((c.length:Nat):Int))=BD:=jG Ω;have fh:A4 (0<c.length)=BD:=jG Ω;obtain⟨yb,yo,rfl,_⟩:=bz.o.bA Ω;obtain⟨N,hN⟩:=Af (min c.length (M - r.length))
    have cI:r.length<M:=by rw[<-y.o];exact av.o.fs P
    have aZ:N<=c.length:=Ω;have fi:N<=M - r.length:=Ω
    have ar:wrap64 ((M:Int) - ((r.length:Nat):Int))=((M - r.length:Nat):Int):=by have fj:=w.o;rw[Ax _ Ω];omega
    have d0:min ((c.length:Nat):Int) ((M - r.length:Nat):Int)=(N:Int):=Ω;have cJ:N=c.length\/N=M - r.length:=Ω;have a0:=zh cJ;have a1:=zh cI;clear hN cJ cI;obtain⟨d1,d2,rfl,d3⟩:=HI.o.aN;go_wp2_with fail;obtain⟨w4,bC⟩:=Af wr.drew
    have g4:wr.grownBy w4 Y:=by rw[<-bC];exact Bm wr
    have G4:=zh g4;have cL:=zh bC;have cM:=zh (HI.o.u g4);obtain⟨_,_,_,_,_,ax,_,R,ah⟩:=cM.o.cells;rw[y.o]at ax;clear g4 bC d3;refine AS (λ_=>True) (.am [] [0,1,2,3,4,5,6,7,8,9,10,11,12] 13 A5 (.nil)) Φ Φ ?_;rw[cL.o];refine Ap ?_
    iterate 13 refine Av ?_
    refine Aj ?_;rw[Ba ar];refine Am ?_;intro K s;refine Aq s ?_;clear s K;refine AG (V ?_);clear ax R ah ar d0;go_wp2_with fail;obtain⟨w5,bE⟩:=Af w4.drew;have g5:=Ab G4.o (show w4.grownBy w5 Y by rw[<-bE];exact Bm w4);have d5:=zh bE;have a3:=zh (HI.o.u g5);have cN:=zh (bv.o.u g5);have bF:=zh (aX.o.trans (Ad.u aX.o.new g5));have bG:=zh (BX.o.u g5 Δ);have bH:=zh (G.o.u g5 Δ);have a4:=zh (bz.o.u g5 Δ);have ah:=a3.o.cells.2.2.2.2.2.2.2.2;have fk:N<=D:=jM aZ bu;clear bE g5 HI bv aX BX G bz G4 cL cM;refine AS (λ_=>True) (.am [] [0,1,2,3,4,5,6,7] 8 BD (.am [] [9,10] 11 A5 (.nil))) Φ Φ ?_;rw[d5.o];refine Ap ?_
    iterate 8 refine Av ?_
    refine Aj ?_;obtain⟨i0,cO,cP,cQ,cS⟩:=B1 GK;have cT:=a4.o.f0 aZ D;refine AE rfl (λK s=>?_);refine Gh Θ _ _ 64 Θ 0 5 i0 _ 1 1 kY cO cP cQ cS rfl Ξ (v:=J d1 r.length d2) Θ a3.o.aS Θ cT (λu hu=>by obtain⟨x,_,rfl⟩:=lB.1 hu;rfl) (by have:=w.o;have:=a1.o;unfold B9;omega) (by have:=w.o;have:=a1.o;omega) (ke _) ?_;intro fl w6 o6 g6 l6;obtain⟨la,lc,rfl⟩:=(Ag.ai o6).slice
    have bJ:(r++c.take N).length=r.length+N:=by rw[jI,jW];omega
    have cY:w6.ownsRow 0 5 1 (J la (r.length+N) lc) (r++c.take N).length (Ar (r++c.take N)):=by
     rw[bJ,JK];exact o6
    obtain⟨aj,B,b6,h7⟩:=a3.o.bK bF.o.new g6 cY l6;have d8:=b6.v 20;have d9:=b6.m 20;obtain⟨w7,bM⟩:=Af (w6.setCell ⟨e,20,Y⟩ (J la (r.length+N) lc));rw[bM]at B h7;have ay:=zh h7;have bN:=zh (bF.o.trans (B.mono (λq g=>(Bk g:Bp q))));have c0:=zh (cN.o.ag B Ω);have c1:=zh (B.y bG.o (by rw[CX.o];omega));have c2:=zh (B.y bH.o (by rw[CR.o];omega));have bO:Hd (aj X=0):=zh (by rw[B.ak _ bG.o.lt];exact CX.o);have a5:Hd (aj Z.heap.size=0):=zh (by rw[B.ak _ bH.o.lt];exact CR.o)
    have ea:c≠[]:=λm=>hy (by rw[m];rfl)
    have bP:=cG.o yb rfl;have bQ:=a4.o.lt (λm=>by have:=kM AA m;rw[Hh]at this;exact hy this) yb rfl;have c3:=zh (B.aN a4.o (λq g m=>by cases g;exact bP (Bk m)));have bR:Hd (¬Bp (aj yb)):=zh (by rw[B.ak _ bQ];exact bP);have eb:=zh bM;have fm:=zh bJ;have ec:=zh (jJ bQ B.aQ);clear B h7 bM b6 o6 g6 l6 cY bJ cT cO cP cQ cS bP bQ ea ah a3 bF cN bG bH a4 CX CR cG;refine s _ _ ⟨λ_=>True,λ_ t=>t,λ_=>ki,?_⟩;clear s K;refine Al ?_;refine Ap ?_
    iterate 2 refine Av ?_
    refine Aj ?_;refine Am ?_;intro K s;rw[eb.o];refine Aq s ?_;clear s K;refine AG (V ?_);clear d8 d9;obtain⟨A,hA⟩:=Af (az+aV.length)
    have fn:A<=100000:=by
     have z:=kM AA T.o;rw[jI]at z;have:=w.o;have:=bh.o;omega
    have an:=zh hA;rw[hA]at ay;have R:=ay.o.cells.2.2.2.2.2.2.2.1;have ed:=ay.o.y.v 19;have ee:wrap64 ((A:Int)+(N:Int))=(A:Int)+(N:Int):=Ax _ (Ψ w.o);obtain⟨w8,bT⟩:=Af (w7.setCell ⟨e,19,Y⟩ (E O ((A:Int)+(N:Int))));have h8:Bf (w7.setCell ⟨e,19,Y⟩ (E O ((A:Int)+(N:Int)))) aj e i a F (A+N) (J la (r.length+N) lc) (r++c.take N):=ay.o.fZ (A+N);have U:=Hn (C:=λq=>q=4) bN.o.new (g:=e) (o:=19) (E O ((A:Int)+(N:Int))) ay.o.c0;rw[bT]at h8 U;have c4:=zh h8;have bV:=zh (bN.o.trans (U.mono (λq g=>(Bk g:Bp q))));have c5:=zh (c0.o.ag U Ω);have c6:=zh (U.y c1.o (by rw[bO.o];omega));have c7:=zh (U.y c2.o (by rw[a5.o];omega));have c8:=zh (U.aN c3.o (λq g m=>by cases g;exact bR.o (Bk m)));have c9:=zh bT;have ef:=zh (jJ ec.o U.aQ);clear h8 U bT hA ay bN c0 c1 c2 c3;obtain⟨aa,ak⟩:∃aa:Option Addr,(if D=N then A6 (⟨yb,yo,Y⟩:Addr)else A6 ⟨yb,yo+N,Y⟩)=aa:=⟨_,rfl⟩
    have bW:Hd (Ag w8 1 (J aa (c.drop N).length (D - N)) (c.drop N).length (Ar (c.drop N))):=by
     rw[<-ak]
     split
     ·next eg=>
      have eh:c.drop N=[]:=lR (by rw[<-eg];exact bu);rw[eh];exact zh ⟨rfl,ke _,Bk ⟨_,_,rfl,λt=>absurd rfl t,λq u g=>by simp[Ar]at g⟩⟩
     ·exact zh (c8.o.f4 aZ (D - N))
    have da:Hd (∀q,(J aa (c.drop N).length (D - N)).ownBlock=A6 q->¬Bp (aj q)):=by
     refine zh (λq g=>?_)
     have ei:yb=q:=by
      rw[<-ak]at g
      split at g<;>exact jV g
     rw[<-ei];exact bR.o
    have HJ:Hd (∀q,(J aa (c.length - N) (D - N)).ownBlock=A6 q->yb=q):=by
     refine zh (λq g=>?_);rw[<-ak]at g
     split at g<;>exact jV g
    have ab:(c.drop N).length=c.length - N:=j0;rw[ab]at bW da;have ek:=zh ak;clear ab c8 ak;have ak:=ek.o;go_wp2_with fail;rw[c9.o];clear ak R ed ee c9;obtain⟨w9,bX⟩:=Af w8.drew
    have g9:w8.grownBy w9 Y:=by rw[<-bX];exact Bm w8
    have el:=zh bX;have a7:=zh (c4.o.u g9);have dc:=zh (c5.o.u g9);have bY:=zh (bV.o.trans (Ad.u bV.o.new g9));have aK:=zh (c6.o.u g9 Δ);have I:=zh (c7.o.u g9 Δ);have em:=zh (bW.o.u g9 Δ);have ax:=a7.o.cells.2.2.2.2.2.1;have ah:=a7.o.cells.2.2.2.2.2.2.2.2;rw[y.o]at ax;have en:=zh (jJ ef.o g9.size);clear bX g9 c4 c5 bV c6 c7 bW
    have dd:∀x∈c,x<256:=λx hx=>eN.o x (by rw[T.o];exact lG _ hx)
    have de:(Cv b4 F aV F).length=A:=by rw[Dp,jI];(try rw[aS.o]);exact an.o
    have b0:=zh dd;have a8:=zh de;clear dd de;obtain⟨aM,hZ⟩:=Af (r.length+N);rw[hZ]at ah;have HZ:=zh hZ;refine AS (λ_=>True) (.am [] [0,1,2,3,4,5,6,7,8] 9 A5 (.nil)) Φ Φ ?_;rw[el.o];refine Ap ?_
    by_cases bc:aM<M
    ·have eo:A4 ((aM:Int)<(M:Int))=BD:=jG Ω;have d6:A4 (aM<M)=BD:=jG bc
     have eq:Hd (Bf w9 aj e i a F (az+l.length) (J la (r.length+N) lc) (r++c)):=by
      have z:c.take N=c:=lf (Ψ a0.o)
      have h2:az+l.length=A+N:=by
       have h3:=kM AA T.o;rw[jI]at h3;have:=a0.o;have:=an.o;omega
      rw[h2];have h4:=a7;rw[z]at h4;exact h4
     have er:Hd (Cx a F (r++c) (Cv b4 F l) aW):=by
      have z:=av.o.fj P c b0.o (by rw[y.o];have:=a0.o;omega) (by have h3:=kM AA T.o;rw[jI]at h3;rw[a8.o,HR.o];have:=bh.o;have:=an.o;omega);rw[Mz, <-T.o]at z;exact zh z
     iterate 9 refine Av ?_
     refine Aj ?_;refine Am ?_;intro K s;refine Aq s ?_;clear s K;refine AG (V ?_);clear ax ah;have z0:=I.o.m 0;have z1:=I.o.m 1;have z2:=I.o.m 2;have x0:=aK.o.m 0;have x1:=aK.o.m 1;have x2:=aK.o.m 2;have f0:=I.o.v 0;have f1:=I.o.v 1;have f2:=I.o.v 2;go_wp2_with fail;obtain⟨wZ,hZ,bZ,tZ⟩:=Bq I.o (E O F) (E O az) (E O l.length);rw[hZ]
     have aN:(Cv b4 F l F).length=az+l.length:=by rw[Dp,jI];try rw[aS.o]
     have aH:=a5.o;refine Bs (BQ (p:=4) (ty:=128) rfl _ _ Z.heap.size _ _ _ _ rfl bZ nA rfl rfl) rfl ⟨rfl,aj,aW,bY.o.bw tZ (λq m=>by rw[m];exact jF _),(dc.o.ao tZ (λq g m=>by rw[m,aH]at g;cases g) (λ_ _=>rfl)).mono (Ψ w.o),⟨(J la (r.length+N) lc),_,?_,er.o⟩,bw.o⟩;rw[aN];exact eq.o.ao tZ (λq g m=>by rw[m,aH]at g;cases g) (λ_ _=>rfl)
    ·have eo:A4 ((aM:Int)<(M:Int))=A5:=jH Ω;have d6:A4 (aM<M)=A5:=jH bc
     iterate 9 refine Av ?_
     refine Aj ?_;refine Am ?_;intro K s;refine Aq s ?_;clear s K;refine AG (V ?_);clear ax ah
     have es:r.length+N=M:=by have:=a0.o;have:=a1.o;omega
     have a9:(c.take N).length=N:=ql aZ
     have aO:0<M:=by have:=w.o;omega
     have fp:r.length=A%M:=by have z:=av.o.dS;rw[a8.o,y.o]at z;exact z
     have et:=PA (L:=A) (k:=N) aO Ω
     have b1:A+N<=a.aA:=by
      have h3:=kM AA T.o;rw[jI]at h3;have:=bh.o;have:=an.o;rw[HR.o];omega
     have dg:A/M<a.rs:=by
      obtain⟨_,h2⟩:=JW (L:=A) (k:=N) aO Ω;have h3:=w.o.2.2.1;refine JP (P:=a) aO (L:=A+N) ?_ (nU h2);rw[<-h3, <-HR.o];exact b1
     have eu:∀x∈r++c.take N,x<256:=λx hx=>by
      rcases kI.1 hx with m|m
      ·exact av.o.gt x m
      ·exact b0.o x (lD m)
     go_wp2_with fail;refine(Of a7.o dc.o bY.o.new P (by have:=w.o;have:=cF.o;omega) (Ψ w.o) (A/M) dg (Ψ a1.o) (by rw[y.o];exact et) b1 (by rw[jI,a9,y.o];omega) eu).mono ?_;rintro m wB ⟨rfl,ba,sB,dh,di⟩;have b2:=av.o.gF P (c.take N) (λx hx=>b0.o x (lD hx)) (by rw[a9,y.o];exact es) (by rw[a8.o,a9];exact b1);rw[Mz,a8.o,y.o]at b2
     have dj:ba X=0:=by rw[sB.ak _ aK.o.lt];exact bO.o
     have dk:ba Z.heap.size=0:=by rw[sB.ak _ I.o.lt];exact a5.o
     have n0:¬Bp 0:=by unfold Bp;omega
     have dl:=sB.y aK.o (by rw[bO.o];exact n0);have dm:=sB.y I.o (by rw[a5.o];exact n0);have dn:=sB.aN em.o (λq g=>da.o q g);have dp:=bY.o.trans sB;have dq:=bw.o.trans (Ea.cX (q:=F) P aW dg (Cd a.n 3 (BY a F (A/M)) F (r++c.take N)))
     have dr:∀q,(J aa (c.length - N) (D - N)).ownBlock=A6 q->¬Bp (ba q):=λq g=>by rw[<-HJ.o q g,sB.ak _ en.o];exact bR.o
     have aE:=dS.o;have bt:=cF.o;obtain⟨ds,rfl⟩:∃g',gk=g'+1:=⟨gk - 1,by rcases gk with _|n;(· simp at aE);omega⟩
     have ex:Hd (NC Z b e i a F az b4 (j+1) h l X Z.heap.size ds (J aa (c.length - N) (D - N)) wB):=by
      have ab:(c.drop N).length=c.length - N:=j0;refine zh ⟨aV++c.take N,c.drop N,aa,D - N,ba,_,J Y 0 0,[],by rw[ab],?_,by rw[ab];exact dn,by rw[ab];exact dr,?_,b2,⟨di.mono Ω,dp,dq⟩,⟨dl,dj,dm,dk⟩,?_,Ω,by rw[ab];exact BB bu N⟩
      ·rw[kK,kF];exact T.o
      ·rw[jI,a9, <-kO,an.o];exact dh
      ·rw[ab,y.o];rw[y.o,lT,mP]at aE;simp only[kA];omega
     clear b2 dj dk n0 dl dm dn dp dq dr sB dh di;go_wp2_with fail
     go_roundg ds
     case measure=>omega
     case rel=>exact ex.o
end
