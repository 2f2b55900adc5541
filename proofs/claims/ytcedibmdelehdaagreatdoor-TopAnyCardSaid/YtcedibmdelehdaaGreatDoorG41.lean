/- Lemmas. -/
import Derived.Test.YtcedibmdelehdaaGreatDoorG01
import Derived.Test.YtcedibmdelehdaaGreatDoorG40
namespace Go.Proofs.YtcedibmdelehdaaGreatDoor
set_option maxRecDepth 100000
set_option maxHeartbeats 32000000
open And renaming intro->O
open Option renaming none->V,some->AA
open Go.Value renaming slice->Ax,int->A3,pointer->A4
open Go renaming callsIn_wide->A5,World->Bx,wpQuiet_nil->BL,wpIn_wide->B1,results_none->B7,bodyPost_ret->B8,Calls->CR
open Go.IntKind renaming i64->A6
open Decidable renaming decide->A7
open Go.Proofs.Tryz renaming prog->BA,func258->B9,ntmps281->CA,ntmps258->CB,func281->CE,func280->CK
open Bool renaming false->BC,true->B5
open Go.World renaming block_lt_of_cell?->BD
open Go.IntWalk renaming wrap64_in->BR
open Go.Ending renaming returned->BX
open Go.RowKit renaming wrap64->BZ
open Or renaming inr->B0,inl->CV
open Nat renaming add_lt_add_left->B2,reduceSub->B3,reduceAdd->B4
variable{f a b e g i j k l r s t w x z:Nat}{h:Int->List Nat}{E o p:Bx}{J q:Ae}{Y n:List Ai}{Z:Ai}{c:As}{d:Pl}
section
open Go Go.RowKit Go.Shelf
theorem cG(a:List Int):∀u∈a.map (A3 A6),u.oneCell'=B5:=by
 intro u b;obtain⟨i,_,rfl⟩:=lB.1 b;rfl
theorem Yp(b:List Int)(a:Option Addr)(c:Nat)(w:Bx)(C:b.length<=100000)(d:Ag w 1 (Ax a b.length c) b.length (b.map (A3 A6))):
  CR BA 281 #[Ax a b.length c] w λe g=>∃i j,e=BX (Ax i b.length j)/\g.ownsRow w.heap.size 3 1 (Ax i b.length j) b.length (b.map (A3 A6))/\w.grownBy g V:=by
 obtain⟨o,p,q,r,s⟩:=info_parts Tr
 cases a with
 |none=>
  have t:=Lib.run_eql_slice_nil (P:=BA)
  have u:b=[]:=by
   rcases d.2.2 with⟨_,h⟩|⟨k,D,h,_⟩
   ·exact km h
   ·simp at h
  subst u;clear d
  go_enter CE,CA
  go_wp2;go_ret;exact⟨V,0,rfl,World.ownsRow_nil _ _ _ _,Bo _ _⟩
 |some k=>
  have t:=Lib.run_eql_slice_nil (P:=BA);have x:=zh d;clear d
  go_enter CE,CA
  go_wp2_with (at_builtin;refine Gg rfl _ _ 145 rfl w.heap.size 3 o (A3 A6 0) 1 8 mA p q r s rfl Ξ (v:=Ax (AA ⟨w.heap.size,0,V⟩) 0 0) (n:=0) (xs:=[]) (sv:=Ax (AA k) b.length c) rfl (World.ownsRow_made w #[] 0 (jF _) Δ Δ) rfl (x.o.alloc _) (cG b) (by unfold maxLen;omega) Ω Δ ?_;intro E F f l _;simp only[lN,jX]at f;have m:=Ag.ai f;obtain⟨y,z,rfl⟩:=m.slice;have A:=zh f;have B:=zh (JH l);clear f l m);go_ret;exact⟨y,z,rfl,A.o,B.o⟩
theorem YP(b:List Int)(i:Nat)(a:Option Addr)(c:Nat)(w:Bx)(A:b.length<=100000)(l:b≠[])(m:w.ownsRow i 3 1 (Ax a b.length c) b.length (b.map (A3 A6)))(o:b.mergeSort (λx y=>A7 (x<=y))=b):
  CR BA 282 #[Ax a b.length c] w λe d=>e=BX (.tuple #[])/\d.ownsRow i 3 1 (Ax a b.length c) b.length (b.map (A3 A6))/\w.grownBy d (Ax a b.length c).ownBlock:=by
 rcases m.2 with⟨_,h⟩|⟨g,B,C,p,q,f,r,s,t,j⟩
 ·exact absurd (km h) l
 ·injection p with u _ v;subst u;subst v;rw[mj]at j;have z:=(jR.1 f).1
  have k:=calls_of_every_depth λD=>AnySM.slices_Sort_int_in iP D g 0 c b w (holds_of_blockI f j) z Ω
  rw[o]at k;refine k.mono ?_;rintro e d ⟨rfl,n,E,rfl⟩;exact⟨rfl,ownsRow_sortedI rfl q f r s t,grownBy_sortedI _⟩
end
section
open Go Go.RowKit Go.Shelf
attribute [local go_sem] Oper.semAt_some
theorem TB(h:f<b):((EM a b).map (A3 A6))[f]?=AA (A3 A6 ((a+f:Nat):Int)):=by
 rw[lh,Lg _ _ _ h];rfl
structure ED where
 p:Nat
 X:Nat
 n:Nat
 g:Nat
 o:Nat
 c:Nat
abbrev Pu(x:ED):Array Value:=#[A3 A6 x.p,Ax (AA ⟨x.g,x.o,V⟩) x.n x.c]
def CW(l:List ED):Nat:=(l.map ED.n).sum
theorem Ph(l:List ED)(x:ED):CW (l++[x])=CW l+x.n:=by simp[CW]
def Qa(a m b:Nat)(d:List ED)(x:ED)(W:Bx)(_:Unit)(c:Ae):Prop:=
 x.X=CW d/\1<=x.n/\x.X+x.n<=m/\(∀j,j<x.n->(a+(x.X+j))/b=x.p)/\c x.g=0/\x.n<=x.c/\∀j,j<x.n->W.cell? ⟨x.g,x.o+j,V⟩=AA (A3 A6 ((a+(x.X+j):Nat):Int))
def i8(a D b:Nat)(_:Unit)(_:Ae)(W:Bx):Prop:=W.cell? ⟨a,0,V⟩=AA (A4 (AA ⟨D,0,V⟩))/\W.cell? ⟨D,1,V⟩=AA (A3 A6 b)
def jm(b d m:Nat)(_:Ae)(W:Bx):Prop:=∃a c,W.cell? ⟨b,0,V⟩=AA (Ax a m c)/\Ag W 1 (Ax a m c) m ((EM d m).map (A3 A6))
theorem VH(D:Nat)(b:Option Addr)(c d:Nat)(w:Bx):
  CR BA 259 #[A4 (AA ⟨D,0,V⟩),Ax b c d] w λe a=>e=BX (.func (.func 280) #[] #[A4 (AA ⟨w.heap.size+1,0,V⟩),A4 (AA ⟨w.heap.size,0,V⟩)])/\
   w.grownBy a V/\a.heap.size=w.heap.size+2/\Aa a w.heap.size 161 [A4 (AA ⟨D,0,V⟩)]/\Aa a (w.heap.size+1) 145 [Ax b c d]:=by
 obtain⟨h,n,i,j⟩:=An w 161 [A4 (AA ⟨D,0,V⟩)]
 have k:h.heap.size=w.heap.size+1:=by rw[<-n];simp
 obtain⟨o,p,f,g⟩:=An h 145 [Ax b c d]
 have l:o.heap.size=w.heap.size+2:=by rw[<-p];simp[k]
 rw[k]at g;have m:=j.u f Δ;have q:=zh (O (Ab i f) (O l (O m g)));clear i j f g l m
 go_enter Tryz.func259,Tryz.ntmps259
 go_wp2;go_ret;exact⟨rfl,q.o⟩
theorem TU{N k:Nat}(h:k<N)(b:N<=100000):A3 A6 (BZ ((k:Int)+1))=A3 A6 ((k+1:Nat):Int)/\N - (intOf (A3 A6 (BZ ((k:Int)+1)))).toNat<N - (intOf (A3 A6 (k:Int))).toNat:=by
 have a:BZ ((k:Int)+1)=((k+1:Nat):Int):=by rw[BR _ Ω];rfl
 rw[a];refine⟨rfl,?_⟩;simp only[intOf,jS];omega
theorem Uu(h:f<=a)(k:a<b):f<b+1:=Ω
theorem Zt{R:Nat}(h:f - a=R)(c:b<R):a+b<f:=Ω
theorem Tb{N R:Nat}{d:List ED}{l:Unit->Ae->List ED->Bx->Prop}(h:1<=N/\f+N<=b/\b - f=R/\d.length<=f/\N<=R/\R<=e/\f<b)(p:CW d=f)(q:l () J (d++[⟨i,f,N,a,f,e⟩]) E)(m:J a=0/\a<E.heap.size)
  (r:∀j,j<b->E.cell? ⟨a,j,V⟩=AA (A3 A6 ((g+j:Nat):Int))):
  ∃c d k n o,Ax (if e=N then AA ⟨a,f,V⟩else AA ⟨a,f+N,V⟩) (R - N) (e - N)=Ax n (b - k) o/\k<=b/\CW d=k/\d.length<=k/\l () c d E/\(k<b->n=AA ⟨a,k,V⟩/\b - k<=o)/\c a=0/\a<E.heap.size/\∀j,j<b->E.cell? ⟨a,j,V⟩=AA (A3 A6 ((g+j:Nat):Int)):=by
 refine⟨J,_,f+N,(if e=N then AA ⟨a,f,V⟩else AA ⟨a,f+N,V⟩),e - N,?_,h.2.1,by rw[Ph,p],by rw[jI,lr];omega,q,?_,m.1,m.2,r⟩
 ·rw[show b - (f+N)=R - N by omega]
 ·intro s;rw[jN Ω];exact⟨rfl,Ω⟩
theorem SR{N R:Nat}{c:List ED}(h:1<=N/\f+N<=a/\a - f=R/\c.length<=f/\N<=R/\R<=b/\f<a):R - N<R:=Ω
def Jv(b m a X:Nat):Nat:=min (m - X) (a - (b+X)%a)
theorem fS{lo m X:Nat}(c:0<f)(g:X<m):1<=Jv lo m f X/\X+Jv lo m f X<=m/\(∀j,j<Jv lo m f X->(lo+(X+j))/f=(lo+X)/f)/\(X+Jv lo m f X<m->(lo+(X+Jv lo m f X))/f≠(lo+X)/f):=by
 have h:=lE (lo+X) f;have i:=lA (lo+X) c;unfold Jv;generalize(lo+X)%f=b at*;generalize(lo+X)/f=a at*
 have k:(a+1)*f=a*f+f:=by rw[lT,mP]
 rw[lp]at h;generalize d:a*f=l at*;refine⟨Ω,Ω,λj n=>?_,λo=>?_⟩
 ·rw[qp c,d];omega
 ·intro e;rw[qp c,d]at e;omega
theorem VR(fn Bs Bd D r b m:Nat)(hn:1<=fn)(hp:0<r)(b0:r<=1000)(b1:1<=m)(hm:b+m<=100000)(C:Nat->Prop)(aU:¬C 0):
  Kf Fence.wide fn BA 280 #[A4 (AA ⟨Bs,0,V⟩),A4 (AA ⟨Bd,0,V⟩)] Pu C (i8 Bd D r) (Qa b m r) (λxs=>CW xs=m) (m+1) (jm Bs b m):=by
 intro l J Jx W m0 aj hJ bv b5 hA hY h0 hB;obtain⟨sa,sc,bA,aZ⟩:=hB;have HA:=zh hA;have HJ:=zh hJ;have HY:=zh hY;have H0:=zh h0;have a2:=zh aZ;have hz:((r:Int)==0)=BC:=Γ;have b7:¬r=0:=Ω;have G:=zh (Jd b m);clear hA hJ bv hY h0 aZ;refine callsIn_of_wp CK rfl ki ?_ rfl;simp only[Tryz.ntmps280,kB,jT,kA,B4,B3,kf,kh,kJ,kr,jX,ku];have Y:=Yp (EM b m) sa sc W (by rw[G.o];omega) (by rw[G.o];exact a2.o);rw[G.o]at Y;have a3:=zh Y;clear Y
 gi_wp2_with (refine⟨ki,?_⟩;gi_at_call 281;refine(A5.2 a3.o).mono ?_;rintro e w1 ⟨a1,c1,rfl,o1,g1⟩)
 have ax:=YP (EM b m) W.heap.size a1 c1 w1 (by rw[G.o];omega) (λe=>by have:=G.o;rw[e]at this;simp at this;omega) (by rw[G.o];exact o1) (Xy b m);rw[G.o]at ax;have a6:=zh ax;have O1:=zh o1;have G1:=zh g1;clear ax o1 g1
 gi_wp2_with (refine⟨ki,?_⟩;gi_at_call 282;refine(A5.2 a6.o).mono ?_;rintro e w2 ⟨rfl,Q,g2⟩)
 have g3:=DT G1.o O1.o (jF _) g2;obtain⟨g,o,rfl,H⟩:=(Ag.ai Q).bA Ω
 have bD:o=0:=by
  rcases Q.2 with⟨h,_⟩|⟨_,_,_,h,_⟩
  ·cases h
  ·injection h with Z _ _;injection Z with Z;injection Z
 subst bD
 have bb:m<=c1:=by
  rcases Q.2 with⟨h,_⟩|⟨_,_,_,h,_,_,h5,_⟩
  ·cases h
  ·injection h with _ _ h3;rw[h3];exact h5
 have bc:=HJ.o _ _ _ _ _ H0.o g3;have aa:aj g=0:=(HA.o _ _ _ _ H0.o).2 g (Q.lt g rfl).1;have ST:=zh (show J () aj [] w2/\aj g=0/\g<w2.heap.size/\∀j,j<m->w2.cell? ⟨g,j,V⟩=AA (A3 A6 ((b+j:Nat):Int))from⟨bc,aa,(Q.lt g rfl).2,λj d=>by have:=H j _ (TB d);rwa[lN]at this⟩);have bG:=zh bb;clear g2 g3 H bc aa Q G1 O1 a6 bA H0 a2 a3 bb
 gi_loopw [4] (λv wr=>∃c u X av f,v=Ax av (m - X) f/\X<=m/\CW u=X/\u.length<=X/\J () c u wr/\(X<m->av=AA ⟨g,X,V⟩/\m - X<=f)/\c g=0/\g<wr.heap.size/\∀j,j<m->wr.cell? ⟨g,j,V⟩=AA (A3 A6 ((b+j:Nat):Int)))
  (λv _=>match v with|Ax _ n _=>n|_=>0)
 case atStart=>exact⟨aj,[],0,_,_,rfl,ke _,rfl,jF _,ST.o.1,λ_=>⟨rfl,bG.o⟩,ST.o.2⟩
 case round=>
  obtain⟨c,u,X,av,f,rfl,hX,ak,bd,d,aB,aa,be,H⟩:=hrel;clear ST
  by_cases he:X=m
  ·subst he;have d0:A7 ((0:Int)<((X - X:Nat):Int))=BC:=jH Ω;have bJ:A7 (0<X - X)=BC:=jH Ω;have al:=zh d;have S:=zh ak;clear d ak aB H
   gi_wp2
   go_end0
   exact⟨⟨_,rfl⟩,c,CV ⟨(),u,S.o,al.o⟩⟩
  ·obtain⟨rfl,aC⟩:=aB Ω;obtain⟨⟨w,x⟩,Y⟩:=HA.o _ _ _ _ d;obtain⟨n1,n2,n3,n4⟩:=fS (m:=m) hp (lo:=b) (X:=X) Ω;obtain⟨N,hN⟩:=Af (Jv b m r X);rw[hN]at n1 n2 n3 n4;obtain⟨R,hR⟩:=Af (m - X);obtain⟨p,ao⟩:=Af ((b+X)/r);rw[ao]at n3 n4;rw[hR]at aC⊢
   have aG:∀j,j<R->BZ (((b+(X+j):Nat):Int)/(r:Int))=(((b+(X+j))/r:Nat):Int):=λj d=>by
    rw[<-nV];exact Ed (jM (mN _ _) Ω)
   have q0:BZ (((b+X:Nat):Int)/(r:Int))=(p:Int):=by have:=aG 0 Ω;rw[kU,ao]at this;exact this
   have bi:p<=100000:=by rw[<-ao];exact jM (mN _ _) Ω
   have d0:A7 ((0:Int)<(R:Int))=B5:=jG Ω;have bJ:A7 (0<R)=B5:=jG Ω;have al:=zh d;have a:=zh (show 1<=N/\X+N<=m/\m - X=R/\u.length<=X/\N<=R/\R<=f/\X<m from⟨n1,n2,hR,bd,Ω,aC,Ω⟩);have ap:=zh (O n3 n4);have bj:=zh aG;have S:=zh ak;have T:=zh H;have z:=zh (O aa be);have b8:=zh bi;have HK:=zh (O w x);have s:=H X Ω;obtain⟨A,aH⟩:=Af (b+X);rw[aH]at s q0;have q1:=Ba q0;have ca:=zh aH;clear aH;have cb:0<R:=Ω;have e0:=AJ s;have e1:=AJ w;have e2:=AJ x;clear hN hR ao n1 n2 n3 n4 aG ak H aa be d Y bd hX he aC bi s w x aB
   gi_wp2
   refine B1.2 ?_;refine Cb Φ Φ ?_
   repeat(go_big_quiet_step (fail))
   refine BL ?_;rintro _ ⟨q,rfl⟩;have g4:=Bu q;generalize gw q=w4 at*;clear e0 e1 e2 q;have bm:=zh g4;clear g4
   gi_wp2
   gi_loopw [6] (λi bK=>∃k:Nat,i=A3 A6 k/\1<=k/\k<=N/\wr.grownBy bK V) (λi _=>N - (intOf i).toNat)
   case atStart=>exact⟨1,rfl,jF _,a.o.1,bm.o⟩
   case round=>
    obtain⟨k,rfl,aq,aI,B⟩:=hrel;clear bm;have aJ:=zh B;have w:=B.cell HK.o.1 Δ;have x:=B.cell HK.o.2 Δ
    by_cases U:k<N
    ·have d1:A7 ((k:Int)<(R:Int))=B5:=jG (Ψ a.o);have bo:A7 (k<R)=B5:=jG (Ψ a.o)
     have I:k<R:=by have:=a.o;omega
     obtain⟨Bk,ae⟩:=Af (b+(X+k));have s:=B.cell (T.o (X+k) (Ψ a.o)) Δ;have K:=bj.o k I;rw[ap.o.1 k U]at K;rw[ae]at s K;have q3:=Ba K;have e0:=AJ s;have e1:=AJ w;have e2:=AJ x;have bM:=zh (show k+1<=N/\1<=k from⟨U,aq⟩);have bq:=zh (TU (k:=k) U (Ψ a.o));clear ae s w x B U aq aI
     gi_wp2
     refine B1.2 ?_;refine Cb Φ Φ ?_
     repeat(go_big_quiet_step (fail))
     refine BL ?_;rintro _ ⟨q,rfl⟩;have E:=Ab aJ.o (Bu q);generalize gw q=F at*;clear e0 e1 e2 q;have t:=zh E;clear E
     gi_wp2
     go_roundw
     case rel=>exact⟨k+1,bq.o.1,Nat.le_add_left 1 k,bM.o.1,t.o⟩
     case measure=>exact bq.o.2
    ·obtain rfl:k=N:=by omega
     by_cases aK:k=R
     ·have d1:A7 ((k:Int)<(R:Int))=BC:=jH Ω;have bo:A7 (k<R)=BC:=jH Ω;clear aK;clear B U aq aI w x
      gi_wp2
      refine B1.2 ?_;refine Cb Φ Φ ?_
      repeat(go_big_quiet_step (fail))
      refine BL ?_;rintro _ ⟨q,rfl⟩;have E:=Ab aJ.o (Bu q);generalize gw q=F at*;clear q;have t:=zh E;clear E;have aL:=zh (HJ.o _ _ _ _ _ al.o t.o);have L:Qa b m r u ⟨p,X,k,g,X,f⟩ F () c:=⟨S.o.symm,a.o.1,a.o.2.1,ap.o.1,z.o.1,jM a.o.2.2.2.2.1 a.o.2.2.2.2.2.1,λj d=>t.o.cell (T.o (X+j) (jJ (B2 d X) a.o.2.1)) Δ⟩;obtain⟨bN,bO,bP,bQ,hy,M⟩:=HY.o () c u ⟨p,X,k,g,X,f⟩ F aL.o (Uu a.o.2.2.2.1 a.o.2.2.2.2.2.2) L;dsimp only[Pu]at hy;have bR:(k:Int)<=(f:Int):=oJ.2 (jM a.o.2.2.2.2.1 a.o.2.2.2.2.2.1);have bS:(k:Int)<=(R:Int):=oJ.2 a.o.2.2.2.2.1;have bT:(R:Int)<=(f:Int):=oJ.2 a.o.2.2.2.2.2.1;have bU:k<=f:=jM a.o.2.2.2.2.1 a.o.2.2.2.2.2.1;have bV:k<=R:=a.o.2.2.2.2.1;have bW:R<=f:=a.o.2.2.2.2.2.1;have bX:=zh L;clear L
      gi_wp2
      clear hy;refine M.mono ?_;rintro e W4 ⟨c4,y,(⟨rfl,⟨⟩,ah⟩|⟨rfl,aM⟩)⟩
      ·have P:g<F.heap.size:=jJ z.o.2 t.o.size;have ai:c4 g=0:=(y.ak g P).trans z.o.1;have aN:=zh (λj (d:j<m)=>y.ap (t.o.cell (T.o j d) Δ) (show¬C (c g) by rw[z.o.1];exact aU));have aO:=zh (O ai (jJ P y.aQ));have J4:=zh ah;clear y ah P ai M
       gi_wp2
       go_roundw
       case rel=>exact Tb a.o S.o J4.o aO.o aN.o
       case measure=>exact SR a.o
      ·clear M
       gi_wp2
       refine B8 (B7 rfl _ _ _) rfl ?_;exact⟨⟨_,rfl⟩,c4,B0 aM⟩
     ·have I:k<R:=Nat.lt_of_le_of_ne a.o.2.2.2.2.1 aK;have d1:A7 ((k:Int)<(R:Int))=B5:=jG (Int.ofNat_lt.2 I);have bo:A7 (k<R)=B5:=jG I;obtain⟨Bk,ae⟩:=Af (b+(X+k))
      have aQ:X+k<m:=by have Z:=a.o.2.2.1;have h2:=a.o.2.2.2.2.2.2;exact(Zt Z I)
      have s:=B.cell (T.o (X+k) aQ) Δ;have K:=bj.o k I;have ar:=ap.o.2 aQ;rw[ae]at s K ar;obtain⟨Qk,bs⟩:=Af (Bk/r);rw[bs]at K ar;have q3:=Ba K
      have dq:((Qk:Int)==(p:Int))=BC:=by rw[kN];exact λe=>ar (Int.ofNat_inj.1 e)
      have cf:(Qk==p)=BC:=by rw[kN];exact ar
      have e0:=AJ s;have e1:=AJ w;have e2:=AJ x;clear ae bs s aQ aK;clear B U aq aI w x
      gi_wp2
      refine B1.2 ?_;refine Cb Φ Φ ?_
      repeat(go_big_quiet_step (fail))
      refine BL ?_;rintro _ ⟨q,rfl⟩;have E:=Ab aJ.o (Bu q);generalize gw q=F at*;clear q e0 e1 e2 I;have t:=zh E;clear E;have aL:=zh (HJ.o _ _ _ _ _ al.o t.o);have L:Qa b m r u ⟨p,X,k,g,X,f⟩ F () c:=⟨S.o.symm,a.o.1,a.o.2.1,ap.o.1,z.o.1,jM a.o.2.2.2.2.1 a.o.2.2.2.2.2.1,λj d=>t.o.cell (T.o (X+j) (jJ (B2 d X) a.o.2.1)) Δ⟩;obtain⟨bN,bO,bP,bQ,hy,M⟩:=HY.o () c u ⟨p,X,k,g,X,f⟩ F aL.o (Uu a.o.2.2.2.1 a.o.2.2.2.2.2.2) L;dsimp only[Pu]at hy;have bR:(k:Int)<=(f:Int):=oJ.2 (jM a.o.2.2.2.2.1 a.o.2.2.2.2.2.1);have bS:(k:Int)<=(R:Int):=oJ.2 a.o.2.2.2.2.1;have bT:(R:Int)<=(f:Int):=oJ.2 a.o.2.2.2.2.2.1;have bU:k<=f:=jM a.o.2.2.2.2.1 a.o.2.2.2.2.2.1;have bV:k<=R:=a.o.2.2.2.2.1;have bW:R<=f:=a.o.2.2.2.2.2.1;have bX:=zh L;clear L
      gi_wp2
      clear hy;refine M.mono ?_;rintro e W4 ⟨c4,y,(⟨rfl,⟨⟩,ah⟩|⟨rfl,aM⟩)⟩
      ·have P:g<F.heap.size:=jJ z.o.2 t.o.size;have ai:c4 g=0:=(y.ak g P).trans z.o.1;have aN:=zh (λj (d:j<m)=>y.ap (t.o.cell (T.o j d) Δ) (show¬C (c g) by rw[z.o.1];exact aU));have aO:=zh (O ai (jJ P y.aQ));have J4:=zh ah;clear y ah P ai M
       gi_wp2
       go_roundw
       case rel=>exact Tb a.o S.o J4.o aO.o aN.o
       case measure=>exact SR a.o
      ·clear M
       gi_wp2
       refine B8 (B7 rfl _ _ _) rfl ?_;exact⟨⟨_,rfl⟩,c4,B0 aM⟩
end
section
open Go Go.RowKit Go.Shelf
attribute [local go_sem ↓] Go.wp_at_zero Go.wp_at_succ
theorem YI(h:CO E J f e g i a Z)(n:a<=8)(c:E.cell? ⟨b,0,V⟩=AA (A4 (AA ⟨f,0,V⟩))):
  PredAt BA 258 #[A4 (AA ⟨b,0,V⟩)] (A3 A6) (λx:Int=>A7 (x<0)||A7 (((2^a:Nat):Int)<=x)) E:=by
 intro W x j;have l:CO W J f e g i a Z:=⟨h.y.bb (j.block f h.y.lt),h.c0⟩;have p:W.cell? ⟨b,0,V⟩=AA (A4 (AA ⟨f,0,V⟩)):=(j.cell (BD E _ c)).trans c;have o:=zh (Mk l n);generalize 2^a=m at*;clear h c j l;unfold FnGives
 by_cases d:x<0
 ·have k:A7 (x<0)=B5:=jG d;simp only[k,Bool.true_or];clear d
  go_enter B9,CB
  go_wp2_with fail;go_ret;exact⟨rfl,0,rfl⟩
 ·have k:A7 (x<0)=BC:=jH d;simp only[k,oS];obtain⟨q,c⟩:=Af (A7 ((m:Int)<=x));rw[c];clear d
  go_enter B9,CB
  go_wp2_with fail;refine o.o.mono ?_;rintro r s ⟨rfl,rfl⟩;go_wp2_with fail;go_ret;exact⟨rfl,0,rfl⟩
theorem VK(h:CO E J i j k l b Z)(m:b<=8)(t:E.cell? ⟨e,0,V⟩=AA (A4 (AA ⟨i,0,V⟩)))(u:1<=f)(B:a+f<=2^b){n:Option Addr}(v:Ag E 1 (Ax n f g) f ((EM a f).map (A3 A6))):
  CR BA 257 #[Ax n f g,.func (.func 258) #[] #[A4 (AA ⟨e,0,V⟩)]] E λp r=>p=BX (.bool BC)/\E.grownBy r V:=by
 obtain⟨w,o,rfl,y⟩:=v.bA u;have C:=(GY m).2;refine(AnyE.slices_ContainsFunc aj (A3 A6) _ 258 #[A4 (AA ⟨e,0,V⟩)] (enters_of B9 Φ rfl) w o f g (EM a f) E (YI h m t) (by rw[Jd];exact jF _) Ω (λd c=>?_)).mono ?_
 ·rw[Jd]at c;rw[y d _ (TB c)];have z:=Lg a f d c;rw[List.getElem!_eq_getElem?_getD,z];rfl
 ·rintro p r ⟨rfl,q,rfl⟩;refine⟨?_,AZ E q V⟩;generalize 2^b=M at*
  have:(List.take f (EM a f)).any (λx=>A7 (x<0)||A7 ((M:Int)<=x))=BC:=by
   rw[pP];intro x A;obtain⟨d,c⟩:=mm (lD A);have s:=(jL.1 c).1;rw[Jd]at s;rw[Lg _ _ _ s]at c;injection c with c;rw[<-c];simp;omega
  rw[this]
end
section
open Go Go.RowKit Go.Shelf
attribute [local go_sem] Oper.semAt_some
structure Ey(w:Bx)(u:Ae)(D s d j v x:Nat)(a:Ai)(P:Pl)(q y:Nat)(z:As)(A:Int->List Nat)(T L:List Ai)(B:Nat)(r:Ai)(k l m n o g p b:Nat)(e:List Ai)(f:As)(t:Int->List Nat)(Q:Nat)(c:Ae)(h:List ED)(X:Bx):Prop where
 i:CO X c D s j v x a
 sd:SD X c s d P Q y f t
 on:AR P A t
 dc:CS f a T e (A8 j (CT L B (CW h) r))
 fr:Fr (AH a T) (AH a e) z f
 sp:Cq f (P.bz+3)
 tl:e.length=b
 st:Ad (EJ 200) w u X c
 le:h.length<=CW h
 k3:Aa X k 161 [A4 (AA ⟨D,0,V⟩)]
 h3:c k=0
 k5:Aa X l 165 [A3 A6 r.1,A3 A6 r.2]
 h5:c l=0
 k6:Aa X m 32 [A3 A6 0]
 h6:c m=196
 k7:Aa X n 251 [Ax (AA ⟨g,0,V⟩) b p]
 h7:c n=0
 kd:Aa X o 161 [A4 (AA ⟨D,0,V⟩)]
 hd:c o=0
 aI:X.ownsRow w.heap.size 165 2 (Ax (AA ⟨g,0,V⟩) b p) b (Bb e)
 hr:c g=130
theorem Ey.he{C:Nat->Prop}{A:As}{B:Ai}{D F:Nat}{G:List Ai}{M:Int->List Nat}{Q:Nat}{H:Ae}{I:List ED}
  (m:Ey o q g f a i j k Z d l b A h Y n r B s t w x z e D F G c M Q H I p)(u:Ad C p H E J)(v:¬C 0)(N:¬C 6)(O:¬C 130)(P:¬C 196)(R:∀K,C K->EJ 200 K){L:Nat}{y:Int->List Nat}(S:SD E J f a d L b c y)(T:AR d h y):
  Ey o q g f a i j k Z d l b A h Y n r B s t w x z e D F G c y L J I E:=
 have U:=m.aI.lt e rfl
 ⟨m.i.ag u N,S,T,m.dc,m.fr,m.sp,m.tl,m.st.trans (u.mono R),m.le,u.y m.k3 (by rw[m.h3];exact v),by rw[u.ak _ m.k3.lt];exact m.h3,u.y m.k5 (by rw[m.h5];exact v),by rw[u.ak _ m.k5.lt];exact m.h5,
  u.y m.k6 (by rw[m.h6];exact P),by rw[u.ak _ m.k6.lt];exact m.h6,u.y m.k7 (by rw[m.h7];exact v),by rw[u.ak _ m.k7.lt];exact m.h7,u.y m.kd (by rw[m.hd];exact v),by rw[u.ak _ m.kd.lt];exact m.hd,
  u.au.aT m.aI (λW V=>by cases V;rw[m.hr];exact O),by rw[u.ak _ U.2];exact m.hr⟩
theorem Ey.ao{C:Nat->Prop}{u:Ai}{v y:Nat}{A:List Ai}{B:As}{D:Int->List Nat}{Q:Nat}{F:Ae}{G:List ED}
  (m:Ey E J f a b e g i Z d j k c h Y n l u r s t w x z v y A B D Q q G o)(H:Ad C o q p F)(I:¬C 0)(L:¬C 1)(M:¬C 2)(N:¬C 3)(O:¬C 6)(P:¬C 130)(R:¬C 196)(S:∀K,C K->EJ 200 K):
  Ey E J f a b e g i Z d j k c h Y n l u r s t w x z v y A B D Q F G p:=
 m.he H I O P R S (m.sd.ag H N M L I) m.on
theorem Ey.u{u:Ai}{v y:Nat}{A:List Ai}{B:As}{D:Int->List Nat}{Q:Nat}{F:List ED}
  (m:Ey E J f a b e g i Z d j k c h Y n l u r s t w x z v y A B D Q q F o)(G:o.grownBy p V):
  Ey E J f a b e g i Z d j k c h Y n l u r s t w x z v y A B D Q q F p:=
 m.ao (C:=λ_=>False) (Ad.u m.st.new G) (λm=>m) (λm=>m) (λm=>m) (λm=>m) (λm=>m) (λm=>m) (λm=>m) (λ_ m=>m.elim)
theorem Ey.bj{N:Ae}{O:Ai}{P:As}{Q:Int->List Nat}{T:List Ai}{F:Nat}{R S U W c7:Nat}{ab:As}{ac:Int->List Nat}{C:List ED}{X:Bx}
  (m:Ey p N s i j b t w O d x k P Q T Y F Z z R S U W a c7 l n ab ac r q C X)(u:Ad (SS 106) X q E J)(sd:SD E J i j d (r+3) k c h)(on:AR d ac h){x0 g o cc:Nat}{L t':Ai}(G:n[f]?=AA L)(M:Fr [L.1] [t'.1] ab c)
  (hn:c t'.1=AA (t'.2,AT (A8 b (CT Y F (CW C+e) Z) f)))(ah:∀v,v<e->(F+(CW C+v))/b=f)(hp:0<b)(hx:1<=e):
  (∃u0 u1,E.cell? ⟨a,f*2,V⟩=AA u0/\E.cell? ⟨a,f*2+1,V⟩=AA u1)/\(∀v,E.frozen? ⟨a,v,V⟩=BC)/\∃D,((E.setCell ⟨a,f*2,V⟩ (A3 A6 (t'.1:Nat))).setCell ⟨a,f*2+1,V⟩ (A3 A6 (t'.2:Nat)))=D/\Ad (λv=>v=130) E J D J/\
   Ey p N s i j b t w O d x k P Q T Y F Z z R S U W a c7 l (n.set f t') c h (r+3) J (C++[⟨f,x0,e,g,o,cc⟩]) D:=by
 have H:∀v,v=0\/v=6\/106<=v->¬SS 106 v:=λv hj=>by rintro(m|m)<;>omega
 have aj:=u.au.aT m.aI (λax hb=>by cases hb;rw[m.hr];exact H _ Ω);have al:=m.aI.lt a rfl
 have ad:J a=130:=by rw[u.ak _ al.2];exact m.hr
 have am:f<l:=by rw[<-m.tl];exact(jL.1 G).1
 obtain⟨hu,hz,D,hZ,aq,ar⟩:=Pj aj am t';have A:Ad (λv=>v=130) E J D J:=AL u.new ar (λv y=>by rw[y];exact ad)
 have I:∀{B:Nat},q B=0->¬SS 106 (q B):=λy=>by rw[y];exact H _ Ω
 have K:∀{B:Nat},B<X.heap.size->q B=0->¬J B=130:=λhl y=>by rw[u.ak _ hl,y];omega
 refine⟨hu,hz,D,hZ,A,?_⟩
 refine⟨(m.i.ag u (H _ Ω)).ag A Ω,sd.ag A Ω Ω Ω Ω,m.on.trans on,?_,m.fr.trans (Uw m.dc.nd G M),m.sp.fk (by rw[m.dc.tp f L G];simp) M,by rw[kG];exact m.tl,(m.st.trans (u.mono (λv y=>y.elim (λy=>CV Ω) (λy=>B0 Ω)))).trans (A.mono (λv y=>B0 Ω)),?_,
  A.y (u.y m.k3 (I m.h3)) (K m.k3.lt m.h3),by rw[u.ak _ m.k3.lt];exact m.h3,A.y (u.y m.k5 (I m.h5)) (K m.k5.lt m.h5),by rw[u.ak _ m.k5.lt];exact m.h5,A.y (u.y m.k6 (by rw[m.h6];exact H _ Ω)) (by rw[u.ak _ m.k6.lt,m.h6];omega),by rw[u.ak _ m.k6.lt];exact m.h6,
  A.y (u.y m.k7 (I m.h7)) (K m.k7.lt m.h7),by rw[u.ak _ m.k7.lt];exact m.h7,A.y (u.y m.kd (I m.hd)) (K m.kd.lt m.hd),by rw[u.ak _ m.kd.lt];exact m.hd,aq,ad⟩
 ·rw[Ph];exact CS.hq hp m.dc G M hn ah
 ·rw[Ph,jI,lr];have:=m.le;show C.length+1<=CW C+e;omega
def fe(w:Bx)(i:Ae)(D s d j k l:Nat)(m:Ai)(P:Pl)(q n:Nat)(o:As)(p:Int->List Nat)(T r:List Ai)(e:Ending)(a:Bx):Prop:=
 e=BX (A3 A6 0)/\∃b c f g h,Ad (EJ 200) w i a b/\DD a b D s d j k l g P (q+1100) n c f h r/\AR P p f/\Fr (AH m T) (AH g h) o c
theorem ce{ah:Nat}(v:DD E J a b j f k g Z d e ah c h Y n)(hq:e<=1073740000)(cZ:Cq c (d.bz+3))(c0:f=d.bv)(c1:g<=d.dp)
  (M m:Nat)(hm:1<=m)(c5:M+m<=2^g)(r:Ai)(c6:DM r)(aF:Option Addr)(G:Nat)(hr:Ag E 1 (Ax aF m G) m ((EM M m).map (A3 A6)))(ha:∀S,(Ax aF m G).ownBlock=AA S->J S=0):
  CR BA 230 #[A4 (AA ⟨a,0,V⟩),Ax aF m G,IR r] E (fe E J a b j f k g Z d e ah c h Y (CT n M m r)):=by
 have be:Fence.wide.round=V:=rfl;obtain⟨wa,eo,ga,bA⟩:=An E 161 [A4 (AA ⟨a,0,V⟩)];obtain⟨Q,ep,gb,bf⟩:=An wa 165 [A3 A6 r.1,A3 A6 r.2];obtain⟨wc,eq,gc,bc⟩:=An Q 32 [A3 A6 0];have x0:=(bA.u gb Δ).u gc Δ |>.m 0;have y0:=(bf.u gc Δ).m 0;have y1:=(bf.u gc Δ).m 1;have es:E.heap.size<wa.heap.size:=bA.lt;have et:wa.heap.size<Q.heap.size:=bf.lt;have eu:Q.heap.size<wc.heap.size:=bc.lt;have HB:=zh (O ((bA.u gb Δ).u gc Δ) (O (bf.u gc Δ) bc));have GC:=zh (Ab (Ab ga gb) gc);have HZ:=zh (show E.heap.size<wa.heap.size/\wa.heap.size<Q.heap.size/\Q.heap.size<wc.heap.size by omega);have H:=zh v;have HQ:=zh hq;have ew:=zh cZ;have ab:=zh (O hm (O c5 (O c0 c1)));have cb:=zh c6;have HR:=zh hr;have HA:=zh ha;clear v hq cZ hm c5 c0 c1 c6 hr ha ga gb gc bA bf bc es et eu;refine(A5 (n:=40)).1 ?_;refine callsIn_of_wp_marks Tryz.func230 rfl ki ?_ be;simp only[Tryz.ntmps230,kB,jT,kA,B4,B3,kf,kh,kJ,kr,jX,ku]
 gi_wp2_with (refine⟨ki,?_⟩;gi_at_call 140;refine(A5.2 (N0 r wc cb.o.1)).mono ?_;rintro s w1 ⟨rfl,g1⟩)
 have G1:=zh (Ab GC.o g1);have x0:=g1.cell x0 Δ;have bi:=zh g1;clear y0 y1 eo ep eq g1
 gi_wp2_with (refine⟨ki,?_⟩;gi_at_call 257;refine(A5.2 (VK (H.o.i.u G1.o) H.o.n.d1 x0 ab.o.1 ab.o.2.1 (HR.o.u G1.o Δ))).mono ?_;rintro s w2 ⟨rfl,g2⟩;have x0:=g2.cell x0 Δ)
 have G2:=zh (Ab G1.o g2);have hz:=HZ.o;obtain⟨c2,bE⟩:=Af (AN J Q.heap.size 196)
 have s2:Ad (λq=>q=196) E J w2 c2:=by
  rw[<-bE];exact(Ad.u H.o.s.cl G2.o).bQ Ω (by have:=HB.o.2.2.lt;have:=(Ab bi.o g2).size;omega) rfl
 have dd:c2 Q.heap.size=196:=by rw[<-bE];exact A0 _ _ _
 have ch:∀q,E.heap.size<=q->q≠Q.heap.size->c2 q=0:=λq L h2=>by rw[<-bE,Bz _ _ h2];exact H.o.s.cl q L
 have ex:∀S,(Ax aF m G).ownBlock=AA S->c2 S=0\/True:=λ_ _=>B0 ki
 have F2:=zh (H.o.ag s2 Ω (H.o.s.ag s2 Ω Ω Ω Ω));have K2:=zh (O (HB.o.1.u (Ab bi.o g2) Δ) (O (HB.o.2.1.u (Ab bi.o g2) Δ) (HB.o.2.2.u (Ab bi.o g2) Δ)));have S2:=zh s2;have C2:=zh (O dd ch);have R2:=zh (HR.o.u G2.o Δ)
 have A2:=zh (λS (hb:(Ax aF m G).ownBlock=AA S)=>show c2 S=0 from by
  by_cases hl:S<E.heap.size
  ·rw[s2.ak S hl];exact HA.o S hb
  ·exact ch S Ω (λs=>by
    have:=HA.o S hb
    exact absurd (HR.o.lt (λs=>by have:=kM List.length s;rw[mx,Jd]at this;have:=ab.o.1;simp at*;omega) S hb) hl))
 clear bE s2 dd ch ex g2 bi HB hz
 gi_wp2_with (refine⟨ki,?_⟩;gi_at_call 221;refine(A5.2 (F2.o.dF (Ψ HQ.o) 130 Ω)).mono ?_;rintro s w3 ⟨a3,c3,rfl,o3,a2,di,s3,dj,dk,z3⟩;obtain⟨w4,ez,g4,b4⟩:=An w3 251 [Ax V 0 0];obtain⟨w5,cj⟩:=Af (w4.setCell ⟨w3.heap.size,0,V⟩ (Ax a3 Y.length c3));have f0:=b4.v 0;have v0:=b4.m 0;have b5:=b4.setCell 0 (Ax a3 Y.length c3);rw[cj]at b5;have g5:w3.grownBy w5 V:=Ac.u g4 (show Ac (λq=>q=w3.heap.size) w4 w5 by rw[<-cj];exact Ay _ _ _ _) (λq s=>by rw[s];exact jF _);have K3:=zh (s3.y K2.o.1 (by rw[C2.o.2 _ (jF _) (Ψ HZ.o)];rintro(v|v)<;>omega));have x0:=(K3.o.u g5 Δ).m 0)
 simp only[jY]at b5;have eB:=zh b5;have G5:=zh g5;have S3:=zh s3;have dq:=zh dj;have N3:=zh dk;have O3:=zh o3;have Z3:=zh z3;clear f0 v0 ez cj g4 b4 b5 g5 s3 dj dk o3 z3
 gi_wp2_with (refine⟨ki,?_⟩;gi_at_call 259;refine(A5.2 (VH a aF m G w5)).mono ?_;rintro s w6 ⟨rfl,g6,eD,dt,bB⟩)
 have G6:=zh (Ab G5.o g6)
 have fo:0<Y.length:=by rw[H.o.l.dq,GH H.o.n.p0,nO];exact mM _
 obtain⟨g7,rfl⟩:∃g7,a3=AA ⟨g7,0,V⟩:=by
  rcases O3.o.2 with⟨_,h0⟩|⟨ag,_,_,v,_⟩
  ·omega
  ·injection v with L _ _;exact⟨ag,L⟩
 have bI:∀q,q<w2.heap.size->a2 q=c2 q:=λq w=>S3.o.ak q w
 have co:∀q,w3.heap.size<=q->a2 q=0:=λq w=>S3.o.new q w
 have hz:=HZ.o;have e3:a2 E.heap.size=0:=(bI _ K2.o.1.lt).trans (C2.o.2 _ (jF _) Ω);have e5:a2 wa.heap.size=0:=(bI _ K2.o.2.1.lt).trans (C2.o.2 _ Ω Ω);have e6:a2 Q.heap.size=196:=(bI _ K2.o.2.2.lt).trans C2.o.1
 have hJ:Ey E J a b j f k g Z d e ah c h Y n M r E.heap.size wa.heap.size Q.heap.size w3.heap.size w5.heap.size g7 c3 Y.length Y c di (e+1+4*0) a2 [] w6:={
  i:=(F2.o.i.ag S3.o (by rintro(v|v)<;>omega)).u G6.o
  sd:=(dq.o.u G6.o).mono Δ
  on:=N3.o
  dc:=H.o.l.c
  fr:=Fr.refl _ _
  sp:=ew.o
  tl:=rfl
  st:=((S2.o.mono (λq s=>B0 Ω)).trans (S3.o.mono (λq s=>s.elim (λs=>CV Ω) (λs=>B0 Ω)))).trans (Ad.u S3.o.new G6.o)
  le:=jF _
  k3:=K3.o.u G6.o Δ
  h3:=e3
  k5:=(S3.o.y K2.o.2.1 (by rw[C2.o.2 _ Ω Ω];rintro(v|v)<;>omega)).u G6.o Δ
  h5:=e5
  k6:=(S3.o.y K2.o.2.2 (by rw[C2.o.1];rintro(v|v)<;>omega)).u G6.o Δ
  h6:=e6
  k7:=eB.o.u g6 Δ
  h7:=co _ (jF _)
  kd:=dt
  hd:=co _ G5.o.size
  aI:=Cf (AV O3.o G6.o) G2.o.size
  hr:=Z3.o g7 rfl}
 have RD:=zh ((S3.o.aN R2.o (λS hb=>by rw[A2.o S hb];rintro(v|v)<;>omega)).u G6.o Δ);have HJ:=zh hJ;have BB:=zh bB;have ac:=H.o.n;have fp:=(GY ac.d1).2;clear hJ bB dt e3 e5 e6 bI co hz g6 eD R2 A2 Z3 O3 N3 dq K3 x0
 refine Kz HJ.o.st.new be Ω (gf:=280) (lb:=#[A4 (AA ⟨w5.heap.size+1,0,V⟩),A4 (AA ⟨w5.heap.size,0,V⟩)]) rfl ki (enters_of CK Φ rfl)
  (C:=λq=>q=1\/q=2\/q=3\/(100<=q/\q<=130)\/q=199) (B0 (B0 (B0 (B0 rfl)))) (VR 39 (w5.heap.size+1) w5.heap.size a f M m Ω ac.p0 (Ψ ac.p1) ab.o.1 (Ψ ab.o.2.1) _ Ω) (λW1 fs hg _=>⟨aF,G,(BB.o.u hg Δ).m 0,RD.o.u hg Δ⟩) (λ_=>rfl)
  (λ_ G B X=>∃T ar ay,Ey E J a b j f k g Z d e ah c h Y n M r E.heap.size wa.heap.size Q.heap.size w3.heap.size w5.heap.size g7 c3 Y.length T ar ay (e+1+4*B.length) G B X) (λ_ _ _=>False)
  (λa0 x a' X G=>a'={tmps:=(((a0.tmps.setIfInBounds 36 (A3 A6 (x.p:Nat))).setIfInBounds 37 (Ax (AA ⟨x.g,x.o,V⟩) x.n x.c)).setIfInBounds 9 (A3 A6 (x.p:Nat))).setIfInBounds 10 (Ax (AA ⟨x.g,x.o,V⟩) x.n x.c),defers:=[]})
  ()
  (λm G c' B X dC v b=>?i1)
  (λ_ _ _ _ _ v _=>v)
  (λm G B X v=>?i2)
  (λm G c' B x X dC v b=>?i3)
  (λG c' x a' X dC v b=>v)
  ⟨Y,c,di,HJ.o⟩ (λq=>q=1\/q=2\/q=3\/(100<=q/\q<=130)) (λq v=>Ω) Ω Ω
  ?assign ?body ?done (λ_ _ _ _ v=>v.elim)
 case i1=>
  obtain⟨T,ar,ay,w⟩:=v;exact⟨T,ar,ay,w.ao b Ω Ω Ω Ω Ω Ω Ω (λq s=>B0 (by rcases s with rfl|rfl<;>exact⟨Ω,Ω⟩))⟩
 case i2=>
  obtain⟨T,ar,ay,w⟩:=v;exact⟨⟨w.kd.m 0,w.i.cells.2.1⟩,w.st.new⟩
 case i3=>
  obtain⟨L,h2,h3,h4,h5,h6,h7⟩:=v;have hl:=BD X _ (h7 0 Ω);exact⟨L,h2,h3,h4,by rw[b.ak _ hl];exact h5,h6,λq w=>b.ap (h7 q w) (by show¬BK (G x.g);rw[h5];omega)⟩
 case assign=>
  intro l m' G B x X K hI az hR z;obtain⟨p,x0,ap,ag,o,cc⟩:=x;have eH:Hd (AD X G):=zh (by obtain⟨_,_,_,w⟩:=hI;exact w.st.new)
  gi_wp2
  exact z _ _ G (Ad.refl eH.o) hI hR rfl
 case body=>
  intro l m' G B x a' X hI az hR eI;obtain⟨p,x0,ap,ag,o,cc⟩:=x;obtain⟨T,ar,ay,N⟩:=hI;obtain⟨hX,bK,cs,bL,ct,cu,cv⟩:=hR;dsimp only at hX bK cs bL ct cu cv;subst eI;have dE:=bL 0 bK;have dF:=np (M+(x0+0)) f;rw[dE]at dF
  have bM:p*f<2^g:=by have:=ab.o.2.1;omega
  have bN:p<Y.length:=by rw[H.o.l.dq,GH ac.p0];exact bM
  obtain⟨t,ht⟩:∃t,T[p]?=AA t:=⟨_,jK (by rw[N.tl];exact bN)⟩
  have bp:∀D,(A8 f (CT n M D r) p).length=min f (2^g - p*f):=λD=>by rw[JM,OV,H.o.l.aC]
  have cw:∀D,∀y∈CT n M D r,DM y:=λD y hy=>(Th hy).elim (λs=>s▸cb.o) (H.o.ok y)
  have bP:=RQ N.i ac N.sd (by have L:=HQ.o;have h2:=ab.o.2.1;omega) (AA ⟨g7,0,V⟩) c3 (by rw[N.tl];exact Ag.ai N.aI) (by rw[N.tl];exact H.o.tl) p t ht (N.dc.tp p t ht) bM (bp _) (MP (cw _)) 108 Ω;obtain⟨CL,cx⟩:=Af (min f (2^g - p*f));rw[cx]at bp;unfold KV at bP;rw[N.tl,bp]at bP;have cy:=zh bP;have bQ:=zh N;have y3:=N.k3.m 0;have y7:=N.k7.m 0;have HT:=zh ht;have eJ:=zh bp;have eK:=zh cw;have a4:=zh (O cx (O bM bN));have HX:=zh (O hX (O bK (O cs (O bL cu))));have bS:=zh (O ct cv);obtain⟨TN,br⟩:=Af Y.length;rw[br]at cy bQ y7 a4;clear dE dF ht bp cw bP cx N bN bM hX bK cs bL ct cu cv;simp only[nM,jY,kE]
  gi_wp2_with (refine⟨ki,?_⟩;gi_at_call 222;refine(CallsIn.inRound l (A5.2 cy.o)).mono ?_;rintro s w7 ⟨a8,c8,rfl,o8,av,dG,s8,dH,dI,z8⟩)
  have P:∀q,q=0\/q=6\/109<=q->¬SS 109 q:=λq w=>by rintro(v|v)<;>omega
  have ft:0<CL:=by have L:=a4.o;have h2:=ac.p0;omega
  obtain⟨g8,rfl⟩:∃g8,a8=AA ⟨g8,0,V⟩:=by
   rcases o8.2 with⟨_,h0⟩|⟨g8,_,_,v,_⟩
   ·omega
   ·injection v with L _ _;exact⟨g8,L⟩
  have cg:G ag=0:=bS.o.1;have dK:ag<X.heap.size:=BD X _ (bS.o.2 0 HX.o.2.1);have J8:=zh (bQ.o.he s8 (P _ Ω) (P _ Ω) (P _ Ω) (P _ Ω) (λq s=>s.elim (λs=>CV Ω) (λs=>B0 Ω)) dH (bQ.o.on.trans dI));have O8:=zh o8;have Z8:=zh (O (z8 g8 rfl) (show av ag=0 by rw[s8.ak ag dK];exact cg));have E8:=zh (λq (w:q<ap)=>s8.ap (bS.o.2 q w) (show¬SS 109 (G ag) by rw[cg];exact P _ Ω));have fu:=zh s8.aQ;have S8:Hd (Ad (λq=>q=1\/q=2\/q=3\/(100<=q/\q<=130)) X G w7 av):=zh (s8.mono (λq s=>s.elim (λs=>Ω) (λs=>Ω)));have eN:=HX.o.1;subst eN
  have dQ:=zh (show ap<=256/\CL<=64/\M<=256/\CW B<=256/\p<=256 by
   have L:=HX.o.2.2.1;have h2:=ac.p1;have h3:=a4.o;have h4:=H.o.tl;have h5:=ab.o.2.1
   refine⟨Ω,Ω,Ω,Ω,Ω⟩)
  clear s8 dH dI o8 z8 cg dK P y3 y7 cy bS bQ
  gi_loopw [50] (λi wr=>∃D:Nat,i=A3 A6 D/\D<=ap/\Ey E J a b j f k g Z d e ah c h Y n M r E.heap.size wa.heap.size Q.heap.size w3.heap.size w5.heap.size g7 c3 TN T ar dG (e+1+4*B.length+1) av B wr/\
   wr.ownsRow X.heap.size 165 2 (Ax (AA ⟨g8,0,V⟩) CL c8) CL (Bb (A8 f (CT n M (CW B+D) r) p))/\(∀q,q<ap->wr.cell? ⟨ag,o+q,V⟩=AA (A3 A6 ((M+(CW B+q):Nat):Int)))/\Ad (λq=>q=1\/q=2\/q=3\/(100<=q/\q<=130)) X G wr av) (λi _=>ap - (intOf i).toNat)
  case atStart=>exact⟨0,rfl,ke _,J8.o,O8.o,E8.o,S8.o⟩
  case round=>
   obtain⟨D,rfl,dR,w,ho,he,cC⟩:=hrel;clear J8 O8 E8 S8;have cD:=zh cC;have a6:=zh w;have cE:=zh ho;have dS:=zh he
   by_cases hk:D<ap
   ·have d1:A7 ((D:Int)<(ap:Int))=B5:=jG Ω;have eO:A7 (D<ap)=B5:=jG hk;obtain⟨A,hA⟩:=Af (M+(CW B+D));have y0:=he D hk;have bU:=HX.o.2.2.2.1 D hk;rw[hA]at y0 bU
    have hz:((f:Int)==0)=BC:=by have:=ac.p0;simp;omega
    have eP:¬f=0:=by have:=ac.p0;omega
    obtain⟨a7,hf⟩:=Af (A%f)
    have dU:a7<f:=by rw[<-hf];exact lA _ ac.p0
    have q2:(A:Int).tmod (f:Int)=(a7:Int):=by rw[kP Ω, <-hf];rfl
    have eR:(A:Int)%(f:Int)=(a7:Int):=by rw[<-hf];rfl
    have dV:a7<CL:=by
     have L:=lE A f;rw[bU,hf,lp]at L;have h2:=a4.o.1;have h3:=ab.o.2.1;have h4:=HX.o.2.2.1;omega
    have y3:=w.k3.m 0;have y5:=w.k5.m 0;have y6:=w.k5.m 1;have yp:=w.i.cells.2.1;have HF:=zh (O hA (O bU (O hf (O dU dV))));have HM:=zh (TU (k:=D) hk (Ψ dQ.o));have HK:=zh hk;clear hA bU hf dU w ho he cC hk dR
    gi_wp2
    refine Kv (λW=>W.cell? ⟨E.heap.size,0,V⟩=AA (A4 (AA ⟨a,0,V⟩))/\W.cell? ⟨a,1,V⟩=AA (A3 A6 f)/\W.cell? ⟨wa.heap.size,0,V⟩=AA (A3 A6 (r.1:Nat))/\W.cell? ⟨wa.heap.size,1,V⟩=AA (A3 A6 (r.2:Nat))) [([0,1,2,3,4,5,6,7,8],9,BC)] be Φ Φ ?_;obtain⟨w9,aC,u⟩:=AP wr;rw[aC];refine FX ⟨u.cell y3 Δ,u.cell yp Δ,u.cell y5 Δ,u.cell y6 Δ⟩ ?_;clear y3 yp y5 y6 y0 aC
    repeat((apply FV rfl (λ_=>rfl) Θ;(· intro wS F;(try have F:=F rfl);(try dsimp only at F);(try have x3:=F.1);(try have xp:=F.2.1);(try have x5:=F.2.2.1);(try have x6:=F.2.2.2);go_simp;(try with_reducible rfl)));(refine Al ?_))
    refine FW ?_;refine Dx rfl (λK z=>?_);have o9:=AV cE.o u;obtain⟨⟨u0,u1,cG,cH⟩,fz,wA,eT,oA,tA⟩:=Pj o9 dV r;have f0:=fz (a7*2);have f1:=fz (a7*2+1);have G9:=zh u;have d4:=zh (O oA tA);clear u oA tA o9 fz;go_simp;refine z _ _ ⟨λhf=>(by cases hf),?_⟩;clear z K f0 f1 cG cH eT d1 eO hz eP q2 eR;refine Al ?_;refine Gi (NoPanic.normal ?_);have bw:=HF.o;have sA:Ad (λq=>q=108) wr av wA av:=(Ad.u a6.o.st.new G9.o).trans (AL (AD.u a6.o.st.new G9.o) d4.o.2 (λq s=>by rw[s];exact Z8.o.1))
    have HN:=zh (show Ey E J a b j f k g Z d e ah c h Y n M r E.heap.size wa.heap.size Q.heap.size w3.heap.size w5.heap.size g7 c3 TN T ar dG (e+1+4*B.length+1) av B wA/\
     wA.ownsRow X.heap.size 165 2 (Ax (AA ⟨g8,0,V⟩) CL c8) CL (Bb (A8 f (CT n M (CW B+(D+1)) r) p))/\(∀q,q<ap->wA.cell? ⟨ag,o+q,V⟩=AA (A3 A6 ((M+(CW B+q):Nat):Int)))/\Ad (λq=>q=1\/q=2\/q=3\/(100<=q/\q<=130)) X G wA av from
     ⟨a6.o.ao sA Ω Ω Ω Ω Ω Ω Ω (λq s=>B0 Ω),by
      rw[U8 ac.p0 n M (CW B) D p r (by rw[bw.1];exact bw.2.1),bw.1,bw.2.2.1]
      exact d4.o.1,λq w=>sA.ap (dS.o q w) (show¬av ag=108 by rw[Z8.o.2];omega),cD.o.trans (sA.mono (λq s=>Ω))⟩)
    clear sA bw
    gi_wp2
    go_roundw
    case rel=>exact⟨D+1,HM.o.1,HK.o,HN.o⟩
    case measure=>exact HM.o.2
   ·obtain rfl:D=ap:=by omega
    have d1:A7 ((D:Int)<(D:Int))=BC:=Δ;have y3:=w.k3.m 0;have y7:=w.k7.m 0;have yd:=w.i.cells.1;obtain⟨z0,z1⟩:=MT w.aI HT.o;have bN:p<TN:=a4.o.2.2;clear w ho he cC hk dR
    gi_wp2
    refine Kv (λW=>W.cell? ⟨w3.heap.size,0,V⟩=AA (Ax (AA ⟨g7,0,V⟩) TN c3)/\W.cell? ⟨E.heap.size,0,V⟩=AA (A4 (AA ⟨a,0,V⟩))/\W.cell? ⟨a,0,V⟩=AA (A4 (AA ⟨b,0,V⟩))/\W.cell? ⟨g7,p*2,V⟩=AA (A3 A6 (t.1:Nat))/\W.cell? ⟨g7,p*2+1,V⟩=AA (A3 A6 (t.2:Nat))) [([0,1,2,3,4,5,6,7,8,9,10],11,B5),([],12,B5),([13,14,15,16],17,BC),([],18,BC)] be Φ Φ ?_;obtain⟨w9,aC,u⟩:=AP wr;rw[aC];refine FX ⟨u.cell y7 Δ,u.cell y3 Δ,u.cell yd Δ,u.cell z0 Δ,u.cell z1 Δ⟩ ?_;clear aC
    repeat((apply FV rfl (λ_=>rfl) Θ;(· intro wS F;(try have F:=F rfl);(try dsimp only at F);(try have x7:=F.1);(try have x3:=F.2.1);(try have x1:=F.2.2.1);(try have x5:=F.2.2.2.1);(try have x6:=F.2.2.2.2);go_simp;(try with_reducible rfl)));(refine Al ?_))
    refine FW ?_;refine Dx rfl (λK z=>?_);go_simp;refine⟨ki,?_⟩;obtain⟨ll,b2⟩:=Af (A8 f (CT n M (CW B+D) r) p);have az:=eJ.o (CW B+D)
    have d5:∀y∈ll,DM y:=by rw[<-b2];exact MP (eK.o _)
    have o8:=cE.o;rw[b2]at az o8;have aR:=I5 ll (AA ⟨g8,0,V⟩) c8 w9 (by rw[az];exact(Ag.ai o8).u u Δ) (by rw[az];have:=dQ.o;omega) d5;rw[az]at aR;have d6:=zh (O b2 az);refine(A5.2 aR).mono ?_;clear aR d5 o8 b2 az;rintro s wB ⟨aB,cB,rfl,oB,R⟩;dsimp only;have JB:=zh (a6.o.u (Ab u R));have PB:=zh (IZ JB.o.st.new oB a6.o.st.new u.size);refine z _ _ ⟨λ_=>⟨R.cell (u.cell y7 Δ) Δ,R.cell (u.cell y3 Δ) Δ,R.cell (u.cell yd Δ) Δ,R.cell (u.cell z0 Δ) Δ,R.cell (u.cell z1 Δ) Δ⟩,?_⟩;clear z K y3 y7 yd z0 z1;have SB:=zh (cD.o.trans (Ad.u cD.o.new (Ab u R)));clear oB u R a6 cE dS;refine Al ?_;refine GF ?_;refine Dx rfl (λK z=>?_);go_simp;refine⟨ki,?_⟩;have cO:=JB.o.dc.tp p t HT.o
    have eW:(AT ll).length<=d.n - 19:=by
     rw[GI,d6.o.2]
     have L:CL<=d.bv:=by rw[<-ab.o.2.2.1, <-a4.o.1];exact oh _ _
     have h2:12*d.bv<=d.n - 19:=nN _ _;omega
    refine(A5.2 (JL JB.o.sd (by have L:=HQ.o;have h2:=ab.o.2.1;omega) JB.o.sp t.1 t.2 (by rw[cO];simp) aB cB (AT ll) eW PB.o)).mono ?_;rintro s wC ⟨k',rfl,eX,ad,cQ,cR,U,aS,aT,aD,aU⟩;dsimp only;have hC:=JB.o.bj U aS aT (x0:=CW B) (g:=ag) (o:=o) (cc:=cc) (t':=(k',ah)) HT.o aD (by rw[d6.o.1];exact aU) HX.o.2.2.2.1 ac.p0 HX.o.2.1
    have P:∀q,q=0\/q=6\/106<=q->¬SS 106 q:=λq w=>by rintro(v|v)<;>omega
    have I:=JB.o;have x7:=(U.y I.k7 (by rw[I.h7];exact P _ Ω)).m 0;have x3:=(U.y I.k3 (by rw[I.h3];exact P _ Ω)).m 0;have x1:=(I.i.ag U (P _ Ω)).cells.1;have d7:=U.au.aT I.aI (λS hb=>by cases hb;rw[I.hr];exact P _ Ω);obtain⟨x5,x6⟩:=MT d7 HT.o;have a9:=zh (O x7 (O x3 (O x1 (O x5 x6))));refine z _ _ ⟨λ_=>a9.o,?_⟩;have SC:=zh (SB.o.trans (U.mono (λq s=>s.elim (λs=>Ω) (λs=>Ω))));clear z K U aS aT aD aU I d7 x5 x6 x7 x3 x1 P;refine Al ?_;refine FX a9.o ?_
    repeat((apply FV rfl (λ_=>rfl) Θ;(· intro wS F;go_simp;(try with_reducible rfl)));(refine Al ?_))
    refine FW ?_;refine Dx rfl (λK z=>?_);obtain⟨⟨u0,u1,cG,cH⟩,fz,d8,hZ,sZ,jZ⟩:=hC;have f0:=fz (p*2);have f1:=fz (p*2+1);have HZ:=zh (O sZ jZ);clear sZ jZ fz;go_simp;refine z _ _ ⟨λhf=>(by cases hf),?_⟩;clear z K f0 f1 cG cH hZ;refine Al ?_;refine GF ?_;refine Dx rfl (λK z=>?_);go_simp;refine z _ _ ⟨λhf=>(by cases hf),?_⟩;clear z K;refine Al ?_;refine Gi (NoPanic.normal ?_)
    have eb:=zh (show∃(c':Ae) (_:Unit),Ad (λq=>q=1\/q=2\/q=3\/(100<=q/\q<=130)) X G d8 c'/\∃T ar ay,Ey E J a b j f k g Z d e ah c h Y n M r E.heap.size wa.heap.size Q.heap.size w3.heap.size w5.heap.size g7 c3 TN T ar ay (e+1+4*(B++[ED.mk p (CW B) D ag o cc]).length) c' (B++[ED.mk p (CW B) D ag o cc]) d8 from
     ⟨ad,(),SC.o.trans (HZ.o.1.mono (λq s=>Ω)),_,_,_,by rw[jI,lr,show e+1+4*(B.length+1)=e+1+4*B.length+1+3 by omega];exact HZ.o.2⟩)
    rw[<-br]at eb
    gi_wp2
    exact eb.o
 case done=>
  intro ak m' G xs X hS hI z ed;obtain⟨T,ar,ay,N⟩:=hI;rw[<-hS];have aV:=zh N;have HK:=zh (O z ed)
  have ee:xs.length<=256:=by have L:=N.le;have h2:=ab.o.2.1;omega
  have ef:=zh ee;have HS:=zh hS;have e1:=zh ac
  have ba:Hd ((AT T).length<=d.n - 19/\T.length=Y.length/\Y.length<=256):=zh (by
   have h0:¬f<By f (2^g):=λhc=>by
    have L:=(GH ac.p0).1 hc;have h2:2^g<=d.cM:=kR Ω ab.o.2.2.2;have h3:=H.o.s.a2.sq;rw[<-ab.o.2.2.1]at h3;omega
   have h4:12*d.bv<=d.n - 19:=nN _ _;rw[GI,N.tl,H.o.l.dq];rw[<-ab.o.2.2.1]at h4;have h5:=H.o.tl;rw[H.o.l.dq]at h5
   exact⟨Ω,rfl,h5⟩)
  have e4:=zh (show∀y∈T,DM y from λy hy=>by
   obtain⟨q,w⟩:=mm hy
   exact N.sd.e3 (Ψ HQ.o) (N.dc.tp q y w))
  obtain⟨TN,br⟩:=Af Y.length;rw[br]at aV ba;have y3:=aV.o.k3.m 0;have y7:=aV.o.k7.m 0;obtain⟨yd,_,_,_,r0,r1⟩:=aV.o.i.cells;clear N z ed ee hS ac
  gi_wp2
  refine Ku (λW=>W.cell? ⟨w3.heap.size,0,V⟩=AA (Ax (AA ⟨g7,0,V⟩) TN c3)/\W.cell? ⟨E.heap.size,0,V⟩=AA (A4 (AA ⟨a,0,V⟩))/\W.cell? ⟨a,0,V⟩=AA (A4 (AA ⟨b,0,V⟩))/\W.cell? ⟨a,4,V⟩=AA (A3 A6 (Z.1:Nat))/\W.cell? ⟨a,5,V⟩=AA (A3 A6 (Z.2:Nat))) [([0,1,2,3,4,5,6,7,8,9],10,B5),([],11,B5),([12,13,14,15,16],17,BC),([],18,BC)] be Φ Φ ?_;obtain⟨w9,aC,u⟩:=AP X;rw[aC];refine FX ⟨u.cell y7 Δ,u.cell y3 Δ,u.cell yd Δ,u.cell r0 Δ,u.cell r1 Δ⟩ ?_;clear aC
  repeat((apply FV rfl (λ_=>rfl) Θ;(· intro wS F;(try have F:=F rfl);(try dsimp only at F);(try have x7:=F.1);(try have x3:=F.2.1);(try have x1:=F.2.2.1);(try have x5:=F.2.2.2.1);(try have x6:=F.2.2.2.2);go_simp;(try with_reducible rfl)));(refine Al ?_))
  refine FW ?_;refine Dx rfl (λK z=>?_);go_simp;refine⟨ki,?_⟩;have aR:=I5 T (AA ⟨g7,0,V⟩) c3 w9 (by rw[ba.o.2.1];exact(Ag.ai aV.o.aI).u u Δ) (by rw[ba.o.2.1];exact ba.o.2.2) e4.o;rw[ba.o.2.1]at aR;refine(A5.2 aR).mono ?_;clear aR;rintro s wB ⟨aB,cB,rfl,oB,R⟩;dsimp only;have JB:=zh (aV.o.u (Ab u R));have PB:=zh (IZ JB.o.st.new oB aV.o.st.new u.size);have eg:=zh (O (R.cell (u.cell y7 Δ) Δ) (O (R.cell (u.cell y3 Δ) Δ) (O (R.cell (u.cell yd Δ) Δ) (O (R.cell (u.cell r0 Δ) Δ) (R.cell (u.cell r1 Δ) Δ)))));have b7:=zh (show wB.heap[ak]?=AA (.deferred (AA []))/\ak<wB.heap.size from⟨((Ab u R).block ak (jR.1 HK.o.1).1 Δ).trans HK.o.1,jJ (jR.1 HK.o.1).1 (Ab u R).size⟩);refine z _ _ ⟨λ_=>eg.o,?_⟩;clear z K y3 y7 yd r0 r1 oB u R;refine Al ?_;refine GF ?_;refine Dx rfl (λK z=>?_);go_simp;refine⟨ki,?_⟩;have cO:=JB.o.dc.rt;refine(A5.2 (JL JB.o.sd (by have L:=HQ.o;have h2:=ef.o;omega) JB.o.sp Z.1 Z.2 (by rw[cO];simp) aB cB (AT T) ba.o.1 PB.o)).mono ?_;rintro s wC ⟨k',rfl,eX,ad,cQ,cR,U,aS,aT,aD,aU⟩;dsimp only
  have P:∀q,q=0\/q=6\/106<=q->¬SS 106 q:=λq w=>by rintro(v|v)<;>omega
  have I:=JB.o;have iC:=I.i.ag U (P _ Ω);have a9:=zh (O ((U.y I.k7 (by rw[I.h7];exact P _ Ω)).m 0) (O ((U.y I.k3 (by rw[I.h3];exact P _ Ω)).m 0) (O iC.cells.1 (O iC.cells.2.2.2.2.1 iC.cells.2.2.2.2.2))));refine z _ _ ⟨λ_=>a9.o,?_⟩;have IC:=zh iC;have SC:=zh U;have B6:=zh (U.y I.k6 (by rw[I.h6];exact P _ Ω));have C6:Hd (ad Q.heap.size=196):=zh (by rw[U.ak _ I.k6.lt];exact I.h6);have FC:=zh (O aS (O aT (O aD aU)));have bb:=zh (show wC.heap[ak]?=AA (.deferred (AA []))/\ad ak=199 from⟨(U.au.bV ak b7.o.2 (by rw[HK.o.2];exact P _ Ω)).trans b7.o.1,(U.ak ak b7.o.2).trans HK.o.2⟩);clear z K U aS aT aD aU I iC P PB eg b7;refine Al ?_;refine FX a9.o ?_
  repeat((apply FV rfl (λ_=>rfl) Θ;(· intro wS F;go_simp;(try with_reducible rfl)));(refine Al ?_))
  refine FW ?_;refine Dx rfl (λK z=>?_);obtain⟨wD,e9,bD,tD⟩:=ON IC.o.y (A3 A6 k') (A3 A6 ah);have f4:=IC.o.y.v 4;have f5:=IC.o.y.v 5;have y4:=IC.o.y.m 4;have y5:=IC.o.y.m 5;have HD:=zh (O bD tD);clear bD tD;go_simp;refine z _ _ ⟨λhf=>(by cases hf),?_⟩;clear z K f4 f5 y4 y5 e9 a9;refine Al ?_;refine GF ?_;refine Dx rfl (λK z=>?_);go_simp;refine z _ _ ⟨λhf=>(by cases hf),?_⟩;clear z K;refine Al ?_;refine Gi (NoPanic.normal ?_);have sD:Ad (λq=>q=6) wC ad wD ad:=AL SC.o.new HD.o.2 (λq s=>by rw[s];exact IC.o.c0);have b6:=sD.y B6.o (by rw[C6.o];omega);have cW:=(sD.au.bV ak (jR.1 bb.o.1).1 (by rw[bb.o.2];omega)).trans bb.o.1;have f6:=b6.v 0;have v6:=b6.m 0;obtain⟨wE,ek⟩:=Af (wD.setCell ⟨Q.heap.size,0,V⟩ (A3 A6 0));have b9:=b6.setCell 0 (A3 A6 0);rw[ek]at b9;simp only[jY]at b9;have sE:Ad (λq=>q=196) wD ad wE ad:=AL sD.new (show Ac (λq=>q=Q.heap.size) wD wE by rw[<-ek];exact Ay _ _ _ _) (λq s=>by rw[s];exact C6.o);have el:=(sE.au.bV ak (jR.1 cW).1 (by rw[bb.o.2];omega)).trans cW;have SE:=zh (O sD sE);have BE:=zh b9;have KE:=zh el
  have em:Q.heap.size≠ak:=λs=>by have L:=C6.o;have h2:=bb.o.2;rw[s,h2]at L;cases L
  have fh:=zh em;clear sD sE b6 b9 cW el em
  gi_wp2
  refine⟨Δ,CV ⟨_,_,rfl,run_takeDeferred KE.o,?_⟩⟩;have t3:=Hg wE ak (.deferred V);have b8:=t3.y BE.o fh.o;obtain⟨sD,sE⟩:=SE.o;have s3:Ad (λq=>q=199) wE ad (wE.putObj ak (.deferred V)) ad:=AL sE.new t3 (λq s=>by rw[s];exact bb.o.2);generalize wE.putObj ak (.deferred V)=wF at*;have z6:=b8.m 0;obtain⟨aS,aT,aD,aU⟩:=FC.o;have I:=JB.o;have cX:Ad (λq=>q=196\/q=199) wD ad wF ad:=(sE.mono (λ_ s=>CV s)).trans (s3.mono (λ_ s=>B0 s));have iD:CO wD ad a b f k g (k',ah):=⟨HD.o.1,IC.o.c0⟩;have fm:SD wD ad b j d (e+1+4*xs.length+3) ah cR cQ:=aS.ag sD Ω Ω Ω Ω;refine⟨A3 A6 0,by simp[results,Tryz.f230,go_sem,z6],rfl,ad,cR,cQ,(k',ah),T,?_,⟨iD.ag cX Ω,e1.o,?_,(fm.ag cX Ω Ω Ω Ω).mono (Ψ ef.o),λy hy=>(Th hy).elim (λs=>s▸cb.o) (H.o.ok y)⟩,I.on.trans aT,I.fr.trans (Um I.dc.nd aD)⟩
  ·exact((I.st.trans (SC.o.mono (λq s=>s.elim (λs=>CV Ω) (λs=>B0 Ω)))).trans (sD.mono Lv)).trans (cX.mono (λq s=>B0 Ω))
  ·have L:=DQ.hy (root':=(k',ah)) H.o.l (by rw[I.tl,br]) I.dc aD aU;rw[HS.o]at L;exact L
theorem Wn(c:Option Addr)(d f n:Nat)(o:1<=n)(w:Bx):
  CR BA 294 #[Ax c d f,A3 A6 n] w λe a=>e=BX (.func (.func 307) #[] #[A4 (AA ⟨w.heap.size,0,V⟩),A4 (AA ⟨w.heap.size+1,0,V⟩)])/\
   w.grownBy a V/\a.heap.size=w.heap.size+2/\Aa a w.heap.size 251 [Ax c d f]/\Aa a (w.heap.size+1) 3 [A3 A6 n]:=by
 obtain⟨h,p,i,j⟩:=An w 251 [Ax c d f]
 have k:h.heap.size=w.heap.size+1:=by rw[<-p];simp
 obtain⟨q,r,g,b⟩:=An h 3 [A3 A6 n]
 have l:q.heap.size=w.heap.size+2:=by rw[<-r];simp[k]
 rw[k]at b;have m:=j.u g Δ;have t:A7 ((n:Int)<1)=BC:=jH Ω;have u:A7 (n<1)=BC:=jH Ω;have v:=b.m 0;have s:=zh (O (Ab i g) (O l (O m b)));clear i j g b l m o
 go_enter Tryz.func294,Tryz.ntmps294
 go_wp2;go_ret;exact⟨rfl,s.o⟩
structure GB where
 i:Nat
 n:Nat
abbrev UG(g o:Nat)(x:GB):Array Value:=#[Ax (AA ⟨g,o+x.i*2,V⟩) x.n x.n]
def i9(a N:Nat)(b:List GB)(x:GB)(_:Bx)(_:Unit)(_:Ae):Prop:=x.i=a*b.length/\x.i<N/\x.n=min a (N - x.i)
def jn(a b g o d N c:Nat)(_:Unit)(_:Ae)(W:Bx):Prop:=W.cell? ⟨a,0,V⟩=AA (Ax (AA ⟨g,o,V⟩) N c)/\W.cell? ⟨b,0,V⟩=AA (A3 A6 d)
theorem bT{N:Nat}{c:List GB}{d:Unit->Ae->List GB->Bx->Prop}(g:f*c.length=a)(k:c.length<=a/\a<N+f)(l:1<=f)(h:BZ ((a:Int)+(f:Int))=((a+f:Nat):Int))(m:a<N)(i:d () J (c++[⟨a,b⟩]) E):
  ∃j c,A3 A6 (BZ ((a:Int)+(f:Int)))=A3 A6 (f*c.length:Nat)/\d () j c E/\c.length<=f*c.length/\f*c.length<N+f:=by
 have e:f*(c++[GB.mk a b]).length=a+f:=by rw[jI,lr,oq,mj,g]
 refine⟨J,_,by rw[h,e],i,?_,?_⟩
 ·rw[e,jI,lr];omega
 ·rw[e];omega
theorem Yk(y z B g o a N c:Nat)(hn:1<=y)(S:1<=a)(aD:a<=1000)(hN:N<=100000)(hc:N<=c)(C:Nat->Prop):
  Kf Fence.wide y BA 307 #[A4 (AA ⟨z,0,V⟩),A4 (AA ⟨B,0,V⟩)] (UG g o) C (jn z B g o a N c) (i9 a N) (λD=>N<=a*D.length/\a*D.length<N+a) (N+1):=by
 intro l J Jx W m0 T E U aI f F G _;have H:=zh f;have X:=zh E;have Y:=zh F;have H0:=zh G;clear f E U F G;refine callsIn_of_wp Tryz.func307 rfl ki ?_ rfl;simp only[Tryz.ntmps307,kB,jT,kA,B4,B3,kf,kh,kJ,kr,jX,ku]
 gi_wp2
 gi_loopw [4] (λv wr=>∃h b,v=A3 A6 (a*b.length:Nat)/\J () h b wr/\b.length<=a*b.length/\a*b.length<N+a)
  (λv _=>N+a - (intOf v).toNat)
 case atStart=>exact⟨T,[],rfl,H0.o,ke _,Γ⟩
 case round=>
  obtain⟨h,b,rfl,s,i,j⟩:=hrel;obtain⟨⟨k,m⟩,ab⟩:=H.o _ _ _ _ s;obtain⟨I,t⟩:=Af (a*b.length);rw[t]at i j⊢;have n:=zh t;have K:=zh s;have p:=zh (O i j);clear t s ab
  by_cases d:I<N
  ·have L:A7 ((I:Int)<(N:Int))=B5:=jG Ω;have M:A7 (I<N)=B5:=jG d;have k1:(I:Int)<=(N:Int):=Ω;have k2:(N:Int)<=(c:Int):=Ω;have k3:¬c=I:=Ω;have k4:I<=N:=Ω;obtain⟨Z,hZ⟩:=Af (min a (N - I));have ah:min (a:Int) ((N - I:Nat):Int)=(Z:Int):=Ω;have ai:min (a:Int) ((N:Int) - (I:Int))=(Z:Int):=Ω;have q:=zh (show 1<=Z/\I+Z<=N/\I+Z<=c/\Z=min a (N - I) by omega);have e0:=AJ k;have e1:=AJ m;clear hZ i j
   gi_wp2
   refine B1.2 ?_;refine Cb Φ Φ ?_
   repeat(go_big_quiet_step (fail))
   refine BL ?_;rintro _ ⟨u,rfl⟩;have r:=Bu u;generalize gw u=w4 at*;have am:=zh (X.o _ _ _ _ _ K.o r);obtain⟨aJ,aK,aL,aM,P,w⟩:=Y.o () h b ⟨I,Z⟩ w4 am.o (Ψ p.o.1) ⟨n.o.symm,d,q.o.2.2.2⟩;dsimp only[UG]at P;have k:=r.cell k Δ;have m:=r.cell m Δ;obtain⟨A,f⟩:=Af (I+Z)
   have Q:BZ ((I:Int)+(Z:Int))=(A:Int):=by rw[BR _ (Ψ q.o.2.1)];omega
   have an:=Ba Q
   have k5:(A:Int)<=(c:Int):=by have:=q.o.2.2.1;omega
   have k6:(I:Int)<=(A:Int):=Ω
   have k7:¬A=I:=by have:=q.o.1;omega
   have k8:A - I=Z:=Ω;have k9:A<=c:=Ω;have av:I<=A:=Ω;have R:Hd (BZ ((I:Int)+(a:Int))=((I+a:Nat):Int)):=zh (by rw[BR _ Ω];omega);have aw:=zh d;clear e0 e1 u f k1 k2 k3 k4 ah ai d L M r
   gi_wp2
   clear P;refine w.mono ?_;rintro e W4 ⟨c4,ay,(⟨rfl,⟨⟩,x⟩|⟨rfl,az⟩)⟩
   ·have m:=(H.o _ _ _ _ x).1.2;have J4:=zh x
    have aB:Hd (N+a - (intOf (A3 A6 (BZ ((I:Int)+(a:Int))))).toNat<N+a - (intOf (A3 A6 (I:Int))).toNat):=zh (by
     rw[R.o];simp only[intOf,jS];have:=p.o.2
     omega)
    clear ay x w k Q an k5 k6 k7 k8 k9 av
    gi_wp2
    go_roundw
    case rel=>exact bT n.o p.o S R.o aw.o J4.o
    case measure=>exact aB.o
   ·clear w
    gi_wp2
    refine B8 (B7 rfl _ _ _) rfl ?_;exact⟨⟨_,rfl⟩,c4,B0 az⟩
  ·have L:A7 ((I:Int)<(N:Int))=BC:=jH Ω;have M:A7 (I<N)=BC:=jH d;clear i j
   gi_wp2
   go_end0
   exact⟨⟨_,rfl⟩,h,CV ⟨(),b,⟨by rw[n.o];omega,by rw[n.o];exact p.o.2⟩,K.o⟩⟩
end
