/- Lemmas. -/
import Derived.Test.YtcedibmdelehdaaGreatDoorH03
import Derived.Test.YtcedibmdelehdaaGreatDoorH40
namespace Go.Proofs.YtcedibmdelehdaaGreatDoor
set_option maxRecDepth 100000
set_option maxHeartbeats 32000000
open And renaming intro->O
open Option renaming none->V,some->AA
open Go.Value renaming slice->Ax,int->A3,pointer->A4
open Go renaming callsIn_wide->Bx,World->BD,wpQuiet_nil->B0,wpIn_wide->B5,results_none->CB,bodyPost_ret->CE,Calls->C3
open Go.IntKind renaming i64->BA
open Decidable renaming decide->BC
open Go.Proofs.Tryz renaming prog->BL,func258->CR,ntmps281->CV,ntmps258->CX,func281->C0,func280->C1
open Bool renaming false->BR,true->CA
open Go.World renaming block_lt_of_cell?->BX
open Go.IntWalk renaming wrap64_in->B1
open Go.Ending renaming returned->B2
open Go.RowKit renaming wrap64->B3
open Or renaming inr->B4,inl->C4
open Nat renaming add_lt_add_left->B7,reduceSub->B8,reduceAdd->B9
variable{h b c f g i j k l r s t w x y:Nat}{E:Int->List Nat}{J o p:BD}{Y q:Ad}{Z n:List Ah}{a:Ah}{d:Ap}{e:Pl}
section
open Go Go.RowKit Go.Shelf
theorem bU(a:List Int):∀u∈a.map (A3 BA),u.oneCell'=CA:=by
 intro u b;obtain⟨i,_,rfl⟩:=lP.1 b;rfl
theorem Yd(b:List Int)(a:Option Addr)(c:Nat)(w:BD)(C:b.length<=100000)(d:Ai w 1 (Ax a b.length c) b.length (b.map (A3 BA))):
  C3 BL 281 #[Ax a b.length c] w λe g=>∃i j,e=B2 (Ax i b.length j)/\g.ownsRow w.heap.size 3 1 (Ax i b.length j) b.length (b.map (A3 BA))/\w.grownBy g V:=by
 obtain⟨o,p,q,r,s⟩:=info_parts Th
 cases a with
 |none=>
  have t:=Lib.run_eql_slice_nil (P:=BL)
  have u:b=[]:=by
   rcases d.2.2 with⟨_,h⟩|⟨k,D,h,_⟩
   ·exact kV h
   ·simp at h
  subst u;clear d
  go_enter C0,CV
  go_wp2;go_ret;exact⟨V,0,rfl,World.ownsRow_nil _ _ _ _,Bf _ _⟩
 |some k=>
  have t:=Lib.run_eql_slice_nil (P:=BL);have x:=zh d;clear d
  go_enter C0,CV
  go_wp2_with (at_builtin;refine IG rfl _ _ 145 rfl w.heap.size 3 o (A3 BA 0) 1 8 mO p q r s rfl Ξ (v:=Ax (AA ⟨w.heap.size,0,V⟩) 0 0) (n:=0) (xs:=[]) (sv:=Ax (AA k) b.length c) rfl (World.ownsRow_made w #[] 0 (jS _) Δ Δ) rfl (x.o.alloc _) (bU b) (by unfold maxLen;omega) Ω Δ ?_;intro E F f l _;simp only[mx,kv]at f;have m:=Ai.aj f;obtain⟨y,z,rfl⟩:=m.slice;have A:=zh f;have B:=zh (Jt l);clear f l m);go_ret;exact⟨y,z,rfl,A.o,B.o⟩
theorem YE(b:List Int)(i:Nat)(a:Option Addr)(c:Nat)(w:BD)(A:b.length<=100000)(l:b≠[])(m:w.ownsRow i 3 1 (Ax a b.length c) b.length (b.map (A3 BA)))(o:b.mergeSort (λx y=>BC (x<=y))=b):
  C3 BL 282 #[Ax a b.length c] w λe d=>e=B2 (.tuple #[])/\d.ownsRow i 3 1 (Ax a b.length c) b.length (b.map (A3 BA))/\w.grownBy d (Ax a b.length c).ownBlock:=by
 rcases m.2 with⟨_,h⟩|⟨g,B,C,p,q,f,r,s,t,j⟩
 ·exact absurd (kV h) l
 ·injection p with u _ v;subst u;subst v;rw[mL]at j;have z:=(kf.1 f).1
  have k:=calls_of_every_depth λD=>AnySM.slices_Sort_int_in iR D g 0 c b w (holds_of_blockI f j) z Ω
  rw[o]at k;refine k.mono ?_;rintro e d ⟨rfl,n,E,rfl⟩;exact⟨rfl,ownsRow_sortedI rfl q f r s t,grownBy_sortedI _⟩
end
section
open Go Go.RowKit Go.Shelf
attribute [local go_sem] Oper.semAt_some
theorem Tr(a:h<c):((EJ b c).map (A3 BA))[h]?=AA (A3 BA ((b+h:Nat):Int)):=by
 rw[lB,KJ _ _ _ a];rfl
structure Eu where
 p:Nat
 X:Nat
 n:Nat
 g:Nat
 o:Nat
 c:Nat
abbrev Pm(x:Eu):Array Value:=#[A3 BA x.p,Ax (AA ⟨x.g,x.o,V⟩) x.n x.c]
def CF(l:List Eu):Nat:=(l.map Eu.n).sum
theorem Pa(l:List Eu)(x:Eu):CF (l++[x])=CF l+x.n:=by simp[CF]
def PN(a m b:Nat)(d:List Eu)(x:Eu)(W:BD)(_:Unit)(c:Ad):Prop:=
 x.X=CF d/\1<=x.n/\x.X+x.n<=m/\(∀j,j<x.n->(a+(x.X+j))/b=x.p)/\c x.g=0/\x.n<=x.c/\∀j,j<x.n->W.cell? ⟨x.g,x.o+j,V⟩=AA (A3 BA ((a+(x.X+j):Nat):Int))
def jb(a D b:Nat)(_:Unit)(_:Ad)(W:BD):Prop:=W.cell? ⟨a,0,V⟩=AA (A4 (AA ⟨D,0,V⟩))/\W.cell? ⟨D,1,V⟩=AA (A3 BA b)
def jt(b d m:Nat)(_:Ad)(W:BD):Prop:=∃a c,W.cell? ⟨b,0,V⟩=AA (Ax a m c)/\Ai W 1 (Ax a m c) m ((EJ d m).map (A3 BA))
theorem VA(D:Nat)(b:Option Addr)(c d:Nat)(w:BD):
  C3 BL 259 #[A4 (AA ⟨D,0,V⟩),Ax b c d] w λe a=>e=B2 (.func (.func 280) #[] #[A4 (AA ⟨w.heap.size+1,0,V⟩),A4 (AA ⟨w.heap.size,0,V⟩)])/\
   w.grownBy a V/\a.heap.size=w.heap.size+2/\Aa a w.heap.size 161 [A4 (AA ⟨D,0,V⟩)]/\Aa a (w.heap.size+1) 145 [Ax b c d]:=by
 obtain⟨h,n,i,j⟩:=Aq w 161 [A4 (AA ⟨D,0,V⟩)]
 have k:h.heap.size=w.heap.size+1:=by rw[<-n];simp
 obtain⟨o,p,f,g⟩:=Aq h 145 [Ax b c d]
 have l:o.heap.size=w.heap.size+2:=by rw[<-p];simp[k]
 rw[k]at g;have m:=j.grown f Δ;have q:=zh (O (Ae i f) (O l (O m g)));clear i j f g l m
 go_enter Tryz.func259,Tryz.ntmps259
 go_wp2;go_ret;exact⟨rfl,q.o⟩
theorem TD{N k:Nat}(h:k<N)(b:N<=100000):A3 BA (B3 ((k:Int)+1))=A3 BA ((k+1:Nat):Int)/\N - (intOf (A3 BA (B3 ((k:Int)+1)))).toNat<N - (intOf (A3 BA (k:Int))).toNat:=by
 have a:B3 ((k:Int)+1)=((k+1:Nat):Int):=by rw[B1 _ Ω];rfl
 rw[a];refine⟨rfl,?_⟩;simp only[intOf,km];omega
theorem Uj(a:h<=b)(k:b<c):h<c+1:=Ω
theorem Zi{R:Nat}(a:h - b=R)(d:c<R):b+c<h:=Ω
theorem SN{N R:Nat}{a:List Eu}{e:Unit->Ad->List Eu->BD->Prop}(o:1<=N/\h+N<=c/\c - h=R/\a.length<=h/\N<=R/\R<=f/\h<c)(p:CF a=h)(q:e () Y (a++[⟨i,h,N,b,h,f⟩]) J)(k:Y b=0/\b<J.heap.size)
  (r:∀j,j<c->J.cell? ⟨b,j,V⟩=AA (A3 BA ((g+j:Nat):Int))):
  ∃l a d m n,Ax (if f=N then AA ⟨b,h,V⟩else AA ⟨b,h+N,V⟩) (R - N) (f - N)=Ax m (c - d) n/\d<=c/\CF a=d/\a.length<=d/\e () l a J/\(d<c->m=AA ⟨b,d,V⟩/\c - d<=n)/\l b=0/\b<J.heap.size/\∀j,j<c->J.cell? ⟨b,j,V⟩=AA (A3 BA ((g+j:Nat):Int)):=by
 refine⟨Y,_,h+N,(if f=N then AA ⟨b,h,V⟩else AA ⟨b,h+N,V⟩),f - N,?_,o.2.1,by rw[Pa,p],by rw[jU,lr];omega,q,?_,k.1,k.2,r⟩
 ·rw[show c - (h+N)=R - N by omega]
 ·intro s;rw[j7 Ω];exact⟨rfl,Ω⟩
theorem Sz{N R:Nat}{a:List Eu}(d:1<=N/\h+N<=b/\b - h=R/\a.length<=h/\N<=R/\R<=c/\h<b):R - N<R:=Ω
def Ji(b m a X:Nat):Nat:=min (m - X) (a - (b+X)%a)
theorem fQ{lo m X:Nat}(c:0<h)(g:X<m):1<=Ji lo m h X/\X+Ji lo m h X<=m/\(∀j,j<Ji lo m h X->(lo+(X+j))/h=(lo+X)/h)/\(X+Ji lo m h X<m->(lo+(X+Ji lo m h X))/h≠(lo+X)/h):=by
 have f:=lW (lo+X) h;have i:=lT (lo+X) c;unfold Ji;generalize(lo+X)%h=b at*;generalize(lo+X)/h=a at*
 have k:(a+1)*h=a*h+h:=by rw[mS,nZ]
 rw[lM]at f;generalize d:a*h=l at*;refine⟨Ω,Ω,λj n=>?_,λo=>?_⟩
 ·rw[qU c,d];omega
 ·intro e;rw[qU c,d]at e;omega
theorem VM(fn Bs Bd D r b m:Nat)(hn:1<=fn)(hp:0<r)(b0:r<=1000)(b1:1<=m)(hm:b+m<=100000)(C:Nat->Prop)(aU:¬C 0):
  Iu Fence.wide fn BL 280 #[A4 (AA ⟨Bs,0,V⟩),A4 (AA ⟨Bd,0,V⟩)] Pm C (jb Bd D r) (PN b m r) (λxs=>CF xs=m) (m+1) (jt Bs b m):=by
 intro l J Jx W m0 aj hJ bv b5 hA hY h0 hB;obtain⟨sa,sc,bA,aZ⟩:=hB;have HA:=zh hA;have HJ:=zh hJ;have HY:=zh hY;have H0:=zh h0;have a2:=zh aZ;have hz:((r:Int)==0)=BR:=Γ;have b7:¬r=0:=Ω;have G:=zh (IW b m);clear hA hJ bv hY h0 aZ;refine callsIn_of_wp C1 rfl kI ?_ rfl;simp only[Tryz.ntmps280,kR,kj,kP,B9,B8,kF,kG,kU,kJ,kv,kO];have Y:=Yd (EJ b m) sa sc W (by rw[G.o];omega) (by rw[G.o];exact a2.o);rw[G.o]at Y;have a3:=zh Y;clear Y
 gi_wp2_with (refine⟨kI,?_⟩;gi_at_call 281;refine(Bx.2 a3.o).mono ?_;rintro e w1 ⟨a1,c1,rfl,o1,g1⟩)
 have ax:=YE (EJ b m) W.heap.size a1 c1 w1 (by rw[G.o];omega) (λe=>by have:=G.o;rw[e]at this;simp at this;omega) (by rw[G.o];exact o1) (Xm b m);rw[G.o]at ax;have a6:=zh ax;have O1:=zh o1;have G1:=zh g1;clear ax o1 g1
 gi_wp2_with (refine⟨kI,?_⟩;gi_at_call 282;refine(Bx.2 a6.o).mono ?_;rintro e w2 ⟨rfl,Q,g2⟩)
 have g3:=Gt G1.o O1.o (jS _) g2;obtain⟨g,o,rfl,H⟩:=(Ai.aj Q).aZ Ω
 have bD:o=0:=by
  rcases Q.2 with⟨h,_⟩|⟨_,_,_,h,_⟩
  ·cases h
  ·injection h with Z _ _;injection Z with Z;injection Z
 subst bD
 have bb:m<=c1:=by
  rcases Q.2 with⟨h,_⟩|⟨_,_,_,h,_,_,h5,_⟩
  ·cases h
  ·injection h with _ _ h3;rw[h3];exact h5
 have bc:=HJ.o _ _ _ _ _ H0.o g3;have aa:aj g=0:=(HA.o _ _ _ _ H0.o).2 g (Q.lt g rfl).1;have ST:=zh (show J () aj [] w2/\aj g=0/\g<w2.heap.size/\∀j,j<m->w2.cell? ⟨g,j,V⟩=AA (A3 BA ((b+j:Nat):Int))from⟨bc,aa,(Q.lt g rfl).2,λj d=>by have:=H j _ (Tr d);rwa[mx]at this⟩);have bG:=zh bb;clear g2 g3 H bc aa Q G1 O1 a6 bA H0 a2 a3 bb
 gi_loopw [4] (λv wr=>∃c u X av f,v=Ax av (m - X) f/\X<=m/\CF u=X/\u.length<=X/\J () c u wr/\(X<m->av=AA ⟨g,X,V⟩/\m - X<=f)/\c g=0/\g<wr.heap.size/\∀j,j<m->wr.cell? ⟨g,j,V⟩=AA (A3 BA ((b+j:Nat):Int)))
  (λv _=>match v with|Ax _ n _=>n|_=>0)
 case atStart=>exact⟨aj,[],0,_,_,rfl,kN _,rfl,jS _,ST.o.1,λ_=>⟨rfl,bG.o⟩,ST.o.2⟩
 case round=>
  obtain⟨c,u,X,av,f,rfl,hX,ak,bd,d,aB,aa,be,H⟩:=hrel;clear ST
  by_cases he:X=m
  ·subst he;have d0:BC ((0:Int)<((X - X:Nat):Int))=BR:=jV Ω;have bJ:BC (0<X - X)=BR:=jV Ω;have al:=zh d;have S:=zh ak;clear d ak aB H
   gi_wp2
   go_end0
   exact⟨⟨_,rfl⟩,c,C4 ⟨(),u,S.o,al.o⟩⟩
  ·obtain⟨rfl,aC⟩:=aB Ω;obtain⟨⟨w,x⟩,Y⟩:=HA.o _ _ _ _ d;obtain⟨n1,n2,n3,n4⟩:=fQ (m:=m) hp (lo:=b) (X:=X) Ω;obtain⟨N,hN⟩:=Ag (Ji b m r X);rw[hN]at n1 n2 n3 n4;obtain⟨R,hR⟩:=Ag (m - X);obtain⟨p,ao⟩:=Ag ((b+X)/r);rw[ao]at n3 n4;rw[hR]at aC⊢
   have aG:∀j,j<R->B3 (((b+(X+j):Nat):Int)/(r:Int))=(((b+(X+j))/r:Nat):Int):=λj d=>by
    rw[<-oJ];exact EX (j8 (nK _ _) Ω)
   have q0:B3 (((b+X:Nat):Int)/(r:Int))=(p:Int):=by have:=aG 0 Ω;rw[lD,ao]at this;exact this
   have bi:p<=100000:=by rw[<-ao];exact j8 (nK _ _) Ω
   have d0:BC ((0:Int)<(R:Int))=CA:=jT Ω;have bJ:BC (0<R)=CA:=jT Ω;have al:=zh d;have a:=zh (show 1<=N/\X+N<=m/\m - X=R/\u.length<=X/\N<=R/\R<=f/\X<m from⟨n1,n2,hR,bd,Ω,aC,Ω⟩);have ap:=zh (O n3 n4);have bj:=zh aG;have S:=zh ak;have T:=zh H;have z:=zh (O aa be);have b8:=zh bi;have HK:=zh (O w x);have s:=H X Ω;obtain⟨A,aH⟩:=Ag (b+X);rw[aH]at s q0;have q1:=Cn q0;have ca:=zh aH;clear aH;have cb:0<R:=Ω;have e0:=AV s;have e1:=AV w;have e2:=AV x;clear hN hR ao n1 n2 n3 n4 aG ak H aa be d Y bd hX he aC bi s w x aB
   gi_wp2
   refine B5.2 ?_;refine CU Φ Φ ?_
   repeat(go_big_quiet_step (fail))
   refine B0 ?_;rintro _ ⟨q,rfl⟩;have g4:=CY q;generalize gw q=w4 at*;clear e0 e1 e2 q;have bm:=zh g4;clear g4
   gi_wp2
   gi_loopw [6] (λi bK=>∃k:Nat,i=A3 BA k/\1<=k/\k<=N/\wr.grownBy bK V) (λi _=>N - (intOf i).toNat)
   case atStart=>exact⟨1,rfl,jS _,a.o.1,bm.o⟩
   case round=>
    obtain⟨k,rfl,aq,aI,B⟩:=hrel;clear bm;have aJ:=zh B;have w:=B.cell HK.o.1 Δ;have x:=B.cell HK.o.2 Δ
    by_cases U:k<N
    ·have d1:BC ((k:Int)<(R:Int))=CA:=jT (Ψ a.o);have bo:BC (k<R)=CA:=jT (Ψ a.o)
     have I:k<R:=by have:=a.o;omega
     obtain⟨Bk,ae⟩:=Ag (b+(X+k));have s:=B.cell (T.o (X+k) (Ψ a.o)) Δ;have K:=bj.o k I;rw[ap.o.1 k U]at K;rw[ae]at s K;have q3:=Cn K;have e0:=AV s;have e1:=AV w;have e2:=AV x;have bM:=zh (show k+1<=N/\1<=k from⟨U,aq⟩);have bq:=zh (TD (k:=k) U (Ψ a.o));clear ae s w x B U aq aI
     gi_wp2
     refine B5.2 ?_;refine CU Φ Φ ?_
     repeat(go_big_quiet_step (fail))
     refine B0 ?_;rintro _ ⟨q,rfl⟩;have E:=Ae aJ.o (CY q);generalize gw q=F at*;clear e0 e1 e2 q;have t:=zh E;clear E
     gi_wp2
     go_roundw
     case rel=>exact⟨k+1,bq.o.1,Nat.le_add_left 1 k,bM.o.1,t.o⟩
     case measure=>exact bq.o.2
    ·obtain rfl:k=N:=by omega
     by_cases aK:k=R
     ·have d1:BC ((k:Int)<(R:Int))=BR:=jV Ω;have bo:BC (k<R)=BR:=jV Ω;clear aK;clear B U aq aI w x
      gi_wp2
      refine B5.2 ?_;refine CU Φ Φ ?_
      repeat(go_big_quiet_step (fail))
      refine B0 ?_;rintro _ ⟨q,rfl⟩;have E:=Ae aJ.o (CY q);generalize gw q=F at*;clear q;have t:=zh E;clear E;have aL:=zh (HJ.o _ _ _ _ _ al.o t.o);have L:PN b m r u ⟨p,X,k,g,X,f⟩ F () c:=⟨S.o.symm,a.o.1,a.o.2.1,ap.o.1,z.o.1,j8 a.o.2.2.2.2.1 a.o.2.2.2.2.2.1,λj d=>t.o.cell (T.o (X+j) (jY (B7 d X) a.o.2.1)) Δ⟩;obtain⟨bN,bO,bP,bQ,hy,M⟩:=HY.o () c u ⟨p,X,k,g,X,f⟩ F aL.o (Uj a.o.2.2.2.1 a.o.2.2.2.2.2.2) L;dsimp only[Pm]at hy;have bR:(k:Int)<=(f:Int):=oK.2 (j8 a.o.2.2.2.2.1 a.o.2.2.2.2.2.1);have bS:(k:Int)<=(R:Int):=oK.2 a.o.2.2.2.2.1;have bT:(R:Int)<=(f:Int):=oK.2 a.o.2.2.2.2.2.1;have bU:k<=f:=j8 a.o.2.2.2.2.1 a.o.2.2.2.2.2.1;have bV:k<=R:=a.o.2.2.2.2.1;have bW:R<=f:=a.o.2.2.2.2.2.1;have bX:=zh L;clear L
      gi_wp2
      clear hy;refine M.mono ?_;rintro e W4 ⟨c4,y,(⟨rfl,⟨⟩,ah⟩|⟨rfl,aM⟩)⟩
      ·have P:g<F.heap.size:=jY z.o.2 t.o.size;have ai:c4 g=0:=(y.ah g P).trans z.o.1;have aN:=zh (λj (d:j<m)=>y.aq (t.o.cell (T.o j d) Δ) (show¬C (c g) by rw[z.o.1];exact aU));have aO:=zh (O ai (jY P y.size));have J4:=zh ah;clear y ah P ai M
       gi_wp2
       go_roundw
       case rel=>exact SN a.o S.o J4.o aO.o aN.o
       case measure=>exact Sz a.o
      ·clear M
       gi_wp2
       refine CE (CB rfl _ _ _) rfl ?_;exact⟨⟨_,rfl⟩,c4,B4 aM⟩
     ·have I:k<R:=Nat.lt_of_le_of_ne a.o.2.2.2.2.1 aK;have d1:BC ((k:Int)<(R:Int))=CA:=jT (Int.ofNat_lt.2 I);have bo:BC (k<R)=CA:=jT I;obtain⟨Bk,ae⟩:=Ag (b+(X+k))
      have aQ:X+k<m:=by have Z:=a.o.2.2.1;have h2:=a.o.2.2.2.2.2.2;exact(Zi Z I)
      have s:=B.cell (T.o (X+k) aQ) Δ;have K:=bj.o k I;have ar:=ap.o.2 aQ;rw[ae]at s K ar;obtain⟨Qk,bs⟩:=Ag (Bk/r);rw[bs]at K ar;have q3:=Cn K
      have dq:((Qk:Int)==(p:Int))=BR:=by rw[lu];exact λe=>ar (Int.ofNat_inj.1 e)
      have cf:(Qk==p)=BR:=by rw[lu];exact ar
      have e0:=AV s;have e1:=AV w;have e2:=AV x;clear ae bs s aQ aK;clear B U aq aI w x
      gi_wp2
      refine B5.2 ?_;refine CU Φ Φ ?_
      repeat(go_big_quiet_step (fail))
      refine B0 ?_;rintro _ ⟨q,rfl⟩;have E:=Ae aJ.o (CY q);generalize gw q=F at*;clear q e0 e1 e2 I;have t:=zh E;clear E;have aL:=zh (HJ.o _ _ _ _ _ al.o t.o);have L:PN b m r u ⟨p,X,k,g,X,f⟩ F () c:=⟨S.o.symm,a.o.1,a.o.2.1,ap.o.1,z.o.1,j8 a.o.2.2.2.2.1 a.o.2.2.2.2.2.1,λj d=>t.o.cell (T.o (X+j) (jY (B7 d X) a.o.2.1)) Δ⟩;obtain⟨bN,bO,bP,bQ,hy,M⟩:=HY.o () c u ⟨p,X,k,g,X,f⟩ F aL.o (Uj a.o.2.2.2.1 a.o.2.2.2.2.2.2) L;dsimp only[Pm]at hy;have bR:(k:Int)<=(f:Int):=oK.2 (j8 a.o.2.2.2.2.1 a.o.2.2.2.2.2.1);have bS:(k:Int)<=(R:Int):=oK.2 a.o.2.2.2.2.1;have bT:(R:Int)<=(f:Int):=oK.2 a.o.2.2.2.2.2.1;have bU:k<=f:=j8 a.o.2.2.2.2.1 a.o.2.2.2.2.2.1;have bV:k<=R:=a.o.2.2.2.2.1;have bW:R<=f:=a.o.2.2.2.2.2.1;have bX:=zh L;clear L
      gi_wp2
      clear hy;refine M.mono ?_;rintro e W4 ⟨c4,y,(⟨rfl,⟨⟩,ah⟩|⟨rfl,aM⟩)⟩
      ·have P:g<F.heap.size:=jY z.o.2 t.o.size;have ai:c4 g=0:=(y.ah g P).trans z.o.1;have aN:=zh (λj (d:j<m)=>y.aq (t.o.cell (T.o j d) Δ) (show¬C (c g) by rw[z.o.1];exact aU));have aO:=zh (O ai (jY P y.size));have J4:=zh ah;clear y ah P ai M
       gi_wp2
       go_roundw
       case rel=>exact SN a.o S.o J4.o aO.o aN.o
       case measure=>exact Sz a.o
      ·clear M
       gi_wp2
       refine CE (CB rfl _ _ _) rfl ?_;exact⟨⟨_,rfl⟩,c4,B4 aM⟩
end
section
open Go Go.RowKit Go.Shelf
attribute [local go_sem ↓] Go.wp_at_zero Go.wp_at_succ
theorem Yx(j:Cw J Y h f g i b a)(p:b<=8)(d:J.cell? ⟨c,0,V⟩=AA (A4 (AA ⟨h,0,V⟩))):
  PredAt BL 258 #[A4 (AA ⟨c,0,V⟩)] (A3 BA) (λx:Int=>BC (x<0)||BC (((2^b:Nat):Int)<=x)) J:=by
 intro W x l;have o:Cw W Y h f g i b a:=⟨j.u.bg (l.block h j.u.lt),j.c0⟩;have r:W.cell? ⟨c,0,V⟩=AA (A4 (AA ⟨h,0,V⟩)):=(l.cell (BX J _ d)).trans d;have q:=zh (LV o p);generalize 2^b=m at*;clear j d l o;unfold FnGives
 by_cases k:x<0
 ·have n:BC (x<0)=CA:=jT k;simp only[n,Bool.true_or];clear k
  go_enter CR,CX
  go_wp2_with fail;go_ret;exact⟨rfl,0,rfl⟩
 ·have n:BC (x<0)=BR:=jV k;simp only[n,pI];obtain⟨s,d⟩:=Ag (BC ((m:Int)<=x));rw[d];clear k
  go_enter CR,CX
  go_wp2_with fail;refine q.o.mono ?_;rintro e t ⟨rfl,rfl⟩;go_wp2_with fail;go_ret;exact⟨rfl,0,rfl⟩
theorem VD(t:Cw J Y i j k l c a)(n:c<=8)(u:J.cell? ⟨f,0,V⟩=AA (A4 (AA ⟨i,0,V⟩)))(v:1<=h)(C:b+h<=2^c){p:Option Addr}(w:Ai J 1 (Ax p h g) h ((EJ b h).map (A3 BA))):
  C3 BL 257 #[Ax p h g,.func (.func 258) #[] #[A4 (AA ⟨f,0,V⟩)]] J λe r=>e=B2 (.bool BR)/\J.grownBy r V:=by
 obtain⟨y,o,rfl,z⟩:=w.aZ v;have D:=(GN n).2;refine(AnyE.slices_ContainsFunc ZZ (A3 BA) _ 258 #[A4 (AA ⟨f,0,V⟩)] (enters_of CR Φ rfl) y o h g (EJ b h) J (Yx t n u) (by rw[IW];exact jS _) Ω (λm d=>?_)).mono ?_
 ·rw[IW]at d;rw[z m _ (Tr d)];have A:=KJ b h m d;rw[List.getElem!_eq_getElem?_getD,A];rfl
 ·rintro e r ⟨rfl,q,rfl⟩;refine⟨?_,AS J q V⟩;generalize 2^c=M at*
  have:(List.take h (EJ b h)).any (λx=>BC (x<0)||BC ((M:Int)<=x))=BR:=by
   rw[qr];intro x B;obtain⟨m,d⟩:=mD (lV B);have s:=(jX.1 d).1;rw[IW]at s;rw[KJ _ _ _ s]at d;injection d with d;rw[<-d];simp;omega
  rw[this]
end
section
open Go Go.RowKit Go.Shelf
attribute [local go_sem] Oper.semAt_some
structure Ep(w:BD)(u:Ad)(D s d j v x:Nat)(a:Ah)(P:Pl)(q y:Nat)(z:Ap)(A:Int->List Nat)(T L:List Ah)(B:Nat)(r:Ah)(k l m n o g p b:Nat)(e:List Ah)(f:Ap)(t:Int->List Nat)(Q:Nat)(c:Ad)(h:List Eu)(X:BD):Prop where
 i:Cw X c D s j v x a
 sd:SD X c s d P Q y f t
 on:AN P A t
 dc:Cz f a T e (A0 j (CC L B (CF h) r))
 fr:Fr (AE a T) (AE a e) z f
 sp:Ce f (P.bv+3)
 tl:e.length=b
 st:Ab (EF 200) w u X c
 le:h.length<=CF h
 k3:Aa X k 161 [A4 (AA ⟨D,0,V⟩)]
 h3:c k=0
 k5:Aa X l 165 [A3 BA r.1,A3 BA r.2]
 h5:c l=0
 k6:Aa X m 32 [A3 BA 0]
 h6:c m=196
 k7:Aa X n 251 [Ax (AA ⟨g,0,V⟩) b p]
 h7:c n=0
 kd:Aa X o 161 [A4 (AA ⟨D,0,V⟩)]
 hd:c o=0
 aB:X.ownsRow w.heap.size 165 2 (Ax (AA ⟨g,0,V⟩) b p) b (A5 e)
 hr:c g=130
theorem Ep.hy{C:Nat->Prop}{A:Ap}{B:Ah}{D F:Nat}{G:List Ah}{M:Int->List Nat}{Q:Nat}{H:Ad}{I:List Eu}
  (m:Ep o q g h b i j k a e l c A E Z n r B s t w x y f D F G d M Q H I p)(u:Ab C p H J Y)(v:¬C 0)(N:¬C 6)(O:¬C 130)(P:¬C 196)(R:∀K,C K->EF 200 K){L:Nat}{z:Int->List Nat}(S:SD J Y h b e L c d z)(T:AN e E z):
  Ep o q g h b i j k a e l c A E Z n r B s t w x y f D F G d z L Y I J:=
 have U:=m.aB.lt f rfl
 ⟨m.i.ae u N,S,T,m.dc,m.fr,m.sp,m.tl,m.st.trans (u.mono R),m.le,u.u m.k3 (by rw[m.h3];exact v),by rw[u.ah _ m.k3.lt];exact m.h3,u.u m.k5 (by rw[m.h5];exact v),by rw[u.ah _ m.k5.lt];exact m.h5,
  u.u m.k6 (by rw[m.h6];exact P),by rw[u.ah _ m.k6.lt];exact m.h6,u.u m.k7 (by rw[m.h7];exact v),by rw[u.ah _ m.k7.lt];exact m.h7,u.u m.kd (by rw[m.hd];exact v),by rw[u.ah _ m.kd.lt];exact m.hd,
  u.ak.aL m.aB (λW V=>by cases V;rw[m.hr];exact O),by rw[u.ah _ U.2];exact m.hr⟩
theorem Ep.am{C:Nat->Prop}{u:Ah}{v z:Nat}{A:List Ah}{B:Ap}{D:Int->List Nat}{Q:Nat}{F:Ad}{G:List Eu}
  (m:Ep J Y h b c f g i a e j k d E Z n l u r s t w x y v z A B D Q q G o)(H:Ab C o q p F)(I:¬C 0)(L:¬C 1)(M:¬C 2)(N:¬C 3)(O:¬C 6)(P:¬C 130)(R:¬C 196)(S:∀K,C K->EF 200 K):
  Ep J Y h b c f g i a e j k d E Z n l u r s t w x y v z A B D Q F G p:=
 m.hy H I O P R S (m.sd.ae H N M L I) m.on
theorem Ep.grown{u:Ah}{v z:Nat}{A:List Ah}{B:Ap}{D:Int->List Nat}{Q:Nat}{F:List Eu}
  (m:Ep J Y h b c f g i a e j k d E Z n l u r s t w x y v z A B D Q q F o)(G:o.grownBy p V):
  Ep J Y h b c f g i a e j k d E Z n l u r s t w x y v z A B D Q q F p:=
 m.am (C:=λ_=>False) (Ab.grown m.st.new G) (λm=>m) (λm=>m) (λm=>m) (λm=>m) (λm=>m) (λm=>m) (λm=>m) (λ_ m=>m.elim)
theorem Ep.bT{N:Ad}{O:Ah}{P:Ap}{Q:Int->List Nat}{T:List Ah}{F:Nat}{R S U W c7:Nat}{ab:Ap}{ac:Int->List Nat}{C:List Eu}{X:BD}
  (m:Ep p N s i j c t w O e x k P Q T Z F a y R S U W b c7 l n ab ac r q C X)(u:Ab (SS 106) X q J Y)(sd:SD J Y i j e (r+3) k d E)(on:AN e ac E){x0 g o cc:Nat}{L t':Ah}(G:n[h]?=AA L)(M:Fr [L.1] [t'.1] ab d)
  (hn:d t'.1=AA (t'.2,AQ (A0 c (CC Z F (CF C+f) a) h)))(ah:∀v,v<f->(F+(CF C+v))/c=h)(hp:0<c)(hx:1<=f):
  (∃u0 u1,J.cell? ⟨b,h*2,V⟩=AA u0/\J.cell? ⟨b,h*2+1,V⟩=AA u1)/\(∀v,J.frozen? ⟨b,v,V⟩=BR)/\∃D,((J.setCell ⟨b,h*2,V⟩ (A3 BA (t'.1:Nat))).setCell ⟨b,h*2+1,V⟩ (A3 BA (t'.2:Nat)))=D/\Ab (λv=>v=130) J Y D Y/\
   Ep p N s i j c t w O e x k P Q T Z F a y R S U W b c7 l (n.set h t') d E (r+3) Y (C++[⟨h,x0,f,g,o,cc⟩]) D:=by
 have H:∀v,v=0\/v=6\/106<=v->¬SS 106 v:=λv hj=>by rintro(m|m)<;>omega
 have aj:=u.ak.aL m.aB (λax hb=>by cases hb;rw[m.hr];exact H _ Ω);have al:=m.aB.lt b rfl
 have ad:Y b=130:=by rw[u.ah _ al.2];exact m.hr
 have am:h<l:=by rw[<-m.tl];exact(jX.1 G).1
 obtain⟨hu,hz,D,hZ,aq,ar⟩:=Pd aj am t';have A:Ab (λv=>v=130) J Y D Y:=AG u.new ar (λv z=>by rw[z];exact ad)
 have I:∀{B:Nat},q B=0->¬SS 106 (q B):=λz=>by rw[z];exact H _ Ω
 have K:∀{B:Nat},B<X.heap.size->q B=0->¬Y B=130:=λhl z=>by rw[u.ah _ hl,z];omega
 refine⟨hu,hz,D,hZ,A,?_⟩
 refine⟨(m.i.ae u (H _ Ω)).ae A Ω,sd.ae A Ω Ω Ω Ω,m.on.trans on,?_,m.fr.trans (Ul m.dc.nd G M),m.sp.ee (by rw[m.dc.tp h L G];simp) M,by rw[lm];exact m.tl,(m.st.trans (u.mono (λv z=>z.elim (λz=>C4 Ω) (λz=>B4 Ω)))).trans (A.mono (λv z=>B4 Ω)),?_,
  A.u (u.u m.k3 (I m.h3)) (K m.k3.lt m.h3),by rw[u.ah _ m.k3.lt];exact m.h3,A.u (u.u m.k5 (I m.h5)) (K m.k5.lt m.h5),by rw[u.ah _ m.k5.lt];exact m.h5,A.u (u.u m.k6 (by rw[m.h6];exact H _ Ω)) (by rw[u.ah _ m.k6.lt,m.h6];omega),by rw[u.ah _ m.k6.lt];exact m.h6,
  A.u (u.u m.k7 (I m.h7)) (K m.k7.lt m.h7),by rw[u.ah _ m.k7.lt];exact m.h7,A.u (u.u m.kd (I m.hd)) (K m.kd.lt m.hd),by rw[u.ah _ m.kd.lt];exact m.hd,aq,ad⟩
 ·rw[Pa];exact Cz.hG hp m.dc G M hn ah
 ·rw[Pa,jU,lr];have:=m.le;show C.length+1<=CF C+f;omega
def fc(w:BD)(i:Ad)(D s d j k l:Nat)(m:Ah)(P:Pl)(q n:Nat)(o:Ap)(p:Int->List Nat)(T r:List Ah)(e:Ending)(a:BD):Prop:=
 e=B2 (A3 BA 0)/\∃b c f g h,Ab (EF 200) w i a b/\Dl a b D s d j k l g P (q+1100) n c f h r/\AN P p f/\Fr (AE m T) (AE g h) o c
theorem bH{ah:Nat}(v:Dl J Y b c j h k g a e f ah d E Z n)(hq:f<=1073740000)(cZ:Ce d (e.bv+3))(c0:h=e.bi)(c1:g<=e.dp)
  (M m:Nat)(hm:1<=m)(c5:M+m<=2^g)(r:Ah)(c6:Dx r)(aG:Option Addr)(G:Nat)(hr:Ai J 1 (Ax aG m G) m ((EJ M m).map (A3 BA)))(ha:∀S,(Ax aG m G).ownBlock=AA S->Y S=0):
  C3 BL 230 #[A4 (AA ⟨b,0,V⟩),Ax aG m G,Iz r] J (fc J Y b c j h k g a e f ah d E Z (CC n M m r)):=by
 have be:Fence.wide.round=V:=rfl;obtain⟨wa,eo,ga,bA⟩:=Aq J 161 [A4 (AA ⟨b,0,V⟩)];obtain⟨Q,ep,gb,bf⟩:=Aq wa 165 [A3 BA r.1,A3 BA r.2];obtain⟨wc,eq,gc,bc⟩:=Aq Q 32 [A3 BA 0];have x0:=(bA.grown gb Δ).grown gc Δ |>.m 0;have y0:=(bf.grown gc Δ).m 0;have y1:=(bf.grown gc Δ).m 1;have es:J.heap.size<wa.heap.size:=bA.lt;have et:wa.heap.size<Q.heap.size:=bf.lt;have eu:Q.heap.size<wc.heap.size:=bc.lt;have HB:=zh (O ((bA.grown gb Δ).grown gc Δ) (O (bf.grown gc Δ) bc));have GC:=zh (Ae (Ae ga gb) gc);have HZ:=zh (show J.heap.size<wa.heap.size/\wa.heap.size<Q.heap.size/\Q.heap.size<wc.heap.size by omega);have H:=zh v;have HQ:=zh hq;have ew:=zh cZ;have ab:=zh (O hm (O c5 (O c0 c1)));have cd:=zh c6;have HR:=zh hr;have HA:=zh ha;clear v hq cZ hm c5 c0 c1 c6 hr ha ga gb gc bA bf bc es et eu;refine(Bx (n:=40)).1 ?_;refine callsIn_of_wp_marks Tryz.func230 rfl kI ?_ be;simp only[Tryz.ntmps230,kR,kj,kP,B9,B8,kF,kG,kU,kJ,kv,kO]
 gi_wp2_with (refine⟨kI,?_⟩;gi_at_call 140;refine(Bx.2 (NQ r wc cd.o.1)).mono ?_;rintro s w1 ⟨rfl,g1⟩)
 have G1:=zh (Ae GC.o g1);have x0:=g1.cell x0 Δ;have bi:=zh g1;clear y0 y1 eo ep eq g1
 gi_wp2_with (refine⟨kI,?_⟩;gi_at_call 257;refine(Bx.2 (VD (H.o.i.grown G1.o) H.o.n.d1 x0 ab.o.1 ab.o.2.1 (HR.o.grown G1.o Δ))).mono ?_;rintro s w2 ⟨rfl,g2⟩;have x0:=g2.cell x0 Δ)
 have G2:=zh (Ae G1.o g2);have hz:=HZ.o;obtain⟨c2,bE⟩:=Ag (AL Y Q.heap.size 196)
 have s2:Ab (λq=>q=196) J Y w2 c2:=by
  rw[<-bE];exact(Ab.grown H.o.s.cl G2.o).bC Ω (by have:=HB.o.2.2.lt;have:=(Ae bi.o g2).size;omega) rfl
 have dd:c2 Q.heap.size=196:=by rw[<-bE];exact AY _ _ _
 have ch:∀q,J.heap.size<=q->q≠Q.heap.size->c2 q=0:=λq L h2=>by rw[<-bE,Bg _ _ h2];exact H.o.s.cl q L
 have ex:∀S,(Ax aG m G).ownBlock=AA S->c2 S=0\/True:=λ_ _=>B4 kI
 have F2:=zh (H.o.ae s2 Ω (H.o.s.ae s2 Ω Ω Ω Ω));have K2:=zh (O (HB.o.1.grown (Ae bi.o g2) Δ) (O (HB.o.2.1.grown (Ae bi.o g2) Δ) (HB.o.2.2.grown (Ae bi.o g2) Δ)));have S2:=zh s2;have C2:=zh (O dd ch);have R2:=zh (HR.o.grown G2.o Δ)
 have A2:=zh (λS (hb:(Ax aG m G).ownBlock=AA S)=>show c2 S=0 from by
  by_cases hl:S<J.heap.size
  ·rw[s2.ah S hl];exact HA.o S hb
  ·exact ch S Ω (λs=>by
    have:=HA.o S hb
    exact absurd (HR.o.lt (λs=>by have:=kL List.length s;rw[mH,IW]at this;have:=ab.o.1;simp at*;omega) S hb) hl))
 clear bE s2 dd ch ex g2 bi HB hz
 gi_wp2_with (refine⟨kI,?_⟩;gi_at_call 221;refine(Bx.2 (F2.o.dA (Ψ HQ.o) 130 Ω)).mono ?_;rintro s w3 ⟨a3,c3,rfl,o3,a2,di,s3,dj,dk,z3⟩;obtain⟨w4,ez,g4,b4⟩:=Aq w3 251 [Ax V 0 0];obtain⟨w5,cj⟩:=Ag (w4.setCell ⟨w3.heap.size,0,V⟩ (Ax a3 Z.length c3));have f0:=b4.v 0;have v0:=b4.m 0;have b5:=b4.setCell 0 (Ax a3 Z.length c3);rw[cj]at b5;have g5:w3.grownBy w5 V:=Ac.grown g4 (show Ac (λq=>q=w3.heap.size) w4 w5 by rw[<-cj];exact AF _ _ _ _) (λq s=>by rw[s];exact jS _);have K3:=zh (s3.u K2.o.1 (by rw[C2.o.2 _ (jS _) (Ψ HZ.o)];rintro(v|v)<;>omega));have x0:=(K3.o.grown g5 Δ).m 0)
 simp only[ku]at b5;have eB:=zh b5;have G5:=zh g5;have S3:=zh s3;have dq:=zh dj;have N3:=zh dk;have O3:=zh o3;have Z3:=zh z3;clear f0 v0 ez cj g4 b4 b5 g5 s3 dj dk o3 z3
 gi_wp2_with (refine⟨kI,?_⟩;gi_at_call 259;refine(Bx.2 (VA b aG m G w5)).mono ?_;rintro s w6 ⟨rfl,g6,eD,dt,bB⟩)
 have G6:=zh (Ae G5.o g6)
 have fo:0<Z.length:=by rw[H.o.l.df,Gu H.o.n.p0,ox];exact nm _
 obtain⟨g7,rfl⟩:∃g7,a3=AA ⟨g7,0,V⟩:=by
  rcases O3.o.2 with⟨_,h0⟩|⟨ag,_,_,v,_⟩
  ·omega
  ·injection v with L _ _;exact⟨ag,L⟩
 have bJ:∀q,q<w2.heap.size->a2 q=c2 q:=λq w=>S3.o.ah q w
 have co:∀q,w3.heap.size<=q->a2 q=0:=λq w=>S3.o.new q w
 have hz:=HZ.o;have e3:a2 J.heap.size=0:=(bJ _ K2.o.1.lt).trans (C2.o.2 _ (jS _) Ω);have e5:a2 wa.heap.size=0:=(bJ _ K2.o.2.1.lt).trans (C2.o.2 _ Ω Ω);have e6:a2 Q.heap.size=196:=(bJ _ K2.o.2.2.lt).trans C2.o.1
 have hJ:Ep J Y b c j h k g a e f ah d E Z n M r J.heap.size wa.heap.size Q.heap.size w3.heap.size w5.heap.size g7 c3 Z.length Z d di (f+1+4*0) a2 [] w6:={
  i:=(F2.o.i.ae S3.o (by rintro(v|v)<;>omega)).grown G6.o
  sd:=(dq.o.grown G6.o).mono Δ
  on:=N3.o
  dc:=H.o.l.c
  fr:=Fr.refl _ _
  sp:=ew.o
  tl:=rfl
  st:=((S2.o.mono (λq s=>B4 Ω)).trans (S3.o.mono (λq s=>s.elim (λs=>C4 Ω) (λs=>B4 Ω)))).trans (Ab.grown S3.o.new G6.o)
  le:=jS _
  k3:=K3.o.grown G6.o Δ
  h3:=e3
  k5:=(S3.o.u K2.o.2.1 (by rw[C2.o.2 _ Ω Ω];rintro(v|v)<;>omega)).grown G6.o Δ
  h5:=e5
  k6:=(S3.o.u K2.o.2.2 (by rw[C2.o.1];rintro(v|v)<;>omega)).grown G6.o Δ
  h6:=e6
  k7:=eB.o.grown g6 Δ
  h7:=co _ (jS _)
  kd:=dt
  hd:=co _ G5.o.size
  aB:=BQ (AP O3.o G6.o) G2.o.size
  hr:=Z3.o g7 rfl}
 have RD:=zh ((S3.o.aP R2.o (λS hb=>by rw[A2.o S hb];rintro(v|v)<;>omega)).grown G6.o Δ);have HJ:=zh hJ;have BB:=zh bB;have ac:=H.o.n;have fp:=(GN ac.d1).2;clear hJ bB dt e3 e5 e6 bJ co hz g6 eD R2 A2 Z3 O3 N3 dq K3 x0
 refine IJ HJ.o.st.new be Ω (gf:=280) (lb:=#[A4 (AA ⟨w5.heap.size+1,0,V⟩),A4 (AA ⟨w5.heap.size,0,V⟩)]) rfl kI (enters_of C1 Φ rfl)
  (C:=λq=>q=1\/q=2\/q=3\/(100<=q/\q<=130)\/q=199) (B4 (B4 (B4 (B4 rfl)))) (VM 39 (w5.heap.size+1) w5.heap.size b h M m Ω ac.p0 (Ψ ac.p1) ab.o.1 (Ψ ab.o.2.1) _ Ω) (λW1 fs hg _=>⟨aG,G,(BB.o.grown hg Δ).m 0,RD.o.grown hg Δ⟩) (λ_=>rfl)
  (λ_ G B X=>∃T ar ay,Ep J Y b c j h k g a e f ah d E Z n M r J.heap.size wa.heap.size Q.heap.size w3.heap.size w5.heap.size g7 c3 Z.length T ar ay (f+1+4*B.length) G B X) (λ_ _ _=>False)
  (λa0 x a' X G=>a'={tmps:=(((a0.tmps.setIfInBounds 36 (A3 BA (x.p:Nat))).setIfInBounds 37 (Ax (AA ⟨x.g,x.o,V⟩) x.n x.c)).setIfInBounds 9 (A3 BA (x.p:Nat))).setIfInBounds 10 (Ax (AA ⟨x.g,x.o,V⟩) x.n x.c),defers:=[]})
  ()
  (λm G c' B X dC v c=>?i1)
  (λ_ _ _ _ _ v _=>v)
  (λm G B X v=>?i2)
  (λm G c' B x X dC v c=>?i3)
  (λG c' x a' X dC v c=>v)
  ⟨Z,d,di,HJ.o⟩ (λq=>q=1\/q=2\/q=3\/(100<=q/\q<=130)) (λq v=>Ω) Ω Ω
  ?assign ?body ?done (λ_ _ _ _ v=>v.elim)
 case i1=>
  obtain⟨T,ar,ay,w⟩:=v;exact⟨T,ar,ay,w.am c Ω Ω Ω Ω Ω Ω Ω (λq s=>B4 (by rcases s with rfl|rfl<;>exact⟨Ω,Ω⟩))⟩
 case i2=>
  obtain⟨T,ar,ay,w⟩:=v;exact⟨⟨w.kd.m 0,w.i.cells.2.1⟩,w.st.new⟩
 case i3=>
  obtain⟨L,h2,h3,h4,h5,h6,h7⟩:=v;have hl:=BX X _ (h7 0 Ω);exact⟨L,h2,h3,h4,by rw[c.ah _ hl];exact h5,h6,λq w=>c.aq (h7 q w) (by show¬BK (G x.g);rw[h5];omega)⟩
 case assign=>
  intro l m' G B x X K hI az hR z;obtain⟨p,x0,ap,ag,o,cc⟩:=x;have eH:Hd (Aw X G):=zh (by obtain⟨_,_,_,w⟩:=hI;exact w.st.new)
  gi_wp2
  exact z _ _ G (Ab.refl eH.o) hI hR rfl
 case body=>
  intro l m' G B x a' X hI az hR eI;obtain⟨p,x0,ap,ag,o,cc⟩:=x;obtain⟨T,ar,ay,N⟩:=hI;obtain⟨hX,bL,cs,bM,ct,cu,cv⟩:=hR;dsimp only at hX bL cs bM ct cu cv;subst eI;have dE:=bM 0 bL;have dF:=oO (M+(x0+0)) h;rw[dE]at dF
  have bN:p*h<2^g:=by have:=ab.o.2.1;omega
  have bO:p<Z.length:=by rw[H.o.l.df,Gu ac.p0];exact bN
  obtain⟨t,ht⟩:∃t,T[p]?=AA t:=⟨_,jW (by rw[N.tl];exact bO)⟩
  have bp:∀D,(A0 h (CC n M D r) p).length=min h (2^g - p*h):=λD=>by rw[Jv,OP,H.o.l.aF]
  have cw:∀D,∀y∈CC n M D r,Dx y:=λD y hy=>(SV hy).elim (λs=>s▸cd.o) (H.o.ok y)
  have bQ:=RF N.i ac N.sd (by have L:=HQ.o;have h2:=ab.o.2.1;omega) (AA ⟨g7,0,V⟩) c3 (by rw[N.tl];exact Ai.aj N.aB) (by rw[N.tl];exact H.o.tl) p t ht (N.dc.tp p t ht) bN (bp _) (Mz (cw _)) 108 Ω;obtain⟨CL,cx⟩:=Ag (min h (2^g - p*h));rw[cx]at bp;unfold Kz at bQ;rw[N.tl,bp]at bQ;have cy:=zh bQ;have bR:=zh N;have y3:=N.k3.m 0;have y7:=N.k7.m 0;have HT:=zh ht;have eJ:=zh bp;have eK:=zh cw;have a4:=zh (O cx (O bN bO));have HX:=zh (O hX (O bL (O cs (O bM cu))));have bT:=zh (O ct cv);obtain⟨TN,br⟩:=Ag Z.length;rw[br]at cy bR y7 a4;clear dE dF ht bp cw bQ cx N bO bN hX bL cs bM ct cu cv;simp only[mG,ku,kM]
  gi_wp2_with (refine⟨kI,?_⟩;gi_at_call 222;refine(CallsIn.inRound l (Bx.2 cy.o)).mono ?_;rintro s w7 ⟨a8,c8,rfl,o8,av,dG,s8,dH,dI,z8⟩)
  have P:∀q,q=0\/q=6\/109<=q->¬SS 109 q:=λq w=>by rintro(v|v)<;>omega
  have ft:0<CL:=by have L:=a4.o;have h2:=ac.p0;omega
  obtain⟨g8,rfl⟩:∃g8,a8=AA ⟨g8,0,V⟩:=by
   rcases o8.2 with⟨_,h0⟩|⟨g8,_,_,v,_⟩
   ·omega
   ·injection v with L _ _;exact⟨g8,L⟩
  have cg:G ag=0:=bT.o.1;have dK:ag<X.heap.size:=BX X _ (bT.o.2 0 HX.o.2.1);have J8:=zh (bR.o.hy s8 (P _ Ω) (P _ Ω) (P _ Ω) (P _ Ω) (λq s=>s.elim (λs=>C4 Ω) (λs=>B4 Ω)) dH (bR.o.on.trans dI));have O8:=zh o8;have Z8:=zh (O (z8 g8 rfl) (show av ag=0 by rw[s8.ah ag dK];exact cg));have E8:=zh (λq (w:q<ap)=>s8.aq (bT.o.2 q w) (show¬SS 109 (G ag) by rw[cg];exact P _ Ω));have fu:=zh s8.size;have S8:Hd (Ab (λq=>q=1\/q=2\/q=3\/(100<=q/\q<=130)) X G w7 av):=zh (s8.mono (λq s=>s.elim (λs=>Ω) (λs=>Ω)));have eN:=HX.o.1;subst eN
  have dQ:=zh (show ap<=256/\CL<=64/\M<=256/\CF B<=256/\p<=256 by
   have L:=HX.o.2.2.1;have h2:=ac.p1;have h3:=a4.o;have h4:=H.o.tl;have h5:=ab.o.2.1
   refine⟨Ω,Ω,Ω,Ω,Ω⟩)
  clear s8 dH dI o8 z8 cg dK P y3 y7 cy bT bR
  gi_loopw [50] (λi wr=>∃D:Nat,i=A3 BA D/\D<=ap/\Ep J Y b c j h k g a e f ah d E Z n M r J.heap.size wa.heap.size Q.heap.size w3.heap.size w5.heap.size g7 c3 TN T ar dG (f+1+4*B.length+1) av B wr/\
   wr.ownsRow X.heap.size 165 2 (Ax (AA ⟨g8,0,V⟩) CL c8) CL (A5 (A0 h (CC n M (CF B+D) r) p))/\(∀q,q<ap->wr.cell? ⟨ag,o+q,V⟩=AA (A3 BA ((M+(CF B+q):Nat):Int)))/\Ab (λq=>q=1\/q=2\/q=3\/(100<=q/\q<=130)) X G wr av) (λi _=>ap - (intOf i).toNat)
  case atStart=>exact⟨0,rfl,kN _,J8.o,O8.o,E8.o,S8.o⟩
  case round=>
   obtain⟨D,rfl,dR,w,ho,he,cC⟩:=hrel;clear J8 O8 E8 S8;have cD:=zh cC;have a6:=zh w;have cE:=zh ho;have dS:=zh he
   by_cases hk:D<ap
   ·have d1:BC ((D:Int)<(ap:Int))=CA:=jT Ω;have eO:BC (D<ap)=CA:=jT hk;obtain⟨A,hA⟩:=Ag (M+(CF B+D));have y0:=he D hk;have bV:=HX.o.2.2.2.1 D hk;rw[hA]at y0 bV
    have hz:((h:Int)==0)=BR:=by have:=ac.p0;simp;omega
    have eP:¬h=0:=by have:=ac.p0;omega
    obtain⟨a7,hf⟩:=Ag (A%h)
    have dU:a7<h:=by rw[<-hf];exact lT _ ac.p0
    have q2:(A:Int).tmod (h:Int)=(a7:Int):=by rw[ln Ω, <-hf];rfl
    have eR:(A:Int)%(h:Int)=(a7:Int):=by rw[<-hf];rfl
    have dV:a7<CL:=by
     have L:=lW A h;rw[bV,hf,lM]at L;have h2:=a4.o.1;have h3:=ab.o.2.1;have h4:=HX.o.2.2.1;omega
    have y3:=w.k3.m 0;have y5:=w.k5.m 0;have y6:=w.k5.m 1;have yp:=w.i.cells.2.1;have HF:=zh (O hA (O bV (O hf (O dU dV))));have HM:=zh (TD (k:=D) hk (Ψ dQ.o));have HK:=zh hk;clear hA bV hf dU w ho he cC hk dR
    gi_wp2
    refine IH (λW=>W.cell? ⟨J.heap.size,0,V⟩=AA (A4 (AA ⟨b,0,V⟩))/\W.cell? ⟨b,1,V⟩=AA (A3 BA h)/\W.cell? ⟨wa.heap.size,0,V⟩=AA (A3 BA (r.1:Nat))/\W.cell? ⟨wa.heap.size,1,V⟩=AA (A3 BA (r.2:Nat))) [([0,1,2,3,4,5,6,7,8],9,BR)] be Φ Φ ?_;obtain⟨w9,aD,u⟩:=AZ wr;rw[aD];refine Fe ⟨u.cell y3 Δ,u.cell yp Δ,u.cell y5 Δ,u.cell y6 Δ⟩ ?_;clear y3 yp y5 y6 y0 aD
    repeat((apply Fa rfl (λ_=>rfl) Θ;(· intro wS F;(try have F:=F rfl);(try dsimp only at F);(try have x3:=F.1);(try have xp:=F.2.1);(try have x5:=F.2.2.1);(try have x6:=F.2.2.2);go_simp;(try with_reducible rfl)));(refine Ak ?_))
    refine Fc ?_;refine BW rfl (λK z=>?_);have o9:=AP cE.o u;obtain⟨⟨u0,u1,cG,cH⟩,fz,wA,eT,oA,tA⟩:=Pd o9 dV r;have f0:=fz (a7*2);have f1:=fz (a7*2+1);have G9:=zh u;have d4:=zh (O oA tA);clear u oA tA o9 fz;go_simp;refine z _ _ ⟨λhf=>(by cases hf),?_⟩;clear z K f0 f1 cG cH eT d1 eO hz eP q2 eR;refine Ak ?_;refine Fu (NoPanic.normal ?_);have bw:=HF.o;have sA:Ab (λq=>q=108) wr av wA av:=(Ab.grown a6.o.st.new G9.o).trans (AG (Aw.grown a6.o.st.new G9.o) d4.o.2 (λq s=>by rw[s];exact Z8.o.1))
    have HN:=zh (show Ep J Y b c j h k g a e f ah d E Z n M r J.heap.size wa.heap.size Q.heap.size w3.heap.size w5.heap.size g7 c3 TN T ar dG (f+1+4*B.length+1) av B wA/\
     wA.ownsRow X.heap.size 165 2 (Ax (AA ⟨g8,0,V⟩) CL c8) CL (A5 (A0 h (CC n M (CF B+(D+1)) r) p))/\(∀q,q<ap->wA.cell? ⟨ag,o+q,V⟩=AA (A3 BA ((M+(CF B+q):Nat):Int)))/\Ab (λq=>q=1\/q=2\/q=3\/(100<=q/\q<=130)) X G wA av from
     ⟨a6.o.am sA Ω Ω Ω Ω Ω Ω Ω (λq s=>B4 Ω),by
      rw[UX ac.p0 n M (CF B) D p r (by rw[bw.1];exact bw.2.1),bw.1,bw.2.2.1]
      exact d4.o.1,λq w=>sA.aq (dS.o q w) (show¬av ag=108 by rw[Z8.o.2];omega),cD.o.trans (sA.mono (λq s=>Ω))⟩)
    clear sA bw
    gi_wp2
    go_roundw
    case rel=>exact⟨D+1,HM.o.1,HK.o,HN.o⟩
    case measure=>exact HM.o.2
   ·obtain rfl:D=ap:=by omega
    have d1:BC ((D:Int)<(D:Int))=BR:=Δ;have y3:=w.k3.m 0;have y7:=w.k7.m 0;have yd:=w.i.cells.1;obtain⟨z0,z1⟩:=MD w.aB HT.o;have bO:p<TN:=a4.o.2.2;clear w ho he cC hk dR
    gi_wp2
    refine IH (λW=>W.cell? ⟨w3.heap.size,0,V⟩=AA (Ax (AA ⟨g7,0,V⟩) TN c3)/\W.cell? ⟨J.heap.size,0,V⟩=AA (A4 (AA ⟨b,0,V⟩))/\W.cell? ⟨b,0,V⟩=AA (A4 (AA ⟨c,0,V⟩))/\W.cell? ⟨g7,p*2,V⟩=AA (A3 BA (t.1:Nat))/\W.cell? ⟨g7,p*2+1,V⟩=AA (A3 BA (t.2:Nat))) [([0,1,2,3,4,5,6,7,8,9,10],11,CA),([],12,CA),([13,14,15,16],17,BR),([],18,BR)] be Φ Φ ?_;obtain⟨w9,aD,u⟩:=AZ wr;rw[aD];refine Fe ⟨u.cell y7 Δ,u.cell y3 Δ,u.cell yd Δ,u.cell z0 Δ,u.cell z1 Δ⟩ ?_;clear aD
    repeat((apply Fa rfl (λ_=>rfl) Θ;(· intro wS F;(try have F:=F rfl);(try dsimp only at F);(try have x7:=F.1);(try have x3:=F.2.1);(try have x1:=F.2.2.1);(try have x5:=F.2.2.2.1);(try have x6:=F.2.2.2.2);go_simp;(try with_reducible rfl)));(refine Ak ?_))
    refine Fc ?_;refine BW rfl (λK z=>?_);go_simp;refine⟨kI,?_⟩;obtain⟨ll,b3⟩:=Ag (A0 h (CC n M (CF B+D) r) p);have az:=eJ.o (CF B+D)
    have d5:∀y∈ll,Dx y:=by rw[<-b3];exact Mz (eK.o _)
    have o8:=cE.o;rw[b3]at az o8;have aR:=IP ll (AA ⟨g8,0,V⟩) c8 w9 (by rw[az];exact(Ai.aj o8).grown u Δ) (by rw[az];have:=dQ.o;omega) d5;rw[az]at aR;have d6:=zh (O b3 az);refine(Bx.2 aR).mono ?_;clear aR d5 o8 b3 az;rintro s wB ⟨cM,cB,rfl,oB,R⟩;dsimp only;have JB:=zh (a6.o.grown (Ae u R));have PB:=zh (IM JB.o.st.new oB a6.o.st.new u.size);refine z _ _ ⟨λ_=>⟨R.cell (u.cell y7 Δ) Δ,R.cell (u.cell y3 Δ) Δ,R.cell (u.cell yd Δ) Δ,R.cell (u.cell z0 Δ) Δ,R.cell (u.cell z1 Δ) Δ⟩,?_⟩;clear z K y3 y7 yd z0 z1;have SB:=zh (cD.o.trans (Ab.grown cD.o.new (Ae u R)));clear oB u R a6 cE dS;refine Ak ?_;refine Eg ?_;refine BW rfl (λK z=>?_);go_simp;refine⟨kI,?_⟩;have cO:=JB.o.dc.tp p t HT.o
    have eW:(AQ ll).length<=e.n - 19:=by
     rw[Gv,d6.o.2]
     have L:CL<=e.bi:=by rw[<-ab.o.2.2.1, <-a4.o.1];exact oZ _ _
     have h2:12*e.bi<=e.n - 19:=ow _ _;omega
    refine(Bx.2 (Ju JB.o.sd (by have L:=HQ.o;have h2:=ab.o.2.1;omega) JB.o.sp t.1 t.2 (by rw[cO];simp) cM cB (AQ ll) eW PB.o)).mono ?_;rintro s wC ⟨k',rfl,eX,ad,cQ,cR,U,aS,aT,aE,aU⟩;dsimp only;have hC:=JB.o.bT U aS aT (x0:=CF B) (g:=ag) (o:=o) (cc:=cc) (t':=(k',ah)) HT.o aE (by rw[d6.o.1];exact aU) HX.o.2.2.2.1 ac.p0 HX.o.2.1
    have P:∀q,q=0\/q=6\/106<=q->¬SS 106 q:=λq w=>by rintro(v|v)<;>omega
    have I:=JB.o;have x7:=(U.u I.k7 (by rw[I.h7];exact P _ Ω)).m 0;have x3:=(U.u I.k3 (by rw[I.h3];exact P _ Ω)).m 0;have x1:=(I.i.ae U (P _ Ω)).cells.1;have d7:=U.ak.aL I.aB (λS hb=>by cases hb;rw[I.hr];exact P _ Ω);obtain⟨x5,x6⟩:=MD d7 HT.o;have a9:=zh (O x7 (O x3 (O x1 (O x5 x6))));refine z _ _ ⟨λ_=>a9.o,?_⟩;have SC:=zh (SB.o.trans (U.mono (λq s=>s.elim (λs=>Ω) (λs=>Ω))));clear z K U aS aT aE aU I d7 x5 x6 x7 x3 x1 P;refine Ak ?_;refine Fe a9.o ?_
    repeat((apply Fa rfl (λ_=>rfl) Θ;(· intro wS F;go_simp;(try with_reducible rfl)));(refine Ak ?_))
    refine Fc ?_;refine BW rfl (λK z=>?_);obtain⟨⟨u0,u1,cG,cH⟩,fz,d8,hZ,sZ,jZ⟩:=hC;have f0:=fz (p*2);have f1:=fz (p*2+1);have HZ:=zh (O sZ jZ);clear sZ jZ fz;go_simp;refine z _ _ ⟨λhf=>(by cases hf),?_⟩;clear z K f0 f1 cG cH hZ;refine Ak ?_;refine Eg ?_;refine BW rfl (λK z=>?_);go_simp;refine z _ _ ⟨λhf=>(by cases hf),?_⟩;clear z K;refine Ak ?_;refine Fu (NoPanic.normal ?_)
    have eb:=zh (show∃(c':Ad) (_:Unit),Ab (λq=>q=1\/q=2\/q=3\/(100<=q/\q<=130)) X G d8 c'/\∃T ar ay,Ep J Y b c j h k g a e f ah d E Z n M r J.heap.size wa.heap.size Q.heap.size w3.heap.size w5.heap.size g7 c3 TN T ar ay (f+1+4*(B++[Eu.mk p (CF B) D ag o cc]).length) c' (B++[Eu.mk p (CF B) D ag o cc]) d8 from
     ⟨ad,(),SC.o.trans (HZ.o.1.mono (λq s=>Ω)),_,_,_,by rw[jU,lr,show f+1+4*(B.length+1)=f+1+4*B.length+1+3 by omega];exact HZ.o.2⟩)
    rw[<-br]at eb
    gi_wp2
    exact eb.o
 case done=>
  intro ak m' G xs X hS hI z ed;obtain⟨T,ar,ay,N⟩:=hI;rw[<-hS];have aV:=zh N;have HK:=zh (O z ed)
  have ee:xs.length<=256:=by have L:=N.le;have h2:=ab.o.2.1;omega
  have ef:=zh ee;have HS:=zh hS;have e1:=zh ac
  have ba:Hd ((AQ T).length<=e.n - 19/\T.length=Z.length/\Z.length<=256):=zh (by
   have h0:¬h<Bl h (2^g):=λhc=>by
    have L:=(Gu ac.p0).1 hc;have h2:2^g<=e.cK:=lL Ω ab.o.2.2.2;have h3:=H.o.s.a1.sq;rw[<-ab.o.2.2.1]at h3;omega
   have h4:12*e.bi<=e.n - 19:=ow _ _;rw[Gv,N.tl,H.o.l.df];rw[<-ab.o.2.2.1]at h4;have h5:=H.o.tl;rw[H.o.l.df]at h5
   exact⟨Ω,rfl,h5⟩)
  have e4:=zh (show∀y∈T,Dx y from λy hy=>by
   obtain⟨q,w⟩:=mD hy
   exact N.sd.e6 (Ψ HQ.o) (N.dc.tp q y w))
  obtain⟨TN,br⟩:=Ag Z.length;rw[br]at aV ba;have y3:=aV.o.k3.m 0;have y7:=aV.o.k7.m 0;obtain⟨yd,_,_,_,r0,r1⟩:=aV.o.i.cells;clear N z ed ee hS ac
  gi_wp2
  refine Kg (λW=>W.cell? ⟨w3.heap.size,0,V⟩=AA (Ax (AA ⟨g7,0,V⟩) TN c3)/\W.cell? ⟨J.heap.size,0,V⟩=AA (A4 (AA ⟨b,0,V⟩))/\W.cell? ⟨b,0,V⟩=AA (A4 (AA ⟨c,0,V⟩))/\W.cell? ⟨b,4,V⟩=AA (A3 BA (a.1:Nat))/\W.cell? ⟨b,5,V⟩=AA (A3 BA (a.2:Nat))) [([0,1,2,3,4,5,6,7,8,9],10,CA),([],11,CA),([12,13,14,15,16],17,BR),([],18,BR)] be Φ Φ ?_;obtain⟨w9,aD,u⟩:=AZ X;rw[aD];refine Fe ⟨u.cell y7 Δ,u.cell y3 Δ,u.cell yd Δ,u.cell r0 Δ,u.cell r1 Δ⟩ ?_;clear aD
  repeat((apply Fa rfl (λ_=>rfl) Θ;(· intro wS F;(try have F:=F rfl);(try dsimp only at F);(try have x7:=F.1);(try have x3:=F.2.1);(try have x1:=F.2.2.1);(try have x5:=F.2.2.2.1);(try have x6:=F.2.2.2.2);go_simp;(try with_reducible rfl)));(refine Ak ?_))
  refine Fc ?_;refine BW rfl (λK z=>?_);go_simp;refine⟨kI,?_⟩;have aR:=IP T (AA ⟨g7,0,V⟩) c3 w9 (by rw[ba.o.2.1];exact(Ai.aj aV.o.aB).grown u Δ) (by rw[ba.o.2.1];exact ba.o.2.2) e4.o;rw[ba.o.2.1]at aR;refine(Bx.2 aR).mono ?_;clear aR;rintro s wB ⟨cM,cB,rfl,oB,R⟩;dsimp only;have JB:=zh (aV.o.grown (Ae u R));have PB:=zh (IM JB.o.st.new oB aV.o.st.new u.size);have eg:=zh (O (R.cell (u.cell y7 Δ) Δ) (O (R.cell (u.cell y3 Δ) Δ) (O (R.cell (u.cell yd Δ) Δ) (O (R.cell (u.cell r0 Δ) Δ) (R.cell (u.cell r1 Δ) Δ)))));have b8:=zh (show wB.heap[ak]?=AA (.deferred (AA []))/\ak<wB.heap.size from⟨((Ae u R).block ak (kf.1 HK.o.1).1 Δ).trans HK.o.1,jY (kf.1 HK.o.1).1 (Ae u R).size⟩);refine z _ _ ⟨λ_=>eg.o,?_⟩;clear z K y3 y7 yd r0 r1 oB u R;refine Ak ?_;refine Eg ?_;refine BW rfl (λK z=>?_);go_simp;refine⟨kI,?_⟩;have cO:=JB.o.dc.rt;refine(Bx.2 (Ju JB.o.sd (by have L:=HQ.o;have h2:=ef.o;omega) JB.o.sp a.1 a.2 (by rw[cO];simp) cM cB (AQ T) ba.o.1 PB.o)).mono ?_;rintro s wC ⟨k',rfl,eX,ad,cQ,cR,U,aS,aT,aE,aU⟩;dsimp only
  have P:∀q,q=0\/q=6\/106<=q->¬SS 106 q:=λq w=>by rintro(v|v)<;>omega
  have I:=JB.o;have iC:=I.i.ae U (P _ Ω);have a9:=zh (O ((U.u I.k7 (by rw[I.h7];exact P _ Ω)).m 0) (O ((U.u I.k3 (by rw[I.h3];exact P _ Ω)).m 0) (O iC.cells.1 (O iC.cells.2.2.2.2.1 iC.cells.2.2.2.2.2))));refine z _ _ ⟨λ_=>a9.o,?_⟩;have IC:=zh iC;have SC:=zh U;have B6:=zh (U.u I.k6 (by rw[I.h6];exact P _ Ω));have C6:Hd (ad Q.heap.size=196):=zh (by rw[U.ah _ I.k6.lt];exact I.h6);have FC:=zh (O aS (O aT (O aE aU)));have bb:=zh (show wC.heap[ak]?=AA (.deferred (AA []))/\ad ak=199 from⟨(U.ak.bK ak b8.o.2 (by rw[HK.o.2];exact P _ Ω)).trans b8.o.1,(U.ah ak b8.o.2).trans HK.o.2⟩);clear z K U aS aT aE aU I iC P PB eg b8;refine Ak ?_;refine Fe a9.o ?_
  repeat((apply Fa rfl (λ_=>rfl) Θ;(· intro wS F;go_simp;(try with_reducible rfl)));(refine Ak ?_))
  refine Fc ?_;refine BW rfl (λK z=>?_);obtain⟨wD,e9,bD,tD⟩:=OF IC.o.u (A3 BA k') (A3 BA ah);have f4:=IC.o.u.v 4;have f5:=IC.o.u.v 5;have y4:=IC.o.u.m 4;have y5:=IC.o.u.m 5;have HD:=zh (O bD tD);clear bD tD;go_simp;refine z _ _ ⟨λhf=>(by cases hf),?_⟩;clear z K f4 f5 y4 y5 e9 a9;refine Ak ?_;refine Eg ?_;refine BW rfl (λK z=>?_);go_simp;refine z _ _ ⟨λhf=>(by cases hf),?_⟩;clear z K;refine Ak ?_;refine Fu (NoPanic.normal ?_);have sD:Ab (λq=>q=6) wC ad wD ad:=AG SC.o.new HD.o.2 (λq s=>by rw[s];exact IC.o.c0);have b6:=sD.u B6.o (by rw[C6.o];omega);have cW:=(sD.ak.bK ak (kf.1 bb.o.1).1 (by rw[bb.o.2];omega)).trans bb.o.1;have f6:=b6.v 0;have v6:=b6.m 0;obtain⟨wE,ek⟩:=Ag (wD.setCell ⟨Q.heap.size,0,V⟩ (A3 BA 0));have b7:=b6.setCell 0 (A3 BA 0);rw[ek]at b7;simp only[ku]at b7;have sE:Ab (λq=>q=196) wD ad wE ad:=AG sD.new (show Ac (λq=>q=Q.heap.size) wD wE by rw[<-ek];exact AF _ _ _ _) (λq s=>by rw[s];exact C6.o);have el:=(sE.ak.bK ak (kf.1 cW).1 (by rw[bb.o.2];omega)).trans cW;have SE:=zh (O sD sE);have BE:=zh b7;have KE:=zh el
  have em:Q.heap.size≠ak:=λs=>by have L:=C6.o;have h2:=bb.o.2;rw[s,h2]at L;cases L
  have fh:=zh em;clear sD sE b6 b7 cW el em
  gi_wp2
  refine⟨Δ,C4 ⟨_,_,rfl,run_takeDeferred KE.o,?_⟩⟩;have t3:=F5 wE ak (.deferred V);have fi:=t3.u BE.o fh.o;obtain⟨sD,sE⟩:=SE.o;have s3:Ab (λq=>q=199) wE ad (wE.putObj ak (.deferred V)) ad:=AG sE.new t3 (λq s=>by rw[s];exact bb.o.2);generalize wE.putObj ak (.deferred V)=wF at*;have z6:=fi.m 0;obtain⟨aS,aT,aE,aU⟩:=FC.o;have I:=JB.o;have cX:Ab (λq=>q=196\/q=199) wD ad wF ad:=(sE.mono (λ_ s=>C4 s)).trans (s3.mono (λ_ s=>B4 s));have iD:Cw wD ad b c h k g (k',ah):=⟨HD.o.1,IC.o.c0⟩;have fm:SD wD ad c j e (f+1+4*xs.length+3) ah cR cQ:=aS.ae sD Ω Ω Ω Ω;refine⟨A3 BA 0,by simp[results,Tryz.f230,go_sem,z6],rfl,ad,cR,cQ,(k',ah),T,?_,⟨iD.ae cX Ω,e1.o,?_,(fm.ae cX Ω Ω Ω Ω).mono (Ψ ef.o),λy hy=>(SV hy).elim (λs=>s▸cd.o) (H.o.ok y)⟩,I.on.trans aT,I.fr.trans (TZ I.dc.nd aE)⟩
  ·exact((I.st.trans (SC.o.mono (λq s=>s.elim (λs=>C4 Ω) (λs=>B4 Ω)))).trans (sD.mono KZ)).trans (cX.mono (λq s=>B4 Ω))
  ·have L:=DD.hM (root':=(k',ah)) H.o.l (by rw[I.tl,br]) I.dc aE aU;rw[HS.o]at L;exact L
theorem Wg(c:Option Addr)(d f n:Nat)(o:1<=n)(w:BD):
  C3 BL 294 #[Ax c d f,A3 BA n] w λe a=>e=B2 (.func (.func 307) #[] #[A4 (AA ⟨w.heap.size,0,V⟩),A4 (AA ⟨w.heap.size+1,0,V⟩)])/\
   w.grownBy a V/\a.heap.size=w.heap.size+2/\Aa a w.heap.size 251 [Ax c d f]/\Aa a (w.heap.size+1) 3 [A3 BA n]:=by
 obtain⟨h,p,i,j⟩:=Aq w 251 [Ax c d f]
 have k:h.heap.size=w.heap.size+1:=by rw[<-p];simp
 obtain⟨q,r,g,b⟩:=Aq h 3 [A3 BA n]
 have l:q.heap.size=w.heap.size+2:=by rw[<-r];simp[k]
 rw[k]at b;have m:=j.grown g Δ;have t:BC ((n:Int)<1)=BR:=jV Ω;have u:BC (n<1)=BR:=jV Ω;have v:=b.m 0;have s:=zh (O (Ae i g) (O l (O m b)));clear i j g b l m o
 go_enter Tryz.func294,Tryz.ntmps294
 go_wp2;go_ret;exact⟨rfl,s.o⟩
structure Gs where
 i:Nat
 n:Nat
abbrev Us(g o:Nat)(x:Gs):Array Value:=#[Ax (AA ⟨g,o+x.i*2,V⟩) x.n x.n]
def jd(a N:Nat)(b:List Gs)(x:Gs)(_:BD)(_:Unit)(_:Ad):Prop:=x.i=a*b.length/\x.i<N/\x.n=min a (N - x.i)
def ju(a b g o d N c:Nat)(_:Unit)(_:Ad)(W:BD):Prop:=W.cell? ⟨a,0,V⟩=AA (Ax (AA ⟨g,o,V⟩) N c)/\W.cell? ⟨b,0,V⟩=AA (A3 BA d)
theorem bw{N:Nat}{a:List Gs}{d:Unit->Ad->List Gs->BD->Prop}(f:h*a.length=b)(k:a.length<=b/\b<N+h)(l:1<=h)(g:B3 ((b:Int)+(h:Int))=((b+h:Nat):Int))(m:b<N)(i:d () Y (a++[⟨b,c⟩]) J):
  ∃j a,A3 BA (B3 ((b:Int)+(h:Int)))=A3 BA (h*a.length:Nat)/\d () j a J/\a.length<=h*a.length/\h*a.length<N+h:=by
 have e:h*(a++[Gs.mk b c]).length=b+h:=by rw[jU,lr,pk,mL,f]
 refine⟨Y,_,by rw[g,e],i,?_,?_⟩
 ·rw[e,jU,lr];omega
 ·rw[e];omega
theorem X6(y z B g o a N c:Nat)(hn:1<=y)(S:1<=a)(aD:a<=1000)(hN:N<=100000)(hc:N<=c)(C:Nat->Prop):
  Iu Fence.wide y BL 307 #[A4 (AA ⟨z,0,V⟩),A4 (AA ⟨B,0,V⟩)] (Us g o) C (ju z B g o a N c) (jd a N) (λD=>N<=a*D.length/\a*D.length<N+a) (N+1):=by
 intro l J Jx W m0 T E U aI f F G _;have H:=zh f;have X:=zh E;have Y:=zh F;have H0:=zh G;clear f E U F G;refine callsIn_of_wp Tryz.func307 rfl kI ?_ rfl;simp only[Tryz.ntmps307,kR,kj,kP,B9,B8,kF,kG,kU,kJ,kv,kO]
 gi_wp2
 gi_loopw [4] (λv wr=>∃h b,v=A3 BA (a*b.length:Nat)/\J () h b wr/\b.length<=a*b.length/\a*b.length<N+a)
  (λv _=>N+a - (intOf v).toNat)
 case atStart=>exact⟨T,[],rfl,H0.o,kN _,Γ⟩
 case round=>
  obtain⟨h,b,rfl,s,i,j⟩:=hrel;obtain⟨⟨k,m⟩,ab⟩:=H.o _ _ _ _ s;obtain⟨I,t⟩:=Ag (a*b.length);rw[t]at i j⊢;have n:=zh t;have K:=zh s;have p:=zh (O i j);clear t s ab
  by_cases d:I<N
  ·have L:BC ((I:Int)<(N:Int))=CA:=jT Ω;have M:BC (I<N)=CA:=jT d;have k1:(I:Int)<=(N:Int):=Ω;have k2:(N:Int)<=(c:Int):=Ω;have k3:¬c=I:=Ω;have k4:I<=N:=Ω;obtain⟨Z,hZ⟩:=Ag (min a (N - I));have ah:min (a:Int) ((N - I:Nat):Int)=(Z:Int):=Ω;have ai:min (a:Int) ((N:Int) - (I:Int))=(Z:Int):=Ω;have q:=zh (show 1<=Z/\I+Z<=N/\I+Z<=c/\Z=min a (N - I) by omega);have e0:=AV k;have e1:=AV m;clear hZ i j
   gi_wp2
   refine B5.2 ?_;refine CU Φ Φ ?_
   repeat(go_big_quiet_step (fail))
   refine B0 ?_;rintro _ ⟨u,rfl⟩;have r:=CY u;generalize gw u=w4 at*;have am:=zh (X.o _ _ _ _ _ K.o r);obtain⟨aJ,aK,aL,aM,P,w⟩:=Y.o () h b ⟨I,Z⟩ w4 am.o (Ψ p.o.1) ⟨n.o.symm,d,q.o.2.2.2⟩;dsimp only[Us]at P;have k:=r.cell k Δ;have m:=r.cell m Δ;obtain⟨A,f⟩:=Ag (I+Z)
   have Q:B3 ((I:Int)+(Z:Int))=(A:Int):=by rw[B1 _ (Ψ q.o.2.1)];omega
   have an:=Cn Q
   have k5:(A:Int)<=(c:Int):=by have:=q.o.2.2.1;omega
   have k6:(I:Int)<=(A:Int):=Ω
   have k7:¬A=I:=by have:=q.o.1;omega
   have k8:A - I=Z:=Ω;have k9:A<=c:=Ω;have av:I<=A:=Ω;have R:Hd (B3 ((I:Int)+(a:Int))=((I+a:Nat):Int)):=zh (by rw[B1 _ Ω];omega);have aw:=zh d;clear e0 e1 u f k1 k2 k3 k4 ah ai d L M r
   gi_wp2
   clear P;refine w.mono ?_;rintro e W4 ⟨c4,ay,(⟨rfl,⟨⟩,x⟩|⟨rfl,az⟩)⟩
   ·have m:=(H.o _ _ _ _ x).1.2;have J4:=zh x
    have aB:Hd (N+a - (intOf (A3 BA (B3 ((I:Int)+(a:Int))))).toNat<N+a - (intOf (A3 BA (I:Int))).toNat):=zh (by
     rw[R.o];simp only[intOf,km];have:=p.o.2
     omega)
    clear ay x w k Q an k5 k6 k7 k8 k9 av
    gi_wp2
    go_roundw
    case rel=>exact bw n.o p.o S R.o aw.o J4.o
    case measure=>exact aB.o
   ·clear w
    gi_wp2
    refine CE (CB rfl _ _ _) rfl ?_;exact⟨⟨_,rfl⟩,c4,B4 az⟩
  ·have L:BC ((I:Int)<(N:Int))=BR:=jV Ω;have M:BC (I<N)=BR:=jV d;clear i j
   gi_wp2
   go_end0
   exact⟨⟨_,rfl⟩,h,C4 ⟨(),b,⟨by rw[n.o];omega,by rw[n.o];exact p.o.2⟩,K.o⟩⟩
end
