/- Lemmas. -/
import Derived.Test.YtcedibmdelehdaaGreatDoorH29
import Derived.Test.YtcedibmdelehdaaGreatDoorH37
namespace Go.Proofs.YtcedibmdelehdaaGreatDoor
set_option maxRecDepth 100000
set_option maxHeartbeats 32000000
open Go.IntKind renaming i64->E
open Go.Value renaming int->J,slice->O,pointer->AA,ownBlock->BB,tuple->BL
open Option renaming some->V,none->Z
open Go.Proofs.Tryz renaming prog->Y
open Go renaming World->Ax,bodyPost_ret->A3,Value->A4,Calls->Bk,results_tmp2->BA,TypeId->BD,maxLen->BE
open Go.Ending renaming returned->A2
open And renaming intro->Bd
open Go.RowKit renaming wrap64->Bn
open Decidable renaming decide->Bs
open Bool renaming false->Bx,true->BX
open Go.IntWalk renaming wrap64_in->BC,i64_in->BR
variable{h g i j l t x y:Nat}{a r:List Ah}{b w:Ax}{c A:Ah}{d:Int->List Nat}{e:Ad}{f C:Ap}{k:Pl}{n z:A4}{o:BD}{p:Nat->Au}{q:List Nat}{s:List A4}{B:Au}
section
open Go.RowKit
attribute [local go_sem ↓] Go.wp_at_zero Go.wp_at_succ
structure Cw(w:Ax)(b:Ad)(D s c d e:Nat)(a:Ah):Prop where
 u:Aa w D 253 [AA (V ⟨s,0,Z⟩),J E c,J E d,J E e,J E a.1,J E a.2]
 c0:b D=6
theorem Cw.grown(a:Cw b e h g i j l c)(d:b.grownBy w Z):Cw w e h g i j l c:=⟨a.u.grown d Δ,a.c0⟩
theorem Cw.ae{C:Nat->Prop}{d:Ad}(a:Cw b e h g i j l c)(k:Ab C b e w d)(f:¬C 6):Cw w d h g i j l c:=⟨k.u a.u (by rw[a.c0];exact f),by rw[k.ah _ a.u.lt];exact a.c0⟩
theorem Cw.cells(a:Cw b e h g i j l c):
  b.cell? ⟨h,0,Z⟩=V (AA (V ⟨g,0,Z⟩))/\b.cell? ⟨h,1,Z⟩=V (J E i)/\b.cell? ⟨h,2,Z⟩=V (J E j)/\b.cell? ⟨h,3,Z⟩=V (J E l)/\b.cell? ⟨h,4,Z⟩=V (J E c.1)/\b.cell? ⟨h,5,Z⟩=V (J E c.2):=
 ⟨a.u.m 0,a.u.m 1,a.u.m 2,a.u.m 3,a.u.m 4,a.u.m 5⟩
structure JX(a b:Nat):Prop where
 p0:1<=a
 p1:a<=64
 d1:b<=8
theorem GN(a:h<=8):1<=2^h/\2^h<=256:=⟨nA,by rw[show(256:Nat)=2^8 from rfl];exact lL Ω a⟩
theorem LV(d:Cw b e g i j l h c)(f:h<=8):
  Bk Y 220 #[AA (V ⟨g,0,Z⟩)] b λo p=>o=A2 (J E (2^h:Nat))/\b=p:=by
 obtain⟨_,_,_,r,_⟩:=d.cells;obtain⟨m,a⟩:=Ag (2^h);have k:Bn (2^min h 64)=(m:Int):=UF f a (by rw[<-a];exact(GN f).2)
 have n:Bn ((2:Int)^h)=(m:Int):=by rw[<-k,nJ Ω]
 have q:=zh n;rw[a];clear d a k n
 go_enter Tryz.func220,Tryz.ntmps220
 go_wp2_with fail;rw[q.o];go_ret;exact⟨rfl,rfl⟩
theorem VJ(d:Cw b e i j h l g c)(a:JX h g):
  Bk Y 253 #[AA (V ⟨i,0,Z⟩)] b λr s=>r=A2 (J E (Bl h (2^g):Nat))/\b.grownBy s Z:=by
 have f:=(GN a.d1);have t:=a.p0;have u:=a.p1;have k:=zh (λ(W:Ax) (v:b.grownBy W Z)=>LV (d.grown v) a.d1);have H:=zh d;obtain⟨m,n⟩:=Ag (2^g);rw[n]at f k⊢;unfold Bl
 have w:Bn (((m+h - 1:Nat):Int)/(h:Int))=(((m+h - 1)/h:Nat):Int):=by rw[<-oJ];exact EX (j8 (nK _ _) Ω)
 have B:=Cn w;have C:((h:Int)==0)=Bx:=Γ;have D:¬h=0:=Ω;have o:(m:Int)+(h:Int) - 1=((m+h - 1:Nat):Int):=Ω;have x:Bn ((m:Int)+(h:Int))=(m:Int)+(h:Int):=BC _ Ω
 have y:Bn ((m:Int)+(h:Int) - 1)=((m+h - 1:Nat):Int):=by rw[BC _ Ω];exact o
 have F:=Cn x;have G:=Cn y;generalize(m+h - 1)/h=L at*;generalize m+h - 1=A at*;clear a d t u n f o;obtain⟨_,p,_⟩:=H.o.cells;have I:=AV p;clear p
 go_enter Tryz.func253,Tryz.ntmps253
 go_wp2_with fail;refine CU Φ Φ ?_
 repeat(go_big_quiet_step ((go_at_call 220;exact GW k.o _)))
 refine wpQuiet_nil ?_;rintro _ ⟨q,rfl⟩;have z:=CY q;generalize gw q=K at*;go_wp2_with fail;go_ret;exact⟨rfl,z⟩
def Iw(r:Ah):List A4:=[J E r.1,J E r.2]
def A5(l:List Ah):List A4:=l.flatMap Iw
abbrev Iz(r:Ah):A4:=.agg #[J E r.1,J E r.2]
theorem FT(l:List Ah):(A5 l).length=l.length*2:=Kk Iw 2 (λ_=>rfl) l
theorem Oc(l m:List Ah):A5 (l++m)=A5 l++A5 m:=mu
theorem KB(b:a[h]?=V c):(A5 a)[h*2]?=V (J E c.1)/\(A5 a)[h*2+1]?=V (J E c.2):=
 ⟨Eh Iw 2 (λ_=>rfl) a h 0 _ b Ω,Eh Iw 2 (λ_=>rfl) a h 1 _ b Ω⟩
def Dx(r:Ah):Prop:=r.1<=2147483647/\r.2<=9223372036854775807
theorem Xo(b:a[h]?=V c):AQ (a.take (h+1))=(AQ (a.take h)++At c.1 4)++At c.2 8:=by
 obtain⟨d,rfl⟩:=jX.1 b;rw[mz d,Yw,ls];simp[AQ,Ka]
theorem NQ(r:Ah)(w:Ax)(b:r.1<=2147483647):Bk Y 140 #[Iz r] w λe c=>e=A2 (.bool BX)/\w.grownBy c Z:=by
 have f:Bs ((0:Int)<=(r.1:Int))=BX:=jT Ω;have g:Bs ((r.1:Int)<=2147483647)=BX:=jT Ω;have h:Bs ((0:Int)<=(r.2:Int))=BX:=jT Ω;clear b;obtain⟨i,j,d,a⟩:=Aq w 165 [J E r.1,J E r.2];have k:=a.m 0;have l:=a.m 1
 go_enter Tryz.func140,Tryz.ntmps140
 go_wp2_with fail;go_ret;exact⟨rfl,d⟩
theorem IP(l:List Ah)(a:Option Addr)(c:Nat)(w:Ax)(F:Ai w 2 (O a l.length c) l.length (A5 l))(y:l.length<=256)(G:∀r∈l,Dx r):
  Bk Y 142 #[O a l.length c] w λe H=>∃I K,e=A2 (O I (AQ l).length K)/\H.ownsRow w.heap.size 5 1 (O I (AQ l).length K) (AQ l).length (Ao (AQ l))/\w.grownBy H Z:=by
 have L:=zh F;have HS:=zh G;have HN:=zh (λ(k:Nat) (r:Ah) (h:l[k]?=V r)=>Xo h)
 have g:Bn (12*(l.length:Int))=((12*l.length:Nat):Int):=by rw[show 12*(l.length:Int)=((12*l.length:Nat):Int) by push_cast;rfl];exact EX Ω
 have j:=Gv l;obtain⟨n,m⟩:=Ag l.length;obtain⟨M,z⟩:=Ag (12*n);have f:=zh m;have ap:=zh z;have aM:=zh j;rw[m]at L g y j;rw[m];rw[z]at g j;have N:=zh y;have P:(M:Int)<=9223372036854775807:=Ω;clear F G m z j y
 go_enter Tryz.func142,Tryz.ntmps142
 go_wp2_with fail;rw[g];refine(II M P w).mono ?_;rintro e w1 ⟨rfl,p,Q⟩;rw[ke Ω]at p
 have R:Hd (PW w w1 w.heap.size (O Z 0 0) (AQ (l.take 0)) (M:Int)):=zh ⟨p,λk q=>by
  rcases q with h|h
  ·omega
  ·simp[BB]at h,Q⟩
 clear p Q g P;go_wp2_with fail
 go_loopg [12] n (λk i wr=>i=J E (n - k:Nat)/\k<=n/\∃v:A4,PW w wr w.heap.size v (AQ (l.take (n - k))) (M:Int))
 case atStart=>exact⟨Δ,jS _,_,by rw[lU];exact R.o⟩
 case round=>
  obtain⟨rfl,q,v,S⟩:=hrel;have d:=zh S;clear S R
  by_cases T:gk=0
  ·subst T;rw[mA]at d⊢;have U:Bs ((n:Int)<(n:Int))=Bx:=Δ;clear q;go_wp2_with fail;refine(Hv _ _ _ _ _ _ d.o.wr).mono ?_;rintro e w6 ⟨a6,c6,rfl,A,W⟩;rw[<-f.o,mI]at A;rw[<-f.o,mI];have O6:=zh (BQ A d.o.grown.size);have GG:=zh (Ae d.o.grown W);clear A W;go_wp2_with fail;go_ret;exact⟨a6,c6,rfl,O6.o,GG.o⟩
  ·obtain⟨i,X⟩:=Ag (n - gk);rw[X]at d⊢;have U:Bs ((i:Int)<(n:Int))=BX:=jT Ω;have ax:Bs (i<n)=BX:=jT Ω;have ay:i<n:=Ω
   have aa:i<l.length:=by rw[f.o];omega
   obtain⟨r,s⟩:∃r,l[i]?=V r:=⟨_,jW aa⟩;have t:=HS.o r (kX s);obtain⟨b,o,rfl,B⟩:=L.o.aZ (Ψ f.o);obtain⟨e0,e1⟩:=KB s;have y0:=d.o.grown.cell (B _ _ e0) Δ;have y1:=d.o.grown.cell (B _ _ e1) Δ;simp only[<-lw]at y1;have u0:=Iy (n:=r.1) (mm t.1 Ξ);have u1:=Iy (n:=r.2) (mm t.2 Ξ);have ae:=zh t;have aA:=zh (HN.o i r s);have u:Hd ((AQ (l.take i)).length=12*i/\12*i+12<=M/\i<=256):=zh (by have p:=ap.o;have h2:=N.o;rw[Gv,kA];omega);have x:Hd (i+1=n - (gk - 1)/\gk - 1<=n/\gk - 1<gk):=zh Ω;have aB:Hd (Bn ((i:Int)+1)=((i+1:Nat):Int)):=zh (De rfl (by have:=f.o;have:=N.o;omega));generalize aC:AQ (l.take i)=st at*;clear B e0 e1 t s aa X q T aC;obtain⟨w2,aD,g2,C⟩:=Aq wr 165 [J E r.1,J E r.2];have x0:=C.m 0
   have ag:¬Dm w.heap.size v wr.heap.size:=λh=>by have:=d.o.wr.lt _ h;omega
   have Q0:=zh (d.o.bq g2);have P2:=zh C;have aG:=zh ag;clear g2 d C ag;go_wp2_with fail;clear y0 y1 aD;refine(Q0.o.a8 r.1 4 (mm ae.o.1 Ξ) Ξ (Ψ u.o) (Ψ u.o)).mono ?_;rintro e w3 ⟨v3,rfl,p3,k3⟩;obtain⟨ak,aH⟩:=k3 _ _ _ P2.o aG.o;have x1:=ak.m 1;have Q3:=zh p3;clear k3 p3 aH ak x0 Q0;go_wp2_with fail;clear x1;refine(Q3.o.a8 r.2 8 (mm ae.o.2 Ξ) Ξ (by have:=u.o;rw[jU,AI];omega) (by have:=u.o;rw[jU,AI];omega)).mono ?_;rintro e w4 ⟨v4,rfl,p4,k4⟩;have D:=p4;rw[<-aA.o]at D;have Q4:=zh D;clear p4 k4 D Q3 U ax ay u0 u1;go_wp2_with fail
   go_roundg (gk - 1)
   case measure=>exact x.o.2.2
   exact⟨by rw[<-x.o.1,aB.o],x.o.2.1,v4,by rw[<-x.o.1];exact Q4.o⟩
end
section
open Go Go.RowKit
attribute [local go_sem ↓] Go.wp_at_zero Go.wp_at_succ
theorem gp:(Y.info? 165).map (λi=>(i.zero,i.size,i.bytes))=V (V (.agg #[J E 0,J E 0]),2,16):=Φ
theorem eG(l:List Ah):∀u∈A5 l,u.oneCell'=BX:=by
 intro u a;obtain⟨r,_,a⟩:=oF.1 a;simp only[Iw,lK,nh,pZ]at a
 rcases a with rfl|rfl<;>rfl
theorem Lz{i:Array Oper}{j:List Oper}{o:Oper}{a:Act}{Q:Exit->Act->Ax->Prop}(k:o.guard=Z)(s x:Operand)
  (l:o.op=.call {callee:=.builtin .append,args:=#[s,x],argTypes:=#[251,251]})(f:Nat){v:A4}{n:Nat}{xs:List Ah}(_:xs.length=n)(p:a.eval s=v)(q:b.ownsRow f 165 2 v n (A5 xs))
  {m:Nat}{ys:List Ah}(_:ys.length=m)(r:a.eval x=z)(t:Ai b 2 z m (A5 ys))(H:n+m<=100000)(u:f<=b.heap.size)
  (h:∀c d e,e.ownsRow f 165 2 (O c (n+m) d) (n+m) (A5 (xs++ys))->b.grownBy e v.ownBlock->((O c (n+m) d).ownBlock=v.ownBlock\/(O c (n+m) d).ownBlock=V b.heap.size)->wpList Y i Q j (a.put o.dst (O c (n+m) d)) e):wpList Y i Q (o::j) a b:=by
 obtain⟨w,y,A,B,C⟩:=info_parts gp;refine Lw k s x _ l f 165 w _ 2 16 Tryz.underlying251 y A B C rfl Ξ p q r t (eG _) (by unfold BE;omega) Ω u ?_;intro I e g D E;rw[<-Oc]at g;obtain⟨c,d,rfl⟩:=(Ai.aj g).slice;exact h c d e g D E
structure PS(a W:Ax)(B:Nat)(c v:A4)(d:List Nat)(n:Nat)(e:List Ah):Prop where
 rr:RR W B c d Bx
 aB:W.ownsRow a.heap.size 165 2 v n (A5 e)
 g:a.grownBy W Z
 b0:a.heap.size<=B
 vr:d≠[]->∀b,v.ownBlock=V b->c.ownBlock≠V b
theorem PS.bO{W:Ax}{v:A4}{i:List Nat}(c:PS w W h z v i g a)(m:RR b h n q Bx)(o:∀d,n.ownBlock=V d->z.ownBlock=V d)(l:W.grownBy b (V h))(p:q≠[]->i≠[]):PS w b h n v q g a:=
 ⟨m,(Ac.of (S:=λk=>k=h) l (λk e=>by cases e;rfl)).aL c.aB (λd f e=>by subst e;exact Bh c.rr.u c.aB Ξ f),Ac.grown c.g (Ac.of l (λk e=>e)) (λj e=>by cases e;exact c.b0),c.b0,λk d f e=>c.vr (p k) d f (o _ e)⟩
theorem PS.grow{e:Ax}(c:PS b w h n z q g a)(d:w.grownBy e Z):PS b e h n z q g a:=
 ⟨c.rr.grown d,AP c.aB d,Ae c.g d,c.b0,c.vr⟩
theorem PS.cG{l:Ax}{m:A4}(c:PS b w h m n q i r)(o:w.grownBy l n.ownBlock)(s:l.ownsRow b.heap.size 165 2 z g (A5 a))(d:z.ownBlock=n.ownBlock\/z.ownBlock=V w.heap.size):PS b l h m z q g a:=
 ⟨c.rr.eM (S:=λk=>n.ownBlock=V k) (Ac.of o (λk e=>e)) (λe=>Bh c.rr.u c.aB Ξ e) (λf k t e=>c.vr f k e t),s,Gt c.g c.aB (jS _) o,c.b0,λf p j e=>by
  rcases d with d|d
  ·exact c.vr f p (d▸j) e
  ·have u:=c.rr.aP.lt (λe=>f (by simpa[Ao]using e)) p e;rw[d]at j;injection j with j
   omega⟩
theorem YY(b:a[h]?=V c):AQ (a.drop h)=At c.1 4++(At c.2 8++AQ (a.drop (h+1))):=by
 obtain⟨d,rfl⟩:=jX.1 b;rw[nE d,Rs,Ka,ls]
theorem ak(b:a[h]?=V c):a.take (h+1)=a.take h++[c]:=by
 obtain⟨d,rfl⟩:=jX.1 b;exact mz d
theorem QZ(l:List Ah)(a:Option Addr)(c:Nat)(w:Ax)(S:Ai w 1 (O a (AQ l).length c) (AQ l).length (Ao (AQ l)))(G:l.length<=256)(T:∀r∈l,Dx r):
  Bk Y 252 #[O a (AQ l).length c,J E l.length] w λe U=>∃W X,e=A2 (BL #[O W l.length X,J E 0])/\U.ownsRow w.heap.size 165 2 (O W l.length X) l.length (A5 l)/\w.grownBy U Z:=by
 have HS:=zh T;have HD:=zh (λ(k:Nat) (r:Ah) (h:l[k]?=V r)=>YY h);have HT:=zh (λ(k:Nat) (r:Ah) (h:l[k]?=V r)=>ak h)
 have H:Bn (12*(l.length:Int))=((12*l.length:Nat):Int):=by rw[show 12*(l.length:Int)=((12*l.length:Nat):Int) by push_cast;rfl];exact EX Ω
 have q:=Gv l;have I:=zh (LH (AQ l) a c w Ω (QB l) S);obtain⟨n,y⟩:=Ag l.length;obtain⟨M,hM⟩:=Ag (12*n);rw[y]at H G q;rw[hM]at H q;rw[q]at I;rw[q,y];have ab:=zh y;have HB:=zh G;have aB:((M:Int)!=(M:Int))=Bx:=Δ;clear S T y hM q G
 go_enter Tryz.func252,Tryz.ntmps252
 go_wp2_with fail;refine I.o.mono ?_;rintro e w1 ⟨B,s,rfl,ac,hB,aD,g1⟩;have P1:Hd (PS w w1 B s (O Z 0 0) (AQ (l.drop 0)) 0 (l.take 0)):=zh ⟨ac,World.ownsRow_nil _ _ _ _,g1,hB,λ_ b hb=>by simp[BB]at hb⟩;clear ac hB aD g1 H aB I;go_wp2_with fail
 go_loopg [17,7] n (λk i v wr=>i=J E (n - k:Nat)/\k<=n/\∃s z A,v=O z (n - k) A/\PS w wr B s (O z (n - k) A) (AQ (l.drop (n - k))) (n - k) (l.take (n - k)))
 case atStart=>exact⟨Δ,jS _,s,Z,0,by rw[lU],by rw[lU];exact P1.o⟩
 case round=>
  obtain⟨rfl,hk,s,z,A,rfl,f⟩:=hrel;have g:=zh f;clear f P1
  by_cases h0:gk=0
  ·subst h0;rw[mA]at g⊢;have hd:Bs ((n:Int)<(n:Int))=Bx:=Δ;clear hk;go_wp2_with fail;have o:=g.o.aB;rw[show l.take n=l by rw[<-ab.o];exact mI]at o;exact A3 (BA rfl _ _ _) rfl ⟨z,A,rfl,o,g.o.g⟩
  ·obtain⟨i,hi⟩:=Ag (n - gk);rw[hi]at g⊢;have a1:i<n:=Ω;have hd:Bs ((i:Int)<(n:Int))=BX:=jT Ω
   have aj:i<l.length:=by rw[ab.o];omega
   obtain⟨r,C⟩:∃r,l[i]?=V r:=⟨_,jW aj⟩;have D:=HS.o r (kX C);have u0:E.wrap (r.1:Int)=r.1:=BR _ (Ψ D.1);have u1:E.wrap (r.2:Int)=r.2:=BR _ (Ψ D.2);have K:=zh D;have aG:=zh (HT.o i r C);have f:=g.o;rw[HD.o i r C]at f;have L:=zh f;have d:Hd (i+1=n - (gk - 1)/\gk - 1<=n/\gk - 1<gk/\i<256):=zh (Ψ HB.o);have aH:Hd (Bn ((i:Int)+1)=((i+1:Nat):Int)):=zh (De rfl (Ψ d.o.2.2.2));have aI:Hd ((l.take i).length=i):=zh (by rw[kA];omega);clear D C aj hi hk h0 f g;go_wp2_with fail;refine(F8 L.o.rr Ξ (by have:=K.o.1;simp;omega)).mono ?_;rintro e w2 ⟨a3,rfl,t,u,x⟩;have N:=zh (L.o.bO t u x (λ_ e=>by have:=kL List.length e;simp[AI]at this));clear t u x L;go_wp2_with fail;refine(F8 N.o.rr Ξ (by have:=K.o.2;simp;omega)).mono ?_;rintro e w3 ⟨aK,rfl,t,u,x⟩;have H4:=zh (N.o.bO t u x (λ_ e=>by have:=kL List.length e;simp[AI]at this));clear t u x N;obtain⟨w4,aL,g4,p⟩:=Aq w3 165 [J E 0,J E 0];obtain⟨w5,aN,F,t5⟩:=Ea p (J E r.1) (J E r.2);have f0:=p.v 0;have f1:=p.v 1;have y0:=p.m 0;have y1:=p.m 1;have x0:=F.m 0;have x1:=F.m 1;have B5:=zh F;have G5:=zh (Ac.grown g4 t5 (λj e=>by rw[e];exact jS _));clear g4 p F t5;go_wp2_with fail;clear y0 y1 f0 f1 x0 x1 aL aN;refine(NQ r w5 K.o.1).mono ?_;rintro e w6 ⟨rfl,P⟩;have Q:=B5.o.grown P Δ;have x0:=Q.m 0;have x1:=Q.m 1;have H6:=zh (H4.o.grow (Ae G5.o P));clear P Q H4;obtain⟨w7,a5,g7,b7⟩:=Aq w6 165 [J E r.1,J E r.2];have R:=zh (H6.o.grow g7);have B7:=zh b7;have S7:Hd (w.heap.size<=w7.heap.size):=zh R.o.g.size;clear H6 g7 b7;go_wp2_with (at_builtin;refine Lz rfl _ _ rfl w.heap.size (n:=i) (xs:=l.take i) aI.o rfl R.o.aB (m:=1) (ys:=[r]) rfl rfl (Ai.bn B7.o rfl (by unfold BE;omega)) (Ψ d.o.2.2.2) S7.o ?_;intro a8 c8 w8 o h2 h3;rw[<-aG.o]at o;have H8:=zh (R.o.cG h2 o h3);clear o h2 h3)
   go_roundg (gk - 1)
   case measure=>exact d.o.2.2.1
   exact⟨by rw[<-d.o.1,aH.o],d.o.2.1,aK,a8,c8,by rw[<-d.o.1],by rw[<-d.o.1];exact H8.o⟩
theorem fI{D:Nat}(d:Cw b e D j h l g c)(a:JX h g)(i:Nat)(f:i*h<2^g):
  Bk Y 254 #[AA (V ⟨D,0,Z⟩),J E i] b λv w=>v=A2 (J E (min h (2^g - i*h):Nat))/\b.grownBy w Z:=by
 have k:=(GN a.d1);have x:=a.p1;have n:=zh (λ(W:Ax) (y:b.grownBy W Z)=>LV (d.grown y) a.d1);have H:=zh d;obtain⟨m,o⟩:=Ag (2^g);rw[o]at k n f⊢
 have p:(i:Int)*(h:Int)=((i*h:Nat):Int):=by push_cast;rfl
 have q:Bn ((i:Int)*(h:Int))=((i*h:Nat):Int):=by rw[p];exact EX Ω
 obtain⟨A,r⟩:=Ag (i*h);rw[r]at q f⊢;obtain⟨N,s⟩:=Ag (m - A);rw[s]
 have z:Bn ((m:Int) - (A:Int))=(N:Int):=by rw[show(m:Int) - (A:Int)=((N:Nat):Int) by omega];exact EX Ω
 have F:=Cn q;have G:=Cn z;have B:Hd (min (h:Int) (N:Int)=((min h N:Nat):Int)):=zh Ω;clear a d x o k p r s f;obtain⟨_,t,_⟩:=H.o.cells;have I:=AV t;clear t
 go_enter Tryz.func254,Tryz.ntmps254
 go_wp2_with fail;refine CU Φ Φ ?_
 repeat(go_big_quiet_step ((go_at_call 220;exact GW n.o _)))
 refine wpQuiet_nil ?_;rintro _ ⟨u,rfl⟩;have C:=CY u;generalize gw u=K at*;go_wp2_with fail;go_ret;exact⟨by show A2 (J E (min (h:Int) (N:Int)))=_;rw[B.o],C⟩
theorem Sb(f:Aw b e)(l:b.grownBy w Z)(m:w.ownsRow h o i n g s)(d:b.heap.size<=h)(k:Nat):∃p,Ab (λj=>j=k) b e w p/\∀a,n.ownBlock=V a->p a=k:=by
 cases q:n.ownBlock with
 |none=>exact⟨e,Ab.grown f l,λa d=>by cases d⟩
 |some a=>exact⟨AL e a k,(Ab.grown f l).bC (j8 d (m.lt a q).1) (m.lt a q).2 rfl,λc r=>by cases r;exact AY _ _ _⟩
def Kz(w:Ax)(i:Ad)(s d:Nat)(P:Pl)(q j:Nat)(m:Ap)(n:Int->List Nat)(l:List Ah)(k:Nat)(e:Ending)(a:Ax):Prop:=
 ∃c f,e=A2 (BL #[O c l.length f,J E 0])/\a.ownsRow w.heap.size 165 2 (O c l.length f) l.length (A5 l)/\∃g h,Ab (SS (k+1)) w i a g/\SD a g s d P (q+1) j m h/\AN P n h/\∀b,(O c l.length f).ownBlock=V b->g b=k
theorem eA(m:Cw b e l h g y i c)(w:JX g i)(q:SD b e h t k j x f d)(z:j<=1073741800)
  (A:f c.1=V (c.2,AQ a))(B:a.length=Bl g (2^i))(D:a.length<=256)(E:∀r∈a,Dx r)(s:Nat)(hk:108<=s):
  Bk Y 221 #[AA (V ⟨l,0,Z⟩)] b (Kz b e h t k j x f d a s):=by
 have H:=zh m;have S:=zh w;have T:=zh B;have U:=zh D;have W:=zh E;have X:=zh q.cl;obtain⟨w0,F,o⟩:=AZ b;have HR:=zh (NZ (q.grown o) z c.1 c.2 (AQ a) A);have G0:=zh o;clear q z A B D E w;obtain⟨x0,x1,x2,x3,x4,x5⟩:=(m.grown o).cells;clear m o x1 x2 x3
 go_enter Tryz.func221,Tryz.ntmps221
 go_wp2_with fail;refine A7 (λ_=>True) (.an [] [0,1,2,3,4,5,6,7] 8 Bx (.an [] [9,10,11,12] 13 Bx .nil)) Φ Φ ?_;rw[F];refine Ar ?_
 iterate 8 refine Az ?_
 refine Aj ?_;refine Al ?_;intro K n;refine HR.o.mono ?_;rintro u w1 ⟨a1,c1,rfl,az,ak,G,I,J,L⟩;have v:=zh ((Ab.grown (C:=SS 107) X.o G0.o).trans G);have M:=zh I;have O1:=zh J;have P1:=zh L;have H1:=zh (H.o.ae v.o (by rintro(m|m)<;>omega));clear x0 x4 x5 G I J L F;dsimp only;refine As n ?_;clear n K;refine Ar ?_
 iterate 4 refine Az ?_
 refine Aj ?_;refine Al ?_;intro K n;refine As n ?_;clear n K;refine AK (NoPanic.normal ?_);go_wp2_with fail;refine(VJ H1.o S.o).mono ?_;rintro u w2 ⟨rfl,N⟩;rw[<-T.o];have p:=zh N;clear N;go_wp2_with fail;refine(QZ a a1 c1 w2 (P1.o.1.grown p.o Δ) U.o W.o).mono ?_;rintro u w3 ⟨a3,c3,rfl,O,P⟩;have Q:=zh O;have G3:=zh (Ae p.o P);clear O P;go_wp2_with fail;obtain⟨au,R,k3⟩:=Sb M.o.cl G3.o Q.o p.o.size s;refine A3 (BA rfl _ _ _) rfl ⟨a3,c3,rfl,BQ Q.o (j8 v.o.size p.o.size),au,ak,Ab.andThen v.o R (EG Ω) (λaB u=>.inr Ω),M.o.ae R Ω Ω Ω Ω,O1.o,k3⟩
theorem RF{s:Nat}(m:Cw b e l s h y g c)(v:JX h g)(w:SD b e s t k j x f d)(G:j<=1073741800)
  (I:Option Addr)(L:Nat)(M:Ai b 2 (O I a.length L) a.length (A5 a))(aj:a.length<=256)(i:Nat)(n:Ah)(z:a[i]?=V n)(N:f n.1=V (n.2,AQ r))(P:i*h<2^g)(Q:r.length=min h (2^g - i*h))(R:∀ak∈r,Dx ak)(A:Nat)(hk:108<=A):
  Bk Y 222 #[AA (V ⟨l,0,Z⟩),O I a.length L,J E i] b (Kz b e s t k j x f d r A):=by
 have H:=zh m;have HN:=zh v;have HL:=zh Q;have an:=zh R;have HC:=zh w.cl;have ap:=zh P;have aq:Hd (r.length<=256):=zh (Ψ v.p1);obtain⟨w0,S,p⟩:=AZ b;have HR:=zh (NZ (w.grown p) G n.1 n.2 (AQ r) N);have G0:=zh p;have av:=(jX.1 z).1;obtain⟨aM,o,rfl,B⟩:=(M.grown p Δ).aZ Ω;obtain⟨T,U⟩:=KB z;have y0:=B _ _ T;have W:=B _ _ U;simp only[<-lw]at W;obtain⟨x0,_⟩:=(m.grown p).cells;generalize a.length=TN at*;clear w G N Q R v B T U z M m p P aj
 go_enter Tryz.func222,Tryz.ntmps222
 go_wp2_with fail;refine A7 (λ_=>True) (.an [] [0,1,2,3,4,5,6,7] 8 Bx (.an [] [9,10,11,12] 13 Bx .nil)) Φ Φ ?_;rw[S];refine Ar ?_
 iterate 8 refine Az ?_
 refine Aj ?_;refine Al ?_;intro K q;refine HR.o.mono ?_;rintro D w1 ⟨a1,c1,rfl,aP,aA,X,d1,o1,p1⟩;have F:=zh ((Ab.grown (C:=SS 107) HC.o G0.o).trans X);have D1:=zh d1;have O1:=zh o1;have P1:=zh p1;have H1:=zh (H.o.ae F.o (by rintro(m|m)<;>omega));clear x0 y0 W X d1 o1 p1 S av;dsimp only;refine As q ?_;clear q K;refine Ar ?_
 iterate 4 refine Az ?_
 refine Aj ?_;refine Al ?_;intro K q;refine As q ?_;clear q K;refine AK (NoPanic.normal ?_);go_wp2_with fail;refine(fI H1.o HN.o i ap.o).mono ?_;rintro D w2 ⟨rfl,g2⟩;rw[<-HL.o];have u:=zh g2;clear g2;go_wp2_with fail;refine(QZ r a1 c1 w2 (P1.o.1.grown u.o Δ) aq.o an.o).mono ?_;rintro D w3 ⟨a3,c3,rfl,o3,g3⟩;have O3:=zh o3;have G3:=zh (Ae u.o g3);clear o3 g3;go_wp2_with fail;obtain⟨aI,s3,k3⟩:=Sb D1.o.cl G3.o O3.o u.o.size A;refine A3 (BA rfl _ _ _) rfl ⟨a3,c3,rfl,BQ O3.o (j8 F.o.size u.o.size),aI,aA,Ab.andThen F.o s3 (EG Ω) (λaR D=>.inr Ω),D1.o.ae s3 Ω Ω Ω Ω,O1.o,k3⟩
theorem SD.hB(a:SD b e j l k t i f d)(c:f h=V (g,q)):FL k i h g q:=let⟨_,_,_,_,_,_,_,_,_,_,_,_,m⟩:=a.bJ;(m.2.bs h g q c).2
theorem SD.bX(a:SD b e i j k h g f d):g<=h+1:=let⟨_,_,_,_,_,_,_,_,_,_,_,_,c⟩:=a.bJ;c.1.q1
theorem SD.e6(a:SD b e g i k h j f d)(m:h<=1073741800){r:Ah}(l:f r.1=V (r.2,q)):Dx r:=by
 have c:=a.hB l;have n:=a.bX;have o:=(a.a1.dD c.lt).2.1;have p:=c.lt;have s:=c.fQ;exact⟨Ω,Ω⟩
theorem NE(a:1<=g)(_:1<=h):Bl g h<=h:=by
 refine pC (λb=>?_);have d:=(Gu (m:=h) (i:=h) a).1 b;have:h*1<=h*g:=Nat.mul_le_mul_left h a;omega
structure Dl(w:Ax)(a:Ad)(D s d per dp dep:Nat)(b:Ah)(P:Pl)(q e:Nat)(c:Ap)(f:Int->List Nat)(T L:List Ah):Prop where
 i:Cw w a D s per dp dep b
 n:JX per dep
 l:DD c per dep b T L
 s:SD w a s d P q e c f
 ok:∀r∈L,Dx r
theorem Dl.tl(m:Dl b e h g i j l t c k x y f d a r):a.length<=256:=by
 rw[m.l.df];have:=GN m.n.d1;exact j8 (NE m.n.p0 this.1) this.2
theorem Dl.i0{s:Nat}(n:Dl b e g s j l t x c k h y f d a r)(o:h<=1073741800):∀m∈a,Dx m:=λm p=>by
 obtain⟨i,q⟩:=mD p;exact n.s.e6 o (n.l.c.tp i m q)
theorem Dl.ae{C:Nat->Prop}{n:Ad}{q:Nat}{o:Int->List Nat}(m:Dl w n j h g l t x c k q i f o a r)(p:Ab C w n b e)(s:¬C 6)(u:SD b e h g k y i f d):Dl b e j h g l t x c k y i f d a r:=
 ⟨m.i.ae p s,m.n,m.l,u,m.ok⟩
theorem Mz{i:Nat}(b:∀r∈a,Dx r):∀r∈A0 h a i,Dx r:=λr c=>b r (nj (lV c))
theorem Dl.dA(m:Dl b e g i j t x y c k h l f d a r)(o:h<=1073741800)(n:Nat)(p:108<=n):
  Bk Y 221 #[AA (V ⟨g,0,Z⟩)] b (Kz b e i j k h l f d a n):=
 eA m.i m.n m.s o m.l.c.rt m.l.df m.tl (m.i0 o) n p
theorem Dl.aK{D:Nat}(m:Dl b e D j l h y t c k g x f d a r)(s:g<=1073741800)(n:Option Addr)(o:Nat)(u:Ai b 2 (O n a.length o) a.length (A5 a)){i:Nat}(p:i<a.length)(q:Nat)(v:108<=q):
  Bk Y 222 #[AA (V ⟨D,0,Z⟩),O n a.length o,J E i] b (Kz b e j l k g x f d (A0 h r i) q):=by
 have w:i*h<2^t:=by rw[<-Gu m.n.p0, <-m.l.df];exact p
 exact RF m.i m.n m.s s n o u m.tl i _ (jW p) (m.l.c.tp _ _ (jW p)) w (by rw[Jv,m.l.aF]) (Mz m.ok) q v
theorem My{q:Nat}(s:Dl b e j l t h y g c k q x f d r a)(hq:q<=1073741700)(n:Nat)(v:Ah)(N:a[n]?=V v):
  Bk Y 165 #[AA (V ⟨j,0,Z⟩),J E n] b λu w'=>u=A2 (BL #[Iz v,J E 0])/\∃ac ad,Ab (SS 111) b e w' ac/\SD w' ac l t k (q+2) x f ad/\AN k d ad:=by
 have O:n<2^g:=by rw[<-s.l.aF];exact(jX.1 N).1
 have hm:=GN s.n.d1;obtain⟨w0,aD,g0,G⟩:=Aq b 165 [J E 0,J E 0];have I:Ab (λw=>w=110) b e w0 (AL e b.heap.size 110):=Cc s.s.cl g0 (jS _) G.lt rfl;have H:=zh (s.ae I Ω (s.s.ae I Ω Ω Ω Ω));have P:Hd (AL e b.heap.size 110 b.heap.size=110):=zh (AY _ _ _);have Q:=zh G;have S0:=zh I;generalize AL e b.heap.size 110=aE at*;have aF:=s.n.p1;have aH:=s.n.p0;obtain⟨m,ah⟩:=Ag (2^g);have R:=LV H.o.i s.n.d1
 have S:n/h<r.length:=by
  rw[s.l.df,Gu s.n.p0];exact mm (oO n h) O
 have K:(A0 h a (n/h))[n%h]?=V v:=by rw[aG _ _ _ s.n.p0];exact N
 have aI:n%h<(A0 h a (n/h)).length:=(jX.1 K).1;rw[ah]at R O hm;have d1:Bs ((n:Int)<0)=Bx:=jV Ω;have d2:Bs ((m:Int)<=(n:Int))=Bx:=jV Ω;have a5:Bs (m<=n)=Bx:=jV Ω;have hz:((h:Int)==0)=Bx:=Γ;have a7:¬h=0:=Ω;have HQ:=zh hq;have aj:=zh (Bd S K)
 have aJ:Hd (Bn ((n:Int)/(h:Int))=((n/h:Nat):Int)/\Bn ((n:Int)%(h:Int))=((n%h:Nat):Int)):=zh (by
  rw[<-oJ, <-Int.natCast_emod];have h1:=nK n h;have h2:=Nat.mod_le n h;clear K aI S;generalize n/h=A at*;generalize aK:n%h=B at*
  exact⟨EX Ω,EX Ω⟩)
 have ak:=zh R;generalize al:r.length=TN at*;clear O hm ah aF aH N hq g0 G I R S K s
 go_enter Tryz.func165,Tryz.ntmps165
 go_wp2_with fail;refine ak.o.mono ?_;rintro u w1 ⟨rfl,rfl⟩;clear ak aD;go_wp2_with fail;refine(H.o.dA (Ψ HQ.o) 108 Ω).mono ?_;rintro u w1 ⟨a1,c1,rfl,o1,aO,bb,z,an,ao,z1⟩
 have ap:¬SS 109 (aE b.heap.size):=by rw[P.o];rintro(s|s)<;>omega
 have T:=zh (z.u Q.o ap);have U:Hd (aO b.heap.size=110):=zh (by rw[z.ah _ Q.o.lt];exact P.o);have S1:=zh (Ab.andThen (C:=SS 111) S0.o z (λw s=>.inr Ω) (EG Ω));have L:=zh (H.o.ae z (by rintro(s|s)<;>omega) an);have O1:=zh (Ai.aj o1);have N1:=zh ao;obtain⟨_,x1,_⟩:=L.o.i.cells;clear z an ao o1 z1 ap Q H S0 P;go_wp2_with fail;rw[aJ.o.1];have W:=L.o.aK (i:=n/h) (Ψ HQ.o) a1 c1 O1.o (by rw[al];exact aj.o.1) 108 Ω;rw[al]at W;refine W.mono ?_;rintro u w2 ⟨a2,c2,rfl,o2,M,aS,D,aw,ax,z2⟩;have F:=zh (D.u T.o (by rw[U.o];rintro(s|s)<;>omega));have aU:Hd (M b.heap.size=110):=zh (by rw[D.ah _ T.o.lt];exact U.o);have S2:=zh (S1.o.trans (D.mono (EG Ω)));have N2:=zh (N1.o.trans ax);obtain⟨_,x1,_⟩:=(L.o.i.ae D (by rintro(s|s)<;>omega)).cells;obtain⟨be,o,rfl,X⟩:=(Ai.aj o2).aZ Ω;obtain⟨e0,e1⟩:=KB aj.o.2;have y0:=X _ _ e0;have y1:=X _ _ e1;have aX:=zh aw;have bg:(n:Int)%(h:Int)=((n%h:Nat):Int):=rfl;simp only[<-lw]at y1;generalize(A0 h a (n/h)).length=CL at*;generalize aK:n%h=B at*;have f0:=F.o.v 0;have f1:=F.o.v 1;have G:=F.o.m 0;have b1:=F.o.m 1;clear D aw ax o2 z2 W S1 N1 L O1 U T X e0 e1;go_wp2_with fail;obtain⟨w3,aZ,b3,t3⟩:=Ea F.o (J E v.1) (J E v.2);rw[aZ];have s3:Ab (λw=>w=110) w2 M w3 M:=AG S2.o.new t3 (λbl u=>by rw[u];exact aU.o);exact A3 (DH (p:=4) (ty:=165) rfl _ _ b.heap.size _ _ _ _ rfl b3 nC rfl rfl) rfl ⟨rfl,M,aS,S2.o.trans (s3.mono (λw s=>.inr Ω)),aX.o.ae s3 Ω Ω Ω Ω,N2.o⟩
theorem Ko(a:Cw b e h i j l g c):
  Bk Y 97 #[AA (V ⟨h,0,Z⟩)] b λd f=>d=A2 (J E g)/\b=f:=by
 obtain⟨_,_,_,k,_⟩:=a.cells;clear a
 go_enter Tryz.func97,Tryz.ntmps97
 go_wp2_with fail;go_ret;exact⟨rfl,rfl⟩
theorem Yy(f:Cw b e h g i j l c):
  Bk Y 217 #[AA (V ⟨h,0,Z⟩)] b λd m=>d=A2 (Iz c)/\b.grownBy m Z:=by
 obtain⟨s,t,k,a⟩:=Aq b 165 [J E 0,J E 0];obtain⟨_,_,_,_,u,v⟩:=(f.grown k).cells;have w:=a.m 0;have x:=a.m 1;have y:=a.v 0;have z:=a.v 1;have n:=zh a;clear f a
 go_enter Tryz.func217,Tryz.ntmps217
 go_wp2_with fail;obtain⟨A,o,q,r⟩:=Ea n.o (J E c.1) (J E c.2);rw[o];exact A3 (results_cell_row (p:=2) (ty:=165) rfl _ _ b.heap.size _ _ _ _ rfl q nC rfl rfl) rfl ⟨rfl,Ac.grown k r (λB d=>by rw[d];exact jS _)⟩
theorem AF(w:Ax)(x j:Nat)(v:A4):Ac (λk=>k=x) w (w.setCell ⟨x,j,Z⟩ v):=Ac.of (An _ _ _) (λk e=>by cases e;rfl)
theorem UK{m p q r s t:A4}(u:Aa b h o [n,z,m,p,q,r,s,t])(c d e f g i j l:A4):∃a,((((((((b.setCell ⟨h,0,Z⟩ c).setCell ⟨h,1,Z⟩ d).setCell ⟨h,2,Z⟩ e).setCell ⟨h,3,Z⟩ f).setCell ⟨h,4,Z⟩ g).setCell ⟨h,5,Z⟩ i).setCell ⟨h,6,Z⟩ j).setCell ⟨h,7,Z⟩ l)=a/\Aa a h o [c,d,e,f,g,i,j,l]/\Ac (λk=>k=h) b a:=
 ⟨_,rfl,(((((((u.setCell 0 _).setCell 1 _).setCell 2 _).setCell 3 _).setCell 4 _).setCell 5 _).setCell 6 _).setCell 7 _,(((((((AF _ _ _ _).trans (AF _ _ _ _)).trans (AF _ _ _ _)).trans (AF _ _ _ _)).trans (AF _ _ _ _)).trans (AF _ _ _ _)).trans (AF _ _ _ _)).trans (AF _ _ _ _)⟩
theorem eN(s i n k l m d o:Nat)(p:BitVec 64)(r q t b u v x:Nat)(w:Ax)
  (F:∀W,w.grownBy W Z->Bk Y 136 #[AA (V ⟨s,0,Z⟩)] W λe f=>e=A2 (.agg #[J E i,J E n,J E k,J E l,J E m,J E d,J E o,J .u64 (U p)])/\W.grownBy f Z)
  (G:∀W,Bk Y 32 #[.agg (CH i n k l m d o p).toArray] W λe f=>e=A2 (BL #[.agg (EN r q t b u v x).toArray,J E 0])/\W.grownBy f Z)(S:1<=b):
  Bk Y 141 #[AA (V ⟨s,0,Z⟩)] w λe f=>∃D,e=A2 (AA (V ⟨D,0,Z⟩))/\w.heap.size<=D/\w.grownBy f Z/\
   Aa f D 253 [AA (V ⟨s,0,Z⟩),J E b,J E d,J E 0,J E 0,J E 0]:=by
 have H:=zh F;have T:=zh G;have I:max (b:Int) 1=(b:Int):=Ω;have HM:=zh I
 have aC:∀W,(Instr.field 37 (.agg #[J E i,J E n,J E k,J E l,J E m,J E d,J E o,J .u64 (U p)]) 5).run Y W=.ok (J E d) W:=λW=>Φ
 clear F G S I
 go_enter Tryz.func141,Tryz.ntmps141
 go_wp2_with fail;refine(H.o w (Bf _ _)).mono ?_;rintro e w1 ⟨rfl,y⟩;go_wp2_with fail;refine(T.o w1).mono ?_;rintro e L ⟨rfl,z⟩;obtain⟨w3,ac,M,a⟩:=Aq L 85 [J E 0,J E 0,J E 0,J E 0,J E 0,J E 0,J E 0,J E 0];obtain⟨w4,ae,N,O⟩:=UK a (J E 2) (J E r) (J E q) (J E t) (J E b) (J E u) (J E v) (J E x);obtain⟨w5,P,A⟩:=AZ w4;have y0:=a.m 0;have y1:=a.m 1;have y2:=a.m 2;have y3:=a.m 3;have y4:=a.m 4;have y5:=a.m 5;have y6:=a.m 6;have y7:=a.m 7;have f0:=a.v 0;have f1:=a.v 1;have f2:=a.v 2;have f3:=a.v 3;have f4:=a.v 4;have f5:=a.v 5;have f6:=a.v 6;have f7:=a.v 7;have Q:=zh (N.grown A Δ);have R:=(Ae y z).size;have B:=zh (Ae (Ac.grown (Ae (Ae y z) M) O (λj e=>by rw[e];exact R)) A);clear a N O A M y z R;go_wp2_with fail;clear y0 y1 y2 y3 y4 y5 y6 y7 f0 f1 f2 f3 f4 f5 f6 f7;generalize L.heap.size=X at*;refine A7 (λW=>Aa W X 85 (EN r q t b u v x)) (.an [1,2,3] [0,4] 5 BX (.an [] [6,7] 8 Bx (.an [] [] 9 Bx .nil))) Φ Φ ?_;rw[P];clear ac ae P;refine DK Q.o ?_
 iterate 3 ((apply AB rfl Θ;(· intro wS g;(try have g:=g rfl);(try dsimp only at g);(try(have x4:=g.m 4));go_simp;(try with_reducible rfl)));refine Ak ?_)
 refine Aj ?_
 iterate 2 refine Az ?_
 refine Aj ?_;refine Al ?_;intro K c;refine(H.o w5 B.o).mono ?_;rintro e w6 ⟨rfl,C⟩;dsimp only;refine c _ _ ⟨_,λ_ h=>h,λ_=>(Q.o.grown C Δ),?_⟩;clear c K;refine Ak ?_;refine Ar ?_
 iterate 2 refine Az ?_
 refine Aj ?_;refine Al ?_;intro K c;rw[HM.o];obtain⟨w7,az,g7,b7⟩:=Aq w6 253 [AA (V ⟨s,0,Z⟩),J E b,J E d,J E 0,J E 0,J E 0];rw[az];refine As c ?_;clear c K;refine Ar ?_;refine Aj ?_;refine Al ?_;intro K c;refine As c ?_;clear c K;refine AK (NoPanic.normal ?_);go_wp2_with fail;go_ret;exact⟨_,rfl,(Ae B.o C).size,Ae (Ae B.o C) g7,b7⟩
theorem eQ(l:DF b e h g k i j f d)(a:k.aU):
  Bk Y 141 #[AA (V ⟨h,0,Z⟩)] b λm c=>∃D,m=A2 (AA (V ⟨D,0,Z⟩))/\b.heap.size<=D/\b.grownBy c Z/\
   Aa c D 253 [AA (V ⟨h,0,Z⟩),J E k.bi,J E k.dp,J E 0,J E 0,J E 0]:=
 eN h k.ss k.n k.rg k.rs k.lg k.dp k.a7 k.aQ k.region k.aK k.a2 k.bi k.ba k.bv k.aI b (λW n=>RJ (l.grown n)) (λW=>IS k a W) (Ψ a.f9)
abbrev EF(n:Nat):Nat->Prop:=Sc (λj=>j=1\/j=2\/j=3\/j=6) n
theorem Nd(a:h<=g):∀j,SS h j->EF g j:=Sc.mono (λj e=>Ω) a
theorem KZ:∀j,j=6->EF h j:=λj e=>.inl Ω
theorem IM{d:Option Addr}(_:Aw b e)(c:b.ownsRow h 5 1 (O d (AQ a).length g) (AQ a).length (Ao (AQ a)))(j:Aw w e)(k:w.heap.size<=h):Bj b e d g (AQ a):=
 ⟨Ai.aj c,λf i=>⟨j _ (j8 k (c.lt f i).1),(c.lt f i).2⟩,QB a⟩
theorem OF{c d g i:A4}(j:Aa b h o [n,z,c,d,g,i])(e f:A4):∃a,((b.setCell ⟨h,4,Z⟩ e).setCell ⟨h,5,Z⟩ f)=a/\Aa a h o [n,z,c,d,e,f]/\Ac (λk=>k=h) b a:=
 ⟨_,rfl,(j.setCell 4 _).setCell 5 _,(AF _ _ _ _).trans (AF _ _ _ _)⟩
theorem DD.dE(b:1<=h){root first r:Ah}(c:f root.1=V (root.2,AQ [first]))(d:f first.1=V (first.2,AQ [r]))(e:root.1≠first.1):DD f h 0 root [first] [r]:=by
 have g:A0 h [r] 0=[r]:=by
  unfold A0;rw[ox,ot];exact lF b
 refine⟨rfl,?_,c,λi t a=>?_,?_⟩
 ·unfold Bl;rw[show 2^0+h - 1=h by omega,Nat.div_self b];rfl
 ·cases i with
  |zero=>simp at a;subst a;rw[g];exact d
  |succ i=>simp at a
 ·simp[AE,e]
theorem af(l:SD b e g j k i h f d)(hq:i<=1073741700)(an:Ce f (k.bv+2))(r:Ah)(ld:List Nat)(N:f r.1=V (r.2,ld)):
  Bk Y 84 #[AA (V ⟨g,0,Z⟩),Iz r] b λa w'=>∃D ap first,a=A2 (BL #[AA (V ⟨D,0,Z⟩),J E 0])/\∃aq ar au,Ab (EF 108) b e w' aq/\Dl w' aq D g j k.bi k.dp 0 ap k (i+4) h ar au [first] [r]/\AN k d au/\Fr [] (AE ap [first]) f ar:=by
 have av:=l.e6 Ω N;have p:=zh l.a1;obtain⟨w0,a9,g0,A⟩:=Aq b 165 [J E r.1,J E r.2];have q:=A.m 0;have s:=A.m 1;have B0:=zh A;have G0:=zh g0;have H:=zh l;have O:=zh av;have ax:=zh an;have P:=zh hq;have HR:=zh N;clear A g0 l av an hq N
 go_enter Tryz.func84,Tryz.ntmps84
 go_wp2_with fail;refine(NQ r w0 O.o.1).mono ?_;rintro a w1 ⟨rfl,Q⟩;have R:=zh (Ae G0.o Q);have B1:=zh (B0.o.grown Q Δ);clear q s Q;go_wp2_with fail;refine(eQ (H.o.grown R.o).bJ p.o).mono ?_;rintro a S ⟨D,rfl,hD,T,U⟩;have W:Ab (λB=>B=6) b e S (AL e D 6):=(Ab.grown H.o.cl (Ae R.o T)).bC (j8 R.o.size hD) U.lt rfl;have X:Hd (AL e D 6 D=6):=zh (AY _ _ _);have C2:Hd (AL e D 6 b.heap.size=0):=zh (by rw[Bg _ _ (Ψ B1.o.lt)];exact H.o.cl _ (jS _));have S2:=zh W;have aC:=zh (H.o.ae W Ω Ω Ω Ω);have B2:=zh (B1.o.grown T Δ);have D2:=zh U;have q:=B2.o.m 0;have s:=B2.o.m 1;generalize AL e D 6=bE at*;clear hD T U W;obtain⟨w3,be,m,b3⟩:=Aq S 165 [J E r.1,J E r.2];go_wp2_with fail;refine(IP [r] (V ⟨S.heap.size,0,Z⟩) 1 w3 (Ai.bn b3 rfl (by unfold BE;simp)) Δ (λx t=>by rw[kH.1 t];exact O.o)).mono ?_;rintro a w4 ⟨bf,c4,rfl,o4,u⟩;have ab:=zh (aC.o.grown (Ae m u));have S4:=zh (S2.o.trans (Ab.grown S2.o.new (Ae m u)));have P4:=zh (IM ab.o.cl o4 aC.o.cl m.size);have B4:=zh (B2.o.grown (Ae m u) Δ);have D4:=zh (D2.o.grown (Ae m u) Δ);have hl:Hd ((AQ [r]).length<=k.n - 19):=zh (by rw[Gv];have:=p.o.n0;simp;omega);clear m b3 o4 u q s be a9;go_wp2_with fail;refine(JD ab.o (Ψ P.o) (ax.o.mono Ω) bf c4 (AQ [r]) hl.o P4.o).mono ?_;rintro a w5 ⟨c,rfl,n5,l5,bj,bG,v,aK,aL⟩;have D5:=zh (v.u D4.o (by rw[X.o];rintro(l|l)<;>omega));have ad:Hd (bj D=6):=zh (by rw[v.ah _ D4.o.lt];exact X.o);have B5:=zh (v.u B4.o (by rw[C2.o];rintro(l|l)<;>omega));have F:=zh aK;have S5:=zh (Ab.andThen (C:=EF 108) S4.o v KZ (Nd Ω));have G:=zh (Bd n5 (Bd l5 aL));clear v aK aL n5 l5 D4 ab S4 P4 B4 C2 X;obtain⟨w6,bl,g6,o⟩:=Aq w5 165 [J E 0,J E 0];obtain⟨w7,bm,b7,t7⟩:=Ea o (J E c) (J E h);have y0:=o.m 0;have y1:=o.m 1;have f0:=o.v 0;have f1:=o.v 1;have q:=b7.m 0;have s:=b7.m 1;have g7:=Ac.grown g6 t7 (λB a=>by rw[a];exact jS _);obtain⟨w8,bs,g8,b8⟩:=Aq w7 165 [J E c,J E h];have w:=zh (Ae g7 g8);have B8:=zh b8;clear g6 o b7 t7 g7 g8 b8;go_wp2_with fail;clear y0 y1 f0 f1 q s bl bm bs;have ah:Dx (c,h):=⟨by have I:=G.o.2.1;have h2:=(p.o.dD I).2.1;show c<=2147483647;omega,by have:=F.o.bX;have:=P.o;show h<=9223372036854775807;omega⟩;have bJ:=zh ah;refine(IP [(c,h)] (V ⟨w7.heap.size,0,Z⟩) 1 w8 (Ai.bn B8.o rfl (by unfold BE;simp)) Δ (λx t=>by rw[kH.1 t];exact ah)).mono ?_;rintro a w9 ⟨bt,c9,rfl,o9,K⟩;have ai:=zh (F.o.grown (Ae w.o K));have S9:=zh (S5.o.trans (Ab.grown S5.o.new (Ae w.o K)));have P9:=zh (IM ai.o.cl o9 F.o.cl w.o.size);have D9:=zh (D5.o.grown (Ae w.o K) Δ);have bv:Hd ((AQ [(c,h)]).length<=k.n - 19):=zh (by rw[Gv];have:=p.o.n0;simp;omega);clear o9 K ah F S5 D5 B5 w B8;go_wp2_with fail;refine(JD ai.o (Ψ P.o) ((ax.o.new (Fr.new _ G.o.1)).mono Ω) bt c9 (AQ [(c,h)]) bv.o P9.o).mono ?_;rintro a bw ⟨y,rfl,aX,aY,L,bx,M,aZ,a0⟩;have z:=zh (M.u D9.o (by rw[ad.o];rintro(l|l)<;>omega));have a1:Hd (L D=6):=zh (by rw[M.ah _ D9.o.lt];exact ad.o);have bz:=zh aZ;have a2:=zh (S9.o.trans (M.mono (Nd Ω)));have ak:=zh (Bd aX (Bd aY a0));clear M aZ a0 aX aY ai S9 P9 D9 ad;obtain⟨bA,bL,a3,a4⟩:=OF z.o (J E y) (J E h);have a5:Ab (λB=>B=6) bw L bA L:=AG a2.o.new a4 (λbM a=>by rw[a];exact a1.o);have f4:=z.o.v 4;have f5:=z.o.v 5;have y4:=z.o.m 4;have y5:=z.o.m 5;have bB:=zh a3;have a6:=zh a5;clear a3 a5 a4;go_wp2_with fail
 have al:y≠c:=λa=>by have I:=ak.o.1;rw[a,EP]at I;cases I
 have bR:=p.o.f9;refine A3 (BA rfl _ _ _) rfl ⟨D,(y,h),(c,h),rfl,L,_,bx,a2.o.trans (a6.o.mono KZ),⟨⟨bB.o,a1.o⟩,⟨Ω,Ω,Ω⟩,DD.dE Ω (EP _ _ _) (by rw[El _ _ al.symm];exact EP _ _ _) al,(bz.o.ae a6.o Ω Ω Ω Ω),λx t=>by rw[kH.1 t];exact O.o⟩,G.o.2.2.trans ak.o.2.2,?_⟩;exact(Fr.new (pg:=f) (n:=c) (h,AQ [r]) G.o.1).trans ((Fr.new (n:=y) (h,AQ [(c,h)]) ak.o.1).dz (D:=[]) (λn=>Δ) (λn=>by simp[AE];try omega))
end
section
open Go.RowKit
def CC(L:List Ah)(a:Nat):Nat->Ah->List Ah
 |0,_=>L
 |m+1,r=>(CC L a m r).set (a+m) r
theorem OP(L:List Ah)(a m:Nat)(r:Ah):(CC L a m r).length=L.length:=by
 induction m with
 |zero=>rfl
 |succ m b=>rw[CC,lm,b]
theorem cT(L:List Ah)(a m:Nat)(r:Ah)(h:a+m<=L.length)(n:Nat):(CC L a m r)[n]?=if a<=n/\n<a+m then V r else L[n]?:=by
 induction m with
 |zero=>rw[CC,j7 Ω]
 |succ m c=>
  rw[CC,mW,c Ω,OP]
  by_cases e:a+m=n
  ·rw[ke e,ke Ω,ke Ω]
  ·rw[j7 e]
   by_cases b:a<=n/\n<a+m
   ·rw[ke b,ke Ω]
   ·rw[j7 b,j7 Ω]
theorem SV(b:c∈CC a g h A):c=A\/c∈a:=by
 induction h with
 |zero=>exact .inr b
 |succ h d=>
  rcases lZ b with b|b
  ·exact d b
  ·exact .inl b
theorem U5(f:0<h)(L:List Ah)(n:Nat)(r:Ah):A0 h (L.set n r) (n/h)=(A0 h L (n/h)).set (n%h) r:=by
 have g:=lW n h;have i:=lT n f;rw[lM]at g;generalize n/h=a at*;generalize n%h=b at*;apply lR;intro j;unfold A0;rw[mW,kA,kK];rw[ng,ng,mj,mj,mW]
 by_cases c:j<h
 ·rw[ke c,ke c]
  by_cases e:b=j
  ·rw[ke Ω,ke e]
   by_cases d:n<L.length
   ·rw[ke d,ke Ω]
   ·rw[j7 d,j7 Ω]
  ·rw[j7 Ω,j7 e]
 ·rw[j7 c,j7 c,j7 Ω]
theorem UZ(f:0<h)(L:List Ah)(n:Nat)(r:Ah)(i:Nat)(d:i≠n/h):A0 h (L.set n r) i=A0 h L i:=by
 have g:=lW n h;have l:=lT n f;rw[lM]at g;generalize n/h=a at*;generalize n%h=b at*;apply lR;intro j;unfold A0;rw[ng,ng,mj,mj,mW]
 by_cases c:j<h
 ·rw[ke c,ke c,j7];intro e;apply d
  rcases Nat.lt_or_gt_of_ne d with k|k
  ·have:=mg h (show i+1<=a by omega);rw[mS]at this;omega
  ·have:=mg h (show a+1<=i by omega);rw[mS]at this;omega
 ·rw[j7 c,j7 c]
theorem UX(b:0<h)(L:List Ah)(a X j p:Nat)(r:Ah)(c:(a+(X+j))/h=p):A0 h (CC L a (X+(j+1)) r) p=(A0 h (CC L a (X+j) r) p).set ((a+(X+j))%h) r:=by
 subst c;exact U5 b _ _ _
theorem UU(c:0<h)(L:List Ah)(a X n p:Nat)(r:Ah)(b:∀j,j<n->(a+(X+j))/h=p)(i:Nat)(d:i≠p):A0 h (CC L a (X+n) r) i=A0 h (CC L a X r) i:=by
 induction n with
 |zero=>rfl
 |succ n e=>
  rw[<-e (λj g=>b j Ω)];exact UZ c _ _ _ _ (by have f:=b n Ω;show i≠(a+(X+n))/h;rw[f];exact d)
def EJ(a m:Nat):List Int:=(List.range m).map (λj=>((a+j:Nat):Int))
theorem IW(a m:Nat):(EJ a m).length=m:=by simp[EJ]
theorem KJ(a m j:Nat)(h:j<m):(EJ a m)[j]?=V ((a+j:Nat):Int):=by simp[EJ,h]
theorem Xm(e m:Nat):(EJ e m).mergeSort (λx y=>Bs (x<=y))=EJ e m:=by
 apply List.mergeSort_of_pairwise;rw[mK];intro i j c d f;have a:=jW c;have b:=jW d;rw[IW]at c d;rw[KJ _ _ _ c]at a;rw[KJ _ _ _ d]at b;injection a with a;injection b with b;rw[<-a, <-b];simp;omega
theorem Cz.hG{d:Ah}{e:List Ah}{t:Ah}(k:0<h)(m:Cz C d e r (A0 h (CC a g i c)))(n:r[j]?=V t)(o:Fr [t.1] [A.1] C f)(p:f A.1=V (A.2,AQ (A0 h (CC a g (i+l) c) j)))(q:∀b,b<l->(g+(i+b))/h=j):
  Cz f d e (r.set j A) (A0 h (CC a g (i+l) c)):=
 m.hw n o p (λb _ s=>UU k a g i l j c q b s)
theorem DD.hM{e:Ap}{root':Ah}{k b:List Ah}(d:DD e h g c b r)(l:a.length=b.length)(m:Cz C c k a (A0 h (CC r i j A)))(n:Fr [c.1] [root'.1] C f)(o:f root'.1=V (root'.2,AQ a)):
  DD f h g root' a (CC r i j A):=
 ⟨by rw[OP];exact d.aF,by rw[l];exact d.df,m.dA n o⟩
end
section
open Go Go.RowKit
attribute [local go_sem ↓] Go.wp_at_zero Go.wp_at_succ
theorem MP{K r:Nat}{t:List A4}(u:Aw b e)(_:b.ownsRow h o g n r s)(m:∀a,n.ownBlock=V a->e a=K)(v:b.grownBy w n.ownBlock)(x:w.ownsRow h o g z j t)(l:z.ownBlock=n.ownBlock\/z.ownBlock=V b.heap.size):
  ∃p,Ab (λf=>f=K) b e w p/\∀a,z.ownBlock=V a->p a=K:=by
 have q:Ab (λf=>f=K) b e w e:=Ab.of u v (λk o=>m k o)
 rcases l with c|c
 ·exact⟨e,q,λk d=>m k (by rw[<-c];exact d)⟩
 ·exact⟨_,q.bC (B:=b.heap.size) (i:=K) (jS _) (x.lt _ c).2 rfl,λk d=>by rw[c]at d;cases d;exact AY _ _ _⟩
theorem QE(a:Nat)(L:List Ah)(i:Nat):L.take (i*a)++A0 a L i=L.take ((i+1)*a):=by
 unfold A0;rw[mS,nZ,List.take_add]
def gI(w:Ax)(i:Ad)(s d:Nat)(P:Pl)(q j:Nat)(m:Ap)(n:Int->List Nat)(l:List Ah)(k:Nat)(e:Ending)(a:Ax):Prop:=
 ∃c f,e=A2 (BL #[O c l.length f,J E 0])/\a.ownsRow w.heap.size 165 2 (O c l.length f) l.length (A5 l)/\∃g h,Ab (SS (k+1)) w i a g/\SD a g s d P (q+300) j m h/\AN P n h/\∀b,(O c l.length f).ownBlock=V b->g b=k
theorem aV{D:Nat}(s:Dl b e D j l h x y c k g t f d r a)(hq:g<=1073741000)(z:Nat)(bo:131<=z):
  Bk Y 272 #[AA (V ⟨D,0,Z⟩)] b (gI b e j l k g t f d a z):=by
 have ap:=s.tl
 have aG:a.length<=256:=by rw[s.l.aF];exact(GN s.n.d1).2
 have aq:a.length<=r.length*h:=by
  rw[s.l.aF,s.l.df];exact pC (λq=>Nat.lt_irrefl _ ((Gu s.n.p0).2 q))
 have H:=zh s;have HQ:=zh hq;obtain⟨n,hn⟩:=Ag r.length;rw[hn]at ap aq;have HN:=zh hn;have P:=zh (Bd ap (Bd aG aq));clear s hn ap aG aq hq
 go_enter Tryz.func272,Tryz.ntmps272
 go_wp2_with fail;refine(H.o.dA (Ψ HQ.o) 130 Ω).mono ?_;rintro aI w1 ⟨Q,R,rfl,o1,bc,bd,s1,aJ,aK,z1⟩;rw[HN.o]at o1 z1⊢;have F1:=zh (H.o.ae s1 (by rintro(s|s)<;>omega) aJ);have O1:=zh (Ai.aj o1);have Z1:=zh z1;have S1:=zh (s1.mono (EG (m:=z+1) Ω));have N1:=zh aK;have L1:=zh (λo p=>(o1.lt o p).2);clear s1 aJ aK o1 z1 H;go_wp2_with fail
 go_loopg [22,6] n (λS i v wr=>i=J E (n - S:Nat)/\S<=n/\∃X u w q A,v=O u X w/\X=(a.take ((n - S)*h)).length/\Dl wr q D j l h x y c k (g+1+(n - S)) t f A r a/\AN k d A/\Ab (SS (z+1)) b e wr q/\
  (Ai wr 2 (O Q n R) n (A5 r)/\∀o,(O Q n R).ownBlock=V o->q o=130/\o<wr.heap.size)/\wr.ownsRow b.heap.size 165 2 (O u X w) X (A5 (a.take ((n - S)*h)))/\∀o,(O u X w).ownBlock=V o->q o=z)
 case atStart=>exact⟨Δ,jS _,0,Z,0,bc,bd,rfl,Δ,by rw[lU];exact F1.o,N1.o,S1.o,⟨O1.o,λo p=>⟨Z1.o o p,L1.o o p⟩⟩,by rw[lU,ox];exact World.ownsRow_nil _ _ _ _,λo p=>by simp[BB]at p⟩
 case round=>
  obtain⟨rfl,hk,X,u,w,q,A,rfl,N,F,ag,ah,⟨ai,aw⟩,G,hc⟩:=hrel;clear F1 O1 Z1 S1 N1 L1
  by_cases h0:gk=0
  ·subst h0;rw[mA]at F N G⊢;rw[lF P.o.2.2]at N G;subst N;have hd:Bs ((n:Int)<(n:Int))=Bx:=Δ;have HF:=zh F;have al:=zh ag;have am:=zh ah;have T:=zh G;have U:=zh hc;clear hk F ag ah G hc ai aw;go_wp2_with fail;exact A3 (BA rfl _ _ _) rfl ⟨u,w,rfl,T.o,q,A,am.o,HF.o.s.mono (Ψ P.o.1),al.o,U.o⟩
  ·obtain⟨i,hi⟩:=Ag (n - gk);rw[hi]at F N G⊢;have bf:i<n:=Ω;have hd:Bs ((i:Int)<(n:Int))=BX:=jT Ω;have ax:=F.aK (i:=i) (by have:=HQ.o;have:=P.o.1;omega) Q R (by rw[HN.o];exact ai) (by rw[HN.o];exact bf) 108 Ω;rw[HN.o]at ax;have aU:=zh ax;have HF:=zh F;have al:=zh ag;have am:=zh ah;have T:=zh G;have U:=zh hc;have aW:=zh ai;have W:=zh aw;have HX:=zh N;have aa:Hd (i+1=n - (gk - 1)/\gk - 1<=n/\gk - 1<gk/\i<256):=zh (Ψ P.o);have bg:Hd (Bn ((i:Int)+1)=((i+1:Nat):Int)):=zh (De rfl (Ψ aa.o.2.2.2))
   have aX:Hd (X<=256/\(A0 h a i).length<=256):=zh (by
    have C:=P.o.2.1;have I:=HX.o;rw[kA]at I;rw[Jv]
    omega)
   clear F N G ag ah hc ai aw ax hi hk h0;go_wp2_with fail;refine aU.o.mono ?_;rintro aI w2 ⟨a2,c2,rfl,o2,aZ,bi,B,a0,a1,z2⟩
   have az:∀an,an≥109->¬SS 109 an:=λan hj=>by rintro(s|s)<;>omega
   have F2:=zh (HF.o.ae B (by rintro(s|s)<;>omega) a0);have R2:=zh (B.aP aW.o (λo p=>az _ (by rw[(W.o o p).1];omega)));have C2:=zh (λo p=>show aZ o=130/\o<w2.heap.size from⟨by rw[B.ah _ (W.o o p).2];exact(W.o o p).1,jY (W.o o p).2 B.size⟩);have W2:=zh (B.ak.aL T.o (λo p=>az _ (by rw[U.o o p];omega)));have K2:=zh (λo p=>show aZ o=z by rw[B.ah _ (T.o.lt o p).2];exact U.o o p);have S2:=zh (am.o.trans (B.mono (EG Ω)));have N2:=zh (al.o.trans a1);have O2:=zh (Ai.aj o2);have SZ:=zh B.new;clear B a0 a1 o2 z2 aU HF aW W T U am al az;obtain⟨CL,aE⟩:=Ag ((A0 h a i).length);rw[aE]at O2 aX⊢;have a5:=zh aE;clear aE;go_wp2_with (at_builtin;refine Lz rfl _ _ rfl b.heap.size (n:=X) (xs:=a.take (i*h)) HX.o.symm rfl W2.o (m:=CL) (ys:=A0 h a i) a5.o rfl O2.o (Ψ aX.o) S2.o.size ?_;intro a3 c3 w3 C I h3;have H3:=zh (Bd C (Bd I h3));clear C I h3);obtain⟨C,I,h3⟩:=H3.o;obtain⟨c4,L,k4⟩:=MP (K:=z) S2.o.new W2.o K2.o I C h3;have F3:=F2.o.ae L Ω (F2.o.s.ae L Ω Ω Ω Ω);have R3:=L.aP R2.o (λo p=>by rw[(C2.o o p).1];omega);rw[QE]at C
   have bl:=zh (show∃M u w q A,(O a3 (X+CL) c3)=O u M w/\M=(a.take ((i+1)*h)).length/\Dl w3 q D j l h x y c k (g+1+(i+1)) t f A r a/\AN k d A/\Ab (SS (z+1)) b e w3 q/\(Ai w3 2 (O Q n R) n (A5 r)/\∀o,(O Q n R).ownBlock=V o->q o=130/\o<w3.heap.size)/\w3.ownsRow b.heap.size 165 2 (O u M w) M (A5 (a.take ((i+1)*h)))/\∀o,(O u M w).ownBlock=V o->q o=z from
    ⟨X+CL,a3,c3,c4,bi,rfl,by rw[<-QE,jU,HX.o,a5.o],F3,N2.o,S2.o.trans (L.mono (λan aI=>.inr Ω)),⟨R3,λo p=>⟨by rw[L.ah _ (C2.o o p).2];exact(C2.o o p).1,jY (C2.o o p).2 L.size⟩⟩,C,k4⟩)
   clear H3 C I h3 L k4 F3 R3 F2 R2 C2 W2 K2 S2 N2 O2
   go_roundg (gk - 1)
   case measure=>exact aa.o.2.2.1
   obtain⟨M,u,w,q,A,e1,e2⟩:=bl.o;exact⟨by rw[<-aa.o.1,bg.o],aa.o.2.1,M,u,w,q,A,e1,by rw[<-aa.o.1];exact e2⟩
end
section
open Go Go.RowKit
theorem Y5(l:List Ah)(k:Nat)(r:Ah)(a:k<l.length):A5 (l.set k r)=((A5 l).set (k*2) (J E r.1)).set (k*2+1) (J E r.2):=by
 induction l generalizing k with
 |nil=>simp at a
 |cons x l b=>
  cases k with
  |zero=>simp[A5,Iw]
  |succ k=>
   have h:=b k (by simpa using a);have c:(k+1)*2=k*2+1+1:=Ω;simp only[A5,kM,mh,Iw,kO,kv,c]at h⊢;rw[h]
theorem MH(e:b.ownsRow l o j (O (V ⟨i,0,Z⟩) h g) h s):∃c,Aa b i o (s++c)/\l<=i/\h<=g/\g<=BE/\(s++c).length=g*j:=by
 rcases e.2 with⟨f,_⟩|⟨v,w,k,m,n,p,q,r,t,d⟩
 ·cases f
 ·injection m with a _ u;injection a with a;injection a with a;subst a;subst u;refine⟨k.toList.drop (h*j),?_,n,q,r,?_⟩
  ·rw[<-d,lh];unfold Aa;simpa using p
  ·rw[<-d,lh];simpa using t
theorem WP{a:List A4}(d:Aa b g o (s++a))(e:l<=g)(f:i<=h)(k:h<=BE)(m:(s++a).length=h*j)(c:s.length=i*j):b.ownsRow l o j (O (V ⟨g,0,Z⟩) i h) i s:=
 ⟨c,.inr ⟨g,h,(s++a).toArray,rfl,e,d,f,k,by simpa using m,by rw[<-c];simp⟩⟩
theorem MD(k:b.ownsRow j o 2 (O (V ⟨h,0,Z⟩) i l) i (A5 a))(m:a[g]?=V c):b.cell? ⟨h,g*2,Z⟩=V (J E c.1)/\b.cell? ⟨h,g*2+1,Z⟩=V (J E c.2):=by
 obtain⟨d,e⟩:=KB m;obtain⟨n,f,_⟩:=MH k;exact⟨by rw[f.cell?,lj (jX.1 d).1];exact d,by rw[f.cell?,lj (jX.1 e).1];exact e⟩
theorem Pd(f:b.ownsRow j 165 2 (O (V ⟨g,0,Z⟩) i l) i (A5 a))(t:h<i)(r:Ah):
  (∃u0 u1,b.cell? ⟨g,h*2,Z⟩=V u0/\b.cell? ⟨g,h*2+1,Z⟩=V u1)/\(∀c,b.frozen? ⟨g,c,Z⟩=Bx)/\
  ∃e,((b.setCell ⟨g,h*2,Z⟩ (J E (r.1:Nat))).setCell ⟨g,h*2+1,Z⟩ (J E (r.2:Nat)))=e/\e.ownsRow j 165 2 (O (V ⟨g,0,Z⟩) i l) i (A5 (a.set h r))/\Ac (λc=>c=g) b e:=by
 obtain⟨u,d,n,o,p,k⟩:=MH f;have q:=f.1;rw[FT]at q;have s:h<a.length:=Ω;refine⟨⟨(A5 a)[h*2]'(by rw[FT];omega),(A5 a)[h*2+1]'(by rw[FT];omega),?_,?_⟩,λc=>d.v c,_,rfl,?_,(AF _ _ _ _).trans (AF _ _ _ _)⟩
 ·rw[d.cell?,lj (by rw[FT];omega),jW]
 ·rw[d.cell?,lj (by rw[FT];omega),jW]
 ·have m:=(d.setCell (h*2) (J E r.1)).setCell (h*2+1) (J E r.2);rw[nM _ _ (by rw[FT];omega),nM _ _ (by rw[lm,FT];omega), <-Y5 a h r s]at m;refine WP m n o p ?_ ?_
  ·rw[jU,FT,lm];rw[jU,FT]at k;exact k
  ·rw[FT,lm];omega
end
section
open Go.RowKit
theorem Po:A1 h j g i↔i*2^(h - g)<=j/\j<i*2^(h - g)+2^(h - g):=by
 unfold A1;have a:=nm (h - g);rw[qU a];generalize 2^(h - g)=m at*;generalize i*m=t at*;omega
theorem Ow(c:h<=g)(b:i<2^h):i*2^(g - h)+2^(g - h)<=2^g:=by
 have a:(i+1)*2^(g - h)<=2^h*2^(g - h):=mg _ b;rw[<-qR,show h+(g - h)=g by omega,mS,nZ]at a;exact a
theorem fi(d:a.length=2^h)(e:g<=h)(f:i<2^g)(r:Ah):CC a (i*2^(h - g)) (2^(h - g)) r=Cr h g i a r:=by
 have k:=Ow e f;refine lR (λj=>?_);rw[cT _ _ _ _ (by rw[d];exact k),Ew]
 by_cases b:A1 h j g i
 ·have l:=Po.1 b;rw[ke b,ke l,jW (by rw[d];omega)];rfl
 ·rw[j7 b,j7 (λc=>b (Po.2 c))]
structure IX(a:Ap)(e f b:Nat)(c:Ah)(T L:List Ah)(B:Nat->Au):Prop where
 d:DD a e b c T L
 x:Cj a f b L B
 t:∀n,a n≠Z->n∈AE c T\/∃(j:Nat) (q:Ah),L[j]?=V q/\q.1=n
theorem IX.dY(b:IX f g i h c a r p):Ce f (1+Bl g (2^h)+2^h):=by
 refine⟨AE c a++r.map Prod.fst,?_,λn d=>?_⟩
 ·rw[jU,mH,AE,kj,mH,b.d.df,b.x.aF];omega
 ·rcases b.t n d with k|⟨j,q,l,e⟩
  ·exact me _ k
  ·exact lY _ (lP.2 ⟨q,kX l,e⟩)
theorem IX.cC(b:IX f g i j A a r p)(d:r[h]?=V c):c.1∉AE A a:=b.d.cC (b.x.cZ h c d)
theorem IX.put{t:Nat}{u:Ah}{T:List Ah}(b:IX C g t h u T r p){i:Nat}{v:Ah}(l:r[i]?=V v)(G:B.ok t)(w:B.d=(p i).d)(y:B.p=(p i).p)
  (z:Fr (v.1::AE u T) (c.1::AE A a) C f)(H:DD f g h A a (Cr h B.d B.p r c))(I:f c.1=V (c.2,B.ld)):IX f g t h A a (Cr h B.d B.p r c) (Cy h p B):=by
 refine⟨H,b.x.put l G w y I (λn x m J k=>?_),λn m=>?_⟩
 ·obtain⟨j,q,k,e⟩:=k;refine(z.cA m (λd=>?_)).1
  rcases lK.1 d with d|d
  ·exact J d
  ·exact b.cC k (e▸d)
 ·by_cases D:n∈AE A a
  ·exact .inl D
  right
  by_cases E:n=c.1
  ·refine⟨i,c,?_,E.symm⟩;rw[Ew,l,w,y,ke (b.x.pf i (b.x.lt l))];rfl
  have F:n∉c.1::AE A a:=λK=>(lK.1 K).elim E D
  by_cases o:n∈v.1::AE u T
  ·exact absurd (z.dZ n o F) m
  rw[z.cq n o F]at m
  rcases b.t n m with L|⟨j,q,k,e⟩
  ·exact absurd (lA _ L) o
  ·refine⟨j,q,?_,e⟩;rw[Ew,j7]
   ·exact k
   ·intro d;rw[w,y]at d;have s:=(b.x.bg i j (b.x.lt l) (b.x.lt k) d).1;rw[k,l]at s;injection s with s;exact o (by rw[<-e,s];exact mi)
theorem Sg{dep:Nat}(a:h<=dep)(b:g<2^h):∃j,j<2^dep/\A1 dep j h g:=by
 have c:=Ow a b;have d:=nm (dep - h);exact⟨g*2^(dep - h),Ω,Po.2 ⟨jS _,Ω⟩⟩
theorem Au.ok.fT(b:B.ok h):B.p<2^B.d:=by
 have a:=(Fw.1 b).1;unfold FF at a;have c:=kQ a
 have d:(B.p:Int)<2^B.d:=by have:=c.2.2.2.2.2.2;rwa[km]at this
 exact_mod_cast d
theorem IX.f5{F K:Ap}{G:Nat}{u s:Ah}{v L:List Ah}(k:IX C g G h A a L p){i:Nat}{r0 r1:Ah}(w:L[i]?=V c)(M:B.ok G)(N:B.d=(p i).d)(O:B.p=(p i).p)(H:B.d<h)(Y:h<=8)
  (P:Fr [] [r1.1] C F)(m:C r1.1=Z)(aa:F r1.1=V (r1.2,(AT B).ld))(y:Fr (AE A a) (AE u v) F K)
  (z:Fr (c.1::AE u v) (r0.1::AE s r) K f)(hD:DD f g h s r (Cr h (AR B).d (AR B).p (Cr h (AT B).d (AT B).p L r1) r0))(hn:f r0.1=V (r0.2,(AR B).ld)):
  IX f g G h s r (Cr h (AR B).d (AR B).p (Cr h (AT B).d (AT B).p L r1) r0) (Cy h (Cy h p (AT B)) (AR B)):=by
 obtain⟨k0,k1⟩:=Mr M Ω;have hr:=k.x.cZ i c w
 have ag:r1.1≠c.1:=λe=>by rw[e,hr]at m;cases m
 have ah:r1.1∉AE A a:=λb=>by
  rcases GF.1 b with e|⟨j,t,d,e⟩
  ·rw[e,k.d.c.rt]at m;cases m
  ·rw[<-e,k.d.c.tp j t d]at m;cases m
 obtain⟨s1,s2⟩:=y.cA aa ah;have s3:=(z.cA s1 (λb=>(lK.1 b).elim ag s2)).1
 have al:∀n x,C n=V x->n≠c.1->n∉AE A a->f n=V x:=λn x l I am=>by
  have a1:=(P.cA l Δ).1;obtain⟨a2,a3⟩:=y.cA a1 am;exact(z.cA a2 (λb=>(lK.1 b).elim I a3)).1
 refine⟨hD,k.x.f5 w M N O H Y hn s3 (λn x l I d=>?_),λn l=>?_⟩
 ·obtain⟨j,q,d,e⟩:=d;exact al n x l I (e▸k.cC d)
 ·by_cases Q:n∈AE s r
  ·exact .inl Q
  right
  by_cases R:n=r0.1
  ·obtain⟨j,d,D⟩:=Sg (dep:=h) (show(AR B).d<=h by show B.d+1<=h;omega) k0.fT;refine⟨j,r0,?_,R.symm⟩;rw[Ew,ke D,jW (by rw[Ml,k.x.aF];exact d)];rfl
  by_cases S:n=r1.1
  ·obtain⟨j,d,D⟩:=Sg (dep:=h) (show(AT B).d<=h by show B.d+1<=h;omega) k1.fT;refine⟨j,r1,?_,S.symm⟩;rw[Ew,j7 (show¬A1 h j (AR B).d (AR B).p from λb=>OK b D),Ew,ke D,jW (by rw[k.x.aF];exact d)];rfl
  have T:n∉r0.1::AE s r:=λb=>(lK.1 b).elim R Q
  by_cases E:n∈c.1::AE u v
  ·exact absurd (z.dZ n E T) l
  rw[z.cq n E T]at l
  have U:n∉AE u v:=λb=>E (lA _ b)
  by_cases J:n∈AE A a
  ·exact absurd (y.dZ n J U) l
  rw[y.cq n J U,P.cq n Δ (by simp[S])]at l
  rcases k.t n l with o|⟨j,q,d,e⟩
  ·exact absurd o J
  ·refine⟨j,q,?_,e⟩
   have W:¬A1 h j B.d B.p:=λX=>by
    rw[N,O]at X;have o:=(k.x.bg i j (k.x.lt w) (k.x.lt d) X).1;rw[d,w]at o;injection o with o;exact E (by rw[<-e,o];exact mi)
   rw[Ew,j7 (show¬A1 h j (AR B).d (AR B).p from λb=>W ((Kp H).2 (.inl b))),Ew,j7 (show¬A1 h j (AT B).d (AT B).p from λb=>W ((Kp H).2 (.inr b)))];exact d
theorem IX.gj{d:Nat}{T:List Ah}(b:IX C g d h A T r p)(k:Fr (AE A T) (AE c a) C f)(t:DD f g (h+1) c a (Proofs.YtcedibmdelehdaaGreatDoor.CG r)):
  IX f g d (h+1) c a (Proofs.YtcedibmdelehdaaGreatDoor.CG r) (λj=>p (j/2)):=by
 have u:Cj f d h r p:=⟨b.x.aF,λi v s=>(k.cA (b.x.cZ i v s) (b.cC s)).1,b.x.ok,b.x.dl,b.x.pf,b.x.bg⟩;refine⟨t,u.gj,λn l=>?_⟩
 by_cases m:n∈AE c a
 ·exact .inl m
 right
 by_cases o:n∈AE A T
 ·exact absurd (k.dZ n o m) l
 rw[k.cq n o m]at l
 rcases b.t n l with w|⟨j,q,x,e⟩
 ·exact absurd w o
 ·exact⟨2*j,q,by rw[KF,show 2*j/2=j by omega];exact x,e⟩
theorem IX.hI{root first r:Ah}(s:h<=255)(t:1<=h)(c:DD f g 0 root [first] [r])(d:f r.1=V (r.2,(Au.mk 0 0 []).ld))(e:∀n,f n≠Z->n∈AE root [first]\/n=r.1):IX f g h 0 root [first] [r] (λ_=>⟨0,0,[]⟩):=by
 refine⟨c,⟨rfl,λi q a=>?_,λi a=>?_,λi a=>jS _,λi a=>?_,λi j a k _=>?_⟩,λn l=>?_⟩
 ·cases i with
  |zero=>simp at a;subst a;exact d
  |succ i=>simp at a
 ·refine Fw.2 ⟨?_,λx m=>by simp at m,List.Pairwise.nil⟩;unfold FF;exact jT Γ
 ·have:i=0:=by simp at a;omega
  subst this;rfl
 ·have o:i=0:=by simp at a;omega
  have p:j=0:=by simp at k;omega
  rw[o,p];exact⟨rfl,rfl⟩
 ·rcases e n l with b|b
  ·exact .inl b
  ·exact .inr ⟨0,r,rfl,b.symm⟩
end
