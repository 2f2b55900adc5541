/- Lemmas. -/
import Derived.Test.YtcedibmdelehdaaGreatDoorG29
import Derived.Test.YtcedibmdelehdaaGreatDoorG38
namespace Go.Proofs.YtcedibmdelehdaaGreatDoor
set_option maxRecDepth 100000
set_option maxHeartbeats 32000000
open Go.IntKind renaming i64->E
open Go.Value renaming int->J,slice->O,pointer->AA,ownBlock->Bs,tuple->BC
open Option renaming some->V,none->Z
open Go.Proofs.Tryz renaming prog->Y
open Go renaming World->Ax,bodyPost_ret->A3,Value->A4,Calls->A6,results_tmp2->Bn,TypeId->BA,maxLen->BB
open Go.Ending renaming returned->A2
open And renaming intro->A5
open Go.RowKit renaming wrap64->A7
open Decidable renaming decide->Bd
open Bool renaming false->Bk,true->BE
open Go.IntWalk renaming wrap64_in->Bx,i64_in->BD
variable{f g i j l t x z:Nat}{h r:List Ai}{a w:Ax}{b B:Ai}{c:Int->List Nat}{d:Ae}{e D:As}{k:Pl}{n A:A4}{o:BA}{p:Nat->Au}{q:List Nat}{s:List A4}{C:Au}
section
open Go.RowKit
attribute [local go_sem ↓] Go.wp_at_zero Go.wp_at_succ
structure CO(w:Ax)(b:Ae)(D s c d e:Nat)(a:Ai):Prop where
 y:Aa w D 253 [AA (V ⟨s,0,Z⟩),J E c,J E d,J E e,J E a.1,J E a.2]
 c0:b D=6
theorem CO.u(h:CO a d f g i j l b)(c:a.grownBy w Z):CO w d f g i j l b:=⟨h.y.u c Δ,h.c0⟩
theorem CO.ag{C:Nat->Prop}{c:Ae}(h:CO a d f g i j l b)(k:Ad C a d w c)(e:¬C 6):CO w c f g i j l b:=⟨k.y h.y (by rw[h.c0];exact e),by rw[k.ak _ h.y.lt];exact h.c0⟩
theorem CO.cells(h:CO a d f g i j l b):
  a.cell? ⟨f,0,Z⟩=V (AA (V ⟨g,0,Z⟩))/\a.cell? ⟨f,1,Z⟩=V (J E i)/\a.cell? ⟨f,2,Z⟩=V (J E j)/\a.cell? ⟨f,3,Z⟩=V (J E l)/\a.cell? ⟨f,4,Z⟩=V (J E b.1)/\a.cell? ⟨f,5,Z⟩=V (J E b.2):=
 ⟨h.y.m 0,h.y.m 1,h.y.m 2,h.y.m 3,h.y.m 4,h.y.m 5⟩
structure Kg(a b:Nat):Prop where
 p0:1<=a
 p1:a<=64
 d1:b<=8
theorem GY(h:f<=8):1<=2^f/\2^f<=256:=⟨mF,by rw[show(256:Nat)=2^8 from rfl];exact kR Ω h⟩
theorem Mk(h:CO a d g i j l f b)(k:f<=8):
  A6 Y 220 #[AA (V ⟨g,0,Z⟩)] a λe p=>e=A2 (J E (2^f:Nat))/\a=p:=by
 obtain⟨_,_,_,r,_⟩:=h.cells;obtain⟨m,c⟩:=Af (2^f);have n:A7 (2^min f 64)=(m:Int):=UV k c (by rw[<-c];exact(GY k).2)
 have o:A7 ((2:Int)^f)=(m:Int):=by rw[<-n,nf Ω]
 have q:=zh o;rw[c];clear h c n o
 go_enter Tryz.func220,Tryz.ntmps220
 go_wp2_with fail;rw[q.o];go_ret;exact⟨rfl,rfl⟩
theorem VP(h:CO a d i j f l g b)(c:Kg f g):
  A6 Y 253 #[AA (V ⟨i,0,Z⟩)] a λe s=>e=A2 (J E (By f (2^g):Nat))/\a.grownBy s Z:=by
 have k:=(GY c.d1);have t:=c.p0;have u:=c.p1;have n:=zh (λ(W:Ax) (v:a.grownBy W Z)=>Mk (h.u v) c.d1);have H:=zh h;obtain⟨m,o⟩:=Af (2^g);rw[o]at k n⊢;unfold By
 have w:A7 (((m+f - 1:Nat):Int)/(f:Int))=(((m+f - 1)/f:Nat):Int):=by rw[<-nV];exact Ed (jM (mN _ _) Ω)
 have B:=Ba w;have C:((f:Int)==0)=Bk:=Γ;have D:¬f=0:=Ω;have p:(m:Int)+(f:Int) - 1=((m+f - 1:Nat):Int):=Ω;have x:A7 ((m:Int)+(f:Int))=(m:Int)+(f:Int):=Bx _ Ω
 have y:A7 ((m:Int)+(f:Int) - 1)=((m+f - 1:Nat):Int):=by rw[Bx _ Ω];exact p
 have F:=Ba x;have G:=Ba y;generalize(m+f - 1)/f=L at*;generalize m+f - 1=A at*;clear c h t u o k p;obtain⟨_,q,_⟩:=H.o.cells;have I:=AJ q;clear q
 go_enter Tryz.func253,Tryz.ntmps253
 go_wp2_with fail;refine Cb Φ Φ ?_
 repeat(go_big_quiet_step ((go_at_call 220;exact Hi n.o _)))
 refine wpQuiet_nil ?_;rintro _ ⟨r,rfl⟩;have z:=Bu r;generalize gw r=K at*;go_wp2_with fail;go_ret;exact⟨rfl,z⟩
def IP(r:Ai):List A4:=[J E r.1,J E r.2]
def Bb(l:List Ai):List A4:=l.flatMap IP
abbrev IR(r:Ai):A4:=.agg #[J E r.1,J E r.2]
theorem F0(l:List Ai):(Bb l).length=l.length*2:=KA IP 2 (λ_=>rfl) l
theorem Oo(l m:List Ai):Bb (l++m)=Bb l++Bb m:=mu
theorem KX(a:h[f]?=V b):(Bb h)[f*2]?=V (J E b.1)/\(Bb h)[f*2+1]?=V (J E b.2):=
 ⟨Dd IP 2 (λ_=>rfl) h f 0 _ a Ω,Dd IP 2 (λ_=>rfl) h f 1 _ a Ω⟩
def DM(r:Ai):Prop:=r.1<=2147483647/\r.2<=9223372036854775807
theorem XB(a:h[f]?=V b):AT (h.take (f+1))=(AT (h.take f)++At b.1 4)++At b.2 8:=by
 obtain⟨c,rfl⟩:=jL.1 a;rw[lV c,YH,kK];simp[AT,Kn]
theorem N0(r:Ai)(w:Ax)(b:r.1<=2147483647):A6 Y 140 #[IR r] w λe c=>e=A2 (.bool BE)/\w.grownBy c Z:=by
 have f:Bd ((0:Int)<=(r.1:Int))=BE:=jG Ω;have g:Bd ((r.1:Int)<=2147483647)=BE:=jG Ω;have h:Bd ((0:Int)<=(r.2:Int))=BE:=jG Ω;clear b;obtain⟨i,j,d,a⟩:=An w 165 [J E r.1,J E r.2];have k:=a.m 0;have l:=a.m 1
 go_enter Tryz.func140,Tryz.ntmps140
 go_wp2_with fail;go_ret;exact⟨rfl,d⟩
theorem I5(l:List Ai)(a:Option Addr)(c:Nat)(w:Ax)(F:Ag w 2 (O a l.length c) l.length (Bb l))(y:l.length<=256)(G:∀r∈l,DM r):
  A6 Y 142 #[O a l.length c] w λe H=>∃I K,e=A2 (O I (AT l).length K)/\H.ownsRow w.heap.size 5 1 (O I (AT l).length K) (AT l).length (Ar (AT l))/\w.grownBy H Z:=by
 have L:=zh F;have HS:=zh G;have HN:=zh (λ(k:Nat) (r:Ai) (h:l[k]?=V r)=>XB h)
 have g:A7 (12*(l.length:Int))=((12*l.length:Nat):Int):=by rw[show 12*(l.length:Int)=((12*l.length:Nat):Int) by push_cast;rfl];exact Ed Ω
 have j:=GI l;obtain⟨n,m⟩:=Af l.length;obtain⟨M,z⟩:=Af (12*n);have f:=zh m;have ap:=zh z;have aM:=zh j;rw[m]at L g y j;rw[m];rw[z]at g j;have N:=zh y;have P:(M:Int)<=9223372036854775807:=Ω;clear F G m z j y
 go_enter Tryz.func142,Tryz.ntmps142
 go_wp2_with fail;rw[g];refine(IV M P w).mono ?_;rintro e w1 ⟨rfl,p,Q⟩;rw[jP Ω]at p
 have R:Hd (PW w w1 w.heap.size (O Z 0 0) (AT (l.take 0)) (M:Int)):=zh ⟨p,λk q=>by
  rcases q with h|h
  ·omega
  ·simp[Bs]at h,Q⟩
 clear p Q g P;go_wp2_with fail
 go_loopg [12] n (λk i wr=>i=J E (n - k:Nat)/\k<=n/\∃v:A4,PW w wr w.heap.size v (AT (l.take (n - k))) (M:Int))
 case atStart=>exact⟨Δ,jF _,_,by rw[lJ];exact R.o⟩
 case round=>
  obtain⟨rfl,q,v,S⟩:=hrel;have d:=zh S;clear S R
  by_cases T:gk=0
  ·subst T;rw[lW]at d⊢;have U:Bd ((n:Int)<(n:Int))=Bk:=Δ;clear q;go_wp2_with fail;refine(Il _ _ _ _ _ _ d.o.wr).mono ?_;rintro e w6 ⟨a6,c6,rfl,A,W⟩;rw[<-f.o,lS]at A;rw[<-f.o,lS];have O6:=zh (Cf A d.o.u.size);have GG:=zh (Ab d.o.u W);clear A W;go_wp2_with fail;go_ret;exact⟨a6,c6,rfl,O6.o,GG.o⟩
  ·obtain⟨i,X⟩:=Af (n - gk);rw[X]at d⊢;have U:Bd ((i:Int)<(n:Int))=BE:=jG Ω;have ax:Bd (i<n)=BE:=jG Ω;have ay:i<n:=Ω
   have aa:i<l.length:=by rw[f.o];omega
   obtain⟨r,s⟩:∃r,l[i]?=V r:=⟨_,jK aa⟩;have t:=HS.o r (kp s);obtain⟨b,o,rfl,B⟩:=L.o.bA (Ψ f.o);obtain⟨e0,e1⟩:=KX s;have y0:=d.o.u.cell (B _ _ e0) Δ;have y1:=d.o.u.cell (B _ _ e1) Δ;simp only[<-kO]at y1;have u0:=IQ (n:=r.1) (lM t.1 Ξ);have u1:=IQ (n:=r.2) (lM t.2 Ξ);have ae:=zh t;have aA:=zh (HN.o i r s);have u:Hd ((AT (l.take i)).length=12*i/\12*i+12<=M/\i<=256):=zh (by have p:=ap.o;have h2:=N.o;rw[GI,jW];omega);have x:Hd (i+1=n - (gk - 1)/\gk - 1<=n/\gk - 1<gk):=zh Ω;have aB:Hd (A7 ((i:Int)+1)=((i+1:Nat):Int)):=zh (Dm rfl (by have:=f.o;have:=N.o;omega));generalize aC:AT (l.take i)=st at*;clear B e0 e1 t s aa X q T aC;obtain⟨w2,aD,g2,C⟩:=An wr 165 [J E r.1,J E r.2];have x0:=C.m 0
   have ag:¬DE w.heap.size v wr.heap.size:=λh=>by have:=d.o.wr.lt _ h;omega
   have Q0:=zh (d.o.bw g2);have P2:=zh C;have aG:=zh ag;clear g2 d C ag;go_wp2_with fail;clear y0 y1 aD;refine(Q0.o.be r.1 4 (lM ae.o.1 Ξ) Ξ (Ψ u.o) (Ψ u.o)).mono ?_;rintro e w3 ⟨v3,rfl,p3,k3⟩;obtain⟨ak,aH⟩:=k3 _ _ _ P2.o aG.o;have x1:=ak.m 1;have Q3:=zh p3;clear k3 p3 aH ak x0 Q0;go_wp2_with fail;clear x1;refine(Q3.o.be r.2 8 (lM ae.o.2 Ξ) Ξ (by have:=u.o;rw[jI,AK];omega) (by have:=u.o;rw[jI,AK];omega)).mono ?_;rintro e w4 ⟨v4,rfl,p4,k4⟩;have D:=p4;rw[<-aA.o]at D;have Q4:=zh D;clear p4 k4 D Q3 U ax ay u0 u1;go_wp2_with fail
   go_roundg (gk - 1)
   case measure=>exact x.o.2.2
   exact⟨by rw[<-x.o.1,aB.o],x.o.2.1,v4,by rw[<-x.o.1];exact Q4.o⟩
end
section
open Go Go.RowKit
attribute [local go_sem ↓] Go.wp_at_zero Go.wp_at_succ
theorem gD:(Y.info? 165).map (λi=>(i.zero,i.size,i.bytes))=V (V (.agg #[J E 0,J E 0]),2,16):=Φ
theorem eF(l:List Ai):∀u∈Bb l,u.oneCell'=BE:=by
 intro u a;obtain⟨r,_,a⟩:=ny.1 a;simp only[IP,kZ,lY,oD]at a
 rcases a with rfl|rfl<;>rfl
theorem LY{i:Array Oper}{j:List Oper}{o:Oper}{e:Act}{Q:Exit->Act->Ax->Prop}(k:o.guard=Z)(s x:Operand)
  (l:o.op=.call {callee:=.builtin .append,args:=#[s,x],argTypes:=#[251,251]})(f:Nat){v:A4}{n:Nat}{xs:List Ai}(_:xs.length=n)(p:e.eval s=v)(q:a.ownsRow f 165 2 v n (Bb xs))
  {m:Nat}{ys:List Ai}(_:ys.length=m)(r:e.eval x=A)(t:Ag a 2 A m (Bb ys))(H:n+m<=100000)(u:f<=a.heap.size)
  (h:∀b c d,d.ownsRow f 165 2 (O b (n+m) c) (n+m) (Bb (xs++ys))->a.grownBy d v.ownBlock->((O b (n+m) c).ownBlock=v.ownBlock\/(O b (n+m) c).ownBlock=V a.heap.size)->wpList Y i Q j (e.put o.dst (O b (n+m) c)) d):wpList Y i Q (o::j) e a:=by
 obtain⟨w,y,z,B,C⟩:=info_parts gD;refine NH k s x _ l f 165 w _ 2 16 Tryz.underlying251 y z B C rfl Ξ p q r t (eF _) (by unfold BB;omega) Ω u ?_;intro I d g D E;rw[<-Oo]at g;obtain⟨b,c,rfl⟩:=(Ag.ai g).slice;exact h b c d g D E
structure PS(a W:Ax)(B:Nat)(c v:A4)(d:List Nat)(n:Nat)(e:List Ai):Prop where
 rr:RR W B c d Bk
 aI:W.ownsRow a.heap.size 165 2 v n (Bb e)
 g:a.grownBy W Z
 b0:a.heap.size<=B
 vr:d≠[]->∀b,v.ownBlock=V b->c.ownBlock≠V b
theorem PS.bT{W:Ax}{v:A4}{i:List Nat}(c:PS w W f A v i g h)(m:RR a f n q Bk)(o:∀b,n.ownBlock=V b->A.ownBlock=V b)(l:W.grownBy a (V f))(p:q≠[]->i≠[]):PS w a f n v q g h:=
 ⟨m,(Ac.of (S:=λk=>k=f) l (λk e=>by cases e;rfl)).aT c.aI (λb d e=>by subst e;exact Bv c.rr.y c.aI Ξ d),Ac.u c.g (Ac.of l (λk e=>e)) (λj e=>by cases e;exact c.b0),c.b0,λk b d e=>c.vr (p k) b d (o _ e)⟩
theorem PS.fj{d:Ax}(b:PS a w f n A q g h)(c:w.grownBy d Z):PS a d f n A q g h:=
 ⟨b.rr.u c,AV b.aI c,Ab b.g c,b.b0,b.vr⟩
theorem PS.bK{m:Ax}{o:A4}(c:PS a w f o n q i r)(p:w.grownBy m n.ownBlock)(s:m.ownsRow a.heap.size 165 2 A g (Bb h))(d:A.ownBlock=n.ownBlock\/A.ownBlock=V w.heap.size):PS a m f o A q g h:=
 ⟨c.rr.eM (S:=λk=>n.ownBlock=V k) (Ac.of p (λk e=>e)) (λe=>Bv c.rr.y c.aI Ξ e) (λj k t e=>c.vr j k e t),s,DT c.g c.aI (jF _) p,c.b0,λj b l e=>by
  rcases d with d|d
  ·exact c.vr j b (d▸l) e
  ·have u:=c.rr.aN.lt (λe=>j (by simpa[Ar]using e)) b e;rw[d]at l;injection l with l
   omega⟩
theorem Zc(a:h[f]?=V b):AT (h.drop f)=At b.1 4++(At b.2 8++AT (h.drop (f+1))):=by
 obtain⟨c,rfl⟩:=jL.1 a;rw[mY c,RF,Kn,kK]
theorem aG(a:h[f]?=V b):h.take (f+1)=h.take f++[b]:=by
 obtain⟨c,rfl⟩:=jL.1 a;exact lV c
theorem Rg(l:List Ai)(a:Option Addr)(c:Nat)(w:Ax)(S:Ag w 1 (O a (AT l).length c) (AT l).length (Ar (AT l)))(G:l.length<=256)(T:∀r∈l,DM r):
  A6 Y 252 #[O a (AT l).length c,J E l.length] w λe U=>∃W X,e=A2 (BC #[O W l.length X,J E 0])/\U.ownsRow w.heap.size 165 2 (O W l.length X) l.length (Bb l)/\w.grownBy U Z:=by
 have HS:=zh T;have HD:=zh (λ(k:Nat) (r:Ai) (h:l[k]?=V r)=>Zc h);have HT:=zh (λ(k:Nat) (r:Ai) (h:l[k]?=V r)=>aG h)
 have H:A7 (12*(l.length:Int))=((12*l.length:Nat):Int):=by rw[show 12*(l.length:Int)=((12*l.length:Nat):Int) by push_cast;rfl];exact Ed Ω
 have q:=GI l;have I:=zh (Mc (AT l) a c w Ω (QJ l) S);obtain⟨n,y⟩:=Af l.length;obtain⟨M,hM⟩:=Af (12*n);rw[y]at H G q;rw[hM]at H q;rw[q]at I;rw[q,y];have ab:=zh y;have HB:=zh G;have aA:((M:Int)!=(M:Int))=Bk:=Δ;clear S T y hM q G
 go_enter Tryz.func252,Tryz.ntmps252
 go_wp2_with fail;refine I.o.mono ?_;rintro e w1 ⟨B,s,rfl,ac,hB,aC,g1⟩;have P1:Hd (PS w w1 B s (O Z 0 0) (AT (l.drop 0)) 0 (l.take 0)):=zh ⟨ac,World.ownsRow_nil _ _ _ _,g1,hB,λ_ b hb=>by simp[Bs]at hb⟩;clear ac hB aC g1 H aA I;go_wp2_with fail
 go_loopg [17,7] n (λk i v wr=>i=J E (n - k:Nat)/\k<=n/\∃s z A,v=O z (n - k) A/\PS w wr B s (O z (n - k) A) (AT (l.drop (n - k))) (n - k) (l.take (n - k)))
 case atStart=>exact⟨Δ,jF _,s,Z,0,by rw[lJ],by rw[lJ];exact P1.o⟩
 case round=>
  obtain⟨rfl,hk,s,z,A,rfl,f⟩:=hrel;have g:=zh f;clear f P1
  by_cases h0:gk=0
  ·subst h0;rw[lW]at g⊢;have hd:Bd ((n:Int)<(n:Int))=Bk:=Δ;clear hk;go_wp2_with fail;have o:=g.o.aI;rw[show l.take n=l by rw[<-ab.o];exact lS]at o;exact A3 (Bn rfl _ _ _) rfl ⟨z,A,rfl,o,g.o.g⟩
  ·obtain⟨i,hi⟩:=Af (n - gk);rw[hi]at g⊢;have a1:i<n:=Ω;have hd:Bd ((i:Int)<(n:Int))=BE:=jG Ω
   have aj:i<l.length:=by rw[ab.o];omega
   obtain⟨r,C⟩:∃r,l[i]?=V r:=⟨_,jK aj⟩;have D:=HS.o r (kp C);have u0:E.wrap (r.1:Int)=r.1:=BD _ (Ψ D.1);have u1:E.wrap (r.2:Int)=r.2:=BD _ (Ψ D.2);have K:=zh D;have aF:=zh (HT.o i r C);have f:=g.o;rw[HD.o i r C]at f;have L:=zh f;have d:Hd (i+1=n - (gk - 1)/\gk - 1<=n/\gk - 1<gk/\i<256):=zh (Ψ HB.o);have aH:Hd (A7 ((i:Int)+1)=((i+1:Nat):Int)):=zh (Dm rfl (Ψ d.o.2.2.2));have aI:Hd ((l.take i).length=i):=zh (by rw[jW];omega);clear D C aj hi hk h0 f g;go_wp2_with fail;refine(Gl L.o.rr Ξ (by have:=K.o.1;simp;omega)).mono ?_;rintro e w2 ⟨a3,rfl,t,u,x⟩;have N:=zh (L.o.bT t u x (λ_ e=>by have:=kM List.length e;simp[AK]at this));clear t u x L;go_wp2_with fail;refine(Gl N.o.rr Ξ (by have:=K.o.2;simp;omega)).mono ?_;rintro e w3 ⟨aK,rfl,t,u,x⟩;have H4:=zh (N.o.bT t u x (λ_ e=>by have:=kM List.length e;simp[AK]at this));clear t u x N;obtain⟨w4,aL,g4,p⟩:=An w3 165 [J E 0,J E 0];obtain⟨w5,aN,F,t5⟩:=En p (J E r.1) (J E r.2);have f0:=p.v 0;have f1:=p.v 1;have y0:=p.m 0;have y1:=p.m 1;have x0:=F.m 0;have x1:=F.m 1;have B5:=zh F;have G5:=zh (Ac.u g4 t5 (λj e=>by rw[e];exact jF _));clear g4 p F t5;go_wp2_with fail;clear y0 y1 f0 f1 x0 x1 aL aN;refine(N0 r w5 K.o.1).mono ?_;rintro e w6 ⟨rfl,P⟩;have Q:=B5.o.u P Δ;have x0:=Q.m 0;have x1:=Q.m 1;have H6:=zh (H4.o.fj (Ab G5.o P));clear P Q H4;obtain⟨w7,a5,g7,b7⟩:=An w6 165 [J E r.1,J E r.2];have R:=zh (H6.o.fj g7);have B7:=zh b7;have S7:Hd (w.heap.size<=w7.heap.size):=zh R.o.g.size;clear H6 g7 b7;go_wp2_with (at_builtin;refine LY rfl _ _ rfl w.heap.size (n:=i) (xs:=l.take i) aI.o rfl R.o.aI (m:=1) (ys:=[r]) rfl rfl (Ag.bq B7.o rfl (by unfold BB;omega)) (Ψ d.o.2.2.2) S7.o ?_;intro a8 c8 w8 o h2 h3;rw[<-aF.o]at o;have H8:=zh (R.o.bK h2 o h3);clear o h2 h3)
   go_roundg (gk - 1)
   case measure=>exact d.o.2.2.1
   exact⟨by rw[<-d.o.1,aH.o],d.o.2.1,aK,a8,c8,by rw[<-d.o.1],by rw[<-d.o.1];exact H8.o⟩
theorem fK{D:Nat}(h:CO a d D j f l g b)(c:Kg f g)(i:Nat)(k:i*f<2^g):
  A6 Y 254 #[AA (V ⟨D,0,Z⟩),J E i] a λe w=>e=A2 (J E (min f (2^g - i*f):Nat))/\a.grownBy w Z:=by
 have n:=(GY c.d1);have x:=c.p1;have o:=zh (λ(W:Ax) (y:a.grownBy W Z)=>Mk (h.u y) c.d1);have H:=zh h;obtain⟨m,p⟩:=Af (2^g);rw[p]at n o k⊢
 have q:(i:Int)*(f:Int)=((i*f:Nat):Int):=by push_cast;rfl
 have r:A7 ((i:Int)*(f:Int))=((i*f:Nat):Int):=by rw[q];exact Ed Ω
 obtain⟨A,s⟩:=Af (i*f);rw[s]at r k⊢;obtain⟨N,t⟩:=Af (m - A);rw[t]
 have z:A7 ((m:Int) - (A:Int))=(N:Int):=by rw[show(m:Int) - (A:Int)=((N:Nat):Int) by omega];exact Ed Ω
 have F:=Ba r;have G:=Ba z;have B:Hd (min (f:Int) (N:Int)=((min f N:Nat):Int)):=zh Ω;clear c h x p n q s t k;obtain⟨_,u,_⟩:=H.o.cells;have I:=AJ u;clear u
 go_enter Tryz.func254,Tryz.ntmps254
 go_wp2_with fail;refine Cb Φ Φ ?_
 repeat(go_big_quiet_step ((go_at_call 220;exact Hi o.o _)))
 refine wpQuiet_nil ?_;rintro _ ⟨v,rfl⟩;have C:=Bu v;generalize gw v=K at*;go_wp2_with fail;go_ret;exact⟨by show A2 (J E (min (f:Int) (N:Int)))=_;rw[B.o],C⟩
theorem Sm(h:AD a d)(l:a.grownBy w Z)(m:w.ownsRow f o i n g s)(e:a.heap.size<=f)(k:Nat):∃p,Ad (λj=>j=k) a d w p/\∀b,n.ownBlock=V b->p b=k:=by
 cases q:n.ownBlock with
 |none=>exact⟨d,Ad.u h l,λb e=>by cases e⟩
 |some b=>exact⟨AN d b k,(Ad.u h l).bQ (jM e (m.lt b q).1) (m.lt b q).2 rfl,λc r=>by cases r;exact A0 _ _ _⟩
def KV(w:Ax)(i:Ae)(s d:Nat)(P:Pl)(q j:Nat)(m:As)(n:Int->List Nat)(l:List Ai)(k:Nat)(e:Ending)(a:Ax):Prop:=
 ∃c f,e=A2 (BC #[O c l.length f,J E 0])/\a.ownsRow w.heap.size 165 2 (O c l.length f) l.length (Bb l)/\∃g h,Ad (SS (k+1)) w i a g/\SD a g s d P (q+1) j m h/\AR P n h/\∀b,(O c l.length f).ownBlock=V b->g b=k
theorem ez(m:CO a d l f g z i b)(w:Kg g i)(q:SD a d f t k j x e c)(y:j<=1073741800)
  (A:e b.1=V (b.2,AT h))(B:h.length=By g (2^i))(D:h.length<=256)(E:∀r∈h,DM r)(s:Nat)(hk:108<=s):
  A6 Y 221 #[AA (V ⟨l,0,Z⟩)] a (KV a d f t k j x e c h s):=by
 have H:=zh m;have S:=zh w;have T:=zh B;have U:=zh D;have W:=zh E;have X:=zh q.cl;obtain⟨w0,F,o⟩:=AP a;have HR:=zh (Oj (q.u o) y b.1 b.2 (AT h) A);have G0:=zh o;clear q y A B D E w;obtain⟨x0,x1,x2,x3,x4,x5⟩:=(m.u o).cells;clear m o x1 x2 x3
 go_enter Tryz.func221,Tryz.ntmps221
 go_wp2_with fail;refine AS (λ_=>True) (.am [] [0,1,2,3,4,5,6,7] 8 Bk (.am [] [9,10,11,12] 13 Bk .nil)) Φ Φ ?_;rw[F];refine Ap ?_
 iterate 8 refine Av ?_
 refine Aj ?_;refine Am ?_;intro K n;refine HR.o.mono ?_;rintro u w1 ⟨a1,c1,rfl,az,ak,G,I,J,L⟩;have v:=zh ((Ad.u (C:=SS 107) X.o G0.o).trans G);have M:=zh I;have O1:=zh J;have P1:=zh L;have H1:=zh (H.o.ag v.o (by rintro(m|m)<;>omega));clear x0 x4 x5 G I J L F;dsimp only;refine Aq n ?_;clear n K;refine Ap ?_
 iterate 4 refine Av ?_
 refine Aj ?_;refine Am ?_;intro K n;refine Aq n ?_;clear n K;refine AG (NoPanic.normal ?_);go_wp2_with fail;refine(VP H1.o S.o).mono ?_;rintro u w2 ⟨rfl,N⟩;rw[<-T.o];have p:=zh N;clear N;go_wp2_with fail;refine(Rg h a1 c1 w2 (P1.o.1.u p.o Δ) U.o W.o).mono ?_;rintro u w3 ⟨a3,c3,rfl,O,P⟩;have Q:=zh O;have G3:=zh (Ab p.o P);clear O P;go_wp2_with fail;obtain⟨au,R,k3⟩:=Sm M.o.cl G3.o Q.o p.o.size s;refine A3 (Bn rfl _ _ _) rfl ⟨a3,c3,rfl,Cf Q.o (jM v.o.aQ p.o.size),au,ak,Ad.andThen v.o R (EK Ω) (λaB u=>.inr Ω),M.o.ag R Ω Ω Ω Ω,O1.o,k3⟩
theorem RQ{s:Nat}(m:CO a d l s f z g b)(v:Kg f g)(w:SD a d s t k j x e c)(G:j<=1073741800)
  (I:Option Addr)(L:Nat)(M:Ag a 2 (O I h.length L) h.length (Bb h))(aj:h.length<=256)(i:Nat)(n:Ai)(y:h[i]?=V n)(N:e n.1=V (n.2,AT r))(P:i*f<2^g)(Q:r.length=min f (2^g - i*f))(R:∀ak∈r,DM ak)(A:Nat)(hk:108<=A):
  A6 Y 222 #[AA (V ⟨l,0,Z⟩),O I h.length L,J E i] a (KV a d s t k j x e c r A):=by
 have H:=zh m;have HN:=zh v;have HL:=zh Q;have an:=zh R;have HC:=zh w.cl;have ap:=zh P;have aq:Hd (r.length<=256):=zh (Ψ v.p1);obtain⟨w0,S,p⟩:=AP a;have HR:=zh (Oj (w.u p) G n.1 n.2 (AT r) N);have G0:=zh p;have av:=(jL.1 y).1;obtain⟨aM,o,rfl,B⟩:=(M.u p Δ).bA Ω;obtain⟨T,U⟩:=KX y;have y0:=B _ _ T;have W:=B _ _ U;simp only[<-kO]at W;obtain⟨x0,_⟩:=(m.u p).cells;generalize h.length=TN at*;clear w G N Q R v B T U y M m p P aj
 go_enter Tryz.func222,Tryz.ntmps222
 go_wp2_with fail;refine AS (λ_=>True) (.am [] [0,1,2,3,4,5,6,7] 8 Bk (.am [] [9,10,11,12] 13 Bk .nil)) Φ Φ ?_;rw[S];refine Ap ?_
 iterate 8 refine Av ?_
 refine Aj ?_;refine Am ?_;intro K q;refine HR.o.mono ?_;rintro D w1 ⟨a1,c1,rfl,aP,aA,X,d1,o1,p1⟩;have F:=zh ((Ad.u (C:=SS 107) HC.o G0.o).trans X);have D1:=zh d1;have O1:=zh o1;have P1:=zh p1;have H1:=zh (H.o.ag F.o (by rintro(m|m)<;>omega));clear x0 y0 W X d1 o1 p1 S av;dsimp only;refine Aq q ?_;clear q K;refine Ap ?_
 iterate 4 refine Av ?_
 refine Aj ?_;refine Am ?_;intro K q;refine Aq q ?_;clear q K;refine AG (NoPanic.normal ?_);go_wp2_with fail;refine(fK H1.o HN.o i ap.o).mono ?_;rintro D w2 ⟨rfl,g2⟩;rw[<-HL.o];have u:=zh g2;clear g2;go_wp2_with fail;refine(Rg r a1 c1 w2 (P1.o.1.u u.o Δ) aq.o an.o).mono ?_;rintro D w3 ⟨a3,c3,rfl,o3,g3⟩;have O3:=zh o3;have G3:=zh (Ab u.o g3);clear o3 g3;go_wp2_with fail;obtain⟨aI,s3,k3⟩:=Sm D1.o.cl G3.o O3.o u.o.size A;refine A3 (Bn rfl _ _ _) rfl ⟨a3,c3,rfl,Cf O3.o (jM F.o.aQ u.o.size),aI,aA,Ad.andThen F.o s3 (EK Ω) (λaR D=>.inr Ω),D1.o.ag s3 Ω Ω Ω Ω,O1.o,k3⟩
theorem SD.hh(h:SD a d j l k t i e c)(b:e f=V (g,q)):FP k i f g q:=let⟨_,_,_,_,_,_,_,_,_,_,_,_,m⟩:=h.bM;(m.2.bx f g q b).2
theorem SD.bY(h:SD a d i j k f g e c):g<=f+1:=let⟨_,_,_,_,_,_,_,_,_,_,_,_,b⟩:=h.bM;b.1.q1
theorem SD.e3(h:SD a d g i k f j e c)(m:f<=1073741800){r:Ai}(l:e r.1=V (r.2,q)):DM r:=by
 have b:=h.hh l;have n:=h.bY;have o:=(h.a2.dH b.lt).2.1;have p:=b.lt;have s:=b.fL;exact⟨Ω,Ω⟩
theorem NO(a:1<=g)(_:1<=f):By g f<=f:=by
 refine oM (λh=>?_);have c:=(GH (m:=f) (i:=f) a).1 h;have:f*1<=f*g:=Nat.mul_le_mul_left f a;omega
structure DD(w:Ax)(a:Ae)(D s d per dp dep:Nat)(b:Ai)(P:Pl)(q e:Nat)(c:As)(f:Int->List Nat)(T L:List Ai):Prop where
 i:CO w a D s per dp dep b
 n:Kg per dep
 l:DQ c per dep b T L
 s:SD w a s d P q e c f
 ok:∀r∈L,DM r
theorem DD.tl(m:DD a d f g i j l t b k x z e c h r):h.length<=256:=by
 rw[m.l.dq];have:=GY m.n.d1;exact jM (NO m.n.p0 this.1) this.2
theorem DD.iJ{s:Nat}(n:DD a d g s j l t x b k f z e c h r)(o:f<=1073741800):∀m∈h,DM m:=λm p=>by
 obtain⟨i,q⟩:=mm p;exact n.s.e3 o (n.l.c.tp i m q)
theorem DD.ag{C:Nat->Prop}{n:Ae}{q:Nat}{o:Int->List Nat}(m:DD w n j f g l t x b k q i e o h r)(p:Ad C w n a d)(s:¬C 6)(u:SD a d f g k z i e c):DD a d j f g l t x b k z i e c h r:=
 ⟨m.i.ag p s,m.n,m.l,u,m.ok⟩
theorem MP{i:Nat}(a:∀r∈h,DM r):∀r∈A8 f h i,DM r:=λr b=>a r (mI (lD b))
theorem DD.dF(m:DD a d g i j t x z b k f l e c h r)(o:f<=1073741800)(n:Nat)(p:108<=n):
  A6 Y 221 #[AA (V ⟨g,0,Z⟩)] a (KV a d i j k f l e c h n):=
 ez m.i m.n m.s o m.l.c.rt m.l.dq m.tl (m.iJ o) n p
theorem DD.aP{D:Nat}(m:DD a d D j l f z t b k g x e c h r)(s:g<=1073741800)(n:Option Addr)(o:Nat)(u:Ag a 2 (O n h.length o) h.length (Bb h)){i:Nat}(p:i<h.length)(q:Nat)(v:108<=q):
  A6 Y 222 #[AA (V ⟨D,0,Z⟩),O n h.length o,J E i] a (KV a d j l k g x e c (A8 f r i) q):=by
 have w:i*f<2^t:=by rw[<-GH m.n.p0, <-m.l.dq];exact p
 exact RQ m.i m.n m.s s n o u m.tl i _ (jK p) (m.l.c.tp _ _ (jK p)) w (by rw[JM,m.l.aC]) (MP m.ok) q v
theorem MN{q:Nat}(s:DD a d j l t f z g b k q x e c r h)(hq:q<=1073741700)(n:Nat)(v:Ai)(N:h[n]?=V v):
  A6 Y 165 #[AA (V ⟨j,0,Z⟩),J E n] a λu w'=>u=A2 (BC #[IR v,J E 0])/\∃ac ad,Ad (SS 111) a d w' ac/\SD w' ac l t k (q+2) x e ad/\AR k c ad:=by
 have O:n<2^g:=by rw[<-s.l.aC];exact(jL.1 N).1
 have hm:=GY s.n.d1;obtain⟨w0,aD,g0,G⟩:=An a 165 [J E 0,J E 0];have I:Ad (λw=>w=110) a d w0 (AN d a.heap.size 110):=Cl s.s.cl g0 (jF _) G.lt rfl;have H:=zh (s.ag I Ω (s.s.ag I Ω Ω Ω Ω));have P:Hd (AN d a.heap.size 110 a.heap.size=110):=zh (A0 _ _ _);have Q:=zh G;have S0:=zh I;generalize AN d a.heap.size 110=aE at*;have aF:=s.n.p1;have aG:=s.n.p0;obtain⟨m,ah⟩:=Af (2^g);have R:=Mk H.o.i s.n.d1
 have S:n/f<r.length:=by
  rw[s.l.dq,GH s.n.p0];exact lM (np n f) O
 have K:(A8 f h (n/f))[n%f]?=V v:=by rw[aO _ _ _ s.n.p0];exact N
 have aH:n%f<(A8 f h (n/f)).length:=(jL.1 K).1;rw[ah]at R O hm;have d1:Bd ((n:Int)<0)=Bk:=jH Ω;have d2:Bd ((m:Int)<=(n:Int))=Bk:=jH Ω;have a5:Bd (m<=n)=Bk:=jH Ω;have hz:((f:Int)==0)=Bk:=Γ;have a7:¬f=0:=Ω;have HQ:=zh hq;have aj:=zh (A5 S K)
 have aI:Hd (A7 ((n:Int)/(f:Int))=((n/f:Nat):Int)/\A7 ((n:Int)%(f:Int))=((n%f:Nat):Int)):=zh (by
  rw[<-nV, <-qb];have h1:=mN n f;have h2:=Nat.mod_le n f;clear K aH S;generalize n/f=A at*;generalize aJ:n%f=B at*
  exact⟨Ed Ω,Ed Ω⟩)
 have ak:=zh R;generalize al:r.length=TN at*;clear O hm ah aF aG N hq g0 G I R S K s
 go_enter Tryz.func165,Tryz.ntmps165
 go_wp2_with fail;refine ak.o.mono ?_;rintro u w1 ⟨rfl,rfl⟩;clear ak aD;go_wp2_with fail;refine(H.o.dF (Ψ HQ.o) 108 Ω).mono ?_;rintro u w1 ⟨a1,c1,rfl,o1,aN,bb,y,an,ao,z1⟩
 have ap:¬SS 109 (aE a.heap.size):=by rw[P.o];rintro(s|s)<;>omega
 have T:=zh (y.y Q.o ap);have U:Hd (aN a.heap.size=110):=zh (by rw[y.ak _ Q.o.lt];exact P.o);have S1:=zh (Ad.andThen (C:=SS 111) S0.o y (λw s=>.inr Ω) (EK Ω));have L:=zh (H.o.ag y (by rintro(s|s)<;>omega) an);have O1:=zh (Ag.ai o1);have N1:=zh ao;obtain⟨_,x1,_⟩:=L.o.i.cells;clear y an ao o1 z1 ap Q H S0 P;go_wp2_with fail;rw[aI.o.1];have W:=L.o.aP (i:=n/f) (Ψ HQ.o) a1 c1 O1.o (by rw[al];exact aj.o.1) 108 Ω;rw[al]at W;refine W.mono ?_;rintro u w2 ⟨a2,c2,rfl,o2,M,aS,D,aw,ax,z2⟩;have F:=zh (D.y T.o (by rw[U.o];rintro(s|s)<;>omega));have aU:Hd (M a.heap.size=110):=zh (by rw[D.ak _ T.o.lt];exact U.o);have S2:=zh (S1.o.trans (D.mono (EK Ω)));have N2:=zh (N1.o.trans ax);obtain⟨_,x1,_⟩:=(L.o.i.ag D (by rintro(s|s)<;>omega)).cells;obtain⟨be,o,rfl,X⟩:=(Ag.ai o2).bA Ω;obtain⟨e0,e1⟩:=KX aj.o.2;have y0:=X _ _ e0;have y1:=X _ _ e1;have aX:=zh aw;have bg:(n:Int)%(f:Int)=((n%f:Nat):Int):=rfl;simp only[<-kO]at y1;generalize(A8 f h (n/f)).length=CL at*;generalize aJ:n%f=B at*;have f0:=F.o.v 0;have f1:=F.o.v 1;have G:=F.o.m 0;have b1:=F.o.m 1;clear D aw ax o2 z2 W S1 N1 L O1 U T X e0 e1;go_wp2_with fail;obtain⟨w3,aZ,b3,t3⟩:=En F.o (J E v.1) (J E v.2);rw[aZ];have s3:Ad (λw=>w=110) w2 M w3 M:=AL S2.o.new t3 (λbl u=>by rw[u];exact aU.o);exact A3 (BQ (p:=4) (ty:=165) rfl _ _ a.heap.size _ _ _ _ rfl b3 mW rfl rfl) rfl ⟨rfl,M,aS,S2.o.trans (s3.mono (λw s=>.inr Ω)),aX.o.ag s3 Ω Ω Ω Ω,N2.o⟩
theorem KD(h:CO a d f i j l g b):
  A6 Y 97 #[AA (V ⟨f,0,Z⟩)] a λe c=>e=A2 (J E g)/\a=c:=by
 obtain⟨_,_,_,k,_⟩:=h.cells;clear h
 go_enter Tryz.func97,Tryz.ntmps97
 go_wp2_with fail;go_ret;exact⟨rfl,rfl⟩
theorem YJ(h:CO a d f g i j l b):
  A6 Y 217 #[AA (V ⟨f,0,Z⟩)] a λe m=>e=A2 (IR b)/\a.grownBy m Z:=by
 obtain⟨s,t,k,c⟩:=An a 165 [J E 0,J E 0];obtain⟨_,_,_,_,u,v⟩:=(h.u k).cells;have w:=c.m 0;have x:=c.m 1;have y:=c.v 0;have z:=c.v 1;have n:=zh c;clear h c
 go_enter Tryz.func217,Tryz.ntmps217
 go_wp2_with fail;obtain⟨A,o,q,r⟩:=En n.o (J E b.1) (J E b.2);rw[o];exact A3 (results_cell_row (p:=2) (ty:=165) rfl _ _ a.heap.size _ _ _ _ rfl q mW rfl rfl) rfl ⟨rfl,Ac.u k r (λB e=>by rw[e];exact jF _)⟩
theorem Ay(w:Ax)(x j:Nat)(v:A4):Ac (λk=>k=x) w (w.setCell ⟨x,j,Z⟩ v):=Ac.of (Ao _ _ _) (λk e=>by cases e;rfl)
theorem U0{p q r s t u:A4}(h:Aa a f o [n,A,p,q,r,s,t,u])(c d e g i j l m:A4):∃b,((((((((a.setCell ⟨f,0,Z⟩ c).setCell ⟨f,1,Z⟩ d).setCell ⟨f,2,Z⟩ e).setCell ⟨f,3,Z⟩ g).setCell ⟨f,4,Z⟩ i).setCell ⟨f,5,Z⟩ j).setCell ⟨f,6,Z⟩ l).setCell ⟨f,7,Z⟩ m)=b/\Aa b f o [c,d,e,g,i,j,l,m]/\Ac (λk=>k=f) a b:=
 ⟨_,rfl,(((((((h.setCell 0 _).setCell 1 _).setCell 2 _).setCell 3 _).setCell 4 _).setCell 5 _).setCell 6 _).setCell 7 _,(((((((Ay _ _ _ _).trans (Ay _ _ _ _)).trans (Ay _ _ _ _)).trans (Ay _ _ _ _)).trans (Ay _ _ _ _)).trans (Ay _ _ _ _)).trans (Ay _ _ _ _)).trans (Ay _ _ _ _)⟩
theorem eM(s i n k l m d o:Nat)(p:BitVec 64)(r q t b u v x:Nat)(w:Ax)
  (F:∀W,w.grownBy W Z->A6 Y 136 #[AA (V ⟨s,0,Z⟩)] W λe f=>e=A2 (.agg #[J E i,J E n,J E k,J E l,J E m,J E d,J E o,J .u64 (U p)])/\W.grownBy f Z)
  (G:∀W,A6 Y 32 #[.agg (Db i n k l m d o p).toArray] W λe f=>e=A2 (BC #[.agg (EQ r q t b u v x).toArray,J E 0])/\W.grownBy f Z)(S:1<=b):
  A6 Y 141 #[AA (V ⟨s,0,Z⟩)] w λe f=>∃D,e=A2 (AA (V ⟨D,0,Z⟩))/\w.heap.size<=D/\w.grownBy f Z/\
   Aa f D 253 [AA (V ⟨s,0,Z⟩),J E b,J E d,J E 0,J E 0,J E 0]:=by
 have H:=zh F;have T:=zh G;have I:max (b:Int) 1=(b:Int):=Ω;have HM:=zh I
 have aC:∀W,(Instr.field 37 (.agg #[J E i,J E n,J E k,J E l,J E m,J E d,J E o,J .u64 (U p)]) 5).run Y W=.ok (J E d) W:=λW=>Φ
 clear F G S I
 go_enter Tryz.func141,Tryz.ntmps141
 go_wp2_with fail;refine(H.o w (Bo _ _)).mono ?_;rintro e w1 ⟨rfl,y⟩;go_wp2_with fail;refine(T.o w1).mono ?_;rintro e L ⟨rfl,z⟩;obtain⟨w3,ac,M,a⟩:=An L 85 [J E 0,J E 0,J E 0,J E 0,J E 0,J E 0,J E 0,J E 0];obtain⟨w4,ae,N,O⟩:=U0 a (J E 2) (J E r) (J E q) (J E t) (J E b) (J E u) (J E v) (J E x);obtain⟨w5,P,A⟩:=AP w4;have y0:=a.m 0;have y1:=a.m 1;have y2:=a.m 2;have y3:=a.m 3;have y4:=a.m 4;have y5:=a.m 5;have y6:=a.m 6;have y7:=a.m 7;have f0:=a.v 0;have f1:=a.v 1;have f2:=a.v 2;have f3:=a.v 3;have f4:=a.v 4;have f5:=a.v 5;have f6:=a.v 6;have f7:=a.v 7;have Q:=zh (N.u A Δ);have R:=(Ab y z).size;have B:=zh (Ab (Ac.u (Ab (Ab y z) M) O (λj e=>by rw[e];exact R)) A);clear a N O A M y z R;go_wp2_with fail;clear y0 y1 y2 y3 y4 y5 y6 y7 f0 f1 f2 f3 f4 f5 f6 f7;generalize L.heap.size=X at*;refine AS (λW=>Aa W X 85 (EQ r q t b u v x)) (.am [1,2,3] [0,4] 5 BE (.am [] [6,7] 8 Bk (.am [] [] 9 Bk .nil))) Φ Φ ?_;rw[P];clear ac ae P;refine Dz Q.o ?_
 iterate 3 ((apply AC rfl Θ;(· intro wS g;(try have g:=g rfl);(try dsimp only at g);(try(have x4:=g.m 4));go_simp;(try with_reducible rfl)));refine Al ?_)
 refine Aj ?_
 iterate 2 refine Av ?_
 refine Aj ?_;refine Am ?_;intro K c;refine(H.o w5 B.o).mono ?_;rintro e w6 ⟨rfl,C⟩;dsimp only;refine c _ _ ⟨_,λ_ h=>h,λ_=>(Q.o.u C Δ),?_⟩;clear c K;refine Al ?_;refine Ap ?_
 iterate 2 refine Av ?_
 refine Aj ?_;refine Am ?_;intro K c;rw[HM.o];obtain⟨w7,az,g7,b7⟩:=An w6 253 [AA (V ⟨s,0,Z⟩),J E b,J E d,J E 0,J E 0,J E 0];rw[az];refine Aq c ?_;clear c K;refine Ap ?_;refine Aj ?_;refine Am ?_;intro K c;refine Aq c ?_;clear c K;refine AG (NoPanic.normal ?_);go_wp2_with fail;go_ret;exact⟨_,rfl,(Ab B.o C).size,Ab (Ab B.o C) g7,b7⟩
theorem eQ(h:DS a d f g k i j e c)(b:k.aY):
  A6 Y 141 #[AA (V ⟨f,0,Z⟩)] a λm l=>∃D,m=A2 (AA (V ⟨D,0,Z⟩))/\a.heap.size<=D/\a.grownBy l Z/\
   Aa l D 253 [AA (V ⟨f,0,Z⟩),J E k.bv,J E k.dp,J E 0,J E 0,J E 0]:=
 eM f k.ss k.n k.rg k.rs k.lg k.dp k.a7 k.aK k.region k.aP k.a4 k.bv k.bg k.bz k.aA a (λW n=>RU (h.u n)) (λW=>I9 k b W) (Ψ b.f5)
abbrev EJ(n:Nat):Nat->Prop:=Sc (λj=>j=1\/j=2\/j=3\/j=6) n
theorem No(h:f<=g):∀j,SS f j->EJ g j:=Sc.mono (λj e=>Ω) h
theorem Lv:∀j,j=6->EJ f j:=λj e=>.inl Ω
theorem IZ{e:Option Addr}(_:AD a d)(c:a.ownsRow f 5 1 (O e (AT h).length g) (AT h).length (Ar (AT h)))(j:AD w d)(k:w.heap.size<=f):Bw a d e g (AT h):=
 ⟨Ag.ai c,λb i=>⟨j _ (jM k (c.lt b i).1),(c.lt b i).2⟩,QJ h⟩
theorem ON{c d i j:A4}(h:Aa a f o [n,A,c,d,i,j])(e g:A4):∃b,((a.setCell ⟨f,4,Z⟩ e).setCell ⟨f,5,Z⟩ g)=b/\Aa b f o [n,A,c,d,e,g]/\Ac (λk=>k=f) a b:=
 ⟨_,rfl,(h.setCell 4 _).setCell 5 _,(Ay _ _ _ _).trans (Ay _ _ _ _)⟩
theorem DQ.dI(b:1<=f){root first r:Ai}(c:e root.1=V (root.2,AT [first]))(d:e first.1=V (first.2,AT [r]))(g:root.1≠first.1):DQ e f 0 root [first] [r]:=by
 have h:A8 f [r] 0=[r]:=by
  unfold A8;rw[nO,oG];exact lf b
 refine⟨rfl,?_,c,λi t a=>?_,?_⟩
 ·unfold By;rw[show 2^0+f - 1=f by omega,Nat.div_self b];rfl
 ·cases i with
  |zero=>simp at a;subst a;rw[h];exact d
  |succ i=>simp at a
 ·simp[AH,g]
theorem ax(h:SD a d g j k i f e c)(hq:i<=1073741700)(am:Cq e (k.bz+2))(r:Ai)(ld:List Nat)(N:e r.1=V (r.2,ld)):
  A6 Y 84 #[AA (V ⟨g,0,Z⟩),IR r] a λb w'=>∃D ao first,b=A2 (BC #[AA (V ⟨D,0,Z⟩),J E 0])/\∃ap aq ar,Ad (EJ 108) a d w' ap/\DD w' ap D g j k.bv k.dp 0 ao k (i+4) f aq ar [first] [r]/\AR k c ar/\Fr [] (AH ao [first]) e aq:=by
 have au:=h.e3 Ω N;have p:=zh h.a2;obtain⟨w0,a9,g0,A⟩:=An a 165 [J E r.1,J E r.2];have q:=A.m 0;have s:=A.m 1;have B0:=zh A;have G0:=zh g0;have H:=zh h;have O:=zh au;have aw:=zh am;have P:=zh hq;have HR:=zh N;clear A g0 h au am hq N
 go_enter Tryz.func84,Tryz.ntmps84
 go_wp2_with fail;refine(N0 r w0 O.o.1).mono ?_;rintro b w1 ⟨rfl,Q⟩;have R:=zh (Ab G0.o Q);have B1:=zh (B0.o.u Q Δ);clear q s Q;go_wp2_with fail;refine(eQ (H.o.u R.o).bM p.o).mono ?_;rintro b S ⟨D,rfl,hD,T,U⟩;have W:Ad (λB=>B=6) a d S (AN d D 6):=(Ad.u H.o.cl (Ab R.o T)).bQ (jM R.o.size hD) U.lt rfl;have X:Hd (AN d D 6 D=6):=zh (A0 _ _ _);have C2:Hd (AN d D 6 a.heap.size=0):=zh (by rw[Bz _ _ (Ψ B1.o.lt)];exact H.o.cl _ (jF _));have S2:=zh W;have aC:=zh (H.o.ag W Ω Ω Ω Ω);have B2:=zh (B1.o.u T Δ);have D2:=zh U;have q:=B2.o.m 0;have s:=B2.o.m 1;generalize AN d D 6=bE at*;clear hD T U W;obtain⟨w3,be,m,b3⟩:=An S 165 [J E r.1,J E r.2];go_wp2_with fail;refine(I5 [r] (V ⟨S.heap.size,0,Z⟩) 1 w3 (Ag.bq b3 rfl (by unfold BB;simp)) Δ (λx t=>by rw[j8.1 t];exact O.o)).mono ?_;rintro b w4 ⟨bf,c4,rfl,o4,u⟩;have ab:=zh (aC.o.u (Ab m u));have S4:=zh (S2.o.trans (Ad.u S2.o.new (Ab m u)));have P4:=zh (IZ ab.o.cl o4 aC.o.cl m.size);have B4:=zh (B2.o.u (Ab m u) Δ);have D4:=zh (D2.o.u (Ab m u) Δ);have hl:Hd ((AT [r]).length<=k.n - 19):=zh (by rw[GI];have:=p.o.n0;simp;omega);clear m b3 o4 u q s be a9;go_wp2_with fail;refine(JQ ab.o (Ψ P.o) (aw.o.mono Ω) bf c4 (AT [r]) hl.o P4.o).mono ?_;rintro b w5 ⟨l,rfl,n5,l5,bj,bG,v,aK,aL⟩;have D5:=zh (v.y D4.o (by rw[X.o];rintro(h|h)<;>omega));have ad:Hd (bj D=6):=zh (by rw[v.ak _ D4.o.lt];exact X.o);have B5:=zh (v.y B4.o (by rw[C2.o];rintro(h|h)<;>omega));have F:=zh aK;have S5:=zh (Ad.andThen (C:=EJ 108) S4.o v Lv (No Ω));have G:=zh (A5 n5 (A5 l5 aL));clear v aK aL n5 l5 D4 ab S4 P4 B4 C2 X;obtain⟨w6,bl,g6,o⟩:=An w5 165 [J E 0,J E 0];obtain⟨w7,bm,b7,t7⟩:=En o (J E l) (J E f);have y0:=o.m 0;have y1:=o.m 1;have f0:=o.v 0;have f1:=o.v 1;have q:=b7.m 0;have s:=b7.m 1;have g7:=Ac.u g6 t7 (λB b=>by rw[b];exact jF _);obtain⟨w8,bs,g8,b8⟩:=An w7 165 [J E l,J E f];have w:=zh (Ab g7 g8);have B8:=zh b8;clear g6 o b7 t7 g7 g8 b8;go_wp2_with fail;clear y0 y1 f0 f1 q s bl bm bs;have ag:DM (l,f):=⟨by have I:=G.o.2.1;have h2:=(p.o.dH I).2.1;show l<=2147483647;omega,by have:=F.o.bY;have:=P.o;show f<=9223372036854775807;omega⟩;have bJ:=zh ag;refine(I5 [(l,f)] (V ⟨w7.heap.size,0,Z⟩) 1 w8 (Ag.bq B8.o rfl (by unfold BB;simp)) Δ (λx t=>by rw[j8.1 t];exact ag)).mono ?_;rintro b w9 ⟨bt,c9,rfl,o9,K⟩;have ah:=zh (F.o.u (Ab w.o K));have S9:=zh (S5.o.trans (Ad.u S5.o.new (Ab w.o K)));have P9:=zh (IZ ah.o.cl o9 F.o.cl w.o.size);have D9:=zh (D5.o.u (Ab w.o K) Δ);have bv:Hd ((AT [(l,f)]).length<=k.n - 19):=zh (by rw[GI];have:=p.o.n0;simp;omega);clear o9 K ag F S5 D5 B5 w B8;go_wp2_with fail;refine(JQ ah.o (Ψ P.o) ((aw.o.new (Fr.new _ G.o.1)).mono Ω) bt c9 (AT [(l,f)]) bv.o P9.o).mono ?_;rintro b bw ⟨y,rfl,aX,aY,L,bx,M,aZ,a0⟩;have z:=zh (M.y D9.o (by rw[ad.o];rintro(h|h)<;>omega));have a1:Hd (L D=6):=zh (by rw[M.ak _ D9.o.lt];exact ad.o);have bz:=zh aZ;have a2:=zh (S9.o.trans (M.mono (No Ω)));have aj:=zh (A5 aX (A5 aY a0));clear M aZ a0 aX aY ah S9 P9 D9 ad;obtain⟨bA,bL,a3,a4⟩:=ON z.o (J E y) (J E f);have a5:Ad (λB=>B=6) bw L bA L:=AL a2.o.new a4 (λbM b=>by rw[b];exact a1.o);have f4:=z.o.v 4;have f5:=z.o.v 5;have y4:=z.o.m 4;have y5:=z.o.m 5;have bB:=zh a3;have a6:=zh a5;clear a3 a5 a4;go_wp2_with fail
 have ak:y≠l:=λb=>by have I:=aj.o.1;rw[b,EV]at I;cases I
 have bR:=p.o.f5;refine A3 (Bn rfl _ _ _) rfl ⟨D,(y,f),(l,f),rfl,L,_,bx,a2.o.trans (a6.o.mono Lv),⟨⟨bB.o,a1.o⟩,⟨Ω,Ω,Ω⟩,DQ.dI Ω (EV _ _ _) (by rw[Et _ _ ak.symm];exact EV _ _ _) ak,(bz.o.ag a6.o Ω Ω Ω Ω),λx t=>by rw[j8.1 t];exact O.o⟩,G.o.2.2.trans aj.o.2.2,?_⟩;exact(Fr.new (pg:=e) (n:=l) (f,AT [r]) G.o.1).trans ((Fr.new (n:=y) (f,AT [(l,f)]) aj.o.1).dD (D:=[]) (λn=>Δ) (λn=>by simp[AH];try omega))
end
section
open Go.RowKit
def CT(L:List Ai)(a:Nat):Nat->Ai->List Ai
 |0,_=>L
 |m+1,r=>(CT L a m r).set (a+m) r
theorem OV(L:List Ai)(a m:Nat)(r:Ai):(CT L a m r).length=L.length:=by
 induction m with
 |zero=>rfl
 |succ m b=>rw[CT,kG,b]
theorem dk(L:List Ai)(a m:Nat)(r:Ai)(h:a+m<=L.length)(n:Nat):(CT L a m r)[n]?=if a<=n/\n<a+m then V r else L[n]?:=by
 induction m with
 |zero=>rw[CT,jN Ω]
 |succ m c=>
  rw[CT,mL,c Ω,OV]
  by_cases e:a+m=n
  ·rw[jP e,jP Ω,jP Ω]
  ·rw[jN e]
   by_cases b:a<=n/\n<a+m
   ·rw[jP b,jP Ω]
   ·rw[jN b,jN Ω]
theorem Th(a:b∈CT h g f B):b=B\/b∈h:=by
 induction f with
 |zero=>exact .inr a
 |succ f c=>
  rcases lI a with a|a
  ·exact c a
  ·exact .inl a
theorem Ve(g:0<f)(L:List Ai)(n:Nat)(r:Ai):A8 f (L.set n r) (n/f)=(A8 f L (n/f)).set (n%f) r:=by
 have h:=lE n f;have i:=lA n g;rw[lp]at h;generalize n/f=a at*;generalize n%f=b at*;apply lQ;intro j;unfold A8;rw[mL,jW,j0];rw[mE,mE,lL,lL,mL]
 by_cases c:j<f
 ·rw[jP c,jP c]
  by_cases e:b=j
  ·rw[jP Ω,jP e]
   by_cases d:n<L.length
   ·rw[jP d,jP Ω]
   ·rw[jN d,jN Ω]
  ·rw[jN Ω,jN e]
 ·rw[jN c,jN c,jN Ω]
theorem U9(g:0<f)(L:List Ai)(n:Nat)(r:Ai)(i:Nat)(d:i≠n/f):A8 f (L.set n r) i=A8 f L i:=by
 have h:=lE n f;have l:=lA n g;rw[lp]at h;generalize n/f=a at*;generalize n%f=b at*;apply lQ;intro j;unfold A8;rw[mE,mE,lL,lL,mL]
 by_cases c:j<f
 ·rw[jP c,jP c,jN];intro e;apply d
  rcases Nat.lt_or_gt_of_ne d with k|k
  ·have:=lC f (show i+1<=a by omega);rw[lT]at this;omega
  ·have:=lC f (show a+1<=i by omega);rw[lT]at this;omega
 ·rw[jN c,jN c]
theorem U8(b:0<f)(L:List Ai)(a X j p:Nat)(r:Ai)(h:(a+(X+j))/f=p):A8 f (CT L a (X+(j+1)) r) p=(A8 f (CT L a (X+j) r) p).set ((a+(X+j))%f) r:=by
 subst h;exact Ve b _ _ _
theorem U5(b:0<f)(L:List Ai)(a X n p:Nat)(r:Ai)(h:∀j,j<n->(a+(X+j))/f=p)(i:Nat)(c:i≠p):A8 f (CT L a (X+n) r) i=A8 f (CT L a X r) i:=by
 induction n with
 |zero=>rfl
 |succ n d=>
  rw[<-d (λj g=>h j Ω)];exact U9 b _ _ _ _ (by have e:=h n Ω;show i≠(a+(X+n))/f;rw[e];exact c)
def EM(a m:Nat):List Int:=(List.range m).map (λj=>((a+j:Nat):Int))
theorem Jd(a m:Nat):(EM a m).length=m:=by simp[EM]
theorem Lg(a m j:Nat)(h:j<m):(EM a m)[j]?=V ((a+j:Nat):Int):=by simp[EM,h]
theorem Xy(e m:Nat):(EM e m).mergeSort (λx y=>Bd (x<=y))=EM e m:=by
 apply List.mergeSort_of_pairwise;rw[l9];intro i j c d f;have a:=jK c;have b:=jK d;rw[Jd]at c d;rw[Lg _ _ _ c]at a;rw[Lg _ _ _ d]at b;injection a with a;injection b with b;rw[<-a, <-b];simp;omega
theorem CS.hq{c:Ai}{d:List Ai}{t:Ai}(k:0<f)(m:CS D c d r (A8 f (CT h g i b)))(n:r[j]?=V t)(o:Fr [t.1] [B.1] D e)(p:e B.1=V (B.2,AT (A8 f (CT h g (i+l) b) j)))(q:∀a,a<l->(g+(i+a))/f=j):
  CS e c d (r.set j B) (A8 f (CT h g (i+l) b)):=
 m.g9 n o p (λa _ s=>U5 k h g i l j b q a s)
theorem DQ.hy{d:As}{root':Ai}{k a:List Ai}(c:DQ d f g b a r)(l:h.length=a.length)(m:CS D b k h (A8 f (CT r i j B)))(n:Fr [b.1] [root'.1] D e)(o:e root'.1=V (root'.2,AT h)):
  DQ e f g root' h (CT r i j B):=
 ⟨by rw[OV];exact c.aC,by rw[l];exact c.dq,m.dF n o⟩
end
section
open Go Go.RowKit
attribute [local go_sem ↓] Go.wp_at_zero Go.wp_at_succ
theorem Pm{K r:Nat}{t:List A4}(u:AD a d)(_:a.ownsRow f o g n r s)(m:∀b,n.ownBlock=V b->d b=K)(v:a.grownBy w n.ownBlock)(x:w.ownsRow f o g A j t)(l:A.ownBlock=n.ownBlock\/A.ownBlock=V a.heap.size):
  ∃p,Ad (λh=>h=K) a d w p/\∀b,A.ownBlock=V b->p b=K:=by
 have q:Ad (λh=>h=K) a d w d:=Ad.of u v (λk o=>m k o)
 rcases l with c|c
 ·exact⟨d,q,λk e=>m k (by rw[<-c];exact e)⟩
 ·exact⟨_,q.bQ (B:=a.heap.size) (i:=K) (jF _) (x.lt _ c).2 rfl,λk e=>by rw[c]at e;cases e;exact A0 _ _ _⟩
theorem QM(a:Nat)(L:List Ai)(i:Nat):L.take (i*a)++A8 a L i=L.take ((i+1)*a):=by
 unfold A8;rw[lT,mP,List.take_add]
def gK(w:Ax)(i:Ae)(s d:Nat)(P:Pl)(q j:Nat)(m:As)(n:Int->List Nat)(l:List Ai)(k:Nat)(e:Ending)(a:Ax):Prop:=
 ∃c f,e=A2 (BC #[O c l.length f,J E 0])/\a.ownsRow w.heap.size 165 2 (O c l.length f) l.length (Bb l)/\∃g h,Ad (SS (k+1)) w i a g/\SD a g s d P (q+300) j m h/\AR P n h/\∀b,(O c l.length f).ownBlock=V b->g b=k
theorem bg{D:Nat}(s:DD a d D j l f x z b k g t e c r h)(hq:g<=1073741000)(y:Nat)(bo:131<=y):
  A6 Y 272 #[AA (V ⟨D,0,Z⟩)] a (gK a d j l k g t e c h y):=by
 have ap:=s.tl
 have aG:h.length<=256:=by rw[s.l.aC];exact(GY s.n.d1).2
 have aq:h.length<=r.length*f:=by
  rw[s.l.aC,s.l.dq];exact oM (λq=>Nat.lt_irrefl _ ((GH s.n.p0).2 q))
 have H:=zh s;have HQ:=zh hq;obtain⟨n,hn⟩:=Af r.length;rw[hn]at ap aq;have HN:=zh hn;have P:=zh (A5 ap (A5 aG aq));clear s hn ap aG aq hq
 go_enter Tryz.func272,Tryz.ntmps272
 go_wp2_with fail;refine(H.o.dF (Ψ HQ.o) 130 Ω).mono ?_;rintro aI w1 ⟨Q,R,rfl,o1,bb,bc,s1,aJ,aK,z1⟩;rw[HN.o]at o1 z1⊢;have F1:=zh (H.o.ag s1 (by rintro(s|s)<;>omega) aJ);have O1:=zh (Ag.ai o1);have Z1:=zh z1;have S1:=zh (s1.mono (EK (m:=y+1) Ω));have N1:=zh aK;have L1:=zh (λo p=>(o1.lt o p).2);clear s1 aJ aK o1 z1 H;go_wp2_with fail
 go_loopg [22,6] n (λS i v wr=>i=J E (n - S:Nat)/\S<=n/\∃X u w q A,v=O u X w/\X=(h.take ((n - S)*f)).length/\DD wr q D j l f x z b k (g+1+(n - S)) t e A r h/\AR k c A/\Ad (SS (y+1)) a d wr q/\
  (Ag wr 2 (O Q n R) n (Bb r)/\∀o,(O Q n R).ownBlock=V o->q o=130/\o<wr.heap.size)/\wr.ownsRow a.heap.size 165 2 (O u X w) X (Bb (h.take ((n - S)*f)))/\∀o,(O u X w).ownBlock=V o->q o=y)
 case atStart=>exact⟨Δ,jF _,0,Z,0,bb,bc,rfl,Δ,by rw[lJ];exact F1.o,N1.o,S1.o,⟨O1.o,λo p=>⟨Z1.o o p,L1.o o p⟩⟩,by rw[lJ,nO];exact World.ownsRow_nil _ _ _ _,λo p=>by simp[Bs]at p⟩
 case round=>
  obtain⟨rfl,hk,X,u,w,q,A,rfl,N,F,ag,ah,⟨ai,aw⟩,G,hc⟩:=hrel;clear F1 O1 Z1 S1 N1 L1
  by_cases h0:gk=0
  ·subst h0;rw[lW]at F N G⊢;rw[lf P.o.2.2]at N G;subst N;have hd:Bd ((n:Int)<(n:Int))=Bk:=Δ;have HF:=zh F;have al:=zh ag;have am:=zh ah;have T:=zh G;have U:=zh hc;clear hk F ag ah G hc ai aw;go_wp2_with fail;exact A3 (Bn rfl _ _ _) rfl ⟨u,w,rfl,T.o,q,A,am.o,HF.o.s.mono (Ψ P.o.1),al.o,U.o⟩
  ·obtain⟨i,hi⟩:=Af (n - gk);rw[hi]at F N G⊢;have be:i<n:=Ω;have hd:Bd ((i:Int)<(n:Int))=BE:=jG Ω;have ax:=F.aP (i:=i) (by have:=HQ.o;have:=P.o.1;omega) Q R (by rw[HN.o];exact ai) (by rw[HN.o];exact be) 108 Ω;rw[HN.o]at ax;have aU:=zh ax;have HF:=zh F;have al:=zh ag;have am:=zh ah;have T:=zh G;have U:=zh hc;have aV:=zh ai;have W:=zh aw;have HX:=zh N;have aa:Hd (i+1=n - (gk - 1)/\gk - 1<=n/\gk - 1<gk/\i<256):=zh (Ψ P.o);have bf:Hd (A7 ((i:Int)+1)=((i+1:Nat):Int)):=zh (Dm rfl (Ψ aa.o.2.2.2))
   have aW:Hd (X<=256/\(A8 f h i).length<=256):=zh (by
    have C:=P.o.2.1;have I:=HX.o;rw[jW]at I;rw[JM]
    omega)
   clear F N G ag ah hc ai aw ax hi hk h0;go_wp2_with fail;refine aU.o.mono ?_;rintro aI w2 ⟨a2,c2,rfl,o2,aY,bi,B,aZ,a0,z2⟩
   have az:∀an,an≥109->¬SS 109 an:=λan hj=>by rintro(s|s)<;>omega
   have F2:=zh (HF.o.ag B (by rintro(s|s)<;>omega) aZ);have R2:=zh (B.aN aV.o (λo p=>az _ (by rw[(W.o o p).1];omega)));have C2:=zh (λo p=>show aY o=130/\o<w2.heap.size from⟨by rw[B.ak _ (W.o o p).2];exact(W.o o p).1,jJ (W.o o p).2 B.aQ⟩);have W2:=zh (B.au.aT T.o (λo p=>az _ (by rw[U.o o p];omega)));have K2:=zh (λo p=>show aY o=y by rw[B.ak _ (T.o.lt o p).2];exact U.o o p);have S2:=zh (am.o.trans (B.mono (EK Ω)));have N2:=zh (al.o.trans a0);have O2:=zh (Ag.ai o2);have SZ:=zh B.new;clear B aZ a0 o2 z2 aU HF aV W T U am al az;obtain⟨CL,aE⟩:=Af ((A8 f h i).length);rw[aE]at O2 aW⊢;have a4:=zh aE;clear aE;go_wp2_with (at_builtin;refine LY rfl _ _ rfl a.heap.size (n:=X) (xs:=h.take (i*f)) HX.o.symm rfl W2.o (m:=CL) (ys:=A8 f h i) a4.o rfl O2.o (Ψ aW.o) S2.o.aQ ?_;intro a3 c3 w3 C I h3;have H3:=zh (A5 C (A5 I h3));clear C I h3);obtain⟨C,I,h3⟩:=H3.o;obtain⟨c4,L,k4⟩:=Pm (K:=y) S2.o.new W2.o K2.o I C h3;have F3:=F2.o.ag L Ω (F2.o.s.ag L Ω Ω Ω Ω);have R3:=L.aN R2.o (λo p=>by rw[(C2.o o p).1];omega);rw[QM]at C
   have bl:=zh (show∃M u w q A,(O a3 (X+CL) c3)=O u M w/\M=(h.take ((i+1)*f)).length/\DD w3 q D j l f x z b k (g+1+(i+1)) t e A r h/\AR k c A/\Ad (SS (y+1)) a d w3 q/\(Ag w3 2 (O Q n R) n (Bb r)/\∀o,(O Q n R).ownBlock=V o->q o=130/\o<w3.heap.size)/\w3.ownsRow a.heap.size 165 2 (O u M w) M (Bb (h.take ((i+1)*f)))/\∀o,(O u M w).ownBlock=V o->q o=y from
    ⟨X+CL,a3,c3,c4,bi,rfl,by rw[<-QM,jI,HX.o,a4.o],F3,N2.o,S2.o.trans (L.mono (λan aI=>.inr Ω)),⟨R3,λo p=>⟨by rw[L.ak _ (C2.o o p).2];exact(C2.o o p).1,jJ (C2.o o p).2 L.aQ⟩⟩,C,k4⟩)
   clear H3 C I h3 L k4 F3 R3 F2 R2 C2 W2 K2 S2 N2 O2
   go_roundg (gk - 1)
   case measure=>exact aa.o.2.2.1
   obtain⟨M,u,w,q,A,e1,e2⟩:=bl.o;exact⟨by rw[<-aa.o.1,bf.o],aa.o.2.1,M,u,w,q,A,e1,by rw[<-aa.o.1];exact e2⟩
end
section
open Go Go.RowKit
theorem Zk(l:List Ai)(k:Nat)(r:Ai)(a:k<l.length):Bb (l.set k r)=((Bb l).set (k*2) (J E r.1)).set (k*2+1) (J E r.2):=by
 induction l generalizing k with
 |nil=>simp at a
 |cons x l b=>
  cases k with
  |zero=>simp[Bb,IP]
  |succ k=>
   have h:=b k (by simpa using a);have c:(k+1)*2=k*2+1+1:=Ω;simp only[Bb,kE,lP,IP,ku,jX,c]at h⊢;rw[h]
theorem MW(e:a.ownsRow l o j (O (V ⟨i,0,Z⟩) f g) f s):∃c,Aa a i o (s++c)/\l<=i/\f<=g/\g<=BB/\(s++c).length=g*j:=by
 rcases e.2 with⟨h,_⟩|⟨v,w,k,m,n,p,q,r,t,d⟩
 ·cases h
 ·injection m with b _ u;injection b with b;injection b with b;subst b;subst u;refine⟨k.toList.drop (f*j),?_,n,q,r,?_⟩
  ·rw[<-d,kF];unfold Aa;simpa using p
  ·rw[<-d,kF];simpa using t
theorem WW{b:List A4}(d:Aa a g o (s++b))(e:l<=g)(h:i<=f)(k:f<=BB)(m:(s++b).length=f*j)(c:s.length=i*j):a.ownsRow l o j (O (V ⟨g,0,Z⟩) i f) i s:=
 ⟨c,.inr ⟨g,f,(s++b).toArray,rfl,e,d,h,k,by simpa using m,by rw[<-c];simp⟩⟩
theorem MT(k:a.ownsRow j o 2 (O (V ⟨f,0,Z⟩) i l) i (Bb h))(m:h[g]?=V b):a.cell? ⟨f,g*2,Z⟩=V (J E b.1)/\a.cell? ⟨f,g*2+1,Z⟩=V (J E b.2):=by
 obtain⟨c,d⟩:=KX m;obtain⟨n,e,_⟩:=MW k;exact⟨by rw[e.cell?,kL (jL.1 c).1];exact c,by rw[e.cell?,kL (jL.1 d).1];exact d⟩
theorem Pj(e:a.ownsRow j 165 2 (O (V ⟨g,0,Z⟩) i l) i (Bb h))(t:f<i)(r:Ai):
  (∃u0 u1,a.cell? ⟨g,f*2,Z⟩=V u0/\a.cell? ⟨g,f*2+1,Z⟩=V u1)/\(∀b,a.frozen? ⟨g,b,Z⟩=Bk)/\
  ∃d,((a.setCell ⟨g,f*2,Z⟩ (J E (r.1:Nat))).setCell ⟨g,f*2+1,Z⟩ (J E (r.2:Nat)))=d/\d.ownsRow j 165 2 (O (V ⟨g,0,Z⟩) i l) i (Bb (h.set f r))/\Ac (λb=>b=g) a d:=by
 obtain⟨u,c,n,o,p,k⟩:=MW e;have q:=e.1;rw[F0]at q;have s:f<h.length:=Ω;refine⟨⟨(Bb h)[f*2]'(by rw[F0];omega),(Bb h)[f*2+1]'(by rw[F0];omega),?_,?_⟩,λb=>c.v b,_,rfl,?_,(Ay _ _ _ _).trans (Ay _ _ _ _)⟩
 ·rw[c.cell?,kL (by rw[F0];omega),jK]
 ·rw[c.cell?,kL (by rw[F0];omega),jK]
 ·have m:=(c.setCell (f*2) (J E r.1)).setCell (f*2+1) (J E r.2);rw[nJ _ _ (by rw[F0];omega),nJ _ _ (by rw[kG,F0];omega), <-Zk h f r s]at m;refine WW m n o p ?_ ?_
  ·rw[jI,F0,kG];rw[jI,F0]at k;exact k
  ·rw[F0,kG];omega
end
section
open Go.RowKit
theorem Px:A9 f j g i↔i*2^(f - g)<=j/\j<i*2^(f - g)+2^(f - g):=by
 unfold A9;have h:=mM (f - g);rw[qp h];generalize 2^(f - g)=m at*;generalize i*m=t at*;omega
theorem OJ(c:f<=g)(b:i<2^f):i*2^(g - f)+2^(g - f)<=2^g:=by
 have a:(i+1)*2^(g - f)<=2^f*2^(g - f):=lC _ b;rw[<-qn,show f+(g - f)=g by omega,lT,mP]at a;exact a
theorem fk(b:h.length=2^f)(d:g<=f)(e:i<2^g)(r:Ai):CT h (i*2^(f - g)) (2^(f - g)) r=CF f g i h r:=by
 have k:=OJ d e;refine lQ (λj=>?_);rw[dk _ _ _ _ (by rw[b];exact k),EF]
 by_cases a:A9 f j g i
 ·have l:=Px.1 a;rw[jP a,jP l,jK (by rw[b];omega)];rfl
 ·rw[jN a,jN (λc=>a (Px.2 c))]
structure IX(a:As)(e f b:Nat)(c:Ai)(T L:List Ai)(B:Nat->Au):Prop where
 d:DQ a e b c T L
 x:Cu a f b L B
 t:∀n,a n≠Z->n∈AH c T\/∃(j:Nat) (q:Ai),L[j]?=V q/\q.1=n
theorem IX.d0(a:IX e g i f b h r p):Cq e (1+By g (2^f)+2^f):=by
 refine⟨AH b h++r.map Prod.fst,?_,λn c=>?_⟩
 ·rw[jI,mx,AH,jT,mx,a.d.dq,a.x.aC];omega
 ·rcases a.t n c with d|⟨j,q,k,l⟩
  ·exact lK _ d
  ·exact lG _ (lB.2 ⟨q,kp k,l⟩)
theorem IX.cF(a:IX e g i j B h r p)(c:r[f]?=V b):b.1∉AH B h:=a.d.cF (a.x.dh f b c)
theorem IX.put{u:Nat}{v:Ai}{T:List Ai}(a:IX D g u f v T r p){i:Nat}{w:Ai}(l:r[i]?=V w)(H:C.ok u)(y:C.d=(p i).d)(z:C.p=(p i).p)
  (A:Fr (w.1::AH v T) (b.1::AH B h) D e)(I:DQ e g f B h (CF f C.d C.p r b))(J:e b.1=V (b.2,C.ld)):IX e g u f B h (CF f C.d C.p r b) (CQ f p C):=by
 refine⟨I,a.x.put l H y z J (λn x m K k=>?_),λn m=>?_⟩
 ·obtain⟨j,q,k,o⟩:=k;refine(A.cA m (λd=>?_)).1
  rcases kZ.1 d with d|d
  ·exact K d
  ·exact a.cF k (o▸d)
 ·by_cases E:n∈AH B h
  ·exact .inl E
  right
  by_cases F:n=b.1
  ·refine⟨i,b,?_,F.symm⟩;rw[EF,l,y,z,jP (a.x.pf i (a.x.lt l))];rfl
  have G:n∉b.1::AH B h:=λc=>(kZ.1 c).elim F E
  by_cases s:n∈w.1::AH v T
  ·exact absurd (A.d2 n s G) m
  rw[A.cs n s G]at m
  rcases a.t n m with L|⟨j,q,k,o⟩
  ·exact absurd (kT _ L) s
  ·refine⟨j,q,?_,o⟩;rw[EF,jN]
   ·exact k
   ·intro d;rw[y,z]at d;have t:=(a.x.bb i j (a.x.lt l) (a.x.lt k) d).1;rw[k,l]at t;injection t with t;exact s (by rw[<-o,t];exact mh)
theorem Sp{dep:Nat}(a:f<=dep)(b:g<2^f):∃j,j<2^dep/\A9 dep j f g:=by
 have c:=OJ a b;have h:=mM (dep - f);exact⟨g*2^(dep - f),Ω,Px.2 ⟨jF _,Ω⟩⟩
theorem Au.ok.fO(h:C.ok f):C.p<2^C.d:=by
 have a:=(Fx.1 h).1;unfold FK at a;have b:=j7 a
 have c:(C.p:Int)<2^C.d:=by have:=b.2.2.2.2.2.2;rwa[jS]at this
 exact_mod_cast c
theorem IX.fY{F K:As}{G:Nat}{u s:Ai}{v L:List Ai}(d:IX D g G f B h L p){i:Nat}{r0 r1:Ai}(w:L[i]?=V b)(M:C.ok G)(N:C.d=(p i).d)(O:C.p=(p i).p)(H:C.d<f)(Y:f<=8)
  (P:Fr [] [r1.1] D F)(m:D r1.1=Z)(aa:F r1.1=V (r1.2,(AW C).ld))(y:Fr (AH B h) (AH u v) F K)
  (z:Fr (b.1::AH u v) (r0.1::AH s r) K e)(hD:DQ e g f s r (CF f (AU C).d (AU C).p (CF f (AW C).d (AW C).p L r1) r0))(hn:e r0.1=V (r0.2,(AU C).ld)):
  IX e g G f s r (CF f (AU C).d (AU C).p (CF f (AW C).d (AW C).p L r1) r0) (CQ f (CQ f p (AW C)) (AU C)):=by
 obtain⟨k0,k1⟩:=MD M Ω;have hr:=d.x.dh i b w
 have ag:r1.1≠b.1:=λk=>by rw[k,hr]at m;cases m
 have ah:r1.1∉AH B h:=λc=>by
  rcases GO.1 c with k|⟨j,t,a,k⟩
  ·rw[k,d.d.c.rt]at m;cases m
  ·rw[<-k,d.d.c.tp j t a]at m;cases m
 obtain⟨s1,s2⟩:=y.cA aa ah;have s3:=(z.cA s1 (λc=>(kZ.1 c).elim ag s2)).1
 have al:∀n x,D n=V x->n≠b.1->n∉AH B h->e n=V x:=λn x l I am=>by
  have a1:=(P.cA l Δ).1;obtain⟨a2,a3⟩:=y.cA a1 am;exact(z.cA a2 (λc=>(kZ.1 c).elim I a3)).1
 refine⟨hD,d.x.fY w M N O H Y hn s3 (λn x l I a=>?_),λn l=>?_⟩
 ·obtain⟨j,q,a,k⟩:=a;exact al n x l I (k▸d.cF a)
 ·by_cases Q:n∈AH s r
  ·exact .inl Q
  right
  by_cases R:n=r0.1
  ·obtain⟨j,a,A⟩:=Sp (dep:=f) (show(AU C).d<=f by show C.d+1<=f;omega) k0.fO;refine⟨j,r0,?_,R.symm⟩;rw[EF,jP A,jK (by rw[Mx,d.x.aC];exact a)];rfl
  by_cases S:n=r1.1
  ·obtain⟨j,a,A⟩:=Sp (dep:=f) (show(AW C).d<=f by show C.d+1<=f;omega) k1.fO;refine⟨j,r1,?_,S.symm⟩;rw[EF,jN (show¬A9 f j (AU C).d (AU C).p from λc=>OR c A),EF,jP A,jK (by rw[d.x.aC];exact a)];rfl
  have T:n∉r0.1::AH s r:=λc=>(kZ.1 c).elim R Q
  by_cases E:n∈b.1::AH u v
  ·exact absurd (z.d2 n E T) l
  rw[z.cs n E T]at l
  have U:n∉AH u v:=λc=>E (kT _ c)
  by_cases J:n∈AH B h
  ·exact absurd (y.d2 n J U) l
  rw[y.cs n J U,P.cs n Δ (by simp[S])]at l
  rcases d.t n l with o|⟨j,q,a,k⟩
  ·exact absurd o J
  ·refine⟨j,q,?_,k⟩
   have W:¬A9 f j C.d C.p:=λX=>by
    rw[N,O]at X;have o:=(d.x.bb i j (d.x.lt w) (d.x.lt a) X).1;rw[a,w]at o;injection o with o;exact E (by rw[<-k,o];exact mh)
   rw[EF,jN (show¬A9 f j (AU C).d (AU C).p from λc=>W ((KF H).2 (.inl c))),EF,jN (show¬A9 f j (AW C).d (AW C).p from λc=>W ((KF H).2 (.inr c)))];exact a
theorem IX.gf{c:Nat}{T:List Ai}(a:IX D g c f B T r p)(d:Fr (AH B T) (AH b h) D e)(s:DQ e g (f+1) b h (Proofs.YtcedibmdelehdaaGreatDoor.Da r)):
  IX e g c (f+1) b h (Proofs.YtcedibmdelehdaaGreatDoor.Da r) (λj=>p (j/2)):=by
 have t:Cu e c f r p:=⟨a.x.aC,λi u o=>(d.cA (a.x.dh i u o) (a.cF o)).1,a.x.ok,a.x.dl,a.x.pf,a.x.bb⟩;refine⟨s,t.gf,λn k=>?_⟩
 by_cases l:n∈AH b h
 ·exact .inl l
 right
 by_cases m:n∈AH B T
 ·exact absurd (d.d2 n m l) k
 rw[d.cs n m l]at k
 rcases a.t n k with v|⟨j,q,w,x⟩
 ·exact absurd v m
 ·exact⟨2*j,q,by rw[La,show 2*j/2=j by omega];exact w,x⟩
theorem IX.hv{root first r:Ai}(s:f<=255)(t:1<=f)(b:DQ e g 0 root [first] [r])(c:e r.1=V (r.2,(Au.mk 0 0 []).ld))(d:∀n,e n≠Z->n∈AH root [first]\/n=r.1):IX e g f 0 root [first] [r] (λ_=>⟨0,0,[]⟩):=by
 refine⟨b,⟨rfl,λi q a=>?_,λi a=>?_,λi a=>jF _,λi a=>?_,λi j a k _=>?_⟩,λn l=>?_⟩
 ·cases i with
  |zero=>simp at a;subst a;exact c
  |succ i=>simp at a
 ·refine Fx.2 ⟨?_,λx m=>by simp at m,List.Pairwise.nil⟩;unfold FK;exact jG Γ
 ·have:i=0:=by simp at a;omega
  subst this;rfl
 ·have o:i=0:=by simp at a;omega
  have p:j=0:=by simp at k;omega
  rw[o,p];exact⟨rfl,rfl⟩
 ·rcases d n l with h|h
  ·exact .inl h
  ·exact .inr ⟨0,r,rfl,h.symm⟩
end
