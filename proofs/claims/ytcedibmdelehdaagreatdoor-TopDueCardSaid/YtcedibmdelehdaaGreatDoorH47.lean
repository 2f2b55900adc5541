/- Lemmas. -/
import Derived.Test.YtcedibmdelehdaaGreatDoorH45
import Derived.Lib.ConvBytes
import Derived.Lib.SlBytesConst
import Derived.Lib.SmallJoins
namespace Go.Proofs.YtcedibmdelehdaaGreatDoor
set_option maxRecDepth 100000
set_option maxHeartbeats 32000000
open Go.Proofs.Tryz renaming prog->E
open Go.Value renaming slice->J,int->Z
open Go renaming World->O,Calls->A3,maxLen->A4
open Go.Ending renaming returned->V
open Option renaming none->Y,some->Ax
open Go.DataW renaming trod_string->AA,trod_int->A2
variable{h e:O}{a d:Nat}{b:ByteArray}{c:Ad}
section
open Go Go.RowKit
attribute [local go_sem ↓] Go.wp_at_zero Go.wp_at_succ
theorem iO(s:ByteArray)(i:s.size<=1000000)(W:O):∃(c:Nat) (a:O),(convert 9 64 (.string s)).run E W=.ok (J (Ax ⟨W.heap.size,0,Y⟩) s.size c) a/\W.grownBy a Y/\Ai a 1 (J (Ax ⟨W.heap.size,0,Y⟩) s.size c) s.size (Ao (bl s))/\W.heap.size<a.heap.size:=by
 have h:=Lib.run_convert_string_bytes (P:=E) W 9 64 5 s nt mc np;refine⟨_,_,h,⟨rfl,rfl,rfl,by rw[Lib.bytesWorld_size];omega,λk e _=>Lib.bytesWorld_at_old W _ _ k e⟩,⟨by rw[GV,I7,mL],by unfold A4;omega,.inr ⟨_,_,rfl,λ_=>rfl,λj u b=>?_⟩⟩,by rw[Lib.bytesWorld_size];omega⟩
 have d:j<s.size:=by
  have:=(jX.1 b).1
  rwa[GV,I7]at this
 rw[LX (bl s) j (by rw[I7];exact d)]at b
 cases b
 rw[mx,Lib.bytesWorld_cell W _ _ j d]
 have f:j<s.data.toList.length:=by rw[mZ];exact d
 have g:(bl s).getD j 0=(s.data.toList.getD j 0).toNat:=by
  unfold bl;rw[lp,lp,lB,jW f];rfl
 rw[g]
def jJ:Option (List Nat)->ByteArray
 |none=>⟨#[45]⟩
 |some v=>⟨#[43]⟩++Fo v
def jz:ByteArray:=⟨#[]⟩
def jl(r:Option (List Nat))(g:Int)(e:Ending)(d:O):Prop:=
 match r with
 |none=>e=V (.tuple #[J Y 0 0,.bool false,Z .i64 g])
 |some v=>∃b c a,e=V (.tuple #[J b a c,.bool true,Z .i64 g])/\v.length=a/\Ai d 1 (J b a c) a (Ao v)
def CN(w:O)(s:ByteArray)(a b:Nat)(W:O):Prop:=w.grownBy W Y/\w.heap.size<=a/\a<W.heap.size/\Ai W 1 (J (Ax ⟨a,0,Y⟩) s.size b) s.size (Ao (bl s))
theorem CN.grown{f:O}(c:CN h b a d e)(g:e.grownBy f Y):CN h b a d f:=⟨Ae c.1 g,c.2.1,jY c.2.2.1 g.size,c.2.2.2.grown g Δ⟩
theorem CN.mk(g:e.grownBy h Y)(s:ByteArray)(d:s.size<=1000000):∃(c:Nat) (a:O),(convert 9 64 (.string s)).run E h=.ok (J (Ax ⟨h.heap.size,0,Y⟩) s.size c) a/\CN e s h.heap.size c a/\h.grownBy a Y:=by
 obtain⟨c,a,f,b,i,j⟩:=iO s d h;exact⟨c,a,f,⟨Ae g b,g.size,j,i⟩,b⟩
theorem CN.aM(f:CN h b a d e)(i:Aw h c):∀k,(J (Ax ⟨a,0,Y⟩) b.size d).ownBlock=Ax k->c k=0/\k<e.heap.size:=λk g=>by
 simp[Value.ownBlock]at g;subst g;exact⟨i _ f.2.1,f.2.2.1⟩
end
section
open Go Go.RowKit
theorem Ca.mono{A:AO}{P:Pl}{e t f:Nat}{N:AC}(b:Ca h c a A P d t f N)(g:d<=e):Ca h c a A P e t f N:=⟨b.p.mono g,b.b,b.c,b.t⟩
def Li(w:O)(f:Ad)(c:Nat)(A:AO)(P:Pl)(q t a:Nat)(g:List Bc)(b:O):Prop:=∃d e,Ab Ee w f b d/\Ca b d c A P (q+120000) t a e/\Cp P e a g
section
variable {w:World} {col:Ad} {c:Nat} {A:AO} {P:Pl} {q t lo:Nat} {N:AC} {ops:List Bc}
abbrev Nb(a:ByteArray):Bc:=⟨a,jz,true,0,0,0⟩
theorem gj(h:Ca w col c A P q t lo N)(i:Cp P N lo ops)(r:q<=1073300000)(a:ByteArray)(j:1<=a.size)(l:a.size<=64):
  ∀W d b,CN w a d b W->A3 E 22 #[Am c,J (Ax ⟨d,0,Y⟩) a.size b] W λe f=>e=V (Z .i64 0)/\Li w col c A P q t lo (ops++[Nb a]) f:=λW d b k=>
 (Vu (h.grown k.1) Ω (bl a) a.size (I7 a) _ b j l (In a) k.2.2.2 (CM P.aQ (bl a)) rfl).mono λe f ⟨m,n,o,s,p,g⟩=>
  ⟨m,n,o,(Ab.grown h.p.cl k.1).trans s,p.mono Ω,i.i1 (Nb a) rfl (kN _) (kN _) g⟩
theorem TQ(h:Ca w col c A P q t lo N)(m:Cp P N lo ops)(S:q<=1073300000)(a:ByteArray)(o:1<=a.size)(p:a.size<=64)(f:Nat)(u:N.aw*P.aI<=f):
  ∃r:Option (List Nat),(∀v,r=Ax v->Jh t ops a (Fo v)=true/\v.length<=4096)/\(∀v,JQ P t lo f ops a=Ax v->r=Ax (bl v))/\∀W i d,CN w a i d W->A3 E 26 #[Am c,J (Ax ⟨i,0,Y⟩) a.size d] W λe j=>Li w col c A P q t lo ops j/\jl r 0 e j:=by
 obtain⟨x,y,z,B,C,b,l,D,F,G,H,I,K⟩:=m.fS (h.p.a1.gS) t a f u;refine⟨Gd b l t,I,K,λW i d k=>?_⟩;have n:=h.grown k.1
 refine(Ys n a.size _ d o p b l H (Xt n Ω (bl a) a.size (I7 a) _ d (In a) k.2.2.2 (k.aM h.p.cl) (CM P.aQ (bl a)) rfl x y z B C D F b l G)).mono λe j ⟨L,M,s,Q,g,R⟩=>⟨⟨L,M,(Ab.grown h.p.cl k.1).trans (s.mono (PK Ω)),Q.mono Ω,m.dj g⟩,R⟩
theorem bg(h:Ca w col c A P q t lo N)(b:Cp P N lo ops)(n:Nat)(d:t+n<=281474976710656):
  ∀W,w.grownBy W Y->A3 E 25 #[Am c,Z .i64 n] W λe a=>e=V (Z .i64 0)/\Li w col c A P q (t+n) lo ops a:=λW g=>
 (Zq (h.grown g) n d).mono λe a ⟨f,s,i⟩=>⟨f,col,N,(Ab.grown h.p.cl g).trans s,i.mono Ω,b⟩
abbrev Hh(a b:ByteArray)(c d lo:Nat):Bc:=⟨a,b,false,c,d,lo⟩
theorem Yf{P:Pl}{t:Nat}{n:Int}(h:JN P t a d n=0):1<=a/\a<=64/\d<=4096/\0<=n/\(t:Int)+n<=281474976710656/\13+a+d<=P.aI:=by
 unfold JN at h
 split at h
 ·rename_i c
  exact absurd h c
 rename_i c
 split at h
 ·cases h
 split at h
 ·cases h
 unfold Dw at c
 have b:¬(a<1\/64<a):=λe=>c (by rw[ke e];decide)
 have f:¬4096<d:=λe=>c (by rw[j7 b,ke e];decide)
 omega
theorem La.aw{P:Pl}{N c:AC}{h:BitVec 64}{b:List Nat}{lo:Nat}(g:La P N c h b lo a):c.aw<=N.aw+1:=by
 obtain⟨_,d,i,e,p,f⟩:=g;rw[f.la,p.la];have:=MM P d.aw d.aO b.length;rw[e.la]at this;rw[e.la];exact this.2
theorem Ta(h:Ca w col c A P q t lo N)(u:Cp P N lo ops)(Q:q<=1073300000)(a b:ByteArray)(n:Nat)(x:JN P t a.size b.size n=0)(y:lo<=1000000000)(i:Nat)(z:i<=(N.aw+1)*P.aI)(B:i<=1000000000000000):
  ∀W o j p l,CN w a o j W->CN w b p l W->A3 E 27 #[Am c,J (Ax ⟨o,0,Y⟩) a.size j,J (Ax ⟨p,0,Y⟩) b.size l,Z .i64 n] W λe r=>e=V (Z .i64 0)/\∃d m f,d<=lo+1/\Ab Ee w col r m/\Ca r m c A P (q+120000) t d f/\Cp P f d (ops++[Hh a b (Ey t n) i d])/\f.aw<=N.aw+1:=λW o j p l k v=>by
 obtain⟨C,D,F,R,S,G⟩:=Yf x
 have H:Ey t n<=281474976710656:=by unfold Ey;split<;>omega
 have I:=I7 a;have K:=I7 b
 exact(Y6 (h.grown k.1) (bl a) (bl b) _ _ j l a.size b.size I K (by unfold A4;omega) (by unfold A4;omega) k.2.2.2 v.2.2.2 n C D F Ω G Ω y (In a) (In b) (k.aM h.p.cl) _ rfl (CM P.aQ (bl a)) rfl).mono λe r ⟨L,m,f,d,s,M,g⟩=>
  ⟨L,d,m,f,g.1,(Ab.grown h.p.cl k.1).trans s,M,u.aR (Hh a b (Ey t n) i d) rfl rfl z B (by dsimp only;omega) (by dsimp only;omega) (by dsimp only;omega) H g,g.aw⟩
theorem fS(h:Ca w col c A P q t lo N)(o:Cp P N lo ops)(p:q<=1073300000)(a b:ByteArray)(n:Nat)(r:JN P t a.size b.size n=0)(s:lo<=1000000000)(f:Nat)(u:f<=(N.aw+1)*P.aI)(x:f<=1000000000000000):
  ∀W g i j l,CN w a g i W->CN w b j l W->A3 E 27 #[Am c,J (Ax ⟨g,0,Y⟩) a.size i,J (Ax ⟨j,0,Y⟩) b.size l,Z .i64 n] W λe _m=>e=V (Z .i64 0)/\∃d,d<=lo+1/\Li w col c A P q t d (ops++[Hh a b (Ey t n) f d]) _m:=λW g i j l k v=>
 (Ta h o p a b n r s f u x W g i j l k v).mono λ_ _m ⟨y,d,z,B,C,D,F,G,_⟩=>⟨y,d,C,z,B,D,F,G⟩
end
end
section
open Go Go.RowKit
attribute [local go_sem ↓] Go.wp_at_zero Go.wp_at_succ
def CZ:Pl:=⟨140,96,5,4,5,3,8,7#64⟩
theorem VR:CZ.aU:=by
 refine⟨?_,?_,?_,?_,?_,?_,?_,?_,?_,?_,?_,?_,?_,?_,?_⟩<;>decide
theorem RY(b:AD h c a 140 96 0 (λ_=>AJ 96))(d:Aw h c)(e:EO h)(f:0<h.heap.size)(g:c 0=0):
  A3 E 7 #[Am a,.agg #[Z .i64 140,Z .i64 96,Z .i64 5,Z .i64 4,Z .i64 5,Z .i64 3,Z .i64 8,Z .u64 7]] h (TU h c CZ):=
 VS (P:=CZ) b d VR e f g
def kS:ByteArray:=⟨#[107]⟩
def vS:ByteArray:=⟨#[118]⟩
theorem cO(b c:Nat)(h:c<=1):JQ CZ 0 b (c*CZ.aI) ([]++[Hh kS vS (Ey 0 0) 0 b]) kS=Ax vS:=by
 have d:DL ([]++[Hh kS vS (Ey 0 0) 0 b]) kS ([]++[Hh kS vS (Ey 0 0) 0 b]).length=Ax 0:=by
  show(if Jo kS kS then Ax 0 else Y)=Ax 0;exact ke (IV.2 rfl)
 unfold JQ;rw[d];refine j7 ?_;rintro(a|a|a|a|a)
 ·cases a
 ·cases a
 ·exact a rfl
 ·have e:CZ.aI=308:=by decide
  rw[e]at a;have f:CZ.rg=5:=rfl;rw[f]at a;simp only at a;omega
 ·exact Bool.noConfusion (show false=true from a)
theorem dX(w:O)(T:TypeId)(a:List Value)(d:a.length<=1000):∃b,w.alloc (.cells a.toArray T (a.length,a.length+1))=b/\w.grownBy b Y/\w.heap.size<b.heap.size/\Ai b 1 (J (Ax ⟨w.heap.size,0,Y⟩) a.length a.length) a.length a:=
 ⟨_,rfl,World.grownBy_alloc _ _ Y,Δ,Ω,by unfold A4;omega,.inr ⟨⟨w.heap.size,0,Y⟩,a.length,rfl,λ_=>rfl,λj u c=>by rw[mx,World.cell?_alloc_mark];simpa using c⟩⟩
theorem OH(w:O)(b:UInt8):∃a,w.alloc (.cells #[Z .u8 (b.toNat:Int)] 5 (1,2))=a/\CN w ⟨#[b]⟩ w.heap.size 1 a:=by
 obtain⟨a,c,d,e,f⟩:=dX w 5 [Z .u8 (b.toNat:Int)] Δ;exact⟨a,c,d,jS _,e,f⟩
theorem XZ(w:O)(u:EO w)(v:0<w.heap.size):
  A3 E 19 #[] w λe w'=>e=V (.bool true)/\w.grownBy w' Y:=by
 have HN:=zh (SM 140 96 w (λ_=>0) (λ_ _=>rfl) Ω Ω Ω Ω);have f:=zh (And.intro u v);clear u v
 go_enter Tryz.func19,Tryz.ntmps19
 go_wp2_with fail;refine HN.o.mono ?_;rintro e w1 ⟨d,rfl,hd,c1,x,y⟩;have i:=zh (x.mono (C':=Ee) (λj e=>.inl Ω));have DV:=zh y;clear x y;go_wp2_with fail;refine(Rf w1).mono ?_;rintro e w2 ⟨rfl,k⟩;have l:=zh (i.o.trans (Ab.grown i.o.new k))
 have HF:=zh (RY (DV.o.grown k) l.o.new (f.o.1.bg (by
  rw[k.block _ (jY f.o.2 i.o.size) Δ]
  exact i.o.ak.bK _ f.o.2 PI)) (jY f.o.2 l.o.size) (l.o.ah _ f.o.2))
 clear k;go_wp2_with fail;refine HF.o.mono ?_;rintro e g ⟨c,A,N,c3,rfl,z,B,D,F,G⟩;have S3:=zh (l.o.trans z);have C3:=zh B;have I3:=zh (Cp.dx (P:=CZ) D G);have ai:=zh F;clear z B D G F
 have kc:=λ(W:O) (C:Array Value) (n c:Nat)=>Lib.run_convert_bytes_const (P:=E) W 64 5 C n c mc np
 obtain⟨a,aj,m⟩:∃a,g.alloc (.cells #[Z .u8 107] 5 (1,2))=a/\CN g kS g.heap.size 1 a:=OH g 107;obtain⟨h,ak,b⟩:∃h,a.alloc (.cells #[Z .u8 118] 5 (1,2))=h/\CN a vS a.heap.size 1 h:=OH a 118;have H:=m.grown b.1;have b:CN g vS a.heap.size 1 h:=⟨Ae m.1 b.1,m.1.size,b.2.2.1,b.2.2.2⟩;have q:=zh (Ta C3.o I3.o Ω kS vS 0 Ξ Ω 0 (kN _) (kN _) h _ _ _ _ H b);rw[show kS.size=1 from rfl,show vS.size=1 from rfl]at q;clear m H b;go_wp2_with fail;refine q.o.mono ?_;rintro e o ⟨rfl,al,c6,s,_,I,K,L,am⟩;have S6:=zh (S3.o.trans I)
 have M:s.aw<=1:=by have:=ai.o;omega
 obtain⟨r,_,Q,R⟩:=TQ K L Ω kS Ξ Ξ (s.aw*CZ.aI) (jS _);obtain rfl:=Q vS (cO al s.aw M);clear Q aj ak q;obtain⟨p,ao,S⟩:∃p,o.alloc (.cells #[Z .u8 107] 5 (1,2))=p/\CN o kS o.heap.size 1 p:=OH o 107;have t:=zh (R p _ _ S);rw[show kS.size=1 from rfl]at t;clear R S I K L am M;go_wp2_with fail;refine t.o.mono ?_;rintro e T ⟨⟨c8,N8,U,_,_⟩,va,vc,vn,rfl,ar,X⟩;have S8:=zh (Mf (S6.o.trans U) PI);subst ar
 have aE:(convert 64 9 (J va (bl vS).length vc)).run E T=.ok (.string ⟨#[118]⟩) T:=by
  have:=KD X;rw[JM]at this;exact this
 clear U X ao t;go_wp2_with fail;go_ret;exact⟨rfl,S8.o⟩
end
section
open Go.RowKit Go.WideShapes Go.ChangeShapes Go.ChangeAt Go.Joins Go.Deep
section
variable {H:Type} {enc:TypeId×Value->H} {r:Reach} {b0:Nat}
theorem i9{α:Type}(l:List α)(h:l.length=4):∃a b c d,l=[a,b,c,d]:=by
 match l,h with
 |[a,b,c,d],_=>exact⟨a,b,c,d,rfl⟩
def CO.gc(x:CO):Prop:=(-9223372036854775808<=x.k/\x.k<=9223372036854775807)/\(-9223372036854775808<=x.n/\x.n<=9223372036854775807)
theorem fT(w:O)(n:Nat)(a:List Value)(y:DataW H×List MemPlace)(h:DataW.trod enc E w 0 (λ_=>true) true n 48 a=Ax y):
  ∃x:CO,a=x.cells/\x.gc:=by
 obtain⟨u,v,z,A,B,C,k,b,c,d,e⟩:=trod_struct4 Tryz.underlying48 h;obtain⟨D,F,G,I,rfl⟩:=i9 a (k.trans Φ);have l:E.cellsOf 3=1:=Φ;have m:E.cellsOf 9=1:=Φ;simp[l,m]at b c d e;obtain⟨o,f,_,p⟩:=A2 kr b;obtain⟨q,g,_,r⟩:=A2 kr c;obtain⟨s,i,_,_⟩:=AA nt d;obtain⟨t,j,_,_⟩:=AA nt e;simp at f g i j;subst f g i j;exact⟨⟨o,q,s,t⟩,rfl,bounds_i64 p,bounds_i64 r⟩
theorem Zf(w:O){b:Value}{d:DataW H}{e:List MemPlace}(f:Value.okWide E w r b0 25 b)(g:DataW.Trod enc E w 0 (λ_=>true) true 25 b d e):
  ∃(l:List CO) (a:Option Addr) (c:Nat),b=J a l.length c/\Ai w 4 (J a l.length c) l.length (Je l)/\l.length<=c/\∀x∈l,x.gc:=by
 obtain⟨h,a,i,rfl,j,k,m⟩:=YD CO.cells CO.gc 4 Ω Tryz.underlying25 Φ (λ_=>rfl) (fT w) f g;exact⟨h,a,i,rfl,j,k,m⟩
end
end
