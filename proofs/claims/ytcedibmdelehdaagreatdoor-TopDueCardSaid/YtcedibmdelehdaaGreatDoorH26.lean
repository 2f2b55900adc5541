/- Lemmas. -/
import Derived.Test.YtcedibmdelehdaaGreatDoorH24
import Derived.Test.YtcedibmdelehdaaGreatDoorH25
import Derived.Laws.Externs
import Derived.Lib.Overlaps
namespace Go.Proofs.YtcedibmdelehdaaGreatDoor
set_option maxRecDepth 100000
set_option maxHeartbeats 32000000
open Go.Value renaming slice->E,int->O,oneCell'->A4,tuple->BL,ownBlock->B3,agg->B4,bool->B6
open Go.IntKind renaming i64->J,u64->B8
open Option renaming none->V,some->Z
open Go.World renaming grownBy_alloc->Y,size_alloc->Bk,ownsRow->BB
open Go.Proofs.Tryz renaming prog->Ax,results195->BX,results179->B0,results110->B1,ntmps169->B5,func169->B7
open Go.IntWalk renaming i64_in->AA
open Go.Ending renaming returned->A2
open Go renaming bodyPost_ret->A3,World->Bs,Value->Bx,maxLen->BC,results->BE,Calls->BR,info_parts->B2,Addr->B9
open Go.NoPanic renaming normal->Bd
open Go.Obj renaming cells->Bn
open Bool renaming false->BA,true->BD
variable{h:List Bx}{a:Bs}{b d e f:Nat}{c:Bx}
section
open Go Go.RowKit
theorem Mt{T k:TypeId}{l:List Bx}(i:Aa a b T h)(m:a.ownsRow d k e c f l)(n:T≠k):c.ownBlock≠Z b:=by
 intro j
 rcases m.2 with⟨rfl,_⟩|⟨g,p,q,rfl,_,o,_⟩
 ·simp[B3]at j
 ·simp[B3]at j;subst j;unfold Aa at i;rw[o]at i;simp at i;exact n i.2.symm
theorem QS(b:List Af)(a:Option B9)(c:Nat)(w:Bs)(z:b.length<=300)(d:Ai w 4 (E a b.length c) b.length (Av b)):
  BR Ax 169 #[E a b.length c] w λe g=>∃v,e=A2 v/\g.ownsRow w.heap.size 237 4 v b.length (Av b)/\w.grownBy g V:=by
 obtain⟨k,l,m,o,p⟩:=B2 Gy
 cases a with
 |none=>
  have q:b=[]:=by
   rcases d.2.2 with⟨h,_⟩|⟨_,_,h,_⟩
   ·simp at h;exact h.1
   ·cases h
  subst q
  have r:c=0:=by
   rcases d.2.2 with⟨h,_⟩|⟨_,_,h,_⟩
   ·simp at h;exact h
   ·cases h
  subst r
  have s:=λW=>Lib.run_eql_slice_nil (P:=Ax) W 158 237 V 0 0 0 0 lG
  clear d
  go_enter B7,B5
  go_wp2_with fail;go_ret;exact⟨_,rfl,World.ownsRow_nil _ _ _ _,Bf _ _⟩
 |some i=>
  have s:=λW=>Lib.run_eql_slice_nil (P:=Ax) W 158 237 (Z i) b.length c 0 0 lG
  have t:Hd ((w.alloc (Bn #[] 237)).ownsRow w.heap.size 237 4 (E (Z ⟨w.heap.size,0,V⟩) 0 0) 0 []):=zh (World.ownsRow_made w #[] 0 (jS _) Δ Δ);have u:=zh (d.grown (Y w (Bn #[] 237) V) Δ);clear d
  go_enter B7,B5
  go_wp2_with (at_builtin;refine IG rfl _ _ 158 rfl w.heap.size 237 k _ 4 32 lG l m o p rfl Ξ (v:=E (Z ⟨w.heap.size,0,V⟩) 0 0) (n:=0) (xs:=[]) (sv:=E (Z i) b.length c) rfl t.o rfl u.o (Mq b) (by unfold BC;omega) Ω Δ ?_;intro A B f j _;rw[mx,kv]at f;have x:=zh (Jt j);have y:=zh f;clear f j);go_ret;exact⟨_,rfl,y.o,x.o⟩
theorem Oe(j:a.ownsRow d tE 4 c b h)(q:0<b):∃g e f,c=E (Z ⟨g,0,V⟩) b e/\d<=g/\Aa a g tE (h++f)/\b<=e/\e<=BC/\(h++f).length=e*4:=by
 rcases j.2 with⟨_,r⟩|⟨g,e,k,rfl,l,m,n,o,p,i⟩
 ·omega
 ·refine⟨g,e,k.toList.drop (b*4),rfl,l,?_,n,o,?_⟩
  ·rw[<-i,lh];exact m
  ·rw[<-i,lh,mZ,p]
theorem Mu{sp:List Bx}(g:Aa a e tE (h++sp))(i:f<=e)(j:b<=d)(k:d<=BC)(l:(h++sp).length=d*4)(c:h.length=b*4):a.ownsRow f tE 4 (E (Z ⟨e,0,V⟩) b d) b h:=
 NK g i j k l (by rw[<-c,qQ];rfl) c
theorem QP(a:List Af)(i:Nat)(h:i<a.length):Av a=Av (a.take i)++((a.getD i Af.ad).cells++Av (a.drop (i+1))):=by
 rw[<-Gw (a.getD i Af.ad), <-Ex, <-Ex]
 congr 1
 rw[show a.getD i Af.ad=a[i] by simp[List.getD,h],List.singleton_append,qN,lh]
theorem Rb(b:List Af)(i B:Nat)(v:Bx)(w:Bs)(hx:b.length<=300)(R:i<b.length)(s:w.ownsRow B 237 4 v b.length (Av b)):
  BR Ax 170 #[v,O J i,O J ((i:Int)+1)] w λe S=>∃T,e=A2 T/\S.ownsRow B 237 4 T (b.take i++b.drop (i+1)).length (Av (b.take i++b.drop (i+1)))/\w.grownBy S v.ownBlock:=by
 obtain⟨g,c,l,rfl,U,p,ak,al,t⟩:=Oe s Ω;obtain⟨n,W⟩:=Ag b.length;have Y:=QP b i R;have aa:=Fx b
 have ab:(b.take i++b.drop (i+1)).length=n - 1:=by rw[jU,kA,kK];omega
 have x:(Av (b.take i)).length=i*4:=by rw[Fx,kA];congr 1;omega
 have y:(Av (b.drop (i+1))).length=(n - 1 - i)*4:=by rw[Fx,kK];congr 1;omega
 have C:(b.getD i Af.ad).cells.length=4:=rfl;have F:∀u∈Av (b.drop (i+1)),u.oneCell'=BD:=Mq _;have aA:n<=300:=Ω;rw[ab];have ac:Av (b.take i++b.drop (i+1))=Av (b.take i)++Av (b.drop (i+1)):=Ex _ _;rw[ac];rw[W]at ak R aa⊢;rw[Y]at p t;obtain⟨f,z⟩:∃P,Av (b.take i)=P:=⟨_,rfl⟩;obtain⟨X,G⟩:∃P,(b.getD i Af.ad).cells=P:=⟨_,rfl⟩;obtain⟨D,q⟩:∃P,Av (b.drop (i+1))=P:=⟨_,rfl⟩;rw[z,G,q]at p t;rw[z]at x;rw[G]at C;rw[q]at y F;rw[z,q];clear z G q Y ab ac aa s;obtain⟨d,A⟩:=Ag w.drew
 have p:Aa d g tE (f++(X++D)++l):=by rw[<-A];exact p.cQ
 have am:w.grownBy d (Z g):=by rw[<-A];exact AS w 1 _
 have an:i+(n - (i+1))=n - 1:=Ω
 have ad:Aa d g tE (f++((X++D).take D.length++((X++D).drop D.length++l))):=by
  have e:f++((X++D).take D.length++((X++D).drop D.length++l))=(f++(X++D))++l:=by rw[<-ls ((X++D).take D.length),lh];simp
  rw[e];exact p
 have H:Aa (d.setCells g (i*4) D) g tE ((f++D)++((X++D).drop D.length++l)):=by
  have h:=Hu g tE D ((X++D).take D.length) f ((X++D).drop D.length++l) d (by rw[kA,jU];omega) ad;rw[x]at h
  rw[ls];exact h
 have ae:Aa ((d.setCells g (i*4) D).setCells g ((n - 1)*4) FE) g tE ((f++D)++(FE++l)):=by
  have h:=Hu g tE FE ((X++D).drop D.length) (f++D) l (d.setCells g (i*4) D) (by rw[kK,jU,C];simp[FE]) H;rw[show(f++D).length=(n - 1)*4 by rw[jU,x,y];omega]at h;exact h
 have af:((f++D)++(FE++l)).length=c*4:=by
  simp only[jU]at t⊢;rw[show FE.length=4 from rfl];omega
 have I:Hd (BB _ B tE 4 (E (Z ⟨g,0,V⟩) (n - 1) c) (n - 1) (f++D)):=zh (Mu ae U Ω al af (by rw[jU,x,y];omega));have L:Hd (w.grownBy ((d.setCells g (i*4) D).setCells g ((n - 1)*4) FE) (Z g)):=zh (Ae am (Ae (Ht g _ _ _) (Ht g _ _ _)))
 have ag:Hd (∀(m:TypeId) (a:B9) (r:Nat),(D=[]\/a=⟨g,(i+1)*4,V⟩)->(Builtin.append_ #[tS,tS] m #[E (Z ⟨g,0,V⟩) i c,E (Z a) (n - (i+1)) r]).run Ax d=.ok (E (Z ⟨g,0,V⟩) (n - 1) c) (d.setCells g (i*4) D)):=zh (λm a r ha=>by
  rw[<-an];refine U8 d m g i c (n - (i+1)) a r _ D p (by exact t) Ω (by rw[y];congr 1;omega) (λj u M=>?_) F
  rcases ha with rfl|rfl
  ·simp at M
  ·have aB:=(jX.1 M).1
   have h:=p.aq (j:=(i+1)*4+j) (v:=u) (by
    rw[ls,ls,lf Ω,lf Ω,lj Ω];rw[show(i+1)*4+j - f.length - X.length=j by omega]
    exact M)
   unfold Addr.add
   by_cases N:j=0
   ·rw[ke N];rw[N,lD]at h;exact h
   ·rw[j7 N];exact h)
 have ah:Hd (∀(m:TypeId) (r:Nat),(Builtin.clear_ #[tS] m #[E (Z ⟨g,(n - 1)*4,V⟩) 1 r]).run Ax (d.setCells g (i*4) D)=.ok (BL #[]) ((d.setCells g (i*4) D).setCells g ((n - 1)*4) FE)):=zh (λm r=>Vf _ m g _ r _ H (by simp only[jU,kK];omega));have ap:Hd (n=i+1->D=[]):=zh (λh=>kV Ω);clear p ad H ae af t x y C F U W;have aC:((i:Int)==(i:Int)+1)=BA:=lu.2 Ω;have aD:J.wrap ((i:Int)+1)=(i:Int)+1:=AA _ ⟨Ω,Ω⟩;have k1:(i:Int)+1<=(n:Int):=Ω;have k2:(n:Int)<=(c:Int):=Ω;have k3:(0:Int)<=(i:Int)+1:=Ω;have k4:(i:Int)<=(i:Int)+1:=Ω;have k5:(i:Int)<=(c:Int):=Ω;have aJ:((i:Int)+1).toNat=i+1:=Ω
 go_enter Tryz.func170,Tryz.ntmps170
 have m1:(0:Int)<=((n - 1:Nat):Int):=Ω;have m2:((n - 1:Nat):Int)<=(n:Int):=Ω;have m3:n - (n - 1)=1:=Ω;have m4:¬c=n - 1:=Ω;go_wp2_with fail;refine FQ (λ_=>True) [([],[0,1,2,3,4,5],6,BA),([],[],7,BA)] Φ Φ ?_;refine Dh ?_;rw[A];clear A
 by_cases aw:c=i+1
 ·have ax:=aw;subst ax;obtain rfl:n=i+1:=Ω;have q:=ap.o rfl
  have ai:=λm=>ag.o m ⟨g,0,V⟩ 0 (.inl q)
  simp only[lU]at ai;subst q
  iterate 6 ((apply AB rfl Θ;(· intro wS o;(try have o:=o rfl);(try dsimp only at o);(try subst o);go_simp;(try with_reducible rfl)));refine Ak ?_)
  refine Aj ?_;refine AH rfl (λK k=>?_);refine NB Θ _ _ tS tS Θ Θ Θ (ai _) (k _ _ ⟨_,λ_ h=>h,λQ=>(by cases Q),?_⟩);clear k K;refine Ak ?_;refine Dh ?_;refine Aj ?_;refine Al ?_;intro K k;refine As k ?_;clear k K;refine Fv (Bd ?_);have aj:=ah.o;simp only[Nat.add_sub_cancel]at aj m1 m2 m3 m4 I L;go_wp2_with fail;go_ret;have s:=I.o;rw[lX]at s;exact⟨_,rfl,s,L.o⟩
 ·iterate 6 ((apply AB rfl Θ;(· intro wS o;(try have o:=o rfl);(try dsimp only at o);(try subst o);go_simp;(try with_reducible rfl)));refine Ak ?_)
  refine Aj ?_;refine AH rfl (λK k=>?_);refine NB Θ _ _ tS tS Θ Θ Θ (ag.o _ _ _ (.inr rfl)) (k _ _ ⟨_,λ_ h=>h,λQ=>(by cases Q),?_⟩);clear k K;refine Ak ?_;refine Dh ?_;refine Aj ?_;refine Al ?_;intro K k;refine As k ?_;clear k K;refine Fv (Bd ?_);have aj:=ah.o;go_wp2_with fail;go_ret;exact⟨_,rfl,I.o,L.o⟩
theorem cM(d p:Int)(b:List Af)(h:Int)(a:Option B9)(c:Nat)(w:Bs)(P:b.length<=300)(hs:b.Pairwise (λx y=>U x.h<U y.h))(hr:Ai w 4 (E a b.length c) b.length (Av b)):
  BR Ax 110 #[B4 #[O J d,O J p,E a b.length c],O B8 h] w λe w'=>∃(i:Nat) (a':Option B9) (c':Nat) (r:List Af),Ef b h i/\r=(if AW b h i=BD then b.take i++b.drop (i+1)else b)/\e=A2 (BL #[B4 #[O J d,O J p,E a' r.length c'],B6 (AW b h i)])/\w'.ownsRow w.heap.size 237 4 (E a' r.length c') r.length (Av r)/\w.grownBy w' V:=by
 have HR:=zh hr;have HS:=zh hs;clear hr hs
 go_enter Tryz.func110,Tryz.ntmps110
 go_wp2_with fail;obtain⟨F,l⟩:=Ag ((w.alloc (Bn #[O J d,O J p,E a b.length c] 160)).alloc (Bn #[O J 0,O J 0,E V 0 0] 160))
 have ai:Aa F w.heap.size 160 [O J d,O J p,E a b.length c]:=by rw[<-l];exact(Aa.new w _ _).alloc _
 have aj:Aa F (w.heap.size+1) 160 [O J 0,O J 0,E V 0 0]:=by
  rw[<-l];have:=Aa.new (w.alloc (Bn #[O J d,O J p,E a b.length c] 160)) 160 [O J 0,O J 0,E V 0 0];rw[Bk]at this;exact this
 have Q:w.grownBy F V:=by rw[<-l];exact Ae (Y w _ V) (Y _ _ V)
 rw[l];have g:=zh ai;have f:=zh aj;have ak:=zh Q;have HP:=zh (Od d p b h a c F P HS.o (HR.o.grown Q Δ));clear l ai aj Q;refine HP.o.mono ?_;rintro e w2 ⟨i,rfl,am,G⟩;have an:=zh am;have g:=zh (g.o.grown G Δ);have f:=zh (f.o.grown G Δ);have H:=zh (Ae ak.o G)
 have s:=g.o.m 0;have t:=g.o.m 1;have u:=g.o.m 2
 clear am G ak HP;go_wp2_with fail;refine(QS b a c w2 P (HR.o.grown H.o Δ)).mono ?_;rintro e w3 ⟨v3,rfl,o3,I⟩;have g:=zh (g.o.grown I Δ);have f:=zh (f.o.grown I Δ);have ap:=zh (Ae H.o I);have m:=zh (BQ o3 H.o.size);clear o3 I H s t u;have ay:Hd (AW b h i=AW b h i):=zh rfl
 have K:AW b h i=BD->i<b.length:=λe=>by
  unfold AW at e;rw[kh]at e;exact kQ e.1
 obtain⟨tb,R⟩:=Ag (AW b h i);rw[R]at K⊢;have L:=zh R;clear R ay
 cases tb
 ·obtain⟨o,z,rfl⟩:=(Ai.aj m.o).slice
  have s:=g.o.m 0;have t:=g.o.m 1;have u:=g.o.m 2
  clear K;go_wp2_with fail;refine(KC d p (E a b.length c) (E o b.length z) a o _ _ c z rfl rfl _).mono ?_;rintro e A ⟨rfl,j⟩;have f:=zh (f.o.grown j Δ);have S:=zh (Ae ap.o j);have B:=zh (AP m.o j);clear j s t u
  have y0:=f.o.m 0;have y1:=f.o.m 1;have y2:=f.o.m 2
  have f0:=f.o.v 0;have f1:=f.o.v 1;have f2:=f.o.v 2
  go_wp2_with fail;have k:=((f.o.setCell 0 (O J d)).setCell 1 (O J p)).setCell 2 (E o b.length z);have C:A.grownBy (((A.setCell ⟨w.heap.size+1,0,V⟩ (O J d)).setCell ⟨w.heap.size+1,1,V⟩ (O J p)).setCell ⟨w.heap.size+1,2,V⟩ (E o b.length z)) (Z (w.heap.size+1)):=Ae (Ae (An _ _ _) (An _ _ _)) (An _ _ _);simp only[ku,kM]at k
  have T:=k.m 0;have W:=k.m 1;have X:=k.m 2
  refine A3 (v:=BL #[B4 #[O J d,O J p,E o b.length z],B6 BA]) (by simp[BE,B1,go_sem,T,W,X]) rfl ?_;refine⟨i,o,_,b,an.o,?_,by rw[L.o],B.o.kept C (.inr (Mt f.o B.o Ξ)),BN S.o C Ω⟩;rw[L.o];rfl
 ·have aG:=K rfl;have l:J.wrap ((i:Int)+1)=(i:Int)+1:=AA _ ⟨Ω,Ω⟩;clear K;go_wp2_with fail;refine(Rb b i w.heap.size v3 w3 P aG m.o).mono ?_;rintro e w4 ⟨v4,rfl,o4,M⟩;obtain⟨q,D,rfl⟩:=(Ai.aj o4).slice;have g:=zh (Aa.grown g.o M (λe=>Mt g.o m.o Ξ e.symm));have f:=zh (Aa.grown f.o M (λe=>Mt f.o m.o Ξ e.symm));have aH:=zh (Gt ap.o m.o (jS _) M);have aq:=zh o4;clear o4 M
  have s:=g.o.m 0;have t:=g.o.m 1;have u:=g.o.m 2
  obtain⟨N,ab⟩:∃n,(b.take i++b.drop (i+1)).length=n:=⟨_,rfl⟩;rw[ab]at aq⊢;have ar:=zh ab;clear ab;go_wp2_with fail;refine(KC d p (E a b.length c) (E q N D) a q _ _ c D rfl rfl _).mono ?_;rintro e A ⟨rfl,j⟩;have f:=zh (f.o.grown j Δ);have S:=zh (Ae aH.o j);have B:=zh (AP aq.o j);clear j s t u
  have y0:=f.o.m 0;have y1:=f.o.m 1;have y2:=f.o.m 2
  have f0:=f.o.v 0;have f1:=f.o.v 1;have f2:=f.o.v 2
  go_wp2_with fail;have k:=((f.o.setCell 0 (O J d)).setCell 1 (O J p)).setCell 2 (E q N D);have C:A.grownBy (((A.setCell ⟨w.heap.size+1,0,V⟩ (O J d)).setCell ⟨w.heap.size+1,1,V⟩ (O J p)).setCell ⟨w.heap.size+1,2,V⟩ (E q N D)) (Z (w.heap.size+1)):=Ae (Ae (An _ _ _) (An _ _ _)) (An _ _ _);simp only[ku,kM]at k
  have T:=k.m 0;have W:=k.m 1;have X:=k.m 2
  refine A3 (v:=BL #[B4 #[O J d,O J p,E q N D],B6 BD]) (by simp[BE,B1,go_sem,T,W,X]) rfl ?_;refine⟨i,q,_,b.take i++b.drop (i+1),an.o,?_,by rw[ar.o,L.o],by rw[ar.o];exact B.o.kept C (.inr (Mt f.o B.o Ξ)),BN S.o C Ω⟩;rw[L.o];rfl
theorem RM(c:Aa a b tE h):a.shape? b=Z (tE,h.length):=by
 unfold World.shape?;unfold Aa at c;rw[c];simp
theorem cm(w:Bs)(a g o c d:Nat)(h f:List Bx)(b:Aa w a tE h)(i:Aa w g tE f)(j:a≠g)(k:f.length≠0):
  (callFunc 275 #[E (Z ⟨a,0,V⟩) 1 1,E (Z ⟨g,o,V⟩) c d]).run Ax w=.ok (.value (B6 BA)) w:=by
 obtain⟨p,l,q,m,r⟩:=B2 Gy
 have n:∀w,(Go.sizeOf tE).run Ax w=.ok 4 w:=λw=>by simp[sizeOf,typeInfo,l,m]
 rw[run_callFunc_extern Tryz.func275 Φ Φ Φ (e:=Extern.SlicesOverlaps.overlaps #[tS,tS] #[4]) Φ,
  Lib.run_overlaps_apart w tS 4 tE lG 4 n ⟨a,0,V⟩ ⟨g,o,V⟩ 1 1 c d j tE tE _ _ (RM b) (RM i) k (b.v 0) (b.v _)]
 rfl
theorem SP(a:List Af)(i:Nat)(_h:i<=a.length):Av a=Av (a.take i)++Av (a.drop i):=by
 rw[<-Ex,lh]
theorem WI(f:List Af)(x:Af)(B i:Nat)(v:Bx)(w:Bs)(G:f.length<=255)(t:w.ownsRow B 237 4 v f.length (Av f))(u:Aa w i 237 x.cells)(l:B<=w.heap.size):
  BR Ax 242 #[v,O J f.length,E (Z ⟨i,0,V⟩) 1 1] w λe y=>∃z,e=A2 z/\y.ownsRow B 237 4 z (f.length+1) (Av (f++[x]))/\w.grownBy y v.ownBlock:=by
 obtain⟨m,o,p,q,r⟩:=B2 Gy;have h:=zh t;have s:=zh (Ai.bn (sz:=4) (n:=1) (c:=1) u rfl (by unfold BC;omega));rw[Ex,Gw];obtain⟨n,A⟩:=Ag f.length;rw[A]at h G⊢;have N:((n:Int)==(n:Int))=BD:=Δ;obtain⟨H,d,rfl⟩:=(Ai.aj h.o).slice;clear t u A
 cases H with
 |none=>
  have I:n=0/\d=0:=by
   rcases h.o.2 with⟨a,b⟩|⟨g,K,L,a,_⟩
   ·simp at a;exact⟨b,a.2⟩
   ·simp at a
  obtain⟨rfl,rfl⟩:=I
  go_enter pT,pK
  go_wp2_with (at_builtin;refine IG rfl _ _ 158 rfl B 237 m _ 4 32 lG o p q r rfl Ξ (v:=E V 0 0) (n:=0) (sv:=E (Z ⟨i,0,V⟩) 1 1) rfl h.o rfl s.o (by simp[A4,Af.cells]) (by unfold BC;omega) Ω l ?_;intro C D a b _;have j:=zh b;have k:=zh a;clear a b);go_ret;exact⟨_,rfl,k.o,j.o⟩
 |some F=>
  have P:n<=d:=by
   rcases h.o.2 with⟨a,_⟩|⟨g,K,L,a,_,_,Q,_⟩
   ·simp at a
   ·simp at a;omega
  have R:(n:Int)<=(d:Int):=Ω
  by_cases M:d=n
  ·subst M
   go_enter pT,pK
   go_wp2_with (at_builtin;refine IG rfl _ _ 158 rfl B 237 m _ 4 32 lG o p q r rfl Ξ (v:=E (Z F) d d) (n:=d) (sv:=E (Z ⟨i,0,V⟩) 1 1) rfl h.o rfl s.o (by simp[A4,Af.cells]) (by unfold BC;omega) Ω l ?_;intro C D a b _;have j:=zh b;have k:=zh a;clear a b);go_ret;exact⟨_,rfl,k.o,j.o⟩
  ·go_enter pT,pK
   go_wp2_with (at_builtin;refine IG rfl _ _ 158 rfl B 237 m _ 4 32 lG o p q r rfl Ξ (v:=E (Z F) n d) (n:=n) (sv:=E (Z ⟨i,0,V⟩) 1 1) rfl h.o rfl s.o (by simp[A4,Af.cells]) (by unfold BC;omega) Ω l ?_;intro C D a b _;have j:=zh b;have k:=zh a;clear a b);go_ret;exact⟨_,rfl,k.o,j.o⟩
theorem Mk{pre post:List Bx}(g:Aa a d tE (pre++(h++post)))(i:pre.length=b):∀j u,h[j]?=Z u->a.cell? ((⟨d,b,V⟩:B9).add j)=Z u:=λj u f=>by
 have k:=(jX.1 f).1
 have c:=g.aq (j:=b+j) (v:=u) (by
  rw[lf Ω,lj Ω,show b+j - pre.length=j by omega]
  exact f)
 unfold Addr.add
 by_cases e:j=0
 ·rw[ke e];rw[e,lD]at c;exact c
 ·rw[j7 e];exact c
theorem VX(a:List Af)(x:Af)(i g A:Nat)(w:Bs)(hx:a.length<=255)(hi:i<a.length)(k:Aa w g tE (Av a))(B:Aa w A tE x.cells):
  BR Ax 242 #[E (Z ⟨g,0,V⟩) a.length a.length,O J i,E (Z ⟨A,0,V⟩) 1 1] w λe W=>∃Y,e=A2 (E (Z ⟨w.heap.size,0,V⟩) (a.length+1) Y)/\W.ownsRow w.heap.size 237 4 (E (Z ⟨w.heap.size,0,V⟩) (a.length+1) Y) (a.length+1) (Av (a.take i++x::a.drop i))/\w.grownBy W V:=by
 have aa:=Fx a;have hcut:=SP a i Ω
 have d:(Av (a.take i)).length=i*4:=by rw[Fx,kA];congr 1;omega
 have f:(Av (a.drop i)).length=(a.length - i)*4:=by rw[Fx,kK]
 have ab:Av (a.take i++x::a.drop i)=Av (a.take i)++(x.cells++Av (a.drop i)):=by
  rw[Ex,show x::a.drop i=[x]++a.drop i from rfl,Ex,Gw]
 have C:∀u∈Av (a.drop i),u.oneCell'=BD:=Mq _
 have F:∀u∈x.cells,u.oneCell'=BD:=by simp[A4,Af.cells]
 rw[ab];obtain⟨n,hn⟩:=Ag a.length;rw[hn]at hx hi aa f⊢;rw[hcut]at k;obtain⟨c,G⟩:∃P,Av (a.take i)=P:=⟨_,rfl⟩;obtain⟨D,H⟩:∃P,Av (a.drop i)=P:=⟨_,rfl⟩;obtain⟨X,I⟩:∃P,x.cells=P:=⟨_,rfl⟩
 have l:X.length=4:=by rw[<-I];rfl
 rw[G,H]at k⊢;rw[G]at d;rw[H]at f C;rw[I]at B F⊢;clear G H I ab hcut aa hn
 have ao:(c++D).length=n*4:=by rw[jU,d,f];omega
 obtain⟨m,b,o,p,q,L,ad,r,s⟩:=UV w tS g i n (n+1 - i) (c++D) k Ω Ω Ω Ω Ω;rw[show i+(n+1 - i)=n+1 by omega]at p L;rw[nk Ω,lF Ω]at q r;rw[show((n+1 - i:Nat):Int)=(n:Int)+1 - i by omega]at p
 have t:b.length=(m - i)*4:=by rw[jU,d]at r;omega
 have ae:Aa o w.heap.size tE (c++(b.take 4++b.drop 4)):=by rw[lh];exact q
 have af:=B.grown s Δ;have ap:=k.grown s Δ
 have M:=λN Q=>LQ o N w.heap.size (i*4) (n+1 - i) Q 1 ⟨A,0,V⟩ 1 1 _ X q (by simp only[qT];split<;>omega) (by rw[r];omega) Ω (Mk (pre:=[]) (post:=[]) (by simpa using af) rfl) F
 have v:=Hu w.heap.size tE X (b.take 4) c (b.drop 4) o (by rw[kA];omega) ae;rw[d]at v;have R:w.grownBy (o.setCells w.heap.size (i*4) X) V:=BN s (Ht w.heap.size _ _ _) (jS _);obtain⟨w3,ah⟩:=Ag (o.setCells w.heap.size (i*4) X);rw[ah]at M v R;obtain⟨j,y⟩:=Ag w3.drew
 have S:Aa j w.heap.size tE ((c++X)++((b.drop 4).take D.length++(b.drop 4).drop D.length)):=by
  rw[lh,ls, <-y];exact v.cQ
 have T:w.grownBy j V:=by rw[<-y];exact Ae R (AS w3 1 V)
 have ai:Aa j g tE (c++(D++[])):=by rw[lX];exact k.grown T Δ
 have aj:(b.drop 4).length=(m - i)*4 - 4:=by rw[kK,t]
 have ak:=λN Q sc=>LQ j N w.heap.size ((i+1)*4) (n - i) Q (n - i) ⟨g,i*4,V⟩ (n - i) sc _ D S (by simp only[qT];split<;>omega) (by simp only[jU,kA,kK,d,l,t];omega) f (Mk ai d) C
 have U:=Hu w.heap.size tE D ((b.drop 4).take D.length) (c++X) ((b.drop 4).drop D.length) j (by rw[kA,aj,f];omega) S;rw[show(c++X).length=(i+1)*4 by rw[jU,d,l];omega]at U
 have ar:Hd (BB (j.setCells w.heap.size ((i+1)*4) D) w.heap.size tE 4 (E (Z ⟨w.heap.size,0,V⟩) (n+1) m) (n+1) (c++(X++D))):=zh (by
  refine Mu (sp:=(b.drop 4).drop D.length) (by rw[show c++(X++D)++(b.drop 4).drop D.length=(c++X)++(D++(b.drop 4).drop D.length) by simp];exact U) (jS _) L ad ?_ ?_
  ·simp only[jU,kK,d,l,t];omega
  ·simp only[jU,d,l,f]
   omega)
 have au:Hd (w.grownBy (j.setCells w.heap.size ((i+1)*4) D) V):=zh (BN T (Ht w.heap.size _ _ _) (jS _));have av:=zh p;have aw:=zh M;have ax:=zh ak;have aA:¬m=i:=Ω;have aB:¬m=i+1:=Ω;have aC:¬n=i:=Ω;have aD:((i:Int)==(n:Int))=BA:=lu.2 Ω;have aE:J.wrap ((n:Int)+1)=(n:Int)+1:=AA _ ⟨Ω,Ω⟩;have aF:J.wrap ((n:Int)+1 - i)=(n:Int)+1 - i:=AA _ ⟨Ω,Ω⟩;have aG:J.wrap ((i:Int)+1)=(i:Int)+1:=AA _ ⟨Ω,Ω⟩;have k0:(0:Int)<=(i:Int)+1:=Ω;have k1:(i:Int)<=(n:Int):=Ω;have k2:(n:Int)<(n:Int)+1:=Ω;have k3:(i:Int)+1<=(n:Int)+1:=Ω;have k4:(i:Int)<=(n:Int)+1:=Ω;have k5:((i:Int)+1).toNat=i+1:=Ω;clear k q v ae S ai U B af ap p M ak L ad r t aj d f l C F ao s R T ah
 go_enter pT,pK
 have ay:=aw.o;go_wp2_with (at_builtin;refine Lib.wpList_append_run _ rfl _ _ _ _ rfl _ _ rfl rfl _ _ av.o ?_);clear ay;refine FQ (λ_=>True) [([],[0,1,2,3,4,5,6,7],8,BA)] Φ Φ ?_;refine Dh ?_;rw[y];clear y
 iterate 8 ((apply AB rfl Θ;(· intro wS z;(try have z:=z rfl);(try dsimp only at z);(try subst z);go_simp;(try with_reducible rfl)));refine Ak ?_)
 refine Aj ?_;refine AH rfl (λK hK=>?_);refine Qh Θ _ _ tS tS Θ Θ Θ (ax.o _ _ _) (hK _ _ ⟨_,λ_ h=>h,λhf=>(by cases hf),?_⟩);clear hK K;refine Ak ?_;refine Fv (Bd ?_);go_wp2_with fail;go_ret;exact⟨_,rfl,ar.o,au.o⟩
theorem WA(a:List Af)(x:Af)(i g B c l:Nat)(b:List Bx)(w:Bs)(hx:a.length<=255)(hi:i<a.length)(W:B<=g)(Y:c<=BC)(aa:a.length+1<=c)(p:Aa w g tE (Av a++b))(ab:(Av a++b).length=c*4)(q:Aa w l tE x.cells)(v:l≠g):
  BR Ax 242 #[E (Z ⟨g,0,V⟩) a.length c,O J i,E (Z ⟨l,0,V⟩) 1 1] w λe w'=>e=A2 (E (Z ⟨g,0,V⟩) (a.length+1) c)/\w'.ownsRow B 237 4 (E (Z ⟨g,0,V⟩) (a.length+1) c) (a.length+1) (Av (a.take i++x::a.drop i))/\w.grownBy w' (Z g):=by
 have y:=Fx a;have hcut:=SP a i Ω
 have f:(Av (a.take i)).length=i*4:=by rw[Fx,kA];congr 1;omega
 have d:(Av (a.drop i)).length=(a.length - i)*4:=by rw[Fx,kK]
 have ad:Av (a.take i++x::a.drop i)=Av (a.take i)++(x.cells++Av (a.drop i)):=by
  rw[Ex,show x::a.drop i=[x]++a.drop i from rfl,Ex,Gw]
 have z:∀u∈Av (a.drop i),u.oneCell'=BD:=Mq _
 have A:∀u∈x.cells,u.oneCell'=BD:=by simp[A4,Af.cells]
 rw[ad];obtain⟨n,hn⟩:=Ag a.length;rw[hn]at hx hi y d aa⊢
 have af:b.length=(c - n)*4:=by rw[jU,y]at ab;omega
 rw[hcut]at p;obtain⟨j,C⟩:∃P,Av (a.take i)=P:=⟨_,rfl⟩;obtain⟨D,F⟩:∃P,Av (a.drop i)=P:=⟨_,rfl⟩;obtain⟨X,G⟩:∃P,x.cells=P:=⟨_,rfl⟩
 have H:X.length=4:=by rw[<-G];rfl
 rw[C,F]at p⊢;rw[C]at f;rw[F]at d z;rw[G]at q A⊢;clear C F G ad hcut y hn ab;have an:=zh (λlb cb=>cm w l g ((i+1)*4) lb cb X _ q p v (by simp only[jU,f,d];omega));obtain⟨m,r⟩:=Ag w.drew
 have ag:w.grownBy m V:=by rw[<-r];exact AS w 1 V
 have I:Aa m g tE (j++(D++b)):=by rw[<-ls, <-r];exact p.cQ
 have o:(D++b).length=(c - i)*4:=by rw[jU,d,af];omega
 have L:Aa m g tE ((j++(D++b).take 4)++(((D++b).drop 4).take D.length++((D++b).drop 4).drop D.length)):=by
  rw[lh,ls,lh];exact I
 have M:(j++(D++b).take 4).length=(i+1)*4:=by rw[jU,kA,f,o];omega
 have N:=λQ R sc=>LQ m Q g ((i+1)*4) (n - i) R (n - i) ⟨g,i*4,V⟩ (n+1 - i) sc _ D L (by simp only[qT];split<;>omega) (by rw[lh,jU,M,kK,o];omega) d (Mk I f) z
 have s:=Hu g tE D (((D++b).drop 4).take D.length) (j++(D++b).take 4) (((D++b).drop 4).drop D.length) m (by rw[kA,kK,o,d];omega) L;rw[M]at s;obtain⟨k,ah⟩:=Ag (m.setCells g ((i+1)*4) D)
 have S:w.grownBy k (Z g):=by rw[<-ah];exact Ae (Ki ag _) (Ht g _ _ _)
 rw[ah]at N s;have ai:Aa k l tE X:=q.grown S (by simp;exact v)
 have T:Aa k g tE (j++((D++b).take 4++(D++((D++b).drop 4).drop D.length))):=by rw[<-ls];exact s
 have aj:=λQ R=>LQ k Q g (i*4) (n+1 - i) R 1 ⟨l,0,V⟩ 1 1 _ X T (by simp only[qT];split<;>omega) (by simp only[jU,kA,f,d];omega) Ω (Mk (pre:=[]) (post:=[]) (by simpa using ai) rfl) A
 have U:=Hu g tE X ((D++b).take 4) j (D++((D++b).drop 4).drop D.length) k (by rw[kA,o];omega) T;rw[f]at U
 have ar:Hd (BB (k.setCells g (i*4) X) B tE 4 (E (Z ⟨g,0,V⟩) (n+1) c) (n+1) (j++(X++D))):=zh (by
  refine Mu (sp:=((D++b).drop 4).drop D.length) (by rw[show j++(X++D)++((D++b).drop 4).drop D.length=j++(X++(D++((D++b).drop 4).drop D.length)) by simp];exact U) W aa Y ?_ ?_
  ·rw[jU,kK,kK,o];simp only[jU,f,H,d];omega
  ·simp only[jU,f,H,d]
   omega)
 have au:Hd (w.grownBy (k.setCells g (i*4) X) (Z g)):=zh (Ae S (Ht g _ _ _));have av:=zh N;have aw:=zh aj;have az:¬c=i:=Ω;have aA:¬c=i+1:=Ω;have aB:¬(c:Int)<(n:Int)+1:=Ω;have aC:((i:Int)==(n:Int))=BA:=lu.2 Ω;have aD:J.wrap ((n:Int)+1)=(n:Int)+1:=AA _ ⟨Ω,Ω⟩;have aE:J.wrap ((i:Int)+1)=(i:Int)+1:=AA _ ⟨Ω,Ω⟩;have k0:(0:Int)<=(i:Int)+1:=Ω;have k1:(i:Int)<=(n:Int):=Ω;have k2:(n:Int)+1<=(c:Int):=Ω;have k3:(i:Int)+1<=(n:Int)+1:=Ω;have k4:(i:Int)<=(n:Int)+1:=Ω;have k5:((i:Int)+1).toNat=i+1:=Ω;have k6:((n:Int)+1).toNat=n+1:=Ω;have k7:(0:Int)<=(n:Int)+1:=Ω;clear p I L s T U q ai N aj f d H z A o M af ag S Y W v
 go_enter pT,pK
 have ax:=an.o;go_wp2_with (simp only[ax]);refine FQ (λ_=>True) [([],[0,1,2,3,4,5,6,7],8,BA)] Φ Φ ?_;refine Dh ?_;rw[r];clear r
 iterate 8 ((apply AB rfl Θ;(· intro wS t;(try have t:=t rfl);(try dsimp only at t);(try subst t);go_simp;(try with_reducible rfl)));refine Ak ?_)
 refine Aj ?_;refine AH rfl (λK hK=>?_);refine Qh Θ _ _ tS tS Θ Θ Θ (av.o _ _ _) (hK _ _ ⟨_,λ_ h=>h,λhf=>(by cases hf),?_⟩);clear hK K;refine Ak ?_;refine Fv (Bd ?_);have aO:=aw.o;go_wp2_with fail;go_ret;exact⟨rfl,ar.o,au.o⟩
theorem WY(a:List Af)(x:Af)(i B b:Nat)(v:Bx)(w:Bs)(f:a.length<=255)(s:i<=a.length)(m:w.ownsRow B 237 4 v a.length (Av a))(h:Aa w b 237 x.cells)(t:v.ownBlock≠Z b)(n:B<=w.heap.size):
  BR Ax 242 #[v,O J i,E (Z ⟨b,0,V⟩) 1 1] w λe d=>∃o,e=A2 o/\d.ownsRow B 237 4 o (a.length+1) (Av (a.take i++x::a.drop i))/\w.grownBy d v.ownBlock:=by
 rcases Nat.eq_or_lt_of_le s with u|p
 ·rw[u,mI,List.drop_length];exact WI a x B b v w f m h n
 ·obtain⟨g,c,q,rfl,y,j,D,z,r⟩:=Oe m Ω
  by_cases A:a.length+1<=c
  ·refine(WA a x i g B c b q w f p y z A j r h (λe=>t (by rw[e];rfl))).mono ?_;rintro e d ⟨rfl,k,l⟩;exact⟨_,rfl,k,l⟩
  ·obtain rfl:c=a.length:=by omega
   have C:q=[]:=by
    refine kV ?_;rw[jU,Fx]at r;omega
   subst C;rw[lX]at j;refine(VX a x i g b w f p j h).mono ?_;rintro e d ⟨F,rfl,k,l⟩;exact⟨_,rfl,BQ k n,Ki l _⟩
def Dd(a:List Af)(x:Af)(i:Nat)(b:Bool):List Af:=a.take i++x::a.drop (if b=BD then i+1 else i)
theorem Sp(a:List Af)(x:Af)(i:Nat):Av (a.take i++x::a.drop (i+1))=Av (a.take i)++(x.cells++Av (a.drop (i+1))):=by
 rw[Ex,show x::a.drop (i+1)=[x]++a.drop (i+1)from rfl,Ex,Gw]
theorem OV(d p:Int)(b:List Af)(x:Af)(a:Option B9)(c:Nat)(w:Bs)(hx:b.length<=255)(hs:b.Pairwise (λx y=>U x.h<U y.h))(hr:Ai w 4 (E a b.length c) b.length (Av b)):
  BR Ax 195 #[B4 #[O J d,O J p,E a b.length c],x.val] w λe w'=>∃(i:Nat) (a':Option B9) (c':Nat),Ef b (U x.h) i/\e=A2 (B4 #[O J d,O J p,E a' (Dd b x i (AW b (U x.h) i)).length c'])/\Ai w' 4 (E a' (Dd b x i (AW b (U x.h) i)).length c') (Dd b x i (AW b (U x.h) i)).length (Av (Dd b x i (AW b (U x.h) i)))/\w.grownBy w' V:=by
 have HR:=zh hr;have HS:=zh hs;have aC:Hd (x.cells=[O B8 (U x.h),O J x.r,O J x.a,O J x.s]):=zh rfl;unfold Af.val;obtain⟨h,hh⟩:=Ag (U x.h);obtain⟨r,aE⟩:=Ag x.r;obtain⟨H,aF⟩:∃r,x.a=r:=⟨_,rfl⟩;obtain⟨s,aG⟩:∃r,x.s=r:=⟨_,rfl⟩;rw[hh,aE,aF,aG]at aC;rw[hh,aE,aF,aG];clear hr hs hh aE aF aG
 go_enter Tryz.func195,Tryz.ntmps195
 go_wp2_with fail;obtain⟨P,hP⟩:=Ag w.heap.size;obtain⟨wx,af⟩:=Ag (w.alloc (Bn #[O J d,O J p,E a b.length c] 160));obtain⟨wy,I⟩:=Ag (wx.alloc (Bn #[O B8 h,O J r,O J H,O J s] 237));obtain⟨w1,L⟩:=Ag (wy.alloc (Bn #[O J 0,O J 0,E V 0 0] 160))
 have aJ:wx.heap.size=P+1:=by rw[<-af,Bk,hP]
 have a9:wy.heap.size=P+2:=by rw[<-I,Bk,aJ]
 have ba:Aa w1 P 160 [O J d,O J p,E a b.length c]:=by rw[<-L, <-I, <-af, <-hP];exact((Aa.new w _ _).alloc _).alloc _
 have bb:Aa w1 (P+1) 237 [O B8 h,O J r,O J H,O J s]:=by rw[<-L, <-I, <-aJ];exact(Aa.new wx _ _).alloc _
 have bc:Aa w1 (P+1+1) 160 [O J 0,O J 0,E V 0 0]:=by rw[<-L, <-a9];exact Aa.new wy _ _
 have aK:w.grownBy w1 V:=by rw[<-L, <-I, <-af];exact Ae (Ae (Y _ _ V) (Y _ _ V)) (Y _ _ V)
 rw[af,I,L,hP];have k:=zh ba;have l:=zh bb;have f:=zh bc;have bd:=zh aK;have au:Hd (w.heap.size=P):=zh hP;have be:=zh (Od d p b h a c w1 Ω HS.o (HR.o.grown aK Δ));clear L af I aJ a9 ba bb bc aK hP
 have M:=k.o.m 0;have N:=k.o.m 1;have Q:=k.o.m 2
 have A:=l.o.m 0;go_wp2_with fail;refine be.o.mono ?_;rintro e B ⟨i,rfl,bf,g2⟩;have aL:=zh bf;have k:=zh (k.o.grown g2 Δ);have l:=zh (l.o.grown g2 Δ);have f:=zh (f.o.grown g2 Δ);have aM:=zh (Ae bd.o g2);have R:Hd (P+2<B.heap.size):=zh f.o.lt;clear bf g2 bd be M N Q A
 have M:=k.o.m 0;have N:=k.o.m 1;have Q:=k.o.m 2
 go_wp2_with fail;refine(QS b a c B Ω (HR.o.grown aM.o Δ)).mono ?_;rintro e m ⟨v3,rfl,o3,S⟩;have k:=zh (k.o.grown S Δ);have l:=zh (l.o.grown S Δ);have f:=zh (f.o.grown S Δ);have av:=zh (Ae aM.o S);have bt:Hd (B.heap.size<=m.heap.size):=zh S.size;have ai:=zh o3;clear o3 S aM M N Q
 have aw:AW b h i=BD->i<b.length:=λe=>by
  unfold AW at e;rw[kh]at e;exact kQ e.1
 obtain⟨tb,aO⟩:=Ag (AW b h i);rw[aO]at aw⊢;have bh:=zh aO;clear aO
 have M:=k.o.m 0;have N:=k.o.m 1;have Q:=k.o.m 2
 have A:=l.o.m 0;have T:=l.o.m 1;have X:=l.o.m 2;have y3:=l.o.m 3
 cases tb
 ·clear aw;have bv:=aL.o.le;go_wp2_with fail;refine FQ (λW=>Aa W P 160 [O J d,O J p,E a b.length c]) [([0],[1,2,3],4,BD),([],[],5,BD),([],[],6,BA),([],[],7,BA)] Φ Φ ?_;obtain⟨C,aP⟩:=Ag m.drew
  have D:m.grownBy C V:=by rw[<-aP];exact AS m 1 V
  rw[aP];have bw:Hd (m.heap.size<=C.heap.size):=zh D.size;have k:=zh (k.o.grown D Δ);have l:=zh (l.o.grown D Δ);have f:=zh (f.o.grown D Δ);have av:=zh (Ae av.o D);have ai:=zh (AP ai.o D);clear aP D M N Q A T X y3
  have A:=l.o.m 0;have T:=l.o.m 1;have X:=l.o.m 2;have y3:=l.o.m 3
  refine Jr k.o ?_
  iterate 1 ((apply AB rfl Θ;(· intro wS n;(try have n:=n rfl);(try dsimp only at n);have c0:=n.m 0;have c1:=n.m 1;have c2:=n.m 2;go_simp;(try with_reducible rfl)));refine Ak ?_)
  refine Aj ?_
  iterate 3 ((apply AB rfl Θ;(· intro wS n;(try have n:=n rfl);(try dsimp only at n);(try subst n);go_simp;(try with_reducible rfl)));refine Ak ?_)
  refine Aj ?_;refine Al ?_;intro K o;have aa:=Y C (Bn #[O B8 h,O J r,O J H,O J s] 237) V;have HV:=zh (Aa.new C 237 [O B8 h,O J r,O J H,O J s]);have k:=zh (k.o.grown aa Δ);have f:=zh (f.o.grown aa Δ);have aQ:=zh (AP ai.o aa);have bA:=zh (Ae av.o aa);have bB:Hd (v3.ownBlock≠Z C.heap.size):=zh (λe=>by have:=(ai.o.lt _ e).2;omega)
  have bC:Hd (B.heap.size<=(C.alloc (Bn #[O B8 h,O J r,O J H,O J s] 237)).heap.size):=zh (by
   have h1:=bt.o;have h2:=aa.size;have h3:=bw.o
   omega)
  refine o _ _ ⟨_,λ_ h=>h,λ_=>k.o,?_⟩;clear o K aa A T X y3;refine Ak ?_;refine Dh ?_;refine Aj ?_;refine Al ?_;intro K o;refine(WY b x i B.heap.size C.heap.size v3 _ hx bv aQ.o (by rw[aC.o];exact HV.o) bB.o bC.o).mono ?_;rintro e w5 ⟨v5,rfl,o5,g5⟩;obtain⟨a5,c5,rfl⟩:=(Ai.aj o5).slice;dsimp only
  have aS:∀q,v3.ownBlock=Z q->B.heap.size<=q:=λq hq=>(aQ.o.lt q hq).1
  have k:=zh (k.o.grown g5 (λe=>by have:=aS _ e.symm;have:=R.o;omega));have f:=zh (f.o.grown g5 (λe=>by have:=aS _ e.symm;have:=R.o;omega));have aT:=zh (Gt bA.o aQ.o (by have:=R.o;have:=au.o;omega) g5);have aU:=zh o5;refine o _ _ ⟨_,λ_ h=>h,λ_=>k.o,?_⟩;clear o K o5 g5 aS;refine Ak ?_;refine Dh ?_;refine Aj ?_;refine Al ?_;intro K o;refine(KC d p (E a b.length c) (E a5 (b.length+1) c5) a a5 _ _ c c5 rfl rfl _).mono ?_;rintro e w6 ⟨rfl,t⟩;dsimp only;have f:=zh (f.o.grown t Δ);have aV:=zh (Ae aT.o t);have al:=zh (AP aU.o t);refine o _ _ ⟨_,λ_ h=>h,λhf=>(by cases hf),?_⟩;clear o K t;refine Ak ?_
  have A:=f.o.m 0;have T:=f.o.m 1;have X:=f.o.m 2
  have f0:=f.o.v 0;have f1:=f.o.v 1;have f2:=f.o.v 2
  refine Dh ?_;refine Aj ?_;refine Al ?_;intro K o;refine As o ?_;clear o K;refine Fv (Bd ?_);go_wp2_with fail;have z:=((f.o.setCell 0 (O J d)).setCell 1 (O J p)).setCell 2 (E a5 (b.length+1) c5);have am:w6.grownBy (((w6.setCell ⟨P+1+1,0,V⟩ (O J d)).setCell ⟨P+1+1,1,V⟩ (O J p)).setCell ⟨P+1+1,2,V⟩ (E a5 (b.length+1) c5)) (Z (P+1+1)):=Ae (Ae (An _ _ _) (An _ _ _)) (An _ _ _);simp only[ku,kM]at z
  have z0:=z.m 0;have z1:=z.m 1;have z2:=z.m 2
  refine A3 (v:=B4 #[O J d,O J p,E a5 (b.length+1) c5]) (by simp[BE,BX,go_sem,z0,z1,z2]) rfl ?_
  have aq:Dd b x i (AW b h i)=b.take i++x::b.drop i:=by rw[bh.o];rfl
  have ad:(b.take i++x::b.drop i).length=b.length+1:=by rw[jU,kj,kA,kK];omega
  refine⟨i,a5,c5,aL.o,by rw[aq,ad],?_,BN aV.o am (Ψ au.o)⟩;rw[aq,ad];refine(Ai.aj al.o).grown am (λq hq e=>?_)
  cases hq
  have h1:=(al.o.lt _ e).1;have h2:=R.o;omega
 ·have bH:=aw rfl;clear aw;obtain⟨g,F,sp,rfl,hB,hb,bk,bl,hl⟩:=Oe ai.o Ω;have aZ:=QP b i bH
  have a0:(Av (b.take i)).length=i*4:=by rw[Fx,kA];congr 1;omega
  have G:Aa m g tE (Av (b.take i)++((b.getD i Af.ad).cells++(Av (b.drop (i+1))++sp))):=by
   rw[aZ]at hb;rw[<-ls (b.getD i Af.ad).cells, <-ls];exact hb
  have ar:∀j,j<4->(∃u,m.cell? ⟨g,i*4+j,V⟩=Z u):=λj hj=>by
   refine⟨(b.getD i Af.ad).cells[j]'(by exact hj),G.aq ?_⟩;rw[lf Ω,a0,show i*4+j - i*4=j by omega,lj (by exact hj)];exact jW _
  obtain⟨u0,q0⟩:=ar 0 Ω;obtain⟨u1,q1⟩:=ar 1 Ω;obtain⟨u2,q2⟩:=ar 2 Ω;obtain⟨u3,q3⟩:=ar 3 Ω;rw[lD]at q0
  have bL:=G.v (i*4);have bM:=G.v (i*4+1);have bN:=G.v (i*4+2);have bO:=G.v (i*4+3)
  have bW:(i:Int)<(b.length:Int):=Ω;obtain⟨wl,bo⟩:=Ag ((((m.setCell ⟨g,i*4,V⟩ (O B8 h)).setCell ⟨g,i*4+1,V⟩ (O J r)).setCell ⟨g,i*4+2,V⟩ (O J H)).setCell ⟨g,i*4+3,V⟩ (O J s))
  have a1:m.setCells g (i*4) x.cells=wl:=by rw[aC.o, <-bo];rfl
  have bp:Aa wl g tE ((Av (b.take i)++(x.cells++Av (b.drop (i+1))))++sp):=by
   have:=Hu g tE x.cells (b.getD i Af.ad).cells (Av (b.take i)) (Av (b.drop (i+1))++sp) m rfl G;rw[a0,a1]at this;rw[ls,ls];exact this
  have aB:m.grownBy wl (Z g):=by rw[<-a1];exact Ht g _ _ _
  have bP:P+2<g:=jY R.o hB;have k:=zh (k.o.grown aB Γ);have f:=zh (f.o.grown aB Γ);have aT:=zh (BN av.o aB (Ψ au.o))
  have ad:(b.take i++x::b.drop (i+1)).length=b.length:=by rw[jU,kj,kA,kK];omega
  have aU:Hd (wl.ownsRow B.heap.size tE 4 (E (Z ⟨g,0,V⟩) b.length F) b.length (Av (b.take i++x::b.drop (i+1)))):=zh (by
   rw[Sp];refine Mu bp hB bk bl ?_ ?_
   ·rw[aZ]at hl;simp only[jU]at hl⊢;exact hl
   ·rw[<-Sp,Fx,ad])
  have bq:=zh ad
  have z0:=k.o.m 0;have z1:=k.o.m 1;have z2:=k.o.m 2
  clear hB hb bk bl hl aZ a0 G ar a1 bp aB bP ad;go_wp2_with fail;refine(KC d p (E a b.length c) (E (Z ⟨g,0,V⟩) b.length F) a (Z ⟨g,0,V⟩) _ _ c F rfl rfl _).mono ?_;rintro e w6 ⟨rfl,t⟩;have f:=zh (f.o.grown t Δ);have aV:=zh (Ae aT.o t);have al:=zh (AP aU.o t);clear t bo M N Q A T X y3 q0 q1 q2 q3 bL bM bN bO z0 z1 z2
  have A:=f.o.m 0;have T:=f.o.m 1;have X:=f.o.m 2
  have f0:=f.o.v 0;have f1:=f.o.v 1;have f2:=f.o.v 2
  go_wp2_with fail;have z:=((f.o.setCell 0 (O J d)).setCell 1 (O J p)).setCell 2 (E (Z ⟨g,0,V⟩) b.length F);have am:w6.grownBy (((w6.setCell ⟨P+1+1,0,V⟩ (O J d)).setCell ⟨P+1+1,1,V⟩ (O J p)).setCell ⟨P+1+1,2,V⟩ (E (Z ⟨g,0,V⟩) b.length F)) (Z (P+1+1)):=Ae (Ae (An _ _ _) (An _ _ _)) (An _ _ _);simp only[ku,kM]at z
  have z0:=z.m 0;have z1:=z.m 1;have z2:=z.m 2
  refine A3 (v:=B4 #[O J d,O J p,E (Z ⟨g,0,V⟩) b.length F]) (by simp[BE,BX,go_sem,z0,z1,z2]) rfl ?_
  have aq:Dd b x i (AW b h i)=b.take i++x::b.drop (i+1):=by rw[bh.o];rfl
  refine⟨i,Z ⟨g,0,V⟩,F,aL.o,by rw[aq,bq.o],?_,BN aV.o am (Ψ au.o)⟩;rw[aq,bq.o];refine(Ai.aj al.o).grown am (λq hq e=>?_)
  cases hq
  have h1:=(al.o.lt _ e).1;have h2:=R.o;omega
end
section
open Go Go.RowKit
attribute [local go_sem ↓] Go.wp_at_zero Go.wp_at_succ
def Lg(x:Af):Bx:=B4 #[O J x.r,O J x.a,O J x.s]
theorem Sr(d p:Int)(f:List Af)(h:Int)(a:Option B9)(c:Nat)(w:Bs)(hx:f.length<=300)(G:f.Pairwise (λx y=>U x.h<U y.h))(H:Ai w 4 (E a f.length c) f.length (Av f)):
  BR Ax 179 #[B4 #[O J d,O J p,E a f.length c],O B8 h] w λe w'=>∃i:Nat,Ef f h i/\e=A2 (BL #[Lg (if AW f h i=BD then f.getD i Af.ad else Af.ad),B6 (AW f h i)])/\w.grownBy w' V:=by
 have I:=zh H;have HS:=zh G;clear H G
 go_enter Tryz.func179,Tryz.ntmps179
 go_wp2_with fail;obtain⟨l,k⟩:=Ag ((w.alloc (Bn #[O J d,O J p,E a f.length c] 160)).alloc (Bn #[O J 0,O J 0,O J 0] 128))
 have K:Aa l w.heap.size 160 [O J d,O J p,E a f.length c]:=by rw[<-k];exact(Aa.new w _ _).alloc _
 have L:Aa l (w.heap.size+1) 128 [O J 0,O J 0,O J 0]:=by
  rw[<-k];have:=Aa.new (w.alloc (Bn #[O J d,O J p,E a f.length c] 160)) 128 [O J 0,O J 0,O J 0];rw[Bk]at this;exact this
 have s:w.grownBy l V:=by rw[<-k];exact Ae (Y w _ V) (Y _ _ V)
 rw[k];have t:=zh K;have g:=zh L;have M:=zh s;have N:=zh (Od d p f h a c l hx HS.o (I.o.grown s Δ));clear k K L s;refine N.o.mono ?_;rintro e m ⟨i,rfl,P,n⟩;have Q:=zh P;have t:=zh (t.o.grown n Δ);have g:=zh (g.o.grown n Δ);have u:=zh (Ae M.o n);clear P n M N
 have q:AW f h i=BD->i<f.length:=λe=>by
  unfold AW at e;rw[kh]at e;exact kQ e.1
 obtain⟨tb,z⟩:=Ag (AW f h i);rw[z]at q⊢;have R:=zh z;clear z
 have y0:=g.o.m 0;have y1:=g.o.m 1;have y2:=g.o.m 2
 have f0:=g.o.v 0;have f1:=g.o.v 1;have f2:=g.o.v 2
 cases tb
 ·clear q;go_wp2_with fail;have j:=((g.o.setCell 0 (O J 0)).setCell 1 (O J 0)).setCell 2 (O J 0);have A:m.grownBy (((m.setCell ⟨w.heap.size+1,0,V⟩ (O J 0)).setCell ⟨w.heap.size+1,1,V⟩ (O J 0)).setCell ⟨w.heap.size+1,2,V⟩ (O J 0)) (Z (w.heap.size+1)):=Ae (Ae (An _ _ _) (An _ _ _)) (An _ _ _);simp only[ku,kM]at j
  have B:=j.m 0;have C:=j.m 1;have D:=j.m 2
  refine A3 (v:=BL #[B4 #[O J 0,O J 0,O J 0],B6 BA]) (by simp[BE,B0,go_sem,B,C,D]) rfl ?_;exact⟨i,Q.o,by rw[R.o];rfl,BN u.o A Ω⟩
 ·have ag:=q rfl;obtain⟨b,o,rfl,r⟩:=(I.o.grown u.o Δ).aZ Ω;obtain⟨e0,S,T,W⟩:=FS f i ag
  have X:=r _ _ S;have x2:=r _ _ T;have x3:=r _ _ W
  simp only[<-lw]at X x2 x3;have ap:(i:Int)<(f.length:Int):=Ω;obtain⟨x,F⟩:=Ag (f.getD i Af.ad);rw[F]at X x2 x3;have ai:=zh F;have q2:=t.o.m 2;clear F r e0 S T W q;go_wp2_with fail;have j:=((g.o.setCell 0 (O J x.r)).setCell 1 (O J x.a)).setCell 2 (O J x.s);have A:m.grownBy (((m.setCell ⟨w.heap.size+1,0,V⟩ (O J x.r)).setCell ⟨w.heap.size+1,1,V⟩ (O J x.a)).setCell ⟨w.heap.size+1,2,V⟩ (O J x.s)) (Z (w.heap.size+1)):=Ae (Ae (An _ _ _) (An _ _ _)) (An _ _ _);simp only[ku,kM]at j
  have B:=j.m 0;have C:=j.m 1;have D:=j.m 2
  refine A3 (v:=BL #[B4 #[O J x.r,O J x.a,O J x.s],B6 BD]) (by simp[BE,B0,go_sem,B,C,D]) rfl ?_;exact⟨i,Q.o,by rw[R.o,ke rfl,ai.o];rfl,BN u.o A Ω⟩
end
