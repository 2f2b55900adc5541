/- Lemmas. -/
import Derived.Test.YtcedibmdelehdaaGreatDoorG23
import Derived.Test.YtcedibmdelehdaaGreatDoorG24
import Derived.Laws.Externs
import Derived.Lib.Overlaps
namespace Go.Proofs.YtcedibmdelehdaaGreatDoor
set_option maxRecDepth 100000
set_option maxHeartbeats 32000000
open Go.Value renaming slice->E,int->O,oneCell'->A4,tuple->BC,ownBlock->BZ,agg->B0,bool->B2
open Go.IntKind renaming i64->J,u64->B4
open Option renaming none->V,some->Z
open Go.World renaming grownBy_alloc->Y,size_alloc->A6,ownsRow->Bs
open Go.Proofs.Tryz renaming prog->Ax,results195->BE,results179->BL,results110->BR,ntmps169->B1,func169->B3
open Go.IntWalk renaming i64_in->AA
open Go.Ending renaming returned->A2
open Go renaming bodyPost_ret->A3,World->Bd,Value->Bk,maxLen->Bx,results->BB,Calls->BD,info_parts->BX,Addr->B5
open Go.NoPanic renaming normal->A5
open Go.Obj renaming cells->A7
open Bool renaming false->Bn,true->BA
variable{f:List Bk}{h:Bd}{a c d e:Nat}{b:Bk}
section
open Go Go.RowKit
theorem MG{T k:TypeId}{l:List Bk}(i:Aa h a T f)(m:h.ownsRow c k d b e l)(n:T≠k):b.ownBlock≠Z a:=by
 intro j
 rcases m.2 with⟨rfl,_⟩|⟨g,p,q,rfl,_,o,_⟩
 ·simp[BZ]at j
 ·simp[BZ]at j;subst j;unfold Aa at i;rw[o]at i;simp at i;exact n i.2.symm
theorem Q6(b:List Ah)(a:Option B5)(c:Nat)(w:Bd)(z:b.length<=300)(d:Ag w 4 (E a b.length c) b.length (Aw b)):
  BD Ax 169 #[E a b.length c] w λe g=>∃v,e=A2 v/\g.ownsRow w.heap.size 237 4 v b.length (Aw b)/\w.grownBy g V:=by
 obtain⟨k,l,m,o,p⟩:=BX GM
 cases a with
 |none=>
  have q:b=[]:=by
   rcases d.2.2 with⟨h,_⟩|⟨_,_,h,_⟩
   ·simp at h;exact h.1
   ·cases h
  subst q
  have r:c=0:=by
   rcases d.2.2 with⟨h,_⟩|⟨_,_,h,_⟩
   ·simp at h;exact h
   ·cases h
  subst r
  have s:=λW=>Lib.run_eql_slice_nil (P:=Ax) W 158 237 V 0 0 0 0 kX
  clear d
  go_enter B3,B1
  go_wp2_with fail;go_ret;exact⟨_,rfl,World.ownsRow_nil _ _ _ _,Bo _ _⟩
 |some i=>
  have s:=λW=>Lib.run_eql_slice_nil (P:=Ax) W 158 237 (Z i) b.length c 0 0 kX
  have t:Hd ((w.alloc (A7 #[] 237)).ownsRow w.heap.size 237 4 (E (Z ⟨w.heap.size,0,V⟩) 0 0) 0 []):=zh (World.ownsRow_made w #[] 0 (jF _) Δ Δ);have u:=zh (d.u (Y w (A7 #[] 237) V) Δ);clear d
  go_enter B3,B1
  go_wp2_with (at_builtin;refine Gg rfl _ _ 158 rfl w.heap.size 237 k _ 4 32 kX l m o p rfl Ξ (v:=E (Z ⟨w.heap.size,0,V⟩) 0 0) (n:=0) (xs:=[]) (sv:=E (Z i) b.length c) rfl t.o rfl u.o (MC b) (by unfold Bx;omega) Ω Δ ?_;intro A B f j _;rw[lN,jX]at f;have x:=zh (JH j);have y:=zh f;clear f j);go_ret;exact⟨_,rfl,y.o,x.o⟩
theorem Ou(j:h.ownsRow c tE 4 b a f)(q:0<a):∃g d e,b=E (Z ⟨g,0,V⟩) a d/\c<=g/\Aa h g tE (f++e)/\a<=d/\d<=Bx/\(f++e).length=d*4:=by
 rcases j.2 with⟨_,r⟩|⟨g,d,k,rfl,l,m,n,o,p,i⟩
 ·omega
 ·refine⟨g,d,k.toList.drop (a*4),rfl,l,?_,n,o,?_⟩
  ·rw[<-i,kF];exact m
  ·rw[<-i,kF,mO,p]
theorem MH{sp:List Bk}(g:Aa h d tE (f++sp))(i:e<=d)(j:a<=c)(k:c<=Bx)(l:(f++sp).length=c*4)(b:f.length=a*4):h.ownsRow e tE 4 (E (Z ⟨d,0,V⟩) a c) a f:=
 JI g i j k l (by rw[<-b,qm];rfl) b
theorem QY(a:List Ah)(i:Nat)(h:i<a.length):Aw a=Aw (a.take i)++((a.getD i Ah.af).cells++Aw (a.drop (i+1))):=by
 rw[<-GJ (a.getD i Ah.af), <-EG, <-EG]
 congr 1
 rw[show a.getD i Ah.af=a[i] by simp[List.getD,h],List.singleton_append,qj,kF]
theorem Rm(b:List Ah)(i B:Nat)(v:Bk)(w:Bd)(hx:b.length<=300)(R:i<b.length)(s:w.ownsRow B 237 4 v b.length (Aw b)):
  BD Ax 170 #[v,O J i,O J ((i:Int)+1)] w λe S=>∃T,e=A2 T/\S.ownsRow B 237 4 T (b.take i++b.drop (i+1)).length (Aw (b.take i++b.drop (i+1)))/\w.grownBy S v.ownBlock:=by
 obtain⟨g,c,l,rfl,U,p,ak,al,t⟩:=Ou s Ω;obtain⟨n,W⟩:=Af b.length;have Y:=QY b i R;have aa:=Fy b
 have ab:(b.take i++b.drop (i+1)).length=n - 1:=by rw[jI,jW,j0];omega
 have x:(Aw (b.take i)).length=i*4:=by rw[Fy,jW];congr 1;omega
 have y:(Aw (b.drop (i+1))).length=(n - 1 - i)*4:=by rw[Fy,j0];congr 1;omega
 have C:(b.getD i Ah.af).cells.length=4:=rfl;have F:∀u∈Aw (b.drop (i+1)),u.oneCell'=BA:=MC _;have aA:n<=300:=Ω;rw[ab];have ac:Aw (b.take i++b.drop (i+1))=Aw (b.take i)++Aw (b.drop (i+1)):=EG _ _;rw[ac];rw[W]at ak R aa⊢;rw[Y]at p t;obtain⟨f,z⟩:∃P,Aw (b.take i)=P:=⟨_,rfl⟩;obtain⟨X,G⟩:∃P,(b.getD i Ah.af).cells=P:=⟨_,rfl⟩;obtain⟨D,q⟩:∃P,Aw (b.drop (i+1))=P:=⟨_,rfl⟩;rw[z,G,q]at p t;rw[z]at x;rw[G]at C;rw[q]at y F;rw[z,q];clear z G q Y ab ac aa s;obtain⟨d,A⟩:=Af w.drew
 have p:Aa d g tE (f++(X++D)++l):=by rw[<-A];exact p.cU
 have am:w.grownBy d (Z g):=by rw[<-A];exact AZ w 1 _
 have an:i+(n - (i+1))=n - 1:=Ω
 have ad:Aa d g tE (f++((X++D).take D.length++((X++D).drop D.length++l))):=by
  have e:f++((X++D).take D.length++((X++D).drop D.length++l))=(f++(X++D))++l:=by rw[<-kK ((X++D).take D.length),kF];simp
  rw[e];exact p
 have H:Aa (d.setCells g (i*4) D) g tE ((f++D)++((X++D).drop D.length++l)):=by
  have h:=Ik g tE D ((X++D).take D.length) f ((X++D).drop D.length++l) d (by rw[jW,jI];omega) ad;rw[x]at h
  rw[kK];exact h
 have ae:Aa ((d.setCells g (i*4) D).setCells g ((n - 1)*4) FJ) g tE ((f++D)++(FJ++l)):=by
  have h:=Ik g tE FJ ((X++D).drop D.length) (f++D) l (d.setCells g (i*4) D) (by rw[j0,jI,C];simp[FJ]) H;rw[show(f++D).length=(n - 1)*4 by rw[jI,x,y];omega]at h;exact h
 have af:((f++D)++(FJ++l)).length=c*4:=by
  simp only[jI]at t⊢;rw[show FJ.length=4 from rfl];omega
 have I:Hd (Bs _ B tE 4 (E (Z ⟨g,0,V⟩) (n - 1) c) (n - 1) (f++D)):=zh (MH ae U Ω al af (by rw[jI,x,y];omega));have L:Hd (w.grownBy ((d.setCells g (i*4) D).setCells g ((n - 1)*4) FJ) (Z g)):=zh (Ab am (Ab (Ij g _ _ _) (Ij g _ _ _)))
 have ag:Hd (∀(m:TypeId) (a:B5) (r:Nat),(D=[]\/a=⟨g,(i+1)*4,V⟩)->(Builtin.append_ #[tS,tS] m #[E (Z ⟨g,0,V⟩) i c,E (Z a) (n - (i+1)) r]).run Ax d=.ok (E (Z ⟨g,0,V⟩) (n - 1) c) (d.setCells g (i*4) D)):=zh (λm a r ha=>by
  rw[<-an];refine Vh d m g i c (n - (i+1)) a r _ D p (by exact t) Ω (by rw[y];congr 1;omega) (λj u M=>?_) F
  rcases ha with rfl|rfl
  ·simp at M
  ·have aB:=(jL.1 M).1
   have h:=p.ap (j:=(i+1)*4+j) (v:=u) (by
    rw[kK,kK,kQ Ω,kQ Ω,kL Ω];rw[show(i+1)*4+j - f.length - X.length=j by omega]
    exact M)
   unfold Addr.add
   by_cases N:j=0
   ·rw[jP N];rw[N,kU]at h;exact h
   ·rw[jN N];exact h)
 have ah:Hd (∀(m:TypeId) (r:Nat),(Builtin.clear_ #[tS] m #[E (Z ⟨g,(n - 1)*4,V⟩) 1 r]).run Ax (d.setCells g (i*4) D)=.ok (BC #[]) ((d.setCells g (i*4) D).setCells g ((n - 1)*4) FJ)):=zh (λm r=>Vo _ m g _ r _ H (by simp only[jI,j0];omega));have ap:Hd (n=i+1->D=[]):=zh (λh=>km Ω);clear p ad H ae af t x y C F U W;have aC:((i:Int)==(i:Int)+1)=Bn:=kN.2 Ω;have aD:J.wrap ((i:Int)+1)=(i:Int)+1:=AA _ ⟨Ω,Ω⟩;have k1:(i:Int)+1<=(n:Int):=Ω;have k2:(n:Int)<=(c:Int):=Ω;have k3:(0:Int)<=(i:Int)+1:=Ω;have k4:(i:Int)<=(i:Int)+1:=Ω;have k5:(i:Int)<=(c:Int):=Ω;have aJ:((i:Int)+1).toNat=i+1:=Ω
 go_enter Tryz.func170,Tryz.ntmps170
 have m1:(0:Int)<=((n - 1:Nat):Int):=Ω;have m2:((n - 1:Nat):Int)<=(n:Int):=Ω;have m3:n - (n - 1)=1:=Ω;have m4:¬c=n - 1:=Ω;go_wp2_with fail;refine FU (λ_=>True) [([],[0,1,2,3,4,5],6,Bn),([],[],7,Bn)] Φ Φ ?_;refine Dw ?_;rw[A];clear A
 by_cases aw:c=i+1
 ·have ax:=aw;subst ax;obtain rfl:n=i+1:=Ω;have q:=ap.o rfl
  have ai:=λm=>ag.o m ⟨g,0,V⟩ 0 (.inl q)
  simp only[lJ]at ai;subst q
  iterate 6 ((apply AC rfl Θ;(· intro wS o;(try have o:=o rfl);(try dsimp only at o);(try subst o);go_simp;(try with_reducible rfl)));refine Al ?_)
  refine Aj ?_;refine AE rfl (λK k=>?_);refine NK Θ _ _ tS tS Θ Θ Θ (ai _) (k _ _ ⟨_,λ_ h=>h,λQ=>(by cases Q),?_⟩);clear k K;refine Al ?_;refine Dw ?_;refine Aj ?_;refine Am ?_;intro K k;refine Aq k ?_;clear k K;refine Fw (A5 ?_);have aj:=ah.o;simp only[Nat.add_sub_cancel]at aj m1 m2 m3 m4 I L;go_wp2_with fail;go_ret;have s:=I.o;rw[lw]at s;exact⟨_,rfl,s,L.o⟩
 ·iterate 6 ((apply AC rfl Θ;(· intro wS o;(try have o:=o rfl);(try dsimp only at o);(try subst o);go_simp;(try with_reducible rfl)));refine Al ?_)
  refine Aj ?_;refine AE rfl (λK k=>?_);refine NK Θ _ _ tS tS Θ Θ Θ (ag.o _ _ _ (.inr rfl)) (k _ _ ⟨_,λ_ h=>h,λQ=>(by cases Q),?_⟩);clear k K;refine Al ?_;refine Dw ?_;refine Aj ?_;refine Am ?_;intro K k;refine Aq k ?_;clear k K;refine Fw (A5 ?_);have aj:=ah.o;go_wp2_with fail;go_ret;exact⟨_,rfl,I.o,L.o⟩
theorem de(d p:Int)(b:List Ah)(h:Int)(a:Option B5)(c:Nat)(w:Bd)(P:b.length<=300)(hs:b.Pairwise (λx y=>U x.h<U y.h))(hr:Ag w 4 (E a b.length c) b.length (Aw b)):
  BD Ax 110 #[B0 #[O J d,O J p,E a b.length c],O B4 h] w λe w'=>∃(i:Nat) (a':Option B5) (c':Nat) (r:List Ah),Eo b h i/\r=(if A1 b h i=BA then b.take i++b.drop (i+1)else b)/\e=A2 (BC #[B0 #[O J d,O J p,E a' r.length c'],B2 (A1 b h i)])/\w'.ownsRow w.heap.size 237 4 (E a' r.length c') r.length (Aw r)/\w.grownBy w' V:=by
 have HR:=zh hr;have HS:=zh hs;clear hr hs
 go_enter Tryz.func110,Tryz.ntmps110
 go_wp2_with fail;obtain⟨F,l⟩:=Af ((w.alloc (A7 #[O J d,O J p,E a b.length c] 160)).alloc (A7 #[O J 0,O J 0,E V 0 0] 160))
 have ai:Aa F w.heap.size 160 [O J d,O J p,E a b.length c]:=by rw[<-l];exact(Aa.new w _ _).alloc _
 have aj:Aa F (w.heap.size+1) 160 [O J 0,O J 0,E V 0 0]:=by
  rw[<-l];have:=Aa.new (w.alloc (A7 #[O J d,O J p,E a b.length c] 160)) 160 [O J 0,O J 0,E V 0 0];rw[A6]at this;exact this
 have Q:w.grownBy F V:=by rw[<-l];exact Ab (Y w _ V) (Y _ _ V)
 rw[l];have g:=zh ai;have f:=zh aj;have ak:=zh Q;have HP:=zh (Oq d p b h a c F P HS.o (HR.o.u Q Δ));clear l ai aj Q;refine HP.o.mono ?_;rintro e w2 ⟨i,rfl,am,G⟩;have an:=zh am;have g:=zh (g.o.u G Δ);have f:=zh (f.o.u G Δ);have H:=zh (Ab ak.o G)
 have s:=g.o.m 0;have t:=g.o.m 1;have u:=g.o.m 2
 clear am G ak HP;go_wp2_with fail;refine(Q6 b a c w2 P (HR.o.u H.o Δ)).mono ?_;rintro e w3 ⟨v3,rfl,o3,I⟩;have g:=zh (g.o.u I Δ);have f:=zh (f.o.u I Δ);have ap:=zh (Ab H.o I);have m:=zh (Cf o3 H.o.size);clear o3 I H s t u;have ay:Hd (A1 b h i=A1 b h i):=zh rfl
 have K:A1 b h i=BA->i<b.length:=λe=>by
  unfold A1 at e;rw[jQ]at e;exact j7 e.1
 obtain⟨tb,R⟩:=Af (A1 b h i);rw[R]at K⊢;have L:=zh R;clear R ay
 cases tb
 ·obtain⟨o,z,rfl⟩:=(Ag.ai m.o).slice
  have s:=g.o.m 0;have t:=g.o.m 1;have u:=g.o.m 2
  clear K;go_wp2_with fail;refine(KZ d p (E a b.length c) (E o b.length z) a o _ _ c z rfl rfl _).mono ?_;rintro e A ⟨rfl,j⟩;have f:=zh (f.o.u j Δ);have S:=zh (Ab ap.o j);have B:=zh (AV m.o j);clear j s t u
  have y0:=f.o.m 0;have y1:=f.o.m 1;have y2:=f.o.m 2
  have f0:=f.o.v 0;have f1:=f.o.v 1;have f2:=f.o.v 2
  go_wp2_with fail;have k:=((f.o.setCell 0 (O J d)).setCell 1 (O J p)).setCell 2 (E o b.length z);have C:A.grownBy (((A.setCell ⟨w.heap.size+1,0,V⟩ (O J d)).setCell ⟨w.heap.size+1,1,V⟩ (O J p)).setCell ⟨w.heap.size+1,2,V⟩ (E o b.length z)) (Z (w.heap.size+1)):=Ab (Ab (Ao _ _ _) (Ao _ _ _)) (Ao _ _ _);simp only[jY,kE]at k
  have T:=k.m 0;have W:=k.m 1;have X:=k.m 2
  refine A3 (v:=BC #[B0 #[O J d,O J p,E o b.length z],B2 Bn]) (by simp[BB,BR,go_sem,T,W,X]) rfl ?_;refine⟨i,o,_,b,an.o,?_,by rw[L.o],B.o.kept C (.inr (MG f.o B.o Ξ)),Br S.o C Ω⟩;rw[L.o];rfl
 ·have aG:=K rfl;have l:J.wrap ((i:Int)+1)=(i:Int)+1:=AA _ ⟨Ω,Ω⟩;clear K;go_wp2_with fail;refine(Rm b i w.heap.size v3 w3 P aG m.o).mono ?_;rintro e w4 ⟨v4,rfl,o4,M⟩;obtain⟨q,D,rfl⟩:=(Ag.ai o4).slice;have g:=zh (Aa.u g.o M (λe=>MG g.o m.o Ξ e.symm));have f:=zh (Aa.u f.o M (λe=>MG f.o m.o Ξ e.symm));have aH:=zh (DT ap.o m.o (jF _) M);have aq:=zh o4;clear o4 M
  have s:=g.o.m 0;have t:=g.o.m 1;have u:=g.o.m 2
  obtain⟨N,ab⟩:∃n,(b.take i++b.drop (i+1)).length=n:=⟨_,rfl⟩;rw[ab]at aq⊢;have ar:=zh ab;clear ab;go_wp2_with fail;refine(KZ d p (E a b.length c) (E q N D) a q _ _ c D rfl rfl _).mono ?_;rintro e A ⟨rfl,j⟩;have f:=zh (f.o.u j Δ);have S:=zh (Ab aH.o j);have B:=zh (AV aq.o j);clear j s t u
  have y0:=f.o.m 0;have y1:=f.o.m 1;have y2:=f.o.m 2
  have f0:=f.o.v 0;have f1:=f.o.v 1;have f2:=f.o.v 2
  go_wp2_with fail;have k:=((f.o.setCell 0 (O J d)).setCell 1 (O J p)).setCell 2 (E q N D);have C:A.grownBy (((A.setCell ⟨w.heap.size+1,0,V⟩ (O J d)).setCell ⟨w.heap.size+1,1,V⟩ (O J p)).setCell ⟨w.heap.size+1,2,V⟩ (E q N D)) (Z (w.heap.size+1)):=Ab (Ab (Ao _ _ _) (Ao _ _ _)) (Ao _ _ _);simp only[jY,kE]at k
  have T:=k.m 0;have W:=k.m 1;have X:=k.m 2
  refine A3 (v:=BC #[B0 #[O J d,O J p,E q N D],B2 BA]) (by simp[BB,BR,go_sem,T,W,X]) rfl ?_;refine⟨i,q,_,b.take i++b.drop (i+1),an.o,?_,by rw[ar.o,L.o],by rw[ar.o];exact B.o.kept C (.inr (MG f.o B.o Ξ)),Br S.o C Ω⟩;rw[L.o];rfl
theorem RZ(b:Aa h a tE f):h.shape? a=Z (tE,f.length):=by
 unfold World.shape?;unfold Aa at b;rw[b];simp
theorem cO(w:Bd)(a g o c d:Nat)(h f:List Bk)(b:Aa w a tE h)(i:Aa w g tE f)(j:a≠g)(k:f.length≠0):
  (callFunc 275 #[E (Z ⟨a,0,V⟩) 1 1,E (Z ⟨g,o,V⟩) c d]).run Ax w=.ok (.value (B2 Bn)) w:=by
 obtain⟨p,l,q,m,r⟩:=BX GM
 have n:∀w,(Go.sizeOf tE).run Ax w=.ok 4 w:=λw=>by simp[sizeOf,typeInfo,l,m]
 rw[run_callFunc_extern Tryz.func275 Φ Φ Φ (e:=Extern.SlicesOverlaps.overlaps #[tS,tS] #[4]) Φ,
  Lib.run_overlaps_apart w tS 4 tE kX 4 n ⟨a,0,V⟩ ⟨g,o,V⟩ 1 1 c d j tE tE _ _ (RZ b) (RZ i) k (b.v 0) (b.v _)]
 rfl
theorem Te(a:List Ah)(i:Nat)(_h:i<=a.length):Aw a=Aw (a.take i)++Aw (a.drop i):=by
 rw[<-EG,kF]
theorem WP(f:List Ah)(x:Ah)(B i:Nat)(v:Bk)(w:Bd)(G:f.length<=255)(t:w.ownsRow B 237 4 v f.length (Aw f))(u:Aa w i 237 x.cells)(l:B<=w.heap.size):
  BD Ax 242 #[v,O J f.length,E (Z ⟨i,0,V⟩) 1 1] w λe y=>∃z,e=A2 z/\y.ownsRow B 237 4 z (f.length+1) (Aw (f++[x]))/\w.grownBy y v.ownBlock:=by
 obtain⟨m,o,p,q,r⟩:=BX GM;have h:=zh t;have s:=zh (Ag.bq (sz:=4) (n:=1) (c:=1) u rfl (by unfold Bx;omega));rw[EG,GJ];obtain⟨n,A⟩:=Af f.length;rw[A]at h G⊢;have N:((n:Int)==(n:Int))=BA:=Δ;obtain⟨H,d,rfl⟩:=(Ag.ai h.o).slice;clear t u A
 cases H with
 |none=>
  have I:n=0/\d=0:=by
   rcases h.o.2 with⟨a,b⟩|⟨g,K,L,a,_⟩
   ·simp at a;exact⟨b,a.2⟩
   ·simp at a
  obtain⟨rfl,rfl⟩:=I
  go_enter po,oU
  go_wp2_with (at_builtin;refine Gg rfl _ _ 158 rfl B 237 m _ 4 32 kX o p q r rfl Ξ (v:=E V 0 0) (n:=0) (sv:=E (Z ⟨i,0,V⟩) 1 1) rfl h.o rfl s.o (by simp[A4,Ah.cells]) (by unfold Bx;omega) Ω l ?_;intro C D a b _;have j:=zh b;have k:=zh a;clear a b);go_ret;exact⟨_,rfl,k.o,j.o⟩
 |some F=>
  have P:n<=d:=by
   rcases h.o.2 with⟨a,_⟩|⟨g,K,L,a,_,_,Q,_⟩
   ·simp at a
   ·simp at a;omega
  have R:(n:Int)<=(d:Int):=Ω
  by_cases M:d=n
  ·subst M
   go_enter po,oU
   go_wp2_with (at_builtin;refine Gg rfl _ _ 158 rfl B 237 m _ 4 32 kX o p q r rfl Ξ (v:=E (Z F) d d) (n:=d) (sv:=E (Z ⟨i,0,V⟩) 1 1) rfl h.o rfl s.o (by simp[A4,Ah.cells]) (by unfold Bx;omega) Ω l ?_;intro C D a b _;have j:=zh b;have k:=zh a;clear a b);go_ret;exact⟨_,rfl,k.o,j.o⟩
  ·go_enter po,oU
   go_wp2_with (at_builtin;refine Gg rfl _ _ 158 rfl B 237 m _ 4 32 kX o p q r rfl Ξ (v:=E (Z F) n d) (n:=n) (sv:=E (Z ⟨i,0,V⟩) 1 1) rfl h.o rfl s.o (by simp[A4,Ah.cells]) (by unfold Bx;omega) Ω l ?_;intro C D a b _;have j:=zh b;have k:=zh a;clear a b);go_ret;exact⟨_,rfl,k.o,j.o⟩
theorem Mw{pre post:List Bk}(g:Aa h c tE (pre++(f++post)))(i:pre.length=a):∀j u,f[j]?=Z u->h.cell? ((⟨c,a,V⟩:B5).add j)=Z u:=λj u e=>by
 have k:=(jL.1 e).1
 have b:=g.ap (j:=a+j) (v:=u) (by
  rw[kQ Ω,kL Ω,show a+j - pre.length=j by omega]
  exact e)
 unfold Addr.add
 by_cases d:j=0
 ·rw[jP d];rw[d,kU]at b;exact b
 ·rw[jN d];exact b
theorem V7(a:List Ah)(x:Ah)(i g A:Nat)(w:Bd)(hx:a.length<=255)(hi:i<a.length)(k:Aa w g tE (Aw a))(B:Aa w A tE x.cells):
  BD Ax 242 #[E (Z ⟨g,0,V⟩) a.length a.length,O J i,E (Z ⟨A,0,V⟩) 1 1] w λe W=>∃Y,e=A2 (E (Z ⟨w.heap.size,0,V⟩) (a.length+1) Y)/\W.ownsRow w.heap.size 237 4 (E (Z ⟨w.heap.size,0,V⟩) (a.length+1) Y) (a.length+1) (Aw (a.take i++x::a.drop i))/\w.grownBy W V:=by
 have aa:=Fy a;have hcut:=Te a i Ω
 have d:(Aw (a.take i)).length=i*4:=by rw[Fy,jW];congr 1;omega
 have f:(Aw (a.drop i)).length=(a.length - i)*4:=by rw[Fy,j0]
 have ab:Aw (a.take i++x::a.drop i)=Aw (a.take i)++(x.cells++Aw (a.drop i)):=by
  rw[EG,show x::a.drop i=[x]++a.drop i from rfl,EG,GJ]
 have C:∀u∈Aw (a.drop i),u.oneCell'=BA:=MC _
 have F:∀u∈x.cells,u.oneCell'=BA:=by simp[A4,Ah.cells]
 rw[ab];obtain⟨n,hn⟩:=Af a.length;rw[hn]at hx hi aa f⊢;rw[hcut]at k;obtain⟨c,G⟩:∃P,Aw (a.take i)=P:=⟨_,rfl⟩;obtain⟨D,H⟩:∃P,Aw (a.drop i)=P:=⟨_,rfl⟩;obtain⟨X,I⟩:∃P,x.cells=P:=⟨_,rfl⟩
 have l:X.length=4:=by rw[<-I];rfl
 rw[G,H]at k⊢;rw[G]at d;rw[H]at f C;rw[I]at B F⊢;clear G H I ab hcut aa hn
 have ao:(c++D).length=n*4:=by rw[jI,d,f];omega
 obtain⟨m,b,o,p,q,L,ad,r,s⟩:=U7 w tS g i n (n+1 - i) (c++D) k Ω Ω Ω Ω Ω;rw[show i+(n+1 - i)=n+1 by omega]at p L;rw[mJ Ω,lf Ω]at q r;rw[show((n+1 - i:Nat):Int)=(n:Int)+1 - i by omega]at p
 have t:b.length=(m - i)*4:=by rw[jI,d]at r;omega
 have ae:Aa o w.heap.size tE (c++(b.take 4++b.drop 4)):=by rw[kF];exact q
 have af:=B.u s Δ;have ap:=k.u s Δ
 have M:=λN Q=>Mj o N w.heap.size (i*4) (n+1 - i) Q 1 ⟨A,0,V⟩ 1 1 _ X q (by simp only[qo];split<;>omega) (by rw[r];omega) Ω (Mw (pre:=[]) (post:=[]) (by simpa using af) rfl) F
 have v:=Ik w.heap.size tE X (b.take 4) c (b.drop 4) o (by rw[jW];omega) ae;rw[d]at v;have R:w.grownBy (o.setCells w.heap.size (i*4) X) V:=Br s (Ij w.heap.size _ _ _) (jF _);obtain⟨w3,ah⟩:=Af (o.setCells w.heap.size (i*4) X);rw[ah]at M v R;obtain⟨j,y⟩:=Af w3.drew
 have S:Aa j w.heap.size tE ((c++X)++((b.drop 4).take D.length++(b.drop 4).drop D.length)):=by
  rw[kF,kK, <-y];exact v.cU
 have T:w.grownBy j V:=by rw[<-y];exact Ab R (AZ w3 1 V)
 have ai:Aa j g tE (c++(D++[])):=by rw[lw];exact k.u T Δ
 have aj:(b.drop 4).length=(m - i)*4 - 4:=by rw[j0,t]
 have ak:=λN Q sc=>Mj j N w.heap.size ((i+1)*4) (n - i) Q (n - i) ⟨g,i*4,V⟩ (n - i) sc _ D S (by simp only[qo];split<;>omega) (by simp only[jI,jW,j0,d,l,t];omega) f (Mw ai d) C
 have U:=Ik w.heap.size tE D ((b.drop 4).take D.length) (c++X) ((b.drop 4).drop D.length) j (by rw[jW,aj,f];omega) S;rw[show(c++X).length=(i+1)*4 by rw[jI,d,l];omega]at U
 have ar:Hd (Bs (j.setCells w.heap.size ((i+1)*4) D) w.heap.size tE 4 (E (Z ⟨w.heap.size,0,V⟩) (n+1) m) (n+1) (c++(X++D))):=zh (by
  refine MH (sp:=(b.drop 4).drop D.length) (by rw[show c++(X++D)++(b.drop 4).drop D.length=(c++X)++(D++(b.drop 4).drop D.length) by simp];exact U) (jF _) L ad ?_ ?_
  ·simp only[jI,j0,d,l,t];omega
  ·simp only[jI,d,l,f]
   omega)
 have au:Hd (w.grownBy (j.setCells w.heap.size ((i+1)*4) D) V):=zh (Br T (Ij w.heap.size _ _ _) (jF _));have av:=zh p;have aw:=zh M;have ax:=zh ak;have aA:¬m=i:=Ω;have aB:¬m=i+1:=Ω;have aC:¬n=i:=Ω;have aD:((i:Int)==(n:Int))=Bn:=kN.2 Ω;have aE:J.wrap ((n:Int)+1)=(n:Int)+1:=AA _ ⟨Ω,Ω⟩;have aF:J.wrap ((n:Int)+1 - i)=(n:Int)+1 - i:=AA _ ⟨Ω,Ω⟩;have aG:J.wrap ((i:Int)+1)=(i:Int)+1:=AA _ ⟨Ω,Ω⟩;have k0:(0:Int)<=(i:Int)+1:=Ω;have k1:(i:Int)<=(n:Int):=Ω;have k2:(n:Int)<(n:Int)+1:=Ω;have k3:(i:Int)+1<=(n:Int)+1:=Ω;have k4:(i:Int)<=(n:Int)+1:=Ω;have k5:((i:Int)+1).toNat=i+1:=Ω;clear k q v ae S ai U B af ap p M ak L ad r t aj d f l C F ao s R T ah
 go_enter po,oU
 have ay:=aw.o;go_wp2_with (at_builtin;refine Lib.wpList_append_run _ rfl _ _ _ _ rfl _ _ rfl rfl _ _ av.o ?_);clear ay;refine FU (λ_=>True) [([],[0,1,2,3,4,5,6,7],8,Bn)] Φ Φ ?_;refine Dw ?_;rw[y];clear y
 iterate 8 ((apply AC rfl Θ;(· intro wS z;(try have z:=z rfl);(try dsimp only at z);(try subst z);go_simp;(try with_reducible rfl)));refine Al ?_)
 refine Aj ?_;refine AE rfl (λK hK=>?_);refine Qp Θ _ _ tS tS Θ Θ Θ (ax.o _ _ _) (hK _ _ ⟨_,λ_ h=>h,λhf=>(by cases hf),?_⟩);clear hK K;refine Al ?_;refine Fw (A5 ?_);go_wp2_with fail;go_ret;exact⟨_,rfl,ar.o,au.o⟩
theorem WF(a:List Ah)(x:Ah)(i g B c l:Nat)(b:List Bk)(w:Bd)(hx:a.length<=255)(hi:i<a.length)(W:B<=g)(Y:c<=Bx)(aa:a.length+1<=c)(p:Aa w g tE (Aw a++b))(ab:(Aw a++b).length=c*4)(q:Aa w l tE x.cells)(v:l≠g):
  BD Ax 242 #[E (Z ⟨g,0,V⟩) a.length c,O J i,E (Z ⟨l,0,V⟩) 1 1] w λe w'=>e=A2 (E (Z ⟨g,0,V⟩) (a.length+1) c)/\w'.ownsRow B 237 4 (E (Z ⟨g,0,V⟩) (a.length+1) c) (a.length+1) (Aw (a.take i++x::a.drop i))/\w.grownBy w' (Z g):=by
 have y:=Fy a;have hcut:=Te a i Ω
 have f:(Aw (a.take i)).length=i*4:=by rw[Fy,jW];congr 1;omega
 have d:(Aw (a.drop i)).length=(a.length - i)*4:=by rw[Fy,j0]
 have ad:Aw (a.take i++x::a.drop i)=Aw (a.take i)++(x.cells++Aw (a.drop i)):=by
  rw[EG,show x::a.drop i=[x]++a.drop i from rfl,EG,GJ]
 have z:∀u∈Aw (a.drop i),u.oneCell'=BA:=MC _
 have A:∀u∈x.cells,u.oneCell'=BA:=by simp[A4,Ah.cells]
 rw[ad];obtain⟨n,hn⟩:=Af a.length;rw[hn]at hx hi y d aa⊢
 have af:b.length=(c - n)*4:=by rw[jI,y]at ab;omega
 rw[hcut]at p;obtain⟨j,C⟩:∃P,Aw (a.take i)=P:=⟨_,rfl⟩;obtain⟨D,F⟩:∃P,Aw (a.drop i)=P:=⟨_,rfl⟩;obtain⟨X,G⟩:∃P,x.cells=P:=⟨_,rfl⟩
 have H:X.length=4:=by rw[<-G];rfl
 rw[C,F]at p⊢;rw[C]at f;rw[F]at d z;rw[G]at q A⊢;clear C F G ad hcut y hn ab;have an:=zh (λlb cb=>cO w l g ((i+1)*4) lb cb X _ q p v (by simp only[jI,f,d];omega));obtain⟨m,r⟩:=Af w.drew
 have ag:w.grownBy m V:=by rw[<-r];exact AZ w 1 V
 have I:Aa m g tE (j++(D++b)):=by rw[<-kK, <-r];exact p.cU
 have o:(D++b).length=(c - i)*4:=by rw[jI,d,af];omega
 have L:Aa m g tE ((j++(D++b).take 4)++(((D++b).drop 4).take D.length++((D++b).drop 4).drop D.length)):=by
  rw[kF,kK,kF];exact I
 have M:(j++(D++b).take 4).length=(i+1)*4:=by rw[jI,jW,f,o];omega
 have N:=λQ R sc=>Mj m Q g ((i+1)*4) (n - i) R (n - i) ⟨g,i*4,V⟩ (n+1 - i) sc _ D L (by simp only[qo];split<;>omega) (by rw[kF,jI,M,j0,o];omega) d (Mw I f) z
 have s:=Ik g tE D (((D++b).drop 4).take D.length) (j++(D++b).take 4) (((D++b).drop 4).drop D.length) m (by rw[jW,j0,o,d];omega) L;rw[M]at s;obtain⟨k,ah⟩:=Af (m.setCells g ((i+1)*4) D)
 have S:w.grownBy k (Z g):=by rw[<-ah];exact Ab (Kw ag _) (Ij g _ _ _)
 rw[ah]at N s;have ai:Aa k l tE X:=q.u S (by simp;exact v)
 have T:Aa k g tE (j++((D++b).take 4++(D++((D++b).drop 4).drop D.length))):=by rw[<-kK];exact s
 have aj:=λQ R=>Mj k Q g (i*4) (n+1 - i) R 1 ⟨l,0,V⟩ 1 1 _ X T (by simp only[qo];split<;>omega) (by simp only[jI,jW,f,d];omega) Ω (Mw (pre:=[]) (post:=[]) (by simpa using ai) rfl) A
 have U:=Ik g tE X ((D++b).take 4) j (D++((D++b).drop 4).drop D.length) k (by rw[jW,o];omega) T;rw[f]at U
 have ar:Hd (Bs (k.setCells g (i*4) X) B tE 4 (E (Z ⟨g,0,V⟩) (n+1) c) (n+1) (j++(X++D))):=zh (by
  refine MH (sp:=((D++b).drop 4).drop D.length) (by rw[show j++(X++D)++((D++b).drop 4).drop D.length=j++(X++(D++((D++b).drop 4).drop D.length)) by simp];exact U) W aa Y ?_ ?_
  ·rw[jI,j0,j0,o];simp only[jI,f,H,d];omega
  ·simp only[jI,f,H,d]
   omega)
 have au:Hd (w.grownBy (k.setCells g (i*4) X) (Z g)):=zh (Ab S (Ij g _ _ _));have av:=zh N;have aw:=zh aj;have az:¬c=i:=Ω;have aA:¬c=i+1:=Ω;have aB:¬(c:Int)<(n:Int)+1:=Ω;have aC:((i:Int)==(n:Int))=Bn:=kN.2 Ω;have aD:J.wrap ((n:Int)+1)=(n:Int)+1:=AA _ ⟨Ω,Ω⟩;have aE:J.wrap ((i:Int)+1)=(i:Int)+1:=AA _ ⟨Ω,Ω⟩;have k0:(0:Int)<=(i:Int)+1:=Ω;have k1:(i:Int)<=(n:Int):=Ω;have k2:(n:Int)+1<=(c:Int):=Ω;have k3:(i:Int)+1<=(n:Int)+1:=Ω;have k4:(i:Int)<=(n:Int)+1:=Ω;have k5:((i:Int)+1).toNat=i+1:=Ω;have k6:((n:Int)+1).toNat=n+1:=Ω;have k7:(0:Int)<=(n:Int)+1:=Ω;clear p I L s T U q ai N aj f d H z A o M af ag S Y W v
 go_enter po,oU
 have ax:=an.o;go_wp2_with (simp only[ax]);refine FU (λ_=>True) [([],[0,1,2,3,4,5,6,7],8,Bn)] Φ Φ ?_;refine Dw ?_;rw[r];clear r
 iterate 8 ((apply AC rfl Θ;(· intro wS t;(try have t:=t rfl);(try dsimp only at t);(try subst t);go_simp;(try with_reducible rfl)));refine Al ?_)
 refine Aj ?_;refine AE rfl (λK hK=>?_);refine Qp Θ _ _ tS tS Θ Θ Θ (av.o _ _ _) (hK _ _ ⟨_,λ_ h=>h,λhf=>(by cases hf),?_⟩);clear hK K;refine Al ?_;refine Fw (A5 ?_);have aO:=aw.o;go_wp2_with fail;go_ret;exact⟨rfl,ar.o,au.o⟩
theorem Xg(a:List Ah)(x:Ah)(i B b:Nat)(v:Bk)(w:Bd)(f:a.length<=255)(s:i<=a.length)(m:w.ownsRow B 237 4 v a.length (Aw a))(h:Aa w b 237 x.cells)(t:v.ownBlock≠Z b)(n:B<=w.heap.size):
  BD Ax 242 #[v,O J i,E (Z ⟨b,0,V⟩) 1 1] w λe d=>∃o,e=A2 o/\d.ownsRow B 237 4 o (a.length+1) (Aw (a.take i++x::a.drop i))/\w.grownBy d v.ownBlock:=by
 rcases Nat.eq_or_lt_of_le s with u|p
 ·rw[u,lS,List.drop_length];exact WP a x B b v w f m h n
 ·obtain⟨g,c,q,rfl,y,j,D,z,r⟩:=Ou m Ω
  by_cases A:a.length+1<=c
  ·refine(WF a x i g B c b q w f p y z A j r h (λe=>t (by rw[e];rfl))).mono ?_;rintro e d ⟨rfl,k,l⟩;exact⟨_,rfl,k,l⟩
  ·obtain rfl:c=a.length:=by omega
   have C:q=[]:=by
    refine km ?_;rw[jI,Fy]at r;omega
   subst C;rw[lw]at j;refine(V7 a x i g b w f p j h).mono ?_;rintro e d ⟨F,rfl,k,l⟩;exact⟨_,rfl,Cf k n,Kw l _⟩
def Du(a:List Ah)(x:Ah)(i:Nat)(b:Bool):List Ah:=a.take i++x::a.drop (if b=BA then i+1 else i)
theorem SI(a:List Ah)(x:Ah)(i:Nat):Aw (a.take i++x::a.drop (i+1))=Aw (a.take i)++(x.cells++Aw (a.drop (i+1))):=by
 rw[EG,show x::a.drop (i+1)=[x]++a.drop (i+1)from rfl,EG,GJ]
theorem Pd(d p:Int)(b:List Ah)(x:Ah)(a:Option B5)(c:Nat)(w:Bd)(hx:b.length<=255)(hs:b.Pairwise (λx y=>U x.h<U y.h))(hr:Ag w 4 (E a b.length c) b.length (Aw b)):
  BD Ax 195 #[B0 #[O J d,O J p,E a b.length c],x.val] w λe w'=>∃(i:Nat) (a':Option B5) (c':Nat),Eo b (U x.h) i/\e=A2 (B0 #[O J d,O J p,E a' (Du b x i (A1 b (U x.h) i)).length c'])/\Ag w' 4 (E a' (Du b x i (A1 b (U x.h) i)).length c') (Du b x i (A1 b (U x.h) i)).length (Aw (Du b x i (A1 b (U x.h) i)))/\w.grownBy w' V:=by
 have HR:=zh hr;have HS:=zh hs;have aC:Hd (x.cells=[O B4 (U x.h),O J x.r,O J x.a,O J x.s]):=zh rfl;unfold Ah.val;obtain⟨h,hh⟩:=Af (U x.h);obtain⟨r,aE⟩:=Af x.r;obtain⟨H,aF⟩:∃r,x.a=r:=⟨_,rfl⟩;obtain⟨s,aG⟩:∃r,x.s=r:=⟨_,rfl⟩;rw[hh,aE,aF,aG]at aC;rw[hh,aE,aF,aG];clear hr hs hh aE aF aG
 go_enter Tryz.func195,Tryz.ntmps195
 go_wp2_with fail;obtain⟨P,hP⟩:=Af w.heap.size;obtain⟨wx,af⟩:=Af (w.alloc (A7 #[O J d,O J p,E a b.length c] 160));obtain⟨wy,I⟩:=Af (wx.alloc (A7 #[O B4 h,O J r,O J H,O J s] 237));obtain⟨w1,L⟩:=Af (wy.alloc (A7 #[O J 0,O J 0,E V 0 0] 160))
 have aJ:wx.heap.size=P+1:=by rw[<-af,A6,hP]
 have a9:wy.heap.size=P+2:=by rw[<-I,A6,aJ]
 have ba:Aa w1 P 160 [O J d,O J p,E a b.length c]:=by rw[<-L, <-I, <-af, <-hP];exact((Aa.new w _ _).alloc _).alloc _
 have bb:Aa w1 (P+1) 237 [O B4 h,O J r,O J H,O J s]:=by rw[<-L, <-I, <-aJ];exact(Aa.new wx _ _).alloc _
 have bc:Aa w1 (P+1+1) 160 [O J 0,O J 0,E V 0 0]:=by rw[<-L, <-a9];exact Aa.new wy _ _
 have aK:w.grownBy w1 V:=by rw[<-L, <-I, <-af];exact Ab (Ab (Y _ _ V) (Y _ _ V)) (Y _ _ V)
 rw[af,I,L,hP];have k:=zh ba;have l:=zh bb;have f:=zh bc;have bd:=zh aK;have au:Hd (w.heap.size=P):=zh hP;have be:=zh (Oq d p b h a c w1 Ω HS.o (HR.o.u aK Δ));clear L af I aJ a9 ba bb bc aK hP
 have M:=k.o.m 0;have N:=k.o.m 1;have Q:=k.o.m 2
 have A:=l.o.m 0;go_wp2_with fail;refine be.o.mono ?_;rintro e B ⟨i,rfl,bf,g2⟩;have aL:=zh bf;have k:=zh (k.o.u g2 Δ);have l:=zh (l.o.u g2 Δ);have f:=zh (f.o.u g2 Δ);have aM:=zh (Ab bd.o g2);have R:Hd (P+2<B.heap.size):=zh f.o.lt;clear bf g2 bd be M N Q A
 have M:=k.o.m 0;have N:=k.o.m 1;have Q:=k.o.m 2
 go_wp2_with fail;refine(Q6 b a c B Ω (HR.o.u aM.o Δ)).mono ?_;rintro e m ⟨v3,rfl,o3,S⟩;have k:=zh (k.o.u S Δ);have l:=zh (l.o.u S Δ);have f:=zh (f.o.u S Δ);have av:=zh (Ab aM.o S);have bt:Hd (B.heap.size<=m.heap.size):=zh S.size;have ai:=zh o3;clear o3 S aM M N Q
 have aw:A1 b h i=BA->i<b.length:=λe=>by
  unfold A1 at e;rw[jQ]at e;exact j7 e.1
 obtain⟨tb,aO⟩:=Af (A1 b h i);rw[aO]at aw⊢;have bh:=zh aO;clear aO
 have M:=k.o.m 0;have N:=k.o.m 1;have Q:=k.o.m 2
 have A:=l.o.m 0;have T:=l.o.m 1;have X:=l.o.m 2;have y3:=l.o.m 3
 cases tb
 ·clear aw;have bv:=aL.o.le;go_wp2_with fail;refine FU (λW=>Aa W P 160 [O J d,O J p,E a b.length c]) [([0],[1,2,3],4,BA),([],[],5,BA),([],[],6,Bn),([],[],7,Bn)] Φ Φ ?_;obtain⟨C,aP⟩:=Af m.drew
  have D:m.grownBy C V:=by rw[<-aP];exact AZ m 1 V
  rw[aP];have bw:Hd (m.heap.size<=C.heap.size):=zh D.size;have k:=zh (k.o.u D Δ);have l:=zh (l.o.u D Δ);have f:=zh (f.o.u D Δ);have av:=zh (Ab av.o D);have ai:=zh (AV ai.o D);clear aP D M N Q A T X y3
  have A:=l.o.m 0;have T:=l.o.m 1;have X:=l.o.m 2;have y3:=l.o.m 3
  refine JG k.o ?_
  iterate 1 ((apply AC rfl Θ;(· intro wS n;(try have n:=n rfl);(try dsimp only at n);have c0:=n.m 0;have c1:=n.m 1;have c2:=n.m 2;go_simp;(try with_reducible rfl)));refine Al ?_)
  refine Aj ?_
  iterate 3 ((apply AC rfl Θ;(· intro wS n;(try have n:=n rfl);(try dsimp only at n);(try subst n);go_simp;(try with_reducible rfl)));refine Al ?_)
  refine Aj ?_;refine Am ?_;intro K o;have aa:=Y C (A7 #[O B4 h,O J r,O J H,O J s] 237) V;have HV:=zh (Aa.new C 237 [O B4 h,O J r,O J H,O J s]);have k:=zh (k.o.u aa Δ);have f:=zh (f.o.u aa Δ);have aQ:=zh (AV ai.o aa);have bA:=zh (Ab av.o aa);have bB:Hd (v3.ownBlock≠Z C.heap.size):=zh (λe=>by have:=(ai.o.lt _ e).2;omega)
  have bC:Hd (B.heap.size<=(C.alloc (A7 #[O B4 h,O J r,O J H,O J s] 237)).heap.size):=zh (by
   have h1:=bt.o;have h2:=aa.size;have h3:=bw.o
   omega)
  refine o _ _ ⟨_,λ_ h=>h,λ_=>k.o,?_⟩;clear o K aa A T X y3;refine Al ?_;refine Dw ?_;refine Aj ?_;refine Am ?_;intro K o;refine(Xg b x i B.heap.size C.heap.size v3 _ hx bv aQ.o (by rw[aC.o];exact HV.o) bB.o bC.o).mono ?_;rintro e w5 ⟨v5,rfl,o5,g5⟩;obtain⟨a5,c5,rfl⟩:=(Ag.ai o5).slice;dsimp only
  have aS:∀q,v3.ownBlock=Z q->B.heap.size<=q:=λq hq=>(aQ.o.lt q hq).1
  have k:=zh (k.o.u g5 (λe=>by have:=aS _ e.symm;have:=R.o;omega));have f:=zh (f.o.u g5 (λe=>by have:=aS _ e.symm;have:=R.o;omega));have aT:=zh (DT bA.o aQ.o (by have:=R.o;have:=au.o;omega) g5);have aU:=zh o5;refine o _ _ ⟨_,λ_ h=>h,λ_=>k.o,?_⟩;clear o K o5 g5 aS;refine Al ?_;refine Dw ?_;refine Aj ?_;refine Am ?_;intro K o;refine(KZ d p (E a b.length c) (E a5 (b.length+1) c5) a a5 _ _ c c5 rfl rfl _).mono ?_;rintro e w6 ⟨rfl,t⟩;dsimp only;have f:=zh (f.o.u t Δ);have aV:=zh (Ab aT.o t);have al:=zh (AV aU.o t);refine o _ _ ⟨_,λ_ h=>h,λhf=>(by cases hf),?_⟩;clear o K t;refine Al ?_
  have A:=f.o.m 0;have T:=f.o.m 1;have X:=f.o.m 2
  have f0:=f.o.v 0;have f1:=f.o.v 1;have f2:=f.o.v 2
  refine Dw ?_;refine Aj ?_;refine Am ?_;intro K o;refine Aq o ?_;clear o K;refine Fw (A5 ?_);go_wp2_with fail;have z:=((f.o.setCell 0 (O J d)).setCell 1 (O J p)).setCell 2 (E a5 (b.length+1) c5);have am:w6.grownBy (((w6.setCell ⟨P+1+1,0,V⟩ (O J d)).setCell ⟨P+1+1,1,V⟩ (O J p)).setCell ⟨P+1+1,2,V⟩ (E a5 (b.length+1) c5)) (Z (P+1+1)):=Ab (Ab (Ao _ _ _) (Ao _ _ _)) (Ao _ _ _);simp only[jY,kE]at z
  have z0:=z.m 0;have z1:=z.m 1;have z2:=z.m 2
  refine A3 (v:=B0 #[O J d,O J p,E a5 (b.length+1) c5]) (by simp[BB,BE,go_sem,z0,z1,z2]) rfl ?_
  have aq:Du b x i (A1 b h i)=b.take i++x::b.drop i:=by rw[bh.o];rfl
  have ad:(b.take i++x::b.drop i).length=b.length+1:=by rw[jI,jT,jW,j0];omega
  refine⟨i,a5,c5,aL.o,by rw[aq,ad],?_,Br aV.o am (Ψ au.o)⟩;rw[aq,ad];refine(Ag.ai al.o).u am (λq hq e=>?_)
  cases hq
  have h1:=(al.o.lt _ e).1;have h2:=R.o;omega
 ·have bH:=aw rfl;clear aw;obtain⟨g,F,sp,rfl,hB,hb,bk,bl,hl⟩:=Ou ai.o Ω;have aZ:=QY b i bH
  have a0:(Aw (b.take i)).length=i*4:=by rw[Fy,jW];congr 1;omega
  have G:Aa m g tE (Aw (b.take i)++((b.getD i Ah.af).cells++(Aw (b.drop (i+1))++sp))):=by
   rw[aZ]at hb;rw[<-kK (b.getD i Ah.af).cells, <-kK];exact hb
  have ar:∀j,j<4->(∃u,m.cell? ⟨g,i*4+j,V⟩=Z u):=λj hj=>by
   refine⟨(b.getD i Ah.af).cells[j]'(by exact hj),G.ap ?_⟩;rw[kQ Ω,a0,show i*4+j - i*4=j by omega,kL (by exact hj)];exact jK _
  obtain⟨u0,q0⟩:=ar 0 Ω;obtain⟨u1,q1⟩:=ar 1 Ω;obtain⟨u2,q2⟩:=ar 2 Ω;obtain⟨u3,q3⟩:=ar 3 Ω;rw[kU]at q0
  have bL:=G.v (i*4);have bM:=G.v (i*4+1);have bN:=G.v (i*4+2);have bO:=G.v (i*4+3)
  have bW:(i:Int)<(b.length:Int):=Ω;obtain⟨wl,bo⟩:=Af ((((m.setCell ⟨g,i*4,V⟩ (O B4 h)).setCell ⟨g,i*4+1,V⟩ (O J r)).setCell ⟨g,i*4+2,V⟩ (O J H)).setCell ⟨g,i*4+3,V⟩ (O J s))
  have a1:m.setCells g (i*4) x.cells=wl:=by rw[aC.o, <-bo];rfl
  have bp:Aa wl g tE ((Aw (b.take i)++(x.cells++Aw (b.drop (i+1))))++sp):=by
   have:=Ik g tE x.cells (b.getD i Ah.af).cells (Aw (b.take i)) (Aw (b.drop (i+1))++sp) m rfl G;rw[a0,a1]at this;rw[kK,kK];exact this
  have aB:m.grownBy wl (Z g):=by rw[<-a1];exact Ij g _ _ _
  have bP:P+2<g:=jJ R.o hB;have k:=zh (k.o.u aB Γ);have f:=zh (f.o.u aB Γ);have aT:=zh (Br av.o aB (Ψ au.o))
  have ad:(b.take i++x::b.drop (i+1)).length=b.length:=by rw[jI,jT,jW,j0];omega
  have aU:Hd (wl.ownsRow B.heap.size tE 4 (E (Z ⟨g,0,V⟩) b.length F) b.length (Aw (b.take i++x::b.drop (i+1)))):=zh (by
   rw[SI];refine MH bp hB bk bl ?_ ?_
   ·rw[aZ]at hl;simp only[jI]at hl⊢;exact hl
   ·rw[<-SI,Fy,ad])
  have bq:=zh ad
  have z0:=k.o.m 0;have z1:=k.o.m 1;have z2:=k.o.m 2
  clear hB hb bk bl hl aZ a0 G ar a1 bp aB bP ad;go_wp2_with fail;refine(KZ d p (E a b.length c) (E (Z ⟨g,0,V⟩) b.length F) a (Z ⟨g,0,V⟩) _ _ c F rfl rfl _).mono ?_;rintro e w6 ⟨rfl,t⟩;have f:=zh (f.o.u t Δ);have aV:=zh (Ab aT.o t);have al:=zh (AV aU.o t);clear t bo M N Q A T X y3 q0 q1 q2 q3 bL bM bN bO z0 z1 z2
  have A:=f.o.m 0;have T:=f.o.m 1;have X:=f.o.m 2
  have f0:=f.o.v 0;have f1:=f.o.v 1;have f2:=f.o.v 2
  go_wp2_with fail;have z:=((f.o.setCell 0 (O J d)).setCell 1 (O J p)).setCell 2 (E (Z ⟨g,0,V⟩) b.length F);have am:w6.grownBy (((w6.setCell ⟨P+1+1,0,V⟩ (O J d)).setCell ⟨P+1+1,1,V⟩ (O J p)).setCell ⟨P+1+1,2,V⟩ (E (Z ⟨g,0,V⟩) b.length F)) (Z (P+1+1)):=Ab (Ab (Ao _ _ _) (Ao _ _ _)) (Ao _ _ _);simp only[jY,kE]at z
  have z0:=z.m 0;have z1:=z.m 1;have z2:=z.m 2
  refine A3 (v:=B0 #[O J d,O J p,E (Z ⟨g,0,V⟩) b.length F]) (by simp[BB,BE,go_sem,z0,z1,z2]) rfl ?_
  have aq:Du b x i (A1 b h i)=b.take i++x::b.drop (i+1):=by rw[bh.o];rfl
  refine⟨i,Z ⟨g,0,V⟩,F,aL.o,by rw[aq,bq.o],?_,Br aV.o am (Ψ au.o)⟩;rw[aq,bq.o];refine(Ag.ai al.o).u am (λq hq e=>?_)
  cases hq
  have h1:=(al.o.lt _ e).1;have h2:=R.o;omega
end
section
open Go Go.RowKit
attribute [local go_sem ↓] Go.wp_at_zero Go.wp_at_succ
def LH(x:Ah):Bk:=B0 #[O J x.r,O J x.a,O J x.s]
theorem SL(d p:Int)(f:List Ah)(h:Int)(a:Option B5)(c:Nat)(w:Bd)(hx:f.length<=300)(G:f.Pairwise (λx y=>U x.h<U y.h))(H:Ag w 4 (E a f.length c) f.length (Aw f)):
  BD Ax 179 #[B0 #[O J d,O J p,E a f.length c],O B4 h] w λe w'=>∃i:Nat,Eo f h i/\e=A2 (BC #[LH (if A1 f h i=BA then f.getD i Ah.af else Ah.af),B2 (A1 f h i)])/\w.grownBy w' V:=by
 have I:=zh H;have HS:=zh G;clear H G
 go_enter Tryz.func179,Tryz.ntmps179
 go_wp2_with fail;obtain⟨l,k⟩:=Af ((w.alloc (A7 #[O J d,O J p,E a f.length c] 160)).alloc (A7 #[O J 0,O J 0,O J 0] 128))
 have K:Aa l w.heap.size 160 [O J d,O J p,E a f.length c]:=by rw[<-k];exact(Aa.new w _ _).alloc _
 have L:Aa l (w.heap.size+1) 128 [O J 0,O J 0,O J 0]:=by
  rw[<-k];have:=Aa.new (w.alloc (A7 #[O J d,O J p,E a f.length c] 160)) 128 [O J 0,O J 0,O J 0];rw[A6]at this;exact this
 have s:w.grownBy l V:=by rw[<-k];exact Ab (Y w _ V) (Y _ _ V)
 rw[k];have t:=zh K;have g:=zh L;have M:=zh s;have N:=zh (Oq d p f h a c l hx HS.o (I.o.u s Δ));clear k K L s;refine N.o.mono ?_;rintro e m ⟨i,rfl,P,n⟩;have Q:=zh P;have t:=zh (t.o.u n Δ);have g:=zh (g.o.u n Δ);have u:=zh (Ab M.o n);clear P n M N
 have q:A1 f h i=BA->i<f.length:=λe=>by
  unfold A1 at e;rw[jQ]at e;exact j7 e.1
 obtain⟨tb,z⟩:=Af (A1 f h i);rw[z]at q⊢;have R:=zh z;clear z
 have y0:=g.o.m 0;have y1:=g.o.m 1;have y2:=g.o.m 2
 have f0:=g.o.v 0;have f1:=g.o.v 1;have f2:=g.o.v 2
 cases tb
 ·clear q;go_wp2_with fail;have j:=((g.o.setCell 0 (O J 0)).setCell 1 (O J 0)).setCell 2 (O J 0);have A:m.grownBy (((m.setCell ⟨w.heap.size+1,0,V⟩ (O J 0)).setCell ⟨w.heap.size+1,1,V⟩ (O J 0)).setCell ⟨w.heap.size+1,2,V⟩ (O J 0)) (Z (w.heap.size+1)):=Ab (Ab (Ao _ _ _) (Ao _ _ _)) (Ao _ _ _);simp only[jY,kE]at j
  have B:=j.m 0;have C:=j.m 1;have D:=j.m 2
  refine A3 (v:=BC #[B0 #[O J 0,O J 0,O J 0],B2 Bn]) (by simp[BB,BL,go_sem,B,C,D]) rfl ?_;exact⟨i,Q.o,by rw[R.o];rfl,Br u.o A Ω⟩
 ·have ag:=q rfl;obtain⟨b,o,rfl,r⟩:=(I.o.u u.o Δ).bA Ω;obtain⟨e0,S,T,W⟩:=FZ f i ag
  have X:=r _ _ S;have x2:=r _ _ T;have x3:=r _ _ W
  simp only[<-kO]at X x2 x3;have ap:(i:Int)<(f.length:Int):=Ω;obtain⟨x,F⟩:=Af (f.getD i Ah.af);rw[F]at X x2 x3;have ai:=zh F;have q2:=t.o.m 2;clear F r e0 S T W q;go_wp2_with fail;have j:=((g.o.setCell 0 (O J x.r)).setCell 1 (O J x.a)).setCell 2 (O J x.s);have A:m.grownBy (((m.setCell ⟨w.heap.size+1,0,V⟩ (O J x.r)).setCell ⟨w.heap.size+1,1,V⟩ (O J x.a)).setCell ⟨w.heap.size+1,2,V⟩ (O J x.s)) (Z (w.heap.size+1)):=Ab (Ab (Ao _ _ _) (Ao _ _ _)) (Ao _ _ _);simp only[jY,kE]at j
  have B:=j.m 0;have C:=j.m 1;have D:=j.m 2
  refine A3 (v:=BC #[B0 #[O J x.r,O J x.a,O J x.s],B2 BA]) (by simp[BB,BL,go_sem,B,C,D]) rfl ?_;exact⟨i,Q.o,by rw[R.o,jP rfl,ai.o];rfl,Br u.o A Ω⟩
end
