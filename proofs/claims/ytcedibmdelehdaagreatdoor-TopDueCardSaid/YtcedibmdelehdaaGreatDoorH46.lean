/- Lemmas. -/
import Derived.Test.YtcedibmdelehdaaGreatDoorH01
import Derived.Test.YtcedibmdelehdaaGreatDoorH34
import Derived.Sort.LoopGhostIn
namespace Go.Proofs.YtcedibmdelehdaaGreatDoor
set_option maxRecDepth 100000
set_option maxHeartbeats 32000000
open Go.Proofs.Tryz renaming prog->E
open Go.Value renaming pointer->O
open Option renaming some->V,none->Ax
open And renaming intro->Y
open Bool renaming false->Z,true->AA
variable{h J:Nat}
section
open Go.RowKit Go.Maps
attribute [local go_sem] Oper.semAt_some
theorem YS(p:Nat)(w:World):Calls E 117 #[.map (V p)] w λe a=>e=.returned (.func (.func 178) #[] #[O (V ⟨w.heap.size,0,Ax⟩)])/\a=w.alloc (.cells #[.map (V p)] 117):=by
 go_enter Tryz.func117,Tryz.ntmps117
 go_wp2;go_ret;exact⟨rfl,rfl⟩
def jw(a p b:Nat)(f:Int->Bool)(c:Ad)(X:World):Prop:=X.cell? ⟨a,0,Ax⟩=V (.map (V p))/\MF X E 3 p 256 (DE f)/\c p=b
abbrev UL(x:Int):Array Value:=#[.int .i64 x]
theorem Z7(n S p u:Nat)(f:Int->Bool)(hn:1<=n)(C:Nat->Prop)(aw:¬C 197)(ax:¬C u):
  Iu Fence.wide n E 178 #[O (V ⟨S,0,Ax⟩)] UL C (λ(_:Unit)=>jw S p u f) (λ_ x _ _ _=>f x=AA) (λT=>T.length<=256/\∀x,f x=AA->x∈T) 256:=by
 intro l J Jx W m0 r U w ay y X z _;have HA:=zh y;have HJ:=zh U;have aA:=zh w;have HY:=zh X;obtain⟨⟨A,g,m⟩,d⟩:=y _ _ _ _ z;obtain⟨wD,s,Y,B,Z,aD⟩:=g.gu kr mP;have aa:Ab J3 W r wD (AL r W.heap.size 197):=Cc d Z (jS _) Ω rfl;have H0:=zh (w _ _ _ _ _ _ z aa);have HR:Hd ((AL r W.heap.size 197) W.heap.size=197):=zh (AY _ _ _);have HM:=zh B;have ae:=zh B.hp;obtain⟨R,hR⟩:∃x,W.heap.size=x:=⟨_,rfl⟩;rw[hR]at H0 HR HM Y;generalize AL r R 197=c1 at*;clear y U w ay X z m d g B Z aD aa hR;refine callsIn_of_wp Tryz.func178 rfl kI ?_ rfl;simp only[Tryz.ntmps178,kR,kj,kP,Nat.reduceAdd,Nat.reduceSub,kF,kG,kU,kJ,kv,kO]
 gi_wp2
 clear Y A
 gi_loopg [] (s+1) (λk wr=>∃(c:Ad) (a:List Int) (left:Int->Bool) (b:Nat),b<k/\J () c a wr/\MR wr E 3 p R 256 (DE f) left b/\c R=197/\a.length+b<=s/\∀x,f x=AA->left x=AA\/x∈a)
 case atStart=>exact⟨c1,[],_,s,nY _,H0.o,HM.o,HR.o,Δ,λx o=>.inl (by unfold DE;rw[ke o];rfl)⟩
 case round=>
  obtain⟨c,a,left,b,D,q,F,G,H,t⟩:=hrel;obtain⟨⟨A,g,m⟩,d⟩:=HA.o _ _ _ _ q
  rcases F.gw kr 0 with⟨ag,ah⟩|⟨i,v,I,K,aF,aU,ai,ah,aj,ak,g2,aG⟩
  ·have aH:=zh q;have L:Hd (∀x,f x=AA->x∈a):=zh (λx o=>(t x o).elim (λh=>by rw[ag x]at h;cases h) id);have HL:Hd (a.length<=256):=zh (Ψ ae.o);clear q F t g m d ag H D
   gi_wp2
   go_end0
   exact⟨⟨_,rfl⟩,c,.inl ⟨(),a,⟨HL.o,L.o⟩,aH.o⟩⟩
  ·have aJ:=OC (f:=f) (n:=i) (by rw[ai];rfl);have t2:Ac (λj=>j=R) wr I:=Ac.of g2 (λj e=>by cases e;rfl);have s2:Ab J3 wr c I c:=AG d t2 (λj e=>by rw[e];exact G);have ao:=aA.o _ _ _ _ _ _ q s2;obtain⟨fn,aW,aX,aY,hy,aq⟩:=HY.o () c a i I ao (Ψ ae.o) aJ;have aK:=zh aq;have ar:=zh aj;have M:=zh (show c R=197/\c p=u from⟨G,m⟩);have N:=zh (show K<b/\b<gk/\a.length+b<=s from⟨ak,D,H⟩);have L:=zh t;dsimp only[UL]at hy;clear q F t g m d t2 s2 ao aq aj ak D H G ai aF g2
   gi_wp2
   refine aK.o.mono ?_;rintro e W4 ⟨P,Q,(⟨rfl,⟨⟩,au⟩|⟨rfl,aM⟩)⟩
   ·have av:MR W4 E 3 p R 256 (DE f) (λj=>left j&&! decide (j=i)) K:=ar.o.ak Q.ak (by rw[M.o.2];exact ax) (by rw[M.o.1];exact aw);have aN:=zh av;have aO:=zh au;have aP:Hd (P R=197):=zh (by rw[Q.ah _ ar.o.lt.1];exact M.o.1);clear av au Q hy ah aG A
    gi_wp2
    gi_roundg (gk - 1)
    case measure=>have:=N.o;omega
    refine⟨P,a++[i],_,K,Ψ N.o,aO.o,aN.o,aP.o,by rw[jU,lr];have:=N.o;omega,λx o=>?_⟩
    rcases L.o x o with h|h
    ·by_cases e:x=i
     ·exact .inr (kY.2 (.inr (by rw[e];exact List.mem_singleton_self _)))
     ·exact .inl (by rw[h,jV e];rfl)
    ·exact .inr (kY.2 (.inl h))
   ·gi_wp2
    refine bodyPost_ret (results_none rfl _ _ _) rfl ?_;exact⟨⟨_,rfl⟩,P,.inr aM⟩
theorem ZA(b:Nat)(w:World):Calls E 115 #[O (V ⟨b,0,Ax⟩)] w λe a=>e=.returned (.func (.func 175) #[] #[O (V ⟨w.heap.size,0,Ax⟩)])/\a=w.alloc (.cells #[O (V ⟨b,0,Ax⟩)] 62):=by
 go_enter Tryz.func115,Tryz.ntmps115
 go_wp2;go_ret;exact⟨rfl,rfl⟩
structure Ls where
 i:Nat
 p:Nat
abbrev Ux(x:Ls):Array Value:=#[.map (V x.p)]
def jE(a b T d e:Nat)(f:List Nat)(D:Int->Option Nat)(Q:Nat->Int->Bool)(c:Ad)(X:World):Prop:=X.cell? ⟨a,0,Ax⟩=V (O (V ⟨b,0,Ax⟩))/\AX X c b T d e f 256 D Q
def jB(a:List Nat)(Q:Nat->Int->Bool)(b:List Ls)(x:Ls):Prop:=a[x.i]?=V x.p/\(∃n,Q x.i n=AA)/\(b=[]->∀i n,Q i n=AA->x.i<=i)
def jv(Q:Nat->Int->Bool)(a:List Ls):Prop:=a=[]->∀i n,Q i n=Z
def Nk(Q:Nat->Int->Bool)(a:List Ls)(k:Nat):Prop:=a=[]->∀i n,i<k->Q i n=Z
theorem gi(T r:Nat):((T:Int)/2^(6*r)).tmod 64=((T/2^(6*r)%64:Nat):Int):=by
 rw[show((T:Int)/2^(6*r))=((T/2^(6*r):Nat):Int) by push_cast;rfl];exact(Int.ofNat_tmod _ _).symm
theorem aX(a:J<4096)(c:2<=h):J/2^(6*h)%64=0:=by
 have b:2^12<=2^(6*h):=lL Ω Ω;rw[nw (jY a b)]
theorem eD{Q:Nat->Int->Bool}(d:J<4096)(c:(∀i n,i<J%64->Q i n=Z)/\(∀i n,64<=i->i<64+J/64->Q i n=Z)/\∀i n,128<=i->Q i n=Z){a:Nat}(b:J/2^(6*h)%64=a):a<64/\∀i n,64*h<=i->i<64*h+a->Q i n=Z:=by
 refine⟨Ω,λi n g j=>?_⟩
 by_cases e:h=0
 ·subst e;exact c.1 i n (by simp at b;omega)
 ·by_cases f:h=1
  ·subst f;exact c.2.1 i n Ω (by simp at b;omega)
  ·rw[aX d Ω]at b;omega
theorem dQ(b o a:Nat)(h:a<64)(W:World):(Instr.sliceAt 118 (O (V ⟨b,o,Ax⟩)) (V (.int .i64 a)) Ax Ax).run E W=.ok (.slice (V ⟨b,o+a,Ax⟩) (64 - a) (64 - a)) W:=by
 have c:E.arrayLen 118=64:=Φ;have d:E.elem 118=117:=Φ;have f:=run_sliceAt_array_l (P:=E) W 118 ⟨b,o,Ax⟩ (by rw[c,d];exact Tryz.underlying118) .i64 a Ω (by rw[c];omega);rw[f,c,d,Tryz.sizeOf117 W];simp only[Result.andThen,slicedAt,km,mL];rw[j7 Ω];unfold Addr.add
 by_cases e:a=0
 ·subst e;rfl
 ·rw[j7 e]
theorem aA(n Bx b T bd bl:Nat)(R:List Nat)(D:Int->Option Nat)(Q:Nat->Int->Bool)(hn:1<=n)(A:Cm T D Q)(C:Nat->Prop)(_:∀j,Bb j->¬C j):
  Iu Fence.wide n E 175 #[O (V ⟨Bx,0,Ax⟩)] Ux C (λ(_:Unit)=>jE Bx b T bd bl R D Q) (λg x _ _ _=>jB R Q g x) (jv Q) 400:=by
 intro l J Jx W m0 aI hJ aJ aK hA hY B _;have S:=zh hA;have HJ:=zh hJ;have HY:=zh hY;have H0:=zh B;have hT:=A.t
 have ag:∀i n,i<T%64->Q i n=Z:=by
  intro i n y
  cases q:Q i n with
  |false=>rfl
  |true=>
   obtain⟨a,U,h1,z⟩:=A.cT i n q;unfold Dt at z
   split at z<;>omega
 have ai:∀i n,64<=i->i<64+T/64->Q i n=Z:=by
  intro i n y aj
  cases q:Q i n with
  |false=>rfl
  |true=>
   obtain⟨a,U,h1,z⟩:=A.cT i n q;unfold Dt at z
   split at z<;>omega
 have ak:∀i n,128<=i->Q i n=Z:=by
  intro i n y
  cases q:Q i n with
  |false=>rfl
  |true=>
   obtain⟨a,U,h1,z⟩:=A.cT i n q;have:=Sd (T:=T) (A.lt n a U);omega
 have HE:=zh (Y ag (Y ai ak));clear hA hJ aJ aK hY B ag ai ak;refine callsIn_of_wp Tryz.func175 rfl kI ?_ rfl;simp only[Tryz.ntmps175,kR,kj,kP,Nat.reduceAdd,Nat.reduceSub,kF,kG,kU,kJ,kv,kO]
 gi_wp2
 gi_loopw [7] (λv wr=>∃r:Nat,r<=6/\v=.int .i64 (r:Nat)/\∃c g,J () c g wr/\g.length<=64*r/\Nk Q g (64*r)) (λv _=>(6 - intOf v).toNat)
 case atStart=>exact⟨0,Ω,rfl,aI,[],H0.o,kN _,λ_ i n y=>Ω⟩
 case round=>
  obtain⟨r,hr,rfl,c,g,f,s,m⟩:=hrel
  by_cases h6:r<6
  ·have d1:decide ((r:Int)<6)=AA:=jT Ω;have a9:decide (r<6)=AA:=jT h6;obtain⟨⟨K,o⟩,F⟩:=S.o _ _ _ _ f;obtain⟨c0,_,am⟩:=o.cells;have an:=zh f;have ao:=zh (Y s m);clear f s m;obtain⟨d,X⟩:=Ag (T/2^(6*r)%64);have ap:=zh (eD hT HE.o X);have aq:=gi T r;rw[X]at aq;clear X
   gi_wp2
   refine US ?_
   gi_wp2
   refine wpIn_label ?_;clear aq;have ar:=ap.o.1;have aQ:=dQ b (2+r*64) d ar wr
   gi_wp2
   clear aQ c0 am K;obtain⟨M,hM⟩:=Ag (64 - d);rw[hM];have HM:Hd (d+M=64):=zh Ω;have ba:M<=64:=Ω
   have aw:Nk Q g (64*r+d):=λe i n y=>by
    by_cases h:i<64*r
    ·exact ao.o.2 e i n h
    ·exact ap.o.2 i n Ω y
   have aR:=zh aw;clear aw hM ar;obtain⟨wX,ax⟩:∃x,wr=x:=⟨_,rfl⟩;rw[ax]at an⊢;clear o ax
   gi_loopw [26] (λv wr=>∃k:Nat,k<=M/\v=.int .i64 (k:Nat)/\∃c g,J () c g wr/\g.length<=64*r+k/\Nk Q g (64*r+d+k)) (λv _=>M - (intOf v).toNat)
   case atStart=>exact⟨0,Ω,rfl,c,g,an.o,ao.o.1,aR.o⟩
   case round=>
    obtain⟨k,hk,rfl,c',G,f,s,m⟩:=hrel
    by_cases aS:k<M
    ·have e1:decide ((k:Int)<(M:Int))=AA:=jT Ω;have be:decide (k<M)=AA:=jT aS
     have w2:wrap64 ((k:Int)+1)=((k+1:Nat):Int):=by rw[IntWalk.wrap64_in _ Ω];rfl
     obtain⟨⟨K,o⟩,F⟩:=S.o _ _ _ _ f;obtain⟨p,H,ay⟩:=o.gL (i:=64*r+d+k) (Ψ HM.o);rw[show 2+(64*r+d+k)=2+r*64+d+k by omega]at ay;obtain⟨L,az,N,u⟩:=(o.mp _ p H).g8 (t:=117) kr mP 3;have I:=zh f;have w:=zh (show R[64*r+d+k]?=V p/\G.length<=64*r+k/\Nk Q G (64*r+d+k)from⟨H,s,m⟩)
     by_cases B:L=0
     ·subst B;have HZ:=zh (u.1 rfl);clear f o F H s m u N
      gi_wp2
      have ab:=w.o;refine⟨⟨k+1,Ω,by push_cast;rfl,c',G,I.o,Ω,λe i n y=>?_⟩,by simp[intOf];omega⟩
      by_cases h:i<64*r+d+k
      ·exact ab.2.2 e i n h
      ·have aj:i=64*r+d+k:=by omega
       have P:=HZ.o n;rw[<-aj]at P;unfold DE at P
       cases q:Q i n with
       |false=>rfl
       |true=>rw[ke q]at P;cases P
     ·have bf:((L:Int)==0)=Z:=by simp;omega
      have aB:∃n,Q (64*r+d+k) n=AA:=by
       refine lJ λaW=>B (u.2 λn=>?_)
       unfold DE;rw[j7 (λh=>aW ⟨n,h⟩)]
      obtain⟨fn,bh,bi,bj,hy,aD⟩:=HY.o () c' G ⟨64*r+d+k,p⟩ wr f Ω ⟨H,aB,λe i n q=>by
       refine lJ λaX=>?_
       have bk:¬64*r+d+k<=i:=aX;rw[m e i n Ω]at q
       cases q⟩
      have aY:=zh aD;dsimp only[Ux]at hy;clear f o F H s m u N aB aD
      gi_wp2
      refine aY.o.mono ?_;rintro e W4 ⟨c4,aZ,(⟨rfl,⟨⟩,aF⟩|⟨rfl,a0⟩)⟩
      ·have a1:=zh aF;clear aF aZ hy ay az K
       gi_wp2
       have ab:=w.o;have bn:=ab.2.1;exact⟨⟨k+1,Ω,by push_cast;rfl,c4,_,a1.o,by rw[jU,lr];omega,λe=>by simp at e⟩,by simp[intOf];omega⟩
      ·gi_wp2
       (try dsimp only[Exit.noGoto])
       gi_wp2
       refine bodyPost_ret (results_none rfl _ _ _) rfl ?_;exact⟨⟨_,rfl⟩,c4,.inr a0⟩
    ·obtain rfl:k=M:=by omega
     have e1:decide ((k:Int)<(k:Int))=Z:=jV Ω
     have w2:wrap64 ((r:Int)+1)=((r+1:Nat):Int):=by rw[IntWalk.wrap64_in _ Ω];rfl
     have I:=zh f;have w:=zh (Y s m);clear f s m
     gi_wp2
     (try dsimp only[Exit.noGoto])
     gi_wp2
     have hm:=HM.o;refine⟨⟨r+1,Ω,by push_cast;rfl,c',G,I.o,Ψ w.o.1,?_⟩,by simp[intOf];omega⟩;rw[show 64*(r+1)=64*r+d+k by omega];exact w.o.2
  ·obtain rfl:r=6:=by omega
   obtain⟨⟨K,o⟩,F⟩:=S.o _ _ _ _ f;obtain⟨_,_,am⟩:=o.cells;obtain⟨L,az,N,u⟩:=o.ml.g8 (t:=117) kr mP 3
   obtain rfl:L=0:=u.2 λ_=>rfl
   have I:=zh f;have w:=zh (Y s m);clear f s m u N o F
   gi_wp2
   go_end0
   refine⟨⟨_,rfl⟩,c,.inl ⟨(),g,λe i n=>?_,I.o⟩⟩
   by_cases h:i<384
   ·exact w.o.2 e i n h
   ·exact HE.o.2.2 i n Ω
end
