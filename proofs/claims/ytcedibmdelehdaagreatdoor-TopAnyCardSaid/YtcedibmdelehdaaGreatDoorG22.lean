/- Lemmas. -/
import Derived.Test.YtcedibmdelehdaaGreatDoorG13
import Derived.Deep.AppendLies
import Derived.Laws.Bits64b
namespace Go.Proofs.YtcedibmdelehdaaGreatDoor
set_option maxRecDepth 100000
set_option maxHeartbeats 32000000
open Go.Value renaming slice->E,int->A2,pointer->A4,ownBlock->A7,bool->BB,tuple->B0
open Go renaming World->J,Value->AA,Calls->Bn,madeCells->BZ,wpQuiet_nil->B1,info_parts->B4,Ending->B7,Addr->B8,maxLen->B9
open Option renaming none->O,some->A5
open Go.Proofs.Tryz renaming prog->V,func185->BA,ntmps125->BL,func125->BR,ntmps124->B5,func124->B6
open Go.Ending renaming returned->Ax
open Bool renaming false->A6,true->Bk
open List renaming replicate->Bd
open Go.World renaming grownBy_alloc->Bs,ownsRow_nil->Bx
open Or renaming inl->BC,inr->B2
open Go.IntKind renaming u64->BD,i64->BE,u8->BX,wrap_u8->B3
variable{f:List Nat}{h c e:J}{Y d i:Nat}{Z:AA}{a:Bool}{b:Int}{g:B8}
section
open Go.RowKit
theorem Qr(n:Nat):BZ (A2 BX 0).cells n=(Bd n (A2 BX 0)).toArray:=by
 apply Array.ext
 ·simp[BZ]
 ·intro i a b;simp[BZ,Value.cells,pN]
def NF(n i:Nat):AA:=A2 BX ((Fu n i:Nat):Int)
theorem Ux(n k:Nat):Ar (At n k)=BU (NF n) k:=by simp[Ar,At,BU,NF,nH]
theorem Xj(n k:Nat)(z:n<18446744073709551616)(M:k<=8)(w:J):
  Bn V 188 #[A2 BD n,A2 BE k] w λe h=>∃a c,e=Ax (E a k c)/\h.ownsRow w.heap.size 5 1 (E a k c) k (Ar (At n k))/\w.grownBy h O:=by
 obtain⟨A,B,C,l,D⟩:=B4 GK
 have F:∀W:J,(Instr.makeSlice 64 (A2 BE k) (A2 BE k)).run V W=.ok (E (A5 ⟨W.heap.size,0,O⟩) k k) (W.alloc (.cells (Bd k (A2 BX 0)).toArray 5)):=by
  intro W;have:=run_makeSlice (P:=V) W 64 5 A (A2 BX 0) kY B C BE BE k k Ω Ω (by rw[l];omega) (by rw[D];omega) Ω;rw[this,l];rw[show(BZ (A2 BX 0).cells ((k:Int).toNat*1))=(Bd k (A2 BX 0)).toArray from by rw[jS,mj];exact Qr k];simp
 go_enter Tryz.func188,Tryz.ntmps188
 go_wp2;obtain⟨o,d⟩:=Af (w.alloc (.cells (Bd k (A2 BX 0)).toArray 5))
 have p:Aa o w.heap.size 5 (Bd k (A2 BX 0)):=by rw[<-d];exact Aa.new w _ _
 have r:w.grownBy o O:=by rw[<-d];exact Bs w _ O
 try simp only[List.toArray_replicate]at d
 rw[d];have G:=zh p;have H:=zh r;clear d p r F
 go_loopw [0,11] (λm i wr=>∃j q:Nat,j<=k/\i=A2 BE j/\m=A2 BD q/\q=n/256^j/\Aa wr w.heap.size 5 (BU (NF n) j++(Bd k (A2 BX 0)).drop j)/\w.grownBy wr O) (λ_ i _=>k - (intOf i).toNat)
 case atStart=>exact⟨0,n,Ω,rfl,rfl,Δ,by simpa[BU]using G.o,H.o⟩
 case round=>
  obtain⟨j,q,N,rfl,rfl,f,b,s⟩:=hrel
  have Q:q<18446744073709551616:=by rw[f];exact lM (mN _ _) z
  have t:=zh f;have u:=zh b;have x:=zh s;clear f s
  by_cases I:j<k
  ·have y:∃v,wr.cell? ⟨w.heap.size,j,O⟩=A5 v:=by
    have:=b.cell? j;rw[kQ (by rw[EU];omega),EU,lJ,lL,List.getElem?_replicate_of_lt Ω]at this;exact⟨_,this⟩
   obtain⟨v,y⟩:=y;have R:=b.v j
   have S:BX.wrap (q:Int)=((Fu n j:Nat):Int):=by
    rw[B3];unfold Fu;rw[<-t.o];exact(qb q 256).symm
   have g:=u.o.setCell j (NF n j);rw[Ml _ _ _ (by simpa using I)]at g;have K:=zh g;have L:Hd (((q/256:Nat))=n/256^(j+1)):=zh (by rw[t.o,Us]);clear g b;go_wp2
   go_roundw
   case rel=>exact⟨j+1,q/256,Ω,by go_num,Δ,L.o,K.o,Br x.o (Ao _ _ _) Δ⟩
   case measure=>simp[intOf];omega
  ·obtain rfl:j=k:=by omega
   clear b;go_wp2;go_ret;have b:=u.o;rw[oF Δ,lw]at b;exact⟨_,_,rfl,JI b (jF _) (jF _) (by unfold B9;omega) (by rw[EU];omega) (by rw[Ux,mj,lf (by rw[EU];omega)]) (by rw[Ux,EU];omega),x.o⟩
theorem QF(n k:Nat)(z:n<18446744073709551616)(p:k=1\/k=2\/k=4\/k=8)(w:J):
  Bn V 106 #[A2 BD n,A2 BE k] w λe r=>∃a c,e=Ax (E a k c)/\r.ownsRow w.heap.size 5 1 (E a k c) k (Ar (At n k))/\w.grownBy r O:=by
 obtain⟨A,B,C,D,F⟩:=B4 GK;have N:k<=8:=Ω
 have G:((((k:Int)!=1)=A6/\True)\/(((k:Int)!=1)=Bk/\((k:Int)!=2)=A6))\/((((k:Int)!=1)=Bk/\((k:Int)!=2)=Bk/\((k:Int)!=4)=A6)\/(((k:Int)!=1)=Bk/\((k:Int)!=2)=Bk/\((k:Int)!=4)=Bk/\((k:Int)!=8)=A6)):=by
  rcases p with rfl|rfl|rfl|rfl<;>decide
 clear p
 rcases G with(⟨b,_⟩|⟨b,s⟩)|(⟨b,s,H⟩|⟨b,s,H,P⟩)
 all_goals
  go_enter Tryz.func106,Tryz.ntmps106
  go_wp2
  go_loopw [0,5,6] (λm o i wr=>∃(j q:Nat) (a:Option B8) (c:Nat),j<=k/\i=A2 BE j/\m=A2 BD q/\o=E a j c/\q=n/256^j/\wr.ownsRow w.heap.size 5 1 (E a j c) j (Ar (At n j))/\w.grownBy wr O) (λ_ _ i _=>k - (intOf i).toNat)
  case atStart=>exact⟨0,n,O,0,Ω,rfl,rfl,rfl,Δ,Bx _ _ _ _,Bo _ _⟩
  case round=>
   obtain⟨j,q,a,c,Q,rfl,rfl,rfl,d,t,f⟩:=hrel
   have R:q<18446744073709551616:=by rw[d];exact lM (mN _ _) z
   have S:=f.size;have h:=zh d;have l:=zh t;have u:=zh f;clear d t f
   by_cases T:j<k
   ·have U:BX.wrap ((q:Int)%256)=((Fu n j:Nat):Int):=by
     rw[B3];unfold Fu;rw[<-h.o];omega
    have W:(q:Int)%256=((Fu n j:Nat):Int):=by
     unfold Fu;rw[<-h.o];exact(qb q 256).symm
    have I:Hd (((q/256:Nat))=n/256^(j+1)):=zh (by rw[h.o,Us]);have X:=Uq n j;have K:Hd (Ar (At n (j+1))=Ar (At n j)++[A2 BX ((Fu n j:Nat):Int)]):=zh (by rw[RY,JK];rfl);generalize Fu n j=y at*;go_wp2_with (at_builtin;refine wpList_append_lies _ rfl _ _ 64 rfl w.heap.size 5 A _ 1 1 kY B C D F rfl Ω _ _ _ rfl (l.o.alloc _) ⟨wr.heap.size,0,O⟩ 1 1 [A2 BX (y:Int)] rfl rfl (cell_one_new _ _ _) (by simp[Value.oneCell']) Ω (by unfold B9;omega) Ω Γ (wr.heap.size+1) Δ ?_;intro g Y Z v x _ _;have L:=zh v;have M:=zh x;clear v x)
    go_roundw
    case rel=>exact⟨j+1,q/256,_,_,Ω,by go_num,Δ,rfl,I.o,by rw[K.o];exact L.o,VV u.o l.o (jF _) M.o⟩
    case measure=>simp[intOf];omega
   ·obtain rfl:j=k:=by omega
    go_wp2;go_ret;exact⟨_,_,rfl,l.o,u.o⟩
end
section
open Go.RowKit
structure WR(w:J)(B:Nat)(v:AA)(a:List Nat)(b:Int)(c:Bool):Prop where
 y:Aa w B 303 [v,A2 BE b,BB c]
 aS:w.ownsRow 0 5 1 v a.length (Ar a)
 gD:0<=b
 gB:b<=9223372036854775807
 bC:a.length<=50000000
def DE(B:Nat)(v:AA)(k:Nat):Prop:=k=B\/v.ownBlock=A5 k
def Fo(a:List Nat)(d:Int)(b:Bool)(c:List Nat):List Nat×Bool:=if b=Bk\/d<(a.length:Int)+c.length then(a,Bk)else(a++c,b)
theorem WR.slice(d:WR h Y Z f b a):∃e c,Z=E e f.length c:=(Ag.ai d.aS).slice
theorem WR.cF(c:WR h Y Z f b a):Z.ownBlock≠A5 Y:=Bv c.y c.aS Ξ
theorem WR.au{S:Nat->Prop}(d:WR h Y Z f b a)(e:Ac S h c)(g:∀k,DE Y Z k->¬S k):WR c Y Z f b a:=
 ⟨e.y d.y (g Y (BC rfl)),e.aT d.aS (λi j=>g i (B2 j)),d.gD,d.gB,d.bC⟩
theorem WR.lt(d:WR h Y Z f b a):∀k,DE Y Z k->k<h.heap.size:=λk c=>by
 rcases c with rfl|c
 ·exact d.y.lt
 ·exact(d.aS.lt k c).2
theorem WR.u(d:WR h Y Z f b a)(e:h.grownBy c O):WR c Y Z f b a:=
 d.au (S:=λ_=>False) (Ac.az e) (λ_ _ d=>d)
theorem WR.f6(c:WR h Y Z f b a)(d:Bool):WR (h.setCell ⟨Y,2,O⟩ (BB d)) Y Z f b d:=
 ⟨c.y.setCell 2 _,c.aS.kept (Ao _ _ _) (B2 c.cF),c.gD,c.gB,c.bC⟩
theorem IV(l:Int)(b:l<=9223372036854775807)(w:J):
  Bn V 123 #[A2 BE l] w λe a=>e=Ax (A4 (A5 ⟨w.heap.size,0,O⟩))/\WR a w.heap.size (E O 0 0) [] (if 0<=l then l else 0) A6/\w.grownBy a O:=by
 rcases(show 0<l\/l=0\/l<0 by omega)with h|rfl|h
 all_goals
  go_enter Tryz.func123,Tryz.ntmps123
  go_wp2;go_ret;exact⟨rfl,⟨Aa.new w 303 _,Bx _ _ _ _,Ω,Ω,Δ⟩,Bs _ _ O⟩
theorem cL(B:Nat)(v:AA)(a:List Nat)(n:Nat)(b:Int)(d:Option B8)(f:Nat)(w:J)(h:WR w B v a b Bk):
  Bn V 125 #[A4 (A5 ⟨B,0,O⟩),E d n f] w λe c=>e=Ax (B0 #[])/\WR c B v a b Bk/\Ac (DE B v) w c:=by
 have i:=h.y.m 2;have j:=h.y.v 2;have g:=zh h;clear h
 go_enter BR,BL
 go_wp2_with fail;refine NI 22 Φ Φ ?_;simp only[oZ,pA,pd,oG]
 repeat(go_big_quiet_step (fail))
 refine B1 ?_;go_wp2_with fail
 go_end0
 exact⟨rfl,(g.o.f6 Bk).u (AZ _ 1 O),Ac.of (Ab (Ao w ⟨B,2,O⟩ (BB Bk)) (AZ _ 1 _)) (λk e=>by cases e;exact BC rfl)⟩
theorem ey(B:Nat)(v:AA)(a:List Nat)(n:Nat)(b:Int)(d:Option B8)(f:Nat)(w:J)(h:WR w B v a b A6)(g:b<(a.length:Int)+n):
  Bn V 125 #[A4 (A5 ⟨B,0,O⟩),E d n f] w λe c=>e=Ax (B0 #[])/\WR c B v a b Bk/\Ac (DE B v) w c:=by
 obtain⟨j,l,rfl⟩:=h.slice;have m:=h.y.m 0;have o:=h.y.m 1;have p:=h.y.m 2;have q:=h.y.v 2;have r:=h.gD;have s:=h.gB;have t:=h.bC;have u:decide (b - (a.length:Int)<(n:Int))=Bk:=jG Ω;have i:=zh h;clear h g
 go_enter BR,BL
 go_wp2_with fail;refine NI 22 Φ Φ ?_;simp only[oZ,pA,pd,oG]
 repeat(go_big_quiet_step (fail))
 refine B1 ?_;go_wp2_with fail
 go_end0
 exact⟨rfl,(i.o.f6 Bk).u (AZ _ 1 O),Ac.of (Ab (Ao w ⟨B,2,O⟩ (BB Bk)) (AZ _ 1 _)) (λk e=>by cases e;exact BC rfl)⟩
theorem dW(B:Nat)(v:AA)(c a:List Nat)(g:Int)(i:Option B8)(j:Nat)(w:J)(h:WR w B v c g A6)(G:¬g<(c.length:Int)+a.length)(H:c.length+a.length<=50000000)(o:Ag w 1 (E i a.length j) a.length (Ar a))(p:a≠[]->∀b,(E i a.length j).ownBlock=A5 b->b≠B):
  Bn V 125 #[A4 (A5 ⟨B,0,O⟩),E i a.length j] w λe q=>∃r,e=Ax (B0 #[])/\WR q B r (c++a) g A6/\Ac (DE B v) w q/\∀k,DE B r k->DE B v k\/w.heap.size<=k:=by
 obtain⟨I,K,L,M,N⟩:=B4 GK;obtain⟨s,t,rfl⟩:=h.slice;have Y:=h.y.m 0;have Z:=h.y.m 1;have k2:=h.y.m 2;have f2:=h.y.v 2;have P:=h.gD;have Q:=h.gB;have l2:=h.bC;have hd:decide (g - (c.length:Int)<(a.length:Int))=A6:=jH Ω;have d:=(h.f6 A6).u (AZ _ 1 O);have u:Ag ((w.setCell ⟨B,2,O⟩ (BB A6)).drewN 1) 1 (E i a.length j) a.length (Ar a):=(cY o ⟨B,2,O⟩ (BB A6) (λR e=>p (λh=>R (by rw[h];rfl)) _ e rfl)).drewN 1;have m:=zh d;have S:=zh u;have x:Hd (Ac (DE B (E s c.length t)) w ((w.setCell ⟨B,2,O⟩ (BB A6)).drewN 1)):=zh (Ac.of (Ab (Ao w ⟨B,2,O⟩ (BB A6)) (AZ _ 1 _)) (λk e=>by cases e;exact BC rfl));have T:Hd (w.heap.size<=((w.setCell ⟨B,2,O⟩ (BB A6)).drewN 1).heap.size):=zh x.o.aQ;clear h G o p d u
 go_enter BR,BL
 go_wp2_with fail;refine NI 22 Φ Φ ?_;simp only[oZ,pA,pd,oG]
 repeat(go_big_quiet_step (fail))
 refine B1 ?_;go_wp2_with (at_builtin;refine NH rfl _ _ 64 rfl 0 5 I (A2 BX 0) 1 1 kY K L M N rfl Ξ (v:=E s c.length t) (sv:=E i a.length j) rfl m.o.aS rfl S.o (QV a) (by unfold B9;omega) Ω (ke _) ?_;intro v3 y d n z;obtain⟨A,C,rfl⟩:=(Ag.ai d).slice;have l:=m.o.y.u n (λe=>m.o.cF e.symm);have q0:=l.m 0;have q1:=l.v 0;have U:=zh z;have D:=zh d;have W:=zh n;have F:=zh l;clear d n z l)
 go_end0
 have X:WR (y.setCell ⟨B,0,O⟩ (E A (c.length+a.length) C)) B (E A (c.length+a.length) C) (c++a) g A6:=
  ⟨F.o.setCell 0 _,by rw[JK,jI];exact D.o.kept (Ao _ _ _) (B2 (Bv F.o D.o Ξ)),P,Q,by rw[jI];exact H⟩
 refine⟨_,rfl,X,?_,?_⟩
 ·refine x.o.trans ((Ac.of W.o (λk e=>B2 e)).trans (Ac.of (Ao y ⟨B,0,O⟩ _) (λk e=>by cases e;exact BC rfl)))
 ·intro k f
  rcases f with rfl|f
  ·exact BC (BC rfl)
  ·rcases U.o with h|h
   ·exact BC (B2 (h▸f))
   ·rw[h]at f;simp at f;have:=T.o;simp[World.drewN]at this;exact B2 (by rw[<-f];simp)
theorem eS(B:Nat)(v:AA)(c a:List Nat)(d:Int)(i:Bool)(f:Option B8)(g:Nat)(w:J)(h:WR w B v c d i)(r:c.length+a.length<=50000000)(s:Ag w 1 (E f a.length g) a.length (Ar a))(t:a≠[]->∀b,(E f a.length g).ownBlock=A5 b->b≠B):
  Bn V 125 #[A4 (A5 ⟨B,0,O⟩),E f a.length g] w λe j=>∃q,e=Ax (B0 #[])/\WR j B q (Fo c d i a).1 d (Fo c d i a).2/\Ac (DE B v) w j/\∀k,DE B q k->DE B v k\/w.heap.size<=k:=by
 cases i with
 |true=>
  rw[show Fo c d Bk a=(c,Bk)from jP (BC rfl)]
  exact(cL B v c a.length d f g w h).mono λe j ⟨m,n,o⟩=>⟨v,m,n,o,λk p=>BC p⟩
 |false=>
  by_cases l:d<(c.length:Int)+a.length
  ·rw[show Fo c d A6 a=(c,Bk)from jP (B2 l)]
   exact(ey B v c a.length d f g w h l).mono λe j ⟨m,n,o⟩=>⟨v,m,n,o,λk p=>BC p⟩
  ·rw[show Fo c d A6 a=(c++a,A6)from jN (by simp only[om,false_or];exact l)];exact dW B v c a d f g w h l r s t
end
section
section
open Go.RowKit
def Lj(a:List Nat)(b:Int)(c:Bool)(n:Nat)(k:Int):List Nat×Bool:=if Fe k=Bk then Fo a b c (At n k.toNat)else(a,Bk)
def Jm(w:J)(B:Nat)(v:AA)(c:Int)(p:List Nat×Bool)(e:B7)(a:J):Prop:=
 ∃b,e=Ax (B0 #[])/\WR a B b p.1 c p.2/\Ac (DE B v) w a/\∀k,DE B b k->DE B v k\/w.heap.size<=k
theorem PY(B:Nat)(v:AA)(c a:List Nat)(d:Int)(g:Bool)(e:Option B8)(f:Nat)(w:J)(h:WR w B v c d g)(i:c.length+a.length<=50000000)(j:Ag w 1 (E e a.length f) a.length (Ar a))(k:a≠[]->∀b,(E e a.length f).ownBlock=A5 b->b≠B):
  Bn V 125 #[A4 (A5 ⟨B,0,O⟩),E e a.length f] w (Jm w B v d (Fo c d g a)):=eS B v c a d g e f w h i j k
theorem Jm.g6{p:List Nat×Bool}{d:B7}(f:h.grownBy c O)(a:Jm c Y Z b p d e):Jm h Y Z b p d e:=by
 obtain⟨g,i,j,l,m⟩:=a;refine⟨g,i,j,(Ac.az f).trans l,λk n=>?_⟩
 rcases m k n with a|a
 ·exact BC a
 ·exact B2 (jM f.size a)
theorem Wo(B:Nat)(v:AA)(d:List Nat)(f:Int)(g:Bool)(n:Nat)(k:Int)(w:J)(h:WR w B v d f g)(C:n<18446744073709551616)(N:d.length<=49000000):
  Bn V 124 #[A4 (A5 ⟨B,0,O⟩),A2 BD n,A2 BE k] w (Jm w B v f (Lj d f g n k)):=by
 have P:=h.y.m 2;have Q:=h.y.v 2;have l:=zh (λW=>Un k W)
 cases i:Fe k
 ·have j:Lj d f g n k=(d,Bk):=jN (by rw[i];exact pC);rw[j];rw[i]at l;have m:=zh (h.f6 Bk);clear j i h
  go_enter B6,B5
  go_wp2_with fail;refine(l.o _).mono ?_;rintro e D ⟨rfl,rfl⟩;go_wp2
  go_end0
  exact⟨_,rfl,m.o,Ac.of (Ao _ _ _) (λk e=>by cases e;exact BC rfl),λk o=>BC o⟩
 ·have j:Lj d f g n k=Fo d f g (At n k.toNat):=jP i;rw[j];have o:=j7 i;rw[i]at l;obtain⟨q,rfl⟩:=jU (show 0<=k by omega);have F:q<=8:=Ω;have m:=zh h;clear j i h o;rw[jS]
  go_enter B6,B5
  go_wp2_with fail;refine(l.o _).mono ?_;rintro e D ⟨rfl,rfl⟩;go_wp2_with fail;refine(Xj n q C F _).mono ?_;rintro e t ⟨a,c,rfl,p,r⟩
  have u:Ag t 1 (E a (At n q).length c) (At n q).length (Ar (At n q)):=by rw[AK];exact Ag.ai p
  have G:=m.o.lt B (BC rfl);have s:=PY B v d (At n q) f g a c t (m.o.u r) (by rw[AK];omega) u (λ_ b x=>by rw[AK]at x;have:=(p.lt b x).1;omega);rw[AK]at s;have H:=zh s;have I:=zh r;clear s u p r G;go_wp2_with fail;refine H.o.mono ?_;rintro e K ⟨L,rfl,y,z,A⟩;have M:Hd (Jm w B v f (Fo d f g (At n q)) (Ax (B0 #[])) K):=zh (Jm.g6 I.o ⟨L,rfl,y,z,A⟩);clear y z A;go_wp2
  go_end0
  exact M.o
end
section
open Go.RowKit
theorem Il(B:Nat)(v:AA)(b:List Nat)(f:Int)(g:Bool)(w:J)(h:WR w B v b f g):
  Bn V 126 #[A4 (A5 ⟨B,0,O⟩)] w λe d=>∃a c,e=Ax (E a b.length c)/\d.ownsRow w.heap.size 5 1 (E a b.length c) b.length (Ar b)/\w.grownBy d O:=by
 obtain⟨i,j,rfl⟩:=h.slice;have n:=h.y.m 0;have o:=h.bC;have k:=zh (Ag.ai h.aS);clear h
 go_enter Tryz.func126,Tryz.ntmps126
 go_wp2_with fail;refine(Ek b i j w Ω k.o).mono ?_;rintro e p ⟨a,c,rfl,l,m⟩;go_wp2;go_ret;exact⟨a,c,rfl,l,m⟩
end
section
open Go.RowKit
structure PW(a w:J)(B:Nat)(v:AA)(b:List Nat)(c:Int):Prop where
 wr:WR w B v b c A6
 fi:∀k,DE B v k->a.heap.size<=k
 u:a.grownBy w O
theorem PW.bw(a:PW h c Y Z f b)(d:c.grownBy e O):PW h e Y Z f b:=⟨a.wr.u d,a.fi,Ab a.u d⟩
theorem PW.be(g:PW c h Y Z f b)(n k:Nat)(v:n<18446744073709551616)(w:Fe k=Bk)(B:(f.length:Int)+k<=b)(x:f.length<=49000000):
  Bn V 124 #[A4 (A5 ⟨Y,0,O⟩),A2 BD n,A2 BE k] h λe m=>∃i,e=Ax (B0 #[])/\PW c m Y i (f++At n k) b/\∀a t o,Aa h a t o->¬DE Y Z a->Aa m a t o/\¬DE Y i a:=by
 refine(Wo Y Z f b A6 n k h g.wr v x).mono ?_;rintro e m ⟨i,rfl,p,q,r⟩
 have y:Lj f b A6 n k=(f++At n k,A6):=by
  unfold Lj Fo;rw[jP w,jS,jN];rw[AK];intro l
  rcases l with l|l
  ·cases l
  ·omega
 rw[y]at p;refine⟨i,rfl,⟨p,λj z=>?_,q.u g.u g.fi⟩,λa t o s u=>⟨q.y s u,λA=>?_⟩⟩
 ·rcases r j z with d|d
  ·exact g.fi j d
  ·exact jM g.u.size d
 ·rcases r a A with d|d
  ·exact u d
  ·have:=s.lt;omega
end
end
section
section
open Go.RowKit
structure RR(w:J)(B:Nat)(v:AA)(b:List Nat)(e:Bool):Prop where
 y:Aa w B 351 [v,BB e]
 aN:Ag w 1 v b.length (Ar b)
 cF:v.ownBlock≠A5 B
 hC:∀a n c,v=E a n c->n<=c/\c<=9223372036854775807
 bC:b.length<=50000000
 hj:∀d n c,v=E (A5 d) n c->d.spot=O
 bB:∀x∈b,x<256
theorem RR.slice(b:RR h Y Z f a):∃d c,Z=E d f.length c:=b.aN.slice
theorem RR.au{S:Nat->Prop}(d:RR h Y Z f a)(e:Ac S h c)(g:∀k,k=Y\/Z.ownBlock=A5 k->¬S k):RR c Y Z f a:=
 ⟨e.y d.y (g Y (BC rfl)),e.aN d.aN (λb i=>g b (B2 i)),d.cF,d.hC,d.bC,d.hj,d.bB⟩
theorem RR.u(b:RR h Y Z f a)(d:h.grownBy c O):RR c Y Z f a:=
 b.au (S:=λ_=>False) (Ac.az d) (λ_ _ b=>b)
theorem Mc(d:List Nat)(a:Option B8)(c:Nat)(w:J)(y:d.length<=50000000)(k:∀x∈d,x<256)(l:Ag w 1 (E a d.length c) d.length (Ar d)):
  Bn V 183 #[E a d.length c] w λe m=>∃B v,e=Ax (A4 (A5 ⟨B,0,O⟩))/\RR m B v d A6/\w.heap.size<=B/\(∀b,v.ownBlock=A5 b->w.heap.size<=b)/\w.grownBy m O:=by
 have z:=zh l;have A:=zh k;clear l k
 go_enter Tryz.func183,Tryz.ntmps183
 go_wp2_with fail;refine(Ek d a c w Ω z.o).mono ?_;rintro e o ⟨p,q,rfl,r,s⟩;have i:=zh r;have t:=zh s;clear r s;go_wp2;go_ret;refine⟨o.heap.size,E p d.length q,rfl,⟨Aa.new o 351 [E p d.length q,BB A6],(Ag.ai i.o).alloc _,λh=>Ψ ((i.o.lt _ h).2),?_,y,?_,A.o⟩,t.o.size,λb C=>(i.o.lt b C).1,Ab t.o (Bs _ _ O)⟩
 ·intro a n D h
  rcases i.o.2 with⟨f,j⟩|⟨g,F,G,f,_,_,j,u,_⟩
  ·rw[f]at h;simp at h;omega
  ·rw[f]at h;simp at h;unfold B9 at u;omega
 ·intro H n D h
  rcases i.o.2 with⟨f,j⟩|⟨g,F,G,f,_,_,j,u,_⟩
  ·rw[f]at h;simp at h
  ·rw[f]at h;simp at h;rw[<-h.1]
theorem OT(B:Nat)(v:AA)(b:List Nat)(a:Bool)(w:J)(h:RR w B v b a):
  Bn V 186 #[A4 (A5 ⟨B,0,O⟩)] w λe c=>e=Ax (BB a)/\w=c:=by
 have d:=h.y.m 1;clear h
 go_enter Tryz.func186,Tryz.ntmps186
 go_wp2;go_ret;exact⟨rfl,rfl⟩
theorem Zu(B:Nat)(v:AA)(b:List Nat)(f:Bool)(w:J)(h:RR w B v b f):
  Bn V 250 #[A4 (A5 ⟨B,0,O⟩)] w λe d=>∃a c,e=Ax (E a b.length c)/\d.ownsRow w.heap.size 5 1 (E a b.length c) b.length (Ar b)/\w.grownBy d O:=by
 obtain⟨g,i,rfl⟩:=h.slice;have m:=h.y.m 0;have n:=h.bC;have j:=zh h.aN;clear h
 go_enter Tryz.func250,Tryz.ntmps250
 go_wp2_with fail;refine(Ek b g i w Ω j.o).mono ?_;rintro e o ⟨a,c,rfl,k,l⟩;go_wp2;go_ret;exact⟨a,c,rfl,k,l⟩
theorem dw(B:Nat)(v:AA)(b:List Nat)(f:Bool)(n:Int)(w:J)(h:RR w B v b f)(g:n<0\/(b.length:Int)<n):
  Bn V 185 #[A4 (A5 ⟨B,0,O⟩),A2 BE n] w λe d=>e=Ax (E O 0 0)/\RR d B (E O 0 0) [] Bk/\w.grownBy d (A5 B):=by
 obtain⟨k,l,rfl⟩:=h.slice;have m:=h.y.m 0;have o:=h.y.m 1;have p:=h.y.v 0;have q:=h.y.v 1;have r:=h.bC;have i:=zh ((h.y.setCell 0 (E O 0 0)).setCell 1 (BB Bk));clear h
 rcases(show n<0\/(¬n<0/\(b.length:Int)<n) by omega)with j|⟨j,s⟩
 all_goals
  clear g
  go_enter BA,pY
  go_wp2;go_ret;exact⟨rfl,⟨i.o,Ag.nil _ 1,by simp[A7],λa n c e=>by simp at e;omega,Δ,λt n c e=>by simp at e,Δ⟩,Ab (Ao w ⟨B,0,O⟩ _) (Ao _ ⟨B,1,O⟩ _)⟩
end
section
open Go.RowKit
theorem WI(a:List Nat)(n:Nat):Ar (a.take n)=(Ar a).take n:=by simp[Ar,List.map_take]
theorem Wj(a:List Nat)(n:Nat):Ar (a.drop n)=(Ar a).drop n:=by simp[Ar,List.map_drop]
theorem Ag.f0{n:Nat}(a:Ag h 1 (E (A5 g) f.length Y) f.length (Ar f))(k:n<=f.length)(c:Nat):Ag h 1 (E (A5 g) n c) n (Ar (f.take n)):=by
 obtain⟨_,l,a⟩:=a
 rcases a with⟨a,_⟩|⟨m,o,d,e,i⟩
 ·simp at a
 ·simp at d;obtain⟨rfl,_⟩:=d;refine⟨by simp[Hh];omega,Ω,B2 ⟨g,c,rfl,λp=>e Ω,λj u b=>i j u ?_⟩⟩;rw[WI]at b;rw[mE]at b
  split at b
  ·exact b
  ·simp at b
theorem Ag.f4{n:Nat}(a:Ag h 1 (E (A5 ⟨Y,d,O⟩) f.length i) f.length (Ar f))(k:n<=f.length)(b:Nat):Ag h 1 (E (A5 ⟨Y,d+n,O⟩) (f.drop n).length b) (f.drop n).length (Ar (f.drop n)):=by
 obtain⟨_,l,a⟩:=a
 rcases a with⟨a,_⟩|⟨m,o,c,p,g⟩
 ·simp at a
 ·simp at c;obtain⟨rfl,_⟩:=c;refine⟨by simp[Hh],by rw[j0];omega,B2 ⟨⟨Y,d+n,O⟩,b,rfl,λ_=>rfl,λj u e=>?_⟩⟩;rw[Wj,lL]at e;have:=g _ _ e
  rwa[<-kO]at this
theorem Ag.gU(a:Ag h 1 (E O f.length Y) f.length (Ar f)):f=[]/\Y=0:=by
 rcases a.2.2 with⟨a,b⟩|⟨c,d,a,_⟩
 ·simp at a;exact⟨km b,a.2⟩
 ·simp at a
theorem OE{e:TypeId}{u:AA}{a:List AA}(b:h.ownsRow Y e d Z i a)(c:g.block<Y):(h.setCell g u).ownsRow Y e d Z i a:=Df b g u c
def iN(w:J)(B:Nat)(v:AA)(d:List Nat)(g:Bool)(n:Nat)(e:B7)(b:J):Prop:=
 ∃a c f,e=Ax (E a n c)/\b.ownsRow w.heap.size 5 1 (E a n c) n (Ar (d.take n))/\RR b B f (d.drop n) g/\(f.ownBlock=v.ownBlock)/\w.grownBy b (A5 B)
theorem YN(B:Nat)(v:AA)(g:List Nat)(F:Bool)(n:Nat)(w:J)(h:RR w B v g F)(A:n<=g.length):
  Bn V 185 #[A4 (A5 ⟨B,0,O⟩),A2 BE n] w (iN w B v g F n):=by
 obtain⟨Q,i,rfl⟩:=h.slice;have k0:=h.y.m 0;have hf:=h.bC;have R:=h.hC _ _ _ rfl;have S:decide ((n:Int)<0)=A6:=Δ;have T:decide ((g.length:Int)<(n:Int))=A6:=jH Ω;have U:decide (g.length<n)=A6:=jH Ω
 cases Q with
 |none=>
  obtain⟨rfl,rfl⟩:=Ag.gU h.aN
  obtain rfl:n=0:=by simpa using A
  have f:=zh h;have X:=zh (λW=>Ek [] O 0 W Δ (Ag.nil W 1));have f0:=h.y.v 0;clear h S T U
  go_enter BA,pY
  go_wp2_with fail;refine(X.o _).mono ?_;rintro e G ⟨l,m,rfl,k,d⟩;have H:=(f.o.y.u d Δ).m 0;have I:=(f.o.y.u d Δ).v 0;have p:=zh (f.o.u d);have q:=zh k;have r:=zh d;clear k d;go_wp2;go_ret;refine⟨l,m,E O 0 0,rfl,OE q.o f.o.y.lt,⟨p.o.y.setCell 0 _,Ag.nil _ 1,by simp[A7],λa n c e=>by simp at e;omega,Δ,λt n c e=>by simp at e,Δ⟩,rfl,Ab (Kw r.o _) (Ao _ _ _)⟩
 |some t=>
  obtain⟨b,o,Y⟩:=t;obtain rfl:Y=O:=h.hj _ _ _ rfl;have ae:n<=i:=Ω;have af:(0:Int)<=(n:Int):=Ω;have ag:(n:Int)<=(i:Int):=Ω;have ah:(n:Int)<=(g.length:Int):=Ω
  have y:(g.take n).length=n:=by rw[jW];omega
  have K:(g.drop n).length=g.length - n:=j0;have C:=Ek (g.take n) (A5 ⟨b,o,O⟩) i w Ω (by rw[y];exact h.aN.f0 A i);rw[y]at C;have L:=zh C;have HL:=zh y;have M:=zh K;have f:=zh h
  have N:b≠B:=λe=>h.cF (by simp[A7,e])
  have D:=zh N;clear h C y K N
  by_cases P:i=n
  ·subst P;obtain⟨aj,ak⟩:=R
   go_enter BA,pY
   go_wp2_with fail;refine L.o.mono ?_;rintro e G ⟨l,m,rfl,k,d⟩;have H:=(f.o.y.u d Δ).m 0;have I:=(f.o.y.u d Δ).v 0;have p:=zh (f.o.u d);have q:=zh k;have r:=zh d;clear k d;go_wp2;go_ret;have s:=p.o;have z:g.drop i=[]:=oF Ω;refine⟨l,m,E (A5 ⟨b,o,O⟩) 0 0,rfl,OE q.o f.o.y.lt,?_,rfl,Ab (Kw r.o _) (Ao _ _ _)⟩;rw[z];exact⟨s.y.setCell 0 _,⟨by simp[Ar],Δ,B2 ⟨⟨b,o,O⟩,0,rfl,λh=>absurd rfl h,λj u Z=>by simp[Ar]at Z⟩⟩,by simp[A7];exact D.o,λa n c e=>by simp at e;omega,Δ,λt n c e=>by simp at e;rw[<-e.1],Δ⟩
  ·have al:¬n=i:=λe=>P e.symm
   go_enter BA,pY
   go_wp2_with fail;refine L.o.mono ?_;rintro e G ⟨l,m,rfl,k,d⟩;have H:=(f.o.y.u d Δ).m 0;have I:=(f.o.y.u d Δ).v 0;have p:=zh (f.o.u d);have q:=zh k;have r:=zh d;clear k d;go_wp2;go_ret;have s:=p.o;refine⟨l,m,E (A5 ⟨b,o+n,O⟩) (g.length - n) (i - n),rfl,OE q.o f.o.y.lt,⟨s.y.setCell 0 _,?_,by simp[A7];exact D.o,λa n c e=>by simp at e;omega,by rw[M.o];omega,λt n c e=>by simp at e;rw[<-e.1],λx hx=>s.bB x (mI hx)⟩,rfl,Ab (Kw r.o _) (Ao _ _ _)⟩;have z:=s.aN.f4 A (i - n);rw[M.o]at z⊢;exact gm z _ _ (by simp[A7];exact D.o)
def Gt(a:List Nat)(n:Int):Bool:=decide (n<0\/(a.length:Int)<n)
def Dt(a:List Nat)(n:Int):List Nat:=if Gt a n=Bk then[]else a.take n.toNat
def Ga(a:List Nat)(n:Int):List Nat:=if Gt a n=Bk then[]else a.drop n.toNat
def Ge(a:List Nat)(b:Bool)(n:Int):Bool:=Gt a n||b
def gX(w:J)(B:Nat)(v:AA)(d:List Nat)(h:Bool)(n:Int)(e:B7)(f:J):Prop:=
 ∃a c g,e=Ax (E a (Dt d n).length c)/\f.ownsRow w.heap.size 5 1 (E a (Dt d n).length c) (Dt d n).length (Ar (Dt d n))/\RR f B g (Ga d n) (Ge d h n)/\(∀b,g.ownBlock=A5 b->v.ownBlock=A5 b)/\w.grownBy f (A5 B)
theorem Tq(B:Nat)(v:AA)(d:List Nat)(i:Bool)(n:Int)(w:J)(h:RR w B v d i):
  Bn V 185 #[A4 (A5 ⟨B,0,O⟩),A2 BE n] w (gX w B v d i n):=by
 cases f:Gt d n
 ·have q:=oo f;obtain⟨k,rfl⟩:=jU (show 0<=n by omega);refine(YN B v d i k w h Ω).mono ?_;rintro e t ⟨a,c,u,rfl,o,r,x,g⟩
  have j:Dt d (k:Int)=d.take k:=by unfold Dt;rw[f];simp
  have l:Ga d (k:Int)=d.drop k:=by unfold Ga;rw[f];simp
  have m:Ge d i (k:Int)=i:=by unfold Ge;rw[f];simp
  have s:(d.take k).length=k:=by rw[jW];omega
  refine⟨a,c,u,?_,?_,?_,λb p=>by rw[<-x];exact p,g⟩
  ·rw[j,s]
  ·rw[j,s];exact o
  ·rw[l,m];exact r
 ·have q:=j7 f;refine(dw B v d i n w h q).mono ?_;rintro e t ⟨rfl,r,g⟩
  have j:Dt d n=[]:=by unfold Dt;rw[f];simp
  have l:Ga d n=[]:=by unfold Ga;rw[f];simp
  have m:Ge d i n=Bk:=by unfold Ge;rw[f];simp
  refine⟨O,0,E O 0 0,?_,?_,?_,λb p=>by simp[A7]at p,g⟩
  ·rw[j];rfl
  ·rw[j];exact Bx _ _ _ _
  ·rw[l,m];exact r
end
end
section
open Go.RowKit
def FS(k:Int):Int:=if Fe k=Bk then k else -1
theorem ft(q x j:Nat)(a:q<256^j)(h:x<256)(k:j<8):bits BinOp.or BD (q:Int) (BD.wrap ((x:Int)*2^(8*j)))=((q+x*256^j:Nat):Int):=by
 have e:(2:Nat)^(8*j)=256^j:=by rw[Nat.pow_mul]
 have c:((x:Int)*2^(8*j))=((x*256^j:Nat):Int):=by rw[<-e];push_cast;rfl
 have l:256^j*256<=18446744073709551616:=by
  have:=Uz (j+1) Ω
  rwa[mg]at this
 have d:x*256^j<18446744073709551616:=by
  have:x*256^j<=255*256^j:=lC _ Ω;omega
 have m:0<256^j:=Nat.pow_pos Ω;have f:((x*256^j:Nat):Int)%18446744073709551616=((x*256^j:Nat):Int):=Int.emod_eq_of_lt Ω Ω;rw[c,IntKind.wrap_u64,f,bits_or_u64_nat _ _ Ω d]
 have g:q|||x*256^j=q+x*256^j:=by
  have:=Nat.two_pow_add_eq_or_of_lt (i:=8*j) (b:=q) (by rw[e];exact a) x;rw[e]at this;rw[Nat.or_comm,lp x, <-this];omega
 rw[g]
theorem WE(b:List Nat)(n:Int)(h:∀x∈b,x<256):∀x∈Dt b n,x<256:=by
 intro x a;unfold Dt at a
 split at a
 ·simp at a
 ·exact h x (lD a)
theorem Uo(h:Fe b=A6):FS b= -1:=by unfold FS;rw[h];rfl
theorem MM(h:Fe b=Bk):FS b=b:=by unfold FS;rw[h];rfl
theorem fT(b:List Nat)(k:Int):(Dt b (FS k)).length<=8:=by
 cases a:Fe k
 ·rw[Uo a,Dt,show Gt b (-1)=Bk from jG (BC Ω)];simp
 ·rw[MM a,Dt];have:=j7 a
  split
  ·simp
  ·rw[jW];omega
def iZ(w:J)(B:Nat)(v:AA)(a:List Nat)(f:Bool)(k:Int)(e:B7)(c:J):Prop:=
 ∃d,e=Ax (A2 BD ((DF (Dt a (FS k)):Nat):Int))/\RR c B d (Ga a (FS k)) (Ge a f (FS k))/\(∀b,d.ownBlock=A5 b->v.ownBlock=A5 b)/\w.grownBy c (A5 B)
theorem TH(B:Nat)(v:AA)(f:List Nat)(p:Bool)(k:Int)(w:J)(h:RR w B v f p):
  Bn V 184 #[A4 (A5 ⟨B,0,O⟩),A2 BE k] w (iZ w B v f p k):=by
 have s:=zh (λW=>Un k W);have t:=WE f (FS k) h.bB;have R:=fT f k;have C:=zh (Tq B v f p (FS k) w h);clear h
 cases n:Fe k
 all_goals
  rw[n]at s
  first|have g:=zh (Uo n)|have g:=zh (MM n)
  clear n
  go_enter Tryz.func184,Tryz.ntmps184
  go_wp2_with fail;refine(s.o _).mono ?_;rintro e w1 ⟨rfl,rfl⟩;go_wp2_with fail;have u:=C.o;rw[g.o]at u;refine u.mono ?_;rintro e w2 ⟨a,c,S,rfl,D,E,F,G⟩;have T:=zh E;have U:=zh G;have X:=zh F;have Y:=zh (Ag.ai D);rw[g.o]at t R;have H:Hd (DF (Dt f (FS k))=DF (Dt f (FS k))):=zh rfl;rw[g.o]at H;have I:=zh t;clear u E G F D t C s;generalize K:Dt f _=d at*;have Z:=zh K;clear K H
  have aa:Hd (∀j,DF (d.take j)<256^j\/d.length<j):=zh (λj=>by
   by_cases L:d.length<j
   ·exact B2 L
   ·have M:=Py (d.take j) (λx y=>I.o x (lD y));rw[jW,nf Ω]at M
    exact BC M)
  go_wp2
  go_loop [5,15] (λm i=>∃j q:Nat,j<=d.length/\i=A2 BE j/\m=A2 BD q/\q=DF (d.take j)) (λ_ i=>d.length - (intOf i).toNat)
  case atStart=>exact⟨0,0,Ω,rfl,rfl,rfl⟩
  case round=>
   obtain⟨j,q,L,rfl,rfl,l⟩:=hrel
   by_cases z:j<d.length
   ·obtain⟨b,o,rfl,N⟩:=Y.o.bA Ω;have ag:=N j _ (KG d j z);have y:=I.o (d.getD j 0) (by simp[List.getD,z])
    have A:q<256^j:=by
     rw[l]
     rcases aa.o j with h|h
     ·exact h
     ·omega
    have ab:=ft q (d.getD j 0) j A y Ω
    have P:q+d.getD j 0*256^j=DF (d.take (j+1)):=by rw[l,dE d j z]
    rw[P]at ab;have ah:q<18446744073709551616:=jJ A (Uz j Ω);have ai:j<8:=Ω;clear N l P A;generalize d.getD j 0=x at*;generalize Q:DF (d.take (j+1))=r at*;have ac:=zh Q;clear Q;go_wp2
    go_round
    case rel=>exact⟨j+1,r,Ω,by go_num,rfl,ac.o.symm⟩
    case measure=>simp[intOf];omega
   ·obtain rfl:j=d.length:=by omega
    rw[lS]at l;have HQ:=zh l;clear l;go_wp2;go_ret;refine⟨S,?_,?_,X.o,U.o⟩
    ·rw[g.o,Z.o, <-HQ.o];rfl
    ·rw[g.o];exact T.o
end
section
open Go.RowKit
def Km(a:List Nat)(o k:Nat):List Nat:=(a.drop o).take k
def Ci(a:List Nat)(o k:Nat):Nat:=if o+k<=a.length then DF (Km a o k)else 0
def Jo(a:List Nat)(o:Nat):Bool:=decide (a.length<o)
theorem dX(h:Y+d<=f.length):Ci f Y d=DF (Km f Y d):=jP h
theorem bK(h:d+Y<=f.length):(Km f d Y).length=Y:=by
 unfold Km;rw[jW,j0];omega
theorem Yr(a:∀x∈f,x<256)(o k:Nat):∀x∈Km f o k,x<256:=λx h=>a x (mI (lD h))
theorem TP(a:∀x∈f,x<256)(o k:Nat):Ci f o k<256^k:=by
 unfold Ci
 split
 ·rename_i h
  have:=Py _ (Yr a o k)
  rwa[bK h]at this
 ·exact Nat.pow_pos Ω
theorem O0(a:List Nat)(o k:Nat)(b:1<=k):Gt (a.drop o) (k:Int)=decide (a.length<o+k):=by
 unfold Gt;rw[qc,j0];omega
theorem fg(a:List Nat)(o k:Nat)(b:1<=k):DF (Dt (a.drop o) (k:Int))=Ci a o k:=by
 unfold Dt Ci;rw[O0 a o k b]
 by_cases h:o+k<=a.length
 ·rw[jP h,jN Γ,jS];rfl
 ·rw[jN h,jP Γ];rfl
theorem eX(a:List Nat)(o k:Nat)(b:1<=k):Ga (a.drop o) (k:Int)=a.drop (o+k):=by
 unfold Ga;rw[O0 a o k b]
 by_cases h:o+k<=a.length
 ·rw[jN Γ,jS,nL]
 ·rw[jP Γ,lR Ω]
theorem iG(a:List Nat)(o k:Nat)(b:1<=k):Ge (a.drop o) (Jo a o) (k:Int)=Jo a (o+k):=by
 unfold Ge Jo;rw[O0 a o k b,m9];simp;omega
structure PR(a w:J)(B:Nat)(v:AA)(c:List Nat)(o:Nat):Prop where
 rr:RR w B v (c.drop o) (Jo c o)
 eY:a.heap.size<=B
 gC:∀b,v.ownBlock=A5 b->a.heap.size<=b
 u:a.grownBy w O
theorem PR.bw(a:PR h c Y Z f d)(b:c.grownBy e O):PR h e Y Z f d:=⟨a.rr.u b,a.eY,a.gC,Ab a.u b⟩
theorem PR.au{S:Nat->Prop}(a:PR h e Y Z f d)(b:Ac S e c)(g:∀k,k=Y\/Z.ownBlock=A5 k->¬S k)(i:h.grownBy c O):PR h c Y Z f d:=⟨a.rr.au b g,a.eY,a.gC,i⟩
theorem RR.eM{S:Nat->Prop}(d:RR h Y Z f a)(g:Ac S h c)(i:¬S Y)(j:f≠[]->∀k,Z.ownBlock=A5 k->¬S k):RR c Y Z f a:=
 ⟨g.y d.y i,d.aN.bb (λl b m n=>g.bV b n (j (λe=>l (by rw[e];rfl)) b m)),d.cF,d.hC,d.bC,d.hj,d.bB⟩
theorem PR.eM{S:Nat->Prop}(a:PR h e Y Z f d)(b:Ac S e c)(g:¬S Y)(i:f.drop d≠[]->∀k,Z.ownBlock=A5 k->¬S k)(j:h.grownBy c O):PR h c Y Z f d:=⟨a.rr.eM b g i,a.eY,a.gC,j⟩
theorem ar(h:f.drop (Y+d)≠[]):f.drop Y≠[]:=by
 intro e;apply h;rw[<-nL,e,List.drop_nil]
theorem PR.be(a:PR c h d Z f Y)(k:Nat)(l:Fe k=Bk):
  Bn V 184 #[A4 (A5 ⟨d,0,O⟩),A2 BE k] h λe i=>∃g,e=Ax (A2 BD ((Ci f Y k:Nat):Int))/\PR c i d g f (Y+k)/\(∀b,g.ownBlock=A5 b->Z.ownBlock=A5 b)/\h.grownBy i (A5 d):=by
 have j:1<=k:=by have:=j7 l;omega
 refine(TH d Z (f.drop Y) (Jo f Y) k h a.rr).mono ?_;rintro e i ⟨g,rfl,m,n,o⟩;rw[MM l]at*;rw[eX f Y k j,iG f Y k j]at m;rw[fg f Y k j];exact⟨g,rfl,⟨m,a.eY,λb p=>a.gC b (n b p),Br a.u o a.eY⟩,n,o⟩
end
