/- Lemmas. -/
import Derived.Test.YtcedibmdelehdaaGreatDoorH15
import Derived.Deep.AppendLies
import Derived.Laws.Bits64b
namespace Go.Proofs.YtcedibmdelehdaaGreatDoor
set_option maxRecDepth 100000
set_option maxHeartbeats 32000000
open Go.Value renaming slice->E,int->A2,pointer->A4,ownBlock->Bk,bool->BD,tuple->B3
open Go renaming World->J,Value->AA,Calls->Bx,madeCells->B2,wpQuiet_nil->B4,Ending->B8,Addr->CA
open Option renaming none->O,some->Bd
open Go.Proofs.Tryz renaming prog->V,func185->BC,ntmps125->BL,func125->B1,ntmps124->B6,func124->B7
open Go.Ending renaming returned->Ax
open Bool renaming false->Bn,true->BA
open List renaming replicate->Bs
open Go.World renaming grownBy_alloc->BB,ownsRow_nil->B0
open Or renaming inl->BE,inr->B5
open Go.IntKind renaming u64->BR,i64->BX,u8->B9
variable{h:List Nat}{Y d g:J}{Z e i:Nat}{a:AA}{b:Bool}{c:Int}{f:CA}
section
open Go.RowKit
theorem Qj(n:Nat):B2 (A2 B9 0).cells n=(Bs n (A2 B9 0)).toArray:=by
 apply Array.ext
 ·simp[B2]
 ·intro i a b;simp[B2,Value.cells,qo]
def Nx(n i:Nat):AA:=A2 B9 ((ID n i:Nat):Int)
theorem Um(n k:Nat):Ao (At n k)=Cx (Nx n) k:=by simp[Ao,At,Cx,Nx,oo]
theorem Xa(n k:Nat)(z:n<18446744073709551616)(M:k<=8)(w:J):
  Bx V 188 #[A2 BR n,A2 BX k] w λe h=>∃a c,e=Ax (E a k c)/\h.ownsRow w.heap.size 5 1 (E a k c) k (Ao (At n k))/\w.grownBy h O:=by
 obtain⟨A,B,C,l,D⟩:=info_parts Ia
 have F:∀W:J,(Instr.makeSlice 64 (A2 BX k) (A2 BX k)).run V W=.ok (E (Bd ⟨W.heap.size,0,O⟩) k k) (W.alloc (.cells (Bs k (A2 B9 0)).toArray 5)):=by
  intro W;have:=run_makeSlice (P:=V) W 64 5 A (A2 B9 0) mc B C BX BX k k Ω Ω (by rw[l];omega) (by rw[D];omega) Ω;rw[this,l];rw[show(B2 (A2 B9 0).cells ((k:Int).toNat*1))=(Bs k (A2 B9 0)).toArray from by rw[km,mL];exact Qj k];simp
 go_enter Tryz.func188,Tryz.ntmps188
 go_wp2;obtain⟨o,d⟩:=Ag (w.alloc (.cells (Bs k (A2 B9 0)).toArray 5))
 have p:Aa o w.heap.size 5 (Bs k (A2 B9 0)):=by rw[<-d];exact Aa.new w _ _
 have r:w.grownBy o O:=by rw[<-d];exact BB w _ O
 try simp only[List.toArray_replicate]at d
 rw[d];have G:=zh p;have H:=zh r;clear d p r F
 go_loopw [0,11] (λm i wr=>∃j q:Nat,j<=k/\i=A2 BX j/\m=A2 BR q/\q=n/256^j/\Aa wr w.heap.size 5 (Cx (Nx n) j++(Bs k (A2 B9 0)).drop j)/\w.grownBy wr O) (λ_ i _=>k - (intOf i).toNat)
 case atStart=>exact⟨0,n,Ω,rfl,rfl,Δ,by simpa[Cx]using G.o,H.o⟩
 case round=>
  obtain⟨j,q,N,rfl,rfl,f,b,s⟩:=hrel
  have Q:q<18446744073709551616:=by rw[f];exact mm (nK _ _) z
  have t:=zh f;have u:=zh b;have x:=zh s;clear f s
  by_cases I:j<k
  ·have y:∃v,wr.cell? ⟨w.heap.size,j,O⟩=Bd v:=by
    have:=b.cell? j;rw[lf (by rw[GU];omega),GU,lU,mj,List.getElem?_replicate_of_lt Ω]at this;exact⟨_,this⟩
   obtain⟨v,y⟩:=y;have R:=b.v j
   have S:B9.wrap (q:Int)=((ID n j:Nat):Int):=by
    rw[IntKind.wrap_u8];unfold ID;rw[<-t.o];exact(Int.natCast_emod q 256).symm
   have g:=u.o.setCell j (Nx n j);rw[Xr _ _ _ (by simpa using I)]at g;have K:=zh g;have L:Hd (((q/256:Nat))=n/256^(j+1)):=zh (by rw[t.o,gZ]);clear g b;go_wp2
   go_roundw
   case rel=>exact⟨j+1,q/256,Ω,by go_num,Δ,L.o,K.o,BN x.o (An _ _ _) Δ⟩
   case measure=>simp[intOf];omega
  ·obtain rfl:j=k:=by omega
   clear b;go_wp2;go_ret;have b:=u.o;rw[pt Δ,lX]at b;exact⟨_,_,rfl,NK b (jS _) (jS _) (by unfold maxLen;omega) (by rw[GU];omega) (by rw[Um,mL,lF (by rw[GU];omega)]) (by rw[Um,GU];omega),x.o⟩
end
section
open Go.RowKit
structure WR(w:J)(B:Nat)(v:AA)(a:List Nat)(b:Int)(c:Bool):Prop where
 u:Aa w B 303 [v,A2 BX b,BD c]
 aM:w.ownsRow 0 5 1 v a.length (Ao a)
 gM:0<=b
 gK:b<=9223372036854775807
 bA:a.length<=50000000
def Dm(B:Nat)(v:AA)(k:Nat):Prop:=k=B\/v.ownBlock=Bd k
def Fm(a:List Nat)(d:Int)(b:Bool)(c:List Nat):List Nat×Bool:=if b=BA\/d<(a.length:Int)+c.length then(a,BA)else(a++c,b)
theorem WR.slice(d:WR Y Z a h c b):∃e f,a=E e h.length f:=(Ai.aj d.aM).slice
theorem WR.cC(d:WR Y Z a h c b):a.ownBlock≠Bd Z:=Bh d.u d.aM Ξ
theorem WR.ak{S:Nat->Prop}(e:WR Y Z a h c b)(f:Ac S Y d)(g:∀k,Dm Z a k->¬S k):WR d Z a h c b:=
 ⟨f.u e.u (g Z (BE rfl)),f.aL e.aM (λi j=>g i (B5 j)),e.gM,e.gK,e.bA⟩
theorem WR.lt(e:WR Y Z a h c b):∀k,Dm Z a k->k<Y.heap.size:=λk d=>by
 rcases d with rfl|d
 ·exact e.u.lt
 ·exact(e.aM.lt k d).2
theorem WR.grown(e:WR Y Z a h c b)(f:Y.grownBy d O):WR d Z a h c b:=
 e.ak (S:=λ_=>False) (Ac.au f) (λ_ _ e=>e)
theorem WR.ga(d:WR Y Z a h c b)(e:Bool):WR (Y.setCell ⟨Z,2,O⟩ (BD e)) Z a h c e:=
 ⟨d.u.setCell 2 _,d.aM.kept (An _ _ _) (B5 d.cC),d.gM,d.gK,d.bA⟩
theorem II(l:Int)(b:l<=9223372036854775807)(w:J):
  Bx V 123 #[A2 BX l] w λe a=>e=Ax (A4 (Bd ⟨w.heap.size,0,O⟩))/\WR a w.heap.size (E O 0 0) [] (if 0<=l then l else 0) Bn/\w.grownBy a O:=by
 rcases(show 0<l\/l=0\/l<0 by omega)with h|rfl|h
 all_goals
  go_enter Tryz.func123,Tryz.ntmps123
  go_wp2;go_ret;exact⟨rfl,⟨Aa.new w 303 _,B0 _ _ _ _,Ω,Ω,Δ⟩,BB _ _ O⟩
theorem ci(B:Nat)(v:AA)(a:List Nat)(n:Nat)(b:Int)(d:Option CA)(f:Nat)(w:J)(h:WR w B v a b BA):
  Bx V 125 #[A4 (Bd ⟨B,0,O⟩),E d n f] w λe c=>e=Ax (B3 #[])/\WR c B v a b BA/\Ac (Dm B v) w c:=by
 have i:=h.u.m 2;have j:=h.u.v 2;have g:=zh h;clear h
 go_enter B1,BL
 go_wp2_with fail;refine Lx 22 Φ Φ ?_;simp only[oL,pq,oM,ot]
 repeat(go_big_quiet_step (fail))
 refine B4 ?_;go_wp2_with fail
 go_end0
 exact⟨rfl,(g.o.ga BA).grown (AS _ 1 O),Ac.of (Ae (An w ⟨B,2,O⟩ (BD BA)) (AS _ 1 _)) (λk e=>by cases e;exact BE rfl)⟩
theorem et(B:Nat)(v:AA)(a:List Nat)(n:Nat)(b:Int)(d:Option CA)(f:Nat)(w:J)(h:WR w B v a b Bn)(g:b<(a.length:Int)+n):
  Bx V 125 #[A4 (Bd ⟨B,0,O⟩),E d n f] w λe c=>e=Ax (B3 #[])/\WR c B v a b BA/\Ac (Dm B v) w c:=by
 obtain⟨j,l,rfl⟩:=h.slice;have m:=h.u.m 0;have o:=h.u.m 1;have p:=h.u.m 2;have q:=h.u.v 2;have r:=h.gM;have s:=h.gK;have t:=h.bA;have u:decide (b - (a.length:Int)<(n:Int))=BA:=jT Ω;have i:=zh h;clear h g
 go_enter B1,BL
 go_wp2_with fail;refine Lx 22 Φ Φ ?_;simp only[oL,pq,oM,ot]
 repeat(go_big_quiet_step (fail))
 refine B4 ?_;go_wp2_with fail
 go_end0
 exact⟨rfl,(i.o.ga BA).grown (AS _ 1 O),Ac.of (Ae (An w ⟨B,2,O⟩ (BD BA)) (AS _ 1 _)) (λk e=>by cases e;exact BE rfl)⟩
theorem dS(B:Nat)(v:AA)(c a:List Nat)(g:Int)(i:Option CA)(j:Nat)(w:J)(h:WR w B v c g Bn)(G:¬g<(c.length:Int)+a.length)(H:c.length+a.length<=50000000)(o:Ai w 1 (E i a.length j) a.length (Ao a))(p:a≠[]->∀b,(E i a.length j).ownBlock=Bd b->b≠B):
  Bx V 125 #[A4 (Bd ⟨B,0,O⟩),E i a.length j] w λe q=>∃r,e=Ax (B3 #[])/\WR q B r (c++a) g Bn/\Ac (Dm B v) w q/\∀k,Dm B r k->Dm B v k\/w.heap.size<=k:=by
 obtain⟨I,K,L,M,N⟩:=info_parts Ia;obtain⟨s,t,rfl⟩:=h.slice;have Y:=h.u.m 0;have Z:=h.u.m 1;have k2:=h.u.m 2;have f2:=h.u.v 2;have P:=h.gM;have Q:=h.gK;have l2:=h.bA;have hd:decide (g - (c.length:Int)<(a.length:Int))=Bn:=jV Ω;have d:=(h.ga Bn).grown (AS _ 1 O);have u:Ai ((w.setCell ⟨B,2,O⟩ (BD Bn)).drewN 1) 1 (E i a.length j) a.length (Ao a):=(cH o ⟨B,2,O⟩ (BD Bn) (λR e=>p (λh=>R (by rw[h];rfl)) _ e rfl)).drewN 1;have m:=zh d;have S:=zh u;have x:Hd (Ac (Dm B (E s c.length t)) w ((w.setCell ⟨B,2,O⟩ (BD Bn)).drewN 1)):=zh (Ac.of (Ae (An w ⟨B,2,O⟩ (BD Bn)) (AS _ 1 _)) (λk e=>by cases e;exact BE rfl));have T:Hd (w.heap.size<=((w.setCell ⟨B,2,O⟩ (BD Bn)).drewN 1).heap.size):=zh x.o.size;clear h G o p d u
 go_enter B1,BL
 go_wp2_with fail;refine Lx 22 Φ Φ ?_;simp only[oL,pq,oM,ot]
 repeat(go_big_quiet_step (fail))
 refine B4 ?_;go_wp2_with (at_builtin;refine Lw rfl _ _ 64 rfl 0 5 I (A2 B9 0) 1 1 mc K L M N rfl Ξ (v:=E s c.length t) (sv:=E i a.length j) rfl m.o.aM rfl S.o (QN a) (by unfold maxLen;omega) Ω (kN _) ?_;intro v3 y d n z;obtain⟨A,C,rfl⟩:=(Ai.aj d).slice;have l:=m.o.u.grown n (λe=>m.o.cC e.symm);have q0:=l.m 0;have q1:=l.v 0;have U:=zh z;have D:=zh d;have W:=zh n;have F:=zh l;clear d n z l)
 go_end0
 have X:WR (y.setCell ⟨B,0,O⟩ (E A (c.length+a.length) C)) B (E A (c.length+a.length) C) (c++a) g Bn:=
  ⟨F.o.setCell 0 _,by rw[Km,jU];exact D.o.kept (An _ _ _) (B5 (Bh F.o D.o Ξ)),P,Q,by rw[jU];exact H⟩
 refine⟨_,rfl,X,?_,?_⟩
 ·refine x.o.trans ((Ac.of W.o (λk e=>B5 e)).trans (Ac.of (An y ⟨B,0,O⟩ _) (λk e=>by cases e;exact BE rfl)))
 ·intro k f
  rcases f with rfl|f
  ·exact BE (BE rfl)
  ·rcases U.o with h|h
   ·exact BE (B5 (h▸f))
   ·rw[h]at f;simp at f;have:=T.o;simp[World.drewN]at this;exact B5 (by rw[<-f];simp)
theorem eS(B:Nat)(v:AA)(c a:List Nat)(d:Int)(i:Bool)(f:Option CA)(g:Nat)(w:J)(h:WR w B v c d i)(r:c.length+a.length<=50000000)(s:Ai w 1 (E f a.length g) a.length (Ao a))(t:a≠[]->∀b,(E f a.length g).ownBlock=Bd b->b≠B):
  Bx V 125 #[A4 (Bd ⟨B,0,O⟩),E f a.length g] w λe j=>∃q,e=Ax (B3 #[])/\WR j B q (Fm c d i a).1 d (Fm c d i a).2/\Ac (Dm B v) w j/\∀k,Dm B q k->Dm B v k\/w.heap.size<=k:=by
 cases i with
 |true=>
  rw[show Fm c d BA a=(c,BA)from ke (BE rfl)]
  exact(ci B v c a.length d f g w h).mono λe j ⟨m,n,o⟩=>⟨v,m,n,o,λk p=>BE p⟩
 |false=>
  by_cases l:d<(c.length:Int)+a.length
  ·rw[show Fm c d Bn a=(c,BA)from ke (B5 l)]
   exact(et B v c a.length d f g w h l).mono λe j ⟨m,n,o⟩=>⟨v,m,n,o,λk p=>BE p⟩
  ·rw[show Fm c d Bn a=(c++a,Bn)from j7 (by simp only[pd,false_or];exact l)];exact dS B v c a d f g w h l r s t
end
section
section
open Go.RowKit
def KN(a:List Nat)(b:Int)(c:Bool)(n:Nat)(k:Int):List Nat×Bool:=if E7 k=BA then Fm a b c (At n k.toNat)else(a,BA)
def Ja(w:J)(B:Nat)(v:AA)(c:Int)(p:List Nat×Bool)(e:B8)(a:J):Prop:=
 ∃b,e=Ax (B3 #[])/\WR a B b p.1 c p.2/\Ac (Dm B v) w a/\∀k,Dm B b k->Dm B v k\/w.heap.size<=k
theorem PJ(B:Nat)(v:AA)(c a:List Nat)(d:Int)(g:Bool)(e:Option CA)(f:Nat)(w:J)(h:WR w B v c d g)(i:c.length+a.length<=50000000)(j:Ai w 1 (E e a.length f) a.length (Ao a))(k:a≠[]->∀b,(E e a.length f).ownBlock=Bd b->b≠B):
  Bx V 125 #[A4 (Bd ⟨B,0,O⟩),E e a.length f] w (Ja w B v d (Fm c d g a)):=eS B v c a d g e f w h i j k
theorem Ja.hu{p:List Nat×Bool}{e:B8}(b:Y.grownBy d O)(h:Ja d Z a c p e g):Ja Y Z a c p e g:=by
 obtain⟨f,i,j,l,m⟩:=h;refine⟨f,i,j,(Ac.au b).trans l,λk n=>?_⟩
 rcases m k n with h|h
 ·exact BE h
 ·exact B5 (j8 b.size h)
theorem Wh(B:Nat)(v:AA)(d:List Nat)(f:Int)(g:Bool)(n:Nat)(k:Int)(w:J)(h:WR w B v d f g)(C:n<18446744073709551616)(N:d.length<=49000000):
  Bx V 124 #[A4 (Bd ⟨B,0,O⟩),A2 BR n,A2 BX k] w (Ja w B v f (KN d f g n k)):=by
 have P:=h.u.m 2;have Q:=h.u.v 2;have l:=zh (λW=>Ub k W)
 cases i:E7 k
 ·have j:KN d f g n k=(d,BA):=j7 (by rw[i];exact Bool.false_ne_true);rw[j];rw[i]at l;have m:=zh (h.ga BA);clear j i h
  go_enter B7,B6
  go_wp2_with fail;refine(l.o _).mono ?_;rintro e D ⟨rfl,rfl⟩;go_wp2
  go_end0
  exact⟨_,rfl,m.o,Ac.of (An _ _ _) (λk e=>by cases e;exact BE rfl),λk o=>BE o⟩
 ·have j:KN d f g n k=Fm d f g (At n k.toNat):=ke i;rw[j];have o:=kQ i;rw[i]at l;obtain⟨q,rfl⟩:=kT (show 0<=k by omega);have F:q<=8:=Ω;have m:=zh h;clear j i h o;rw[km]
  go_enter B7,B6
  go_wp2_with fail;refine(l.o _).mono ?_;rintro e D ⟨rfl,rfl⟩;go_wp2_with fail;refine(Xa n q C F _).mono ?_;rintro e t ⟨a,c,rfl,p,r⟩
  have u:Ai t 1 (E a (At n q).length c) (At n q).length (Ao (At n q)):=by rw[AI];exact Ai.aj p
  have G:=m.o.lt B (BE rfl);have s:=PJ B v d (At n q) f g a c t (m.o.grown r) (by rw[AI];omega) u (λ_ b x=>by rw[AI]at x;have:=(p.lt b x).1;omega);rw[AI]at s;have H:=zh s;have I:=zh r;clear s u p r G;go_wp2_with fail;refine H.o.mono ?_;rintro e K ⟨L,rfl,y,z,A⟩;have M:Hd (Ja w B v f (Fm d f g (At n q)) (Ax (B3 #[])) K):=zh (Ja.hu I.o ⟨L,rfl,y,z,A⟩);clear y z A;go_wp2
  go_end0
  exact M.o
end
section
open Go.RowKit
theorem Hv(B:Nat)(v:AA)(b:List Nat)(f:Int)(g:Bool)(w:J)(h:WR w B v b f g):
  Bx V 126 #[A4 (Bd ⟨B,0,O⟩)] w λe d=>∃a c,e=Ax (E a b.length c)/\d.ownsRow w.heap.size 5 1 (E a b.length c) b.length (Ao b)/\w.grownBy d O:=by
 obtain⟨i,j,rfl⟩:=h.slice;have n:=h.u.m 0;have o:=h.bA;have k:=zh (Ai.aj h.aM);clear h
 go_enter Tryz.func126,Tryz.ntmps126
 go_wp2_with fail;refine(DW b i j w Ω k.o).mono ?_;rintro e p ⟨a,c,rfl,l,m⟩;go_wp2;go_ret;exact⟨a,c,rfl,l,m⟩
end
section
open Go.RowKit
structure PW(a w:J)(B:Nat)(v:AA)(b:List Nat)(c:Int):Prop where
 wr:WR w B v b c Bn
 fo:∀k,Dm B v k->a.heap.size<=k
 grown:a.grownBy w O
theorem PW.bq(b:PW Y d Z a h c)(e:d.grownBy g O):PW Y g Z a h c:=⟨b.wr.grown e,b.fo,Ae b.grown e⟩
theorem PW.a8(g:PW d Y Z a h c)(n k:Nat)(v:n<18446744073709551616)(w:E7 k=BA)(B:(h.length:Int)+k<=c)(x:h.length<=49000000):
  Bx V 124 #[A4 (Bd ⟨Z,0,O⟩),A2 BR n,A2 BX k] Y λe m=>∃i,e=Ax (B3 #[])/\PW d m Z i (h++At n k) c/\∀b t o,Aa Y b t o->¬Dm Z a b->Aa m b t o/\¬Dm Z i b:=by
 refine(Wh Z a h c Bn n k Y g.wr v x).mono ?_;rintro e m ⟨i,rfl,p,q,r⟩
 have y:KN h c Bn n k=(h++At n k,Bn):=by
  unfold KN Fm;rw[ke w,km,j7];rw[AI];intro l
  rcases l with l|l
  ·cases l
  ·omega
 rw[y]at p;refine⟨i,rfl,⟨p,λj z=>?_,q.grown g.grown g.fo⟩,λb t o s u=>⟨q.u s u,λA=>?_⟩⟩
 ·rcases r j z with f|f
  ·exact g.fo j f
  ·exact j8 g.grown.size f
 ·rcases r b A with f|f
  ·exact u f
  ·have:=s.lt;omega
end
end
section
section
open Go.RowKit
structure RR(w:J)(B:Nat)(v:AA)(b:List Nat)(e:Bool):Prop where
 u:Aa w B 351 [v,BD e]
 aP:Ai w 1 v b.length (Ao b)
 cC:v.ownBlock≠Bd B
 hQ:∀a n c,v=E a n c->n<=c/\c<=9223372036854775807
 bA:b.length<=50000000
 hC:∀d n c,v=E (Bd d) n c->d.spot=O
 bx:∀x∈b,x<256
theorem RR.slice(d:RR Y Z a h b):∃e c,a=E e h.length c:=d.aP.slice
theorem RR.ak{S:Nat->Prop}(c:RR Y Z a h b)(e:Ac S Y d)(f:∀k,k=Z\/a.ownBlock=Bd k->¬S k):RR d Z a h b:=
 ⟨e.u c.u (f Z (BE rfl)),e.aP c.aP (λg i=>f g (B5 i)),c.cC,c.hQ,c.bA,c.hC,c.bx⟩
theorem RR.grown(c:RR Y Z a h b)(e:Y.grownBy d O):RR d Z a h b:=
 c.ak (S:=λ_=>False) (Ac.au e) (λ_ _ c=>c)
theorem LH(d:List Nat)(a:Option CA)(c:Nat)(w:J)(y:d.length<=50000000)(k:∀x∈d,x<256)(l:Ai w 1 (E a d.length c) d.length (Ao d)):
  Bx V 183 #[E a d.length c] w λe m=>∃B v,e=Ax (A4 (Bd ⟨B,0,O⟩))/\RR m B v d Bn/\w.heap.size<=B/\(∀b,v.ownBlock=Bd b->w.heap.size<=b)/\w.grownBy m O:=by
 have z:=zh l;have A:=zh k;clear l k
 go_enter Tryz.func183,Tryz.ntmps183
 go_wp2_with fail;refine(DW d a c w Ω z.o).mono ?_;rintro e o ⟨p,q,rfl,r,s⟩;have i:=zh r;have t:=zh s;clear r s;go_wp2;go_ret;refine⟨o.heap.size,E p d.length q,rfl,⟨Aa.new o 351 [E p d.length q,BD Bn],(Ai.aj i.o).alloc _,λh=>Ψ ((i.o.lt _ h).2),?_,y,?_,A.o⟩,t.o.size,λb C=>(i.o.lt b C).1,Ae t.o (BB _ _ O)⟩
 ·intro a n D h
  rcases i.o.2 with⟨f,j⟩|⟨g,F,G,f,_,_,j,u,_⟩
  ·rw[f]at h;simp at h;omega
  ·rw[f]at h;simp at h;unfold maxLen at u;omega
 ·intro H n D h
  rcases i.o.2 with⟨f,j⟩|⟨g,F,G,f,_,_,j,u,_⟩
  ·rw[f]at h;simp at h
  ·rw[f]at h;simp at h;rw[<-h.1]
theorem ON(B:Nat)(v:AA)(b:List Nat)(a:Bool)(w:J)(h:RR w B v b a):
  Bx V 186 #[A4 (Bd ⟨B,0,O⟩)] w λe c=>e=Ax (BD a)/\w=c:=by
 have d:=h.u.m 1;clear h
 go_enter Tryz.func186,Tryz.ntmps186
 go_wp2;go_ret;exact⟨rfl,rfl⟩
theorem Zj(B:Nat)(v:AA)(b:List Nat)(f:Bool)(w:J)(h:RR w B v b f):
  Bx V 250 #[A4 (Bd ⟨B,0,O⟩)] w λe d=>∃a c,e=Ax (E a b.length c)/\d.ownsRow w.heap.size 5 1 (E a b.length c) b.length (Ao b)/\w.grownBy d O:=by
 obtain⟨g,i,rfl⟩:=h.slice;have m:=h.u.m 0;have n:=h.bA;have j:=zh h.aP;clear h
 go_enter Tryz.func250,Tryz.ntmps250
 go_wp2_with fail;refine(DW b g i w Ω j.o).mono ?_;rintro e o ⟨a,c,rfl,k,l⟩;go_wp2;go_ret;exact⟨a,c,rfl,k,l⟩
theorem cY(B:Nat)(v:AA)(b:List Nat)(f:Bool)(n:Int)(w:J)(h:RR w B v b f)(g:n<0\/(b.length:Int)<n):
  Bx V 185 #[A4 (Bd ⟨B,0,O⟩),A2 BX n] w λe d=>e=Ax (E O 0 0)/\RR d B (E O 0 0) [] BA/\w.grownBy d (Bd B):=by
 obtain⟨k,l,rfl⟩:=h.slice;have m:=h.u.m 0;have o:=h.u.m 1;have p:=h.u.v 0;have q:=h.u.v 1;have r:=h.bA;have i:=zh ((h.u.setCell 0 (E O 0 0)).setCell 1 (BD BA));clear h
 rcases(show n<0\/(¬n<0/\(b.length:Int)<n) by omega)with j|⟨j,s⟩
 all_goals
  clear g
  go_enter BC,qB
  go_wp2;go_ret;exact⟨rfl,⟨i.o,Ai.nil _ 1,by simp[Bk],λa n c e=>by simp at e;omega,Δ,λt n c e=>by simp at e,Δ⟩,Ae (An w ⟨B,0,O⟩ _) (An _ ⟨B,1,O⟩ _)⟩
end
section
open Go.RowKit
theorem WD(a:List Nat)(n:Nat):Ao (a.take n)=(Ao a).take n:=by simp[Ao,List.map_take]
theorem Wc(a:List Nat)(n:Nat):Ao (a.drop n)=(Ao a).drop n:=by simp[Ao,List.map_drop]
theorem Ai.f7{n:Nat}(a:Ai Y 1 (E (Bd f) h.length Z) h.length (Ao h))(i:n<=h.length)(c:Nat):Ai Y 1 (E (Bd f) n c) n (Ao (h.take n)):=by
 obtain⟨_,k,a⟩:=a
 rcases a with⟨a,_⟩|⟨l,m,d,e,g⟩
 ·simp at a
 ·simp at d;obtain⟨rfl,_⟩:=d;refine⟨by simp[GV];omega,Ω,B5 ⟨f,c,rfl,λo=>e Ω,λj u b=>g j u ?_⟩⟩;rw[WD]at b;rw[ng]at b
  split at b
  ·exact b
  ·simp at b
theorem Ai.f8{n:Nat}(a:Ai Y 1 (E (Bd ⟨Z,e,O⟩) h.length i) h.length (Ao h))(g:n<=h.length)(b:Nat):Ai Y 1 (E (Bd ⟨Z,e+n,O⟩) (h.drop n).length b) (h.drop n).length (Ao (h.drop n)):=by
 obtain⟨_,k,a⟩:=a
 rcases a with⟨a,_⟩|⟨l,m,c,o,f⟩
 ·simp at a
 ·simp at c;obtain⟨rfl,_⟩:=c;refine⟨by simp[GV],by rw[kK];omega,B5 ⟨⟨Z,e+n,O⟩,b,rfl,λ_=>rfl,λj u d=>?_⟩⟩;rw[Wc,mj]at d;have:=f _ _ d
  rwa[<-lw]at this
theorem Ai.g9(a:Ai Y 1 (E O h.length Z) h.length (Ao h)):h=[]/\Z=0:=by
 rcases a.2.2 with⟨a,b⟩|⟨c,d,a,_⟩
 ·simp at a;exact⟨kV b,a.2⟩
 ·simp at a
theorem Oq{b:TypeId}{u:AA}{c:List AA}(h:Y.ownsRow Z b e a i c)(d:f.block<Z):(Y.setCell f u).ownsRow Z b e a i c:=CI h f u d
def iP(w:J)(B:Nat)(v:AA)(d:List Nat)(g:Bool)(n:Nat)(e:B8)(b:J):Prop:=
 ∃a c f,e=Ax (E a n c)/\b.ownsRow w.heap.size 5 1 (E a n c) n (Ao (d.take n))/\RR b B f (d.drop n) g/\(f.ownBlock=v.ownBlock)/\w.grownBy b (Bd B)
theorem YC(B:Nat)(v:AA)(g:List Nat)(F:Bool)(n:Nat)(w:J)(h:RR w B v g F)(A:n<=g.length):
  Bx V 185 #[A4 (Bd ⟨B,0,O⟩),A2 BX n] w (iP w B v g F n):=by
 obtain⟨Q,i,rfl⟩:=h.slice;have k0:=h.u.m 0;have hf:=h.bA;have R:=h.hQ _ _ _ rfl;have S:decide ((n:Int)<0)=Bn:=Δ;have T:decide ((g.length:Int)<(n:Int))=Bn:=jV Ω;have U:decide (g.length<n)=Bn:=jV Ω
 cases Q with
 |none=>
  obtain⟨rfl,rfl⟩:=Ai.g9 h.aP
  obtain rfl:n=0:=by simpa using A
  have f:=zh h;have X:=zh (λW=>DW [] O 0 W Δ (Ai.nil W 1));have f0:=h.u.v 0;clear h S T U
  go_enter BC,qB
  go_wp2_with fail;refine(X.o _).mono ?_;rintro e G ⟨l,m,rfl,k,d⟩;have H:=(f.o.u.grown d Δ).m 0;have I:=(f.o.u.grown d Δ).v 0;have p:=zh (f.o.grown d);have q:=zh k;have r:=zh d;clear k d;go_wp2;go_ret;refine⟨l,m,E O 0 0,rfl,Oq q.o f.o.u.lt,⟨p.o.u.setCell 0 _,Ai.nil _ 1,by simp[Bk],λa n c e=>by simp at e;omega,Δ,λt n c e=>by simp at e,Δ⟩,rfl,Ae (Ki r.o _) (An _ _ _)⟩
 |some t=>
  obtain⟨b,o,Y⟩:=t;obtain rfl:Y=O:=h.hC _ _ _ rfl;have ae:n<=i:=Ω;have af:(0:Int)<=(n:Int):=Ω;have ag:(n:Int)<=(i:Int):=Ω;have ah:(n:Int)<=(g.length:Int):=Ω
  have y:(g.take n).length=n:=by rw[kA];omega
  have K:(g.drop n).length=g.length - n:=kK;have C:=DW (g.take n) (Bd ⟨b,o,O⟩) i w Ω (by rw[y];exact h.aP.f7 A i);rw[y]at C;have L:=zh C;have HL:=zh y;have M:=zh K;have f:=zh h
  have N:b≠B:=λe=>h.cC (by simp[Bk,e])
  have D:=zh N;clear h C y K N
  by_cases P:i=n
  ·subst P;obtain⟨aj,ak⟩:=R
   go_enter BC,qB
   go_wp2_with fail;refine L.o.mono ?_;rintro e G ⟨l,m,rfl,k,d⟩;have H:=(f.o.u.grown d Δ).m 0;have I:=(f.o.u.grown d Δ).v 0;have p:=zh (f.o.grown d);have q:=zh k;have r:=zh d;clear k d;go_wp2;go_ret;have s:=p.o;have z:g.drop i=[]:=pt Ω;refine⟨l,m,E (Bd ⟨b,o,O⟩) 0 0,rfl,Oq q.o f.o.u.lt,?_,rfl,Ae (Ki r.o _) (An _ _ _)⟩;rw[z];exact⟨s.u.setCell 0 _,⟨by simp[Ao],Δ,B5 ⟨⟨b,o,O⟩,0,rfl,λh=>absurd rfl h,λj u Z=>by simp[Ao]at Z⟩⟩,by simp[Bk];exact D.o,λa n c e=>by simp at e;omega,Δ,λt n c e=>by simp at e;rw[<-e.1],Δ⟩
  ·have al:¬n=i:=λe=>P e.symm
   go_enter BC,qB
   go_wp2_with fail;refine L.o.mono ?_;rintro e G ⟨l,m,rfl,k,d⟩;have H:=(f.o.u.grown d Δ).m 0;have I:=(f.o.u.grown d Δ).v 0;have p:=zh (f.o.grown d);have q:=zh k;have r:=zh d;clear k d;go_wp2;go_ret;have s:=p.o;refine⟨l,m,E (Bd ⟨b,o+n,O⟩) (g.length - n) (i - n),rfl,Oq q.o f.o.u.lt,⟨s.u.setCell 0 _,?_,by simp[Bk];exact D.o,λa n c e=>by simp at e;omega,by rw[M.o];omega,λt n c e=>by simp at e;rw[<-e.1],λx hx=>s.bx x (nj hx)⟩,rfl,Ae (Ki r.o _) (An _ _ _)⟩;have z:=s.aP.f8 A (i - n);rw[M.o]at z⊢;exact gh z _ _ (by simp[Bk];exact D.o)
def Gg(a:List Nat)(n:Int):Bool:=decide (n<0\/(a.length:Int)<n)
def Dc(a:List Nat)(n:Int):List Nat:=if Gg a n=BA then[]else a.take n.toNat
def FV(a:List Nat)(n:Int):List Nat:=if Gg a n=BA then[]else a.drop n.toNat
def FZ(a:List Nat)(b:Bool)(n:Int):Bool:=Gg a n||b
def gY(w:J)(B:Nat)(v:AA)(d:List Nat)(h:Bool)(n:Int)(e:B8)(f:J):Prop:=
 ∃a c g,e=Ax (E a (Dc d n).length c)/\f.ownsRow w.heap.size 5 1 (E a (Dc d n).length c) (Dc d n).length (Ao (Dc d n))/\RR f B g (FV d n) (FZ d h n)/\(∀b,g.ownBlock=Bd b->v.ownBlock=Bd b)/\w.grownBy f (Bd B)
theorem Tg(B:Nat)(v:AA)(d:List Nat)(i:Bool)(n:Int)(w:J)(h:RR w B v d i):
  Bx V 185 #[A4 (Bd ⟨B,0,O⟩),A2 BX n] w (gY w B v d i n):=by
 cases f:Gg d n
 ·have q:=ph f;obtain⟨k,rfl⟩:=kT (show 0<=n by omega);refine(YC B v d i k w h Ω).mono ?_;rintro e t ⟨a,c,u,rfl,o,r,x,g⟩
  have j:Dc d (k:Int)=d.take k:=by unfold Dc;rw[f];simp
  have l:FV d (k:Int)=d.drop k:=by unfold FV;rw[f];simp
  have m:FZ d i (k:Int)=i:=by unfold FZ;rw[f];simp
  have s:(d.take k).length=k:=by rw[kA];omega
  refine⟨a,c,u,?_,?_,?_,λb p=>by rw[<-x];exact p,g⟩
  ·rw[j,s]
  ·rw[j,s];exact o
  ·rw[l,m];exact r
 ·have q:=kQ f;refine(cY B v d i n w h q).mono ?_;rintro e t ⟨rfl,r,g⟩
  have j:Dc d n=[]:=by unfold Dc;rw[f];simp
  have l:FV d n=[]:=by unfold FV;rw[f];simp
  have m:FZ d i n=BA:=by unfold FZ;rw[f];simp
  refine⟨O,0,E O 0 0,?_,?_,?_,λb p=>by simp[Bk]at p,g⟩
  ·rw[j];rfl
  ·rw[j];exact B0 _ _ _ _
  ·rw[l,m];exact r
end
end
section
open Go.RowKit
def FO(k:Int):Int:=if E7 k=BA then k else -1
theorem fp(q x j:Nat)(a:q<256^j)(h:x<256)(k:j<8):bits BinOp.or BR (q:Int) (BR.wrap ((x:Int)*2^(8*j)))=((q+x*256^j:Nat):Int):=by
 have e:(2:Nat)^(8*j)=256^j:=by rw[Nat.pow_mul]
 have c:((x:Int)*2^(8*j))=((x*256^j:Nat):Int):=by rw[<-e];push_cast;rfl
 have l:256^j*256<=18446744073709551616:=by
  have:=Un (j+1) Ω
  rwa[mX]at this
 have d:x*256^j<18446744073709551616:=by
  have:x*256^j<=255*256^j:=mg _ Ω;omega
 have m:0<256^j:=Nat.pow_pos Ω;have f:((x*256^j:Nat):Int)%18446744073709551616=((x*256^j:Nat):Int):=Int.emod_eq_of_lt Ω Ω;rw[c,IntKind.wrap_u64,f,bits_or_u64_nat _ _ Ω d]
 have g:q|||x*256^j=q+x*256^j:=by
  have:=Nat.two_pow_add_eq_or_of_lt (i:=8*j) (b:=q) (by rw[e];exact a) x;rw[e]at this;rw[Nat.or_comm,lM x, <-this];omega
 rw[g]
theorem Wz(b:List Nat)(n:Int)(h:∀x∈b,x<256):∀x∈Dc b n,x<256:=by
 intro x a;unfold Dc at a
 split at a
 ·simp at a
 ·exact h x (lV a)
theorem Uc(h:E7 c=Bn):FO c= -1:=by unfold FO;rw[h];rfl
theorem Mx(h:E7 c=BA):FO c=c:=by unfold FO;rw[h];rfl
theorem fR(b:List Nat)(k:Int):(Dc b (FO k)).length<=8:=by
 cases a:E7 k
 ·rw[Uc a,Dc,show Gg b (-1)=BA from jT (BE Ω)];simp
 ·rw[Mx a,Dc];have:=kQ a
  split
  ·simp
  ·rw[kA];omega
def i8(w:J)(B:Nat)(v:AA)(a:List Nat)(f:Bool)(k:Int)(e:B8)(c:J):Prop:=
 ∃d,e=Ax (A2 BR ((Dn (Dc a (FO k)):Nat):Int))/\RR c B d (FV a (FO k)) (FZ a f (FO k))/\(∀b,d.ownBlock=Bd b->v.ownBlock=Bd b)/\w.grownBy c (Bd B)
theorem Tv(B:Nat)(v:AA)(f:List Nat)(p:Bool)(k:Int)(w:J)(h:RR w B v f p):
  Bx V 184 #[A4 (Bd ⟨B,0,O⟩),A2 BX k] w (i8 w B v f p k):=by
 have s:=zh (λW=>Ub k W);have t:=Wz f (FO k) h.bx;have R:=fR f k;have C:=zh (Tg B v f p (FO k) w h);clear h
 cases n:E7 k
 all_goals
  rw[n]at s
  first|have g:=zh (Uc n)|have g:=zh (Mx n)
  clear n
  go_enter Tryz.func184,Tryz.ntmps184
  go_wp2_with fail;refine(s.o _).mono ?_;rintro e w1 ⟨rfl,rfl⟩;go_wp2_with fail;have u:=C.o;rw[g.o]at u;refine u.mono ?_;rintro e w2 ⟨a,c,S,rfl,D,E,F,G⟩;have T:=zh E;have U:=zh G;have X:=zh F;have Y:=zh (Ai.aj D);rw[g.o]at t R;have H:Hd (Dn (Dc f (FO k))=Dn (Dc f (FO k))):=zh rfl;rw[g.o]at H;have I:=zh t;clear u E G F D t C s;generalize K:Dc f _=d at*;have Z:=zh K;clear K H
  have aa:Hd (∀j,Dn (d.take j)<256^j\/d.length<j):=zh (λj=>by
   by_cases L:d.length<j
   ·exact B5 L
   ·have M:=Pq (d.take j) (λx y=>I.o x (lV y));rw[kA,nJ Ω]at M
    exact BE M)
  go_wp2
  go_loop [5,15] (λm i=>∃j q:Nat,j<=d.length/\i=A2 BX j/\m=A2 BR q/\q=Dn (d.take j)) (λ_ i=>d.length - (intOf i).toNat)
  case atStart=>exact⟨0,0,Ω,rfl,rfl,rfl⟩
  case round=>
   obtain⟨j,q,L,rfl,rfl,l⟩:=hrel
   by_cases z:j<d.length
   ·obtain⟨b,o,rfl,N⟩:=Y.o.aZ Ω;have ag:=N j _ (LX d j z);have y:=I.o (d.getD j 0) (by simp[List.getD,z])
    have A:q<256^j:=by
     rw[l]
     rcases aa.o j with h|h
     ·exact h
     ·omega
    have ab:=fp q (d.getD j 0) j A y Ω
    have P:q+d.getD j 0*256^j=Dn (d.take (j+1)):=by rw[l,dj d j z]
    rw[P]at ab;have ah:q<18446744073709551616:=jY A (Un j Ω);have ai:j<8:=Ω;clear N l P A;generalize d.getD j 0=x at*;generalize Q:Dn (d.take (j+1))=r at*;have ac:=zh Q;clear Q;go_wp2
    go_round
    case rel=>exact⟨j+1,r,Ω,by go_num,rfl,ac.o.symm⟩
    case measure=>simp[intOf];omega
   ·obtain rfl:j=d.length:=by omega
    rw[mI]at l;have HQ:=zh l;clear l;go_wp2;go_ret;refine⟨S,?_,?_,X.o,U.o⟩
    ·rw[g.o,Z.o, <-HQ.o];rfl
    ·rw[g.o];exact T.o
end
section
open Go.RowKit
def J9(a:List Nat)(o k:Nat):List Nat:=(a.drop o).take k
def BV(a:List Nat)(o k:Nat):Nat:=if o+k<=a.length then Dn (J9 a o k)else 0
def Jc(a:List Nat)(o:Nat):Bool:=decide (a.length<o)
theorem dT(a:Z+e<=h.length):BV h Z e=Dn (J9 h Z e):=ke a
theorem bj(a:e+Z<=h.length):(J9 h e Z).length=Z:=by
 unfold J9;rw[kA,kK];omega
theorem Yg(a:∀x∈h,x<256)(o k:Nat):∀x∈J9 h o k,x<256:=λx b=>a x (nj (lV b))
theorem Ty(a:∀x∈h,x<256)(o k:Nat):BV h o k<256^k:=by
 unfold BV
 split
 ·rename_i b
  have:=Pq _ (Yg a o k)
  rwa[bj b]at this
 ·exact Nat.pow_pos Ω
theorem OR(a:List Nat)(o k:Nat)(b:1<=k):Gg (a.drop o) (k:Int)=decide (a.length<o+k):=by
 unfold Gg;rw[qF,kK];omega
theorem fe(a:List Nat)(o k:Nat)(b:1<=k):Dn (Dc (a.drop o) (k:Int))=BV a o k:=by
 unfold Dc BV;rw[OR a o k b]
 by_cases h:o+k<=a.length
 ·rw[ke h,j7 Γ,km];rfl
 ·rw[j7 h,ke Γ];rfl
theorem eZ(a:List Nat)(o k:Nat)(b:1<=k):FV (a.drop o) (k:Int)=a.drop (o+k):=by
 unfold FV;rw[OR a o k b]
 by_cases h:o+k<=a.length
 ·rw[j7 Γ,km,ou]
 ·rw[ke Γ,mY Ω]
theorem iG(a:List Nat)(o k:Nat)(b:1<=k):FZ (a.drop o) (Jc a o) (k:Int)=Jc a (o+k):=by
 unfold FZ Jc;rw[OR a o k b,nH];simp;omega
structure PR(a w:J)(B:Nat)(v:AA)(c:List Nat)(o:Nat):Prop where
 rr:RR w B v (c.drop o) (Jc c o)
 fp:a.heap.size<=B
 hD:∀b,v.ownBlock=Bd b->a.heap.size<=b
 grown:a.grownBy w O
theorem PR.bq(b:PR Y d Z a h e)(c:d.grownBy g O):PR Y g Z a h e:=⟨b.rr.grown c,b.fp,b.hD,Ae b.grown c⟩
theorem RR.eM{S:Nat->Prop}(c:RR Y Z a h b)(f:Ac S Y d)(i:¬S Z)(j:h≠[]->∀k,a.ownBlock=Bd k->¬S k):RR d Z a h b:=
 ⟨f.u c.u i,c.aP.bg (λl g m n=>f.bK g n (j (λe=>l (by rw[e];rfl)) g m)),c.cC,c.hQ,c.bA,c.hC,c.bx⟩
theorem PR.eM{S:Nat->Prop}(b:PR Y g Z a h e)(c:Ac S g d)(f:¬S Z)(i:h.drop e≠[]->∀k,a.ownBlock=Bd k->¬S k)(j:Y.grownBy d O):PR Y d Z a h e:=⟨b.rr.eM c f i,b.fp,b.hD,j⟩
theorem Z5(a:h.drop (Z+e)≠[]):h.drop Z≠[]:=by
 intro b;apply a;rw[<-ou,b,List.drop_nil]
theorem PR.a8(c:PR d Y e a h Z)(k:Nat)(j:E7 k=BA):
  Bx V 184 #[A4 (Bd ⟨e,0,O⟩),A2 BX k] Y λl g=>∃f,l=Ax (A2 BR ((BV h Z k:Nat):Int))/\PR d g e f h (Z+k)/\(∀b,f.ownBlock=Bd b->a.ownBlock=Bd b)/\Y.grownBy g (Bd e):=by
 have i:1<=k:=by have:=kQ j;omega
 refine(Tv e a (h.drop Z) (Jc h Z) k Y c.rr).mono ?_;rintro l g ⟨f,rfl,m,n,o⟩;rw[Mx j]at*;rw[eZ h Z k i,iG h Z k i]at m;rw[fe h Z k i];exact⟨f,rfl,⟨m,c.fp,λb p=>c.hD b (n b p),BN c.grown o c.fp⟩,n,o⟩
end
