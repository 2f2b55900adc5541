/- Lemmas. -/
import Derived.Test.YtcedibmdelehdaaGreatDoorG32
import Derived.Deep.MidRow
namespace Go.Proofs.YtcedibmdelehdaaGreatDoor
set_option maxRecDepth 100000
set_option maxHeartbeats 32000000
open Go.Value renaming slice->E,bool->J,int->Y,pointer->A7,agg->Bd,tuple->Bn,ownBlock->BL,map->BZ
open Option renaming none->O,some->Z
open Go.IntKind renaming i64->V
open Bool renaming false->Ax,true->A4
open Go.World renaming grownBy_alloc->AA
open Go.Proofs.Tryz renaming prog->A2
open List renaming replicate->A3
open Go.Ending renaming returned->A5
open Go renaming World->A6,bodyPost_ret->Bk,wp_store_mid->BB,madeCells->BC,Value->BD,Calls->BE,TypeId->BR,Addr->BX
open Or renaming inl->Bs,inr->BA
open Go.Obj renaming cells->Bx
variable{f s:A6}{h g k o p q:Nat}{a:Int->Option Nat}{b:Ae}{c:List Pc}{d:Int->Option Pg}{e:Pc}{i:Option BX}{j:Int->Option BD}{l:List Nat}{n:Program}{r t w:BR}
section
open Go.RowKit
attribute [local go_sem ↓] Go.wp_at_zero Go.wp_at_succ
open Go.Maps in
theorem MF.gp(l:MF f n r h g j)(d:n.underlying r=Z (.int V))(m:n.underlying t=Z (.map r w))(i:Int)(o:(Lit.int V i).wf=A4)(e:BR):
  ∃a,(Builtin.delete_ #[t,r] e #[BZ (Z h),Y V i]).run n f=.ok (Bn #[]) a/\MF a n r h g (If j i)/\f.grownBy a (Z h):=by
 obtain⟨p,D,q,s,k⟩:=l;obtain⟨a,u,v,x⟩:=s.drop (int_keyed d) m (keyOf_int_mk d o) e;refine⟨a,u,⟨p,_,q,v,λc=>?_⟩,x.grown⟩
 by_cases b:c=i
 ·subst b;rw[am,Maps.has_del_same];exact⟨rfl,λz=>Maps.atKey_del_same _⟩
 ·rw[fI j b,Maps.has_del_other (Nf b)];exact⟨(k c).1,λz=>by rw[Maps.atKey_del_other (Nf b)];exact(k c).2 z⟩
theorem NG{c:Func}{s p t:Tmp}{ty:BR}(h:c.results=#[.tmp s,.cell p ty,.tmp t])(a:Array BD)(w:A6)(g:Nat)(e:BR)(b:Array BD)(f:Nat×Nat)(d:TypeDesc)
  (i:a.getD p undef=A7 (Z ⟨g,0,O⟩))(j:w.heap[g]?=Z (Bx b e f))
  (k:n.underlying ty=Z d)(l:(match d with| .struct _| .array _ _=>A4|_=>Ax)=A4)(m:(n.info? ty).map (·.size)=Z b.size):
  (results c a).run n w=.ok (Bn #[a.getD s undef,Bd b,a.getD t undef]) w:=by
 have o:a[p]?.getD undef=A7 (Z ⟨g,0,O⟩):=by simpa using i
 simp[results,h,o,asAddr,run_loadVar_row w g e ty b f d j k l m]
theorem eW(b:List Pc)(i:Nat)(p:Pc)(h:b[i]?=Z p)(st:Nat)(a:Option BX)(g:Nat)(ld:List Nat)(di:Bool):
  ((((CI b).set (i*6+1) (Y V st)).set (i*6+1+1) (E a ld.length g)).set (i*6+1+2) (J di)).set (i*6+5) (J A4)=CI (b.set i {p with st:=st,a:=a,c:=g,ld:=ld,di:=di,ma:=A4}):=by
 have v:=(jL.1 h).1
 have w:∀(k l n q:BD) (L:List BD) (o:Nat),o+6<=L.length->(((L.set (o+1) k).set (o+1+1) l).set (o+1+2) n).set (o+5) q=(((L.set (o+1) k).set (o+2) l).set (o+3) n).set (o+5) q:=λ_ _ _ _ _ _ _=>rfl
 refine lQ (λm=>?_);obtain⟨j,r,d,rfl⟩:∃j r,r<6/\m=j*6+r:=⟨m/6,m%6,Ω,Ω⟩
 by_cases s:j=i
 ·subst s;rw[Gm (b.set j _) j r _ (kv v) d];have t:=Gm b j r p h d
  have f:j*6+r<(CI b).length:=by rw[I6];omega
  obtain⟨w,y,z,A,B,C,D,F⟩:=p
  match r,d with
  |0,_=>rw[jO Ω,jO Ω,jO Ω,jO Ω,t];rfl
  |1,_=>rw[jO Ω,jO Ω,jO Ω,kv f];rfl
  |2,_=>rw[jO Ω,jO Ω,kv (by rw[kG];exact f)];rfl
  |3,_=>rw[jO Ω,kv (by rw[kG,kG];exact f)];rfl
  |4,_=>rw[jO Ω,jO Ω,jO Ω,jO Ω,t];rfl
  |5,_=>rw[kv (by rw[kG,kG,kG];exact f)];rfl
 ·rw[jO Ω,jO Ω,jO Ω,jO Ω]
  by_cases x:j<b.length
  ·have u:b[j]?=Z b[j]:=jK x;rw[Gm b j r _ u d,Gm (b.set i _) j r _ ((jO (λe=>s e.symm)).trans u) d]
  ·rw[lF (by rw[I6];omega),lF (by rw[I6,kG];omega)]
theorem fH(a:List Pc)(i:Nat)(p d:Pc)(h:a[i]?=Z p)(f g k l n o:BD)(t:d.cells=[f,g,k,l,n,o]):
  ((((((CI a).set (i*6) f).set (i*6+1) g).set (i*6+2) k).set (i*6+3) l).set (i*6+4) n).set (i*6+5) o=CI (a.set i d):=by
 have u:=(jL.1 h).1;refine lQ (λm=>?_);obtain⟨j,r,c,rfl⟩:∃j r,r<6/\m=j*6+r:=⟨m/6,m%6,Ω,Ω⟩
 by_cases q:j=i
 ·subst q;rw[Gm (a.set j _) j r _ (kv u) c,t]
  have b:j*6+r<(CI a).length:=by rw[I6];omega
  match r,c with
  |0,_=>
   simp only[kU]at b⊢
   rw[jO Ω,jO Ω,jO Ω,jO Ω,jO Ω,kv b];rfl
  |1,_=>rw[jO Ω,jO Ω,jO Ω,jO Ω,kv (by simp only[kG];exact b)];rfl
  |2,_=>rw[jO Ω,jO Ω,jO Ω,kv (by simp only[kG];exact b)];rfl
  |3,_=>rw[jO Ω,jO Ω,kv (by simp only[kG];exact b)];rfl
  |4,_=>rw[jO Ω,kv (by simp only[kG];exact b)];rfl
  |5,_=>rw[kv (by simp only[kG];exact b)];rfl
 ·rw[jO Ω,jO Ω,jO Ω,jO Ω,jO Ω,jO Ω]
  by_cases v:j<a.length
  ·have s:a[j]?=Z a[j]:=jK v;rw[Gm a j r _ s c,Gm (a.set i _) j r _ ((jO (λe=>q e.symm)).trans s) c]
  ·rw[lF (by rw[I6];omega),lF (by rw[I6,kG];omega)]
theorem PD:(A2.info? 326).map (·.size)=Z 6:=Φ
theorem Pc.dI(p:Pc):p.cells.toArray.all (·.oneCell')=A4:=all_oneCell_toArray (by
 intro v a;simp only[Pc.cells,Pc.lv,kZ,lY,oD]at a
 rcases a with rfl|rfl|rfl|rfl|rfl|rfl<;>rfl)
theorem AX.eJ(d:AX f b g o p k h c q a):g≠h/\k≠h:=⟨λe=>d.map.cg d.y e.symm,λe=>d.map.cg d.aI e.symm⟩
theorem Pc.fh(a:Aa f h 326 (CI c)){i:Nat}(d:c[i]?=Z e):f.there h (i*6) 6:=λj b=>by
 obtain⟨v,g⟩:∃v,e.cells[j]?=Z v:=⟨_,jK (by exact b)⟩;rw[a.ap (by rw[Gm c i j e d b];exact g)];exact⟨rfl,a.v _⟩
theorem AX.fh(d:AX f b g k o h p c q a){i:Nat}(l:c[i]?=Z e):f.there h (i*6) 6:=λj m=>by
 obtain⟨v,n⟩:∃v,e.cells[j]?=Z v:=⟨_,jK (by exact m)⟩;rw[d.at l n];exact⟨rfl,d.aI.v _⟩
theorem Pc.dj(b:Aa f h 326 (CI c)){i:Nat}(d:c[i]?=Z e)(a:Pc):Aa (f.setCells h (i*6) a.cells) h 326 (CI (c.set i a))/\Ac (λk=>k=h) f (f.setCells h (i*6) a.cells):=by
 constructor
 ·rw[<-fH c i e a d _ _ _ _ _ _ (show a.cells=[Y V a.aO,Y V a.st,a.lv,J a.di,J a.fu,J a.ma]from rfl)];exact(((((b.setCell _ _).setCell _ _).setCell _ _).setCell _ _).setCell _ _).setCell _ _
 ·have t:∀(f:A6) (o:Nat) (v:BD),Ac (λk=>k=h) f (f.setCell ⟨h,o,O⟩ v):=λf o v=>Ac.of (Ao _ _ _) (λk g=>by cases g;rfl)
  exact(((((t _ _ _).trans (t _ _ _)).trans (t _ _ _)).trans (t _ _ _)).trans (t _ _ _)).trans (t _ _ _)
def Ht(a:Int->Option Nat)(p:Pc)(k:Int)(i:Nat):Int->Option Nat:=λj=>if j=k then Z i else if p.fu=A4/\j=p.aO then O else a j
def Jp(a:Int->Option Nat)(k:Int):Int->Option Nat:=λj=>if j=k then O else a j
theorem fW(d:Int->Option Nat)(p:Pc)(k:Int)(i:Nat)(h:p.fu=A4):Fq (If (Ei d) p.aO) k (Y V i)=Ei (Ht d p k i):=by
 funext j
 unfold Fq If Ei Ht
 by_cases a:j=k
 ·simp[a]
 ·by_cases b:j=p.aO
  ·rw[jN a,jP b,jN a,jP ⟨h,b⟩];rfl
  ·rw[jN a,jN b,jN a,jN (λc=>b c.2)]
theorem cm(a:Int->Option Nat)(p:Pc)(k:Int)(i:Nat)(h:p.fu=Ax):Fq (Ei a) k (Y V i)=Ei (Ht a p k i):=by
 funext j
 unfold Fq Ei Ht
 by_cases b:j=k
 ·simp[b]
 ·simp[b,h]
theorem gJ(a:Int->Option Nat)(k:Int):If (Ei a) k=Ei (Jp a k):=by
 funext j
 unfold If Ei Jp
 by_cases b:j=k<;>simp[b]
variable {w w':World} {col:Ae} {c room q bp bm:Nat} {ps:List Pc} {hand:Nat} {ix:Int->Option Nat}
theorem AX.g5(h:AX w col c room q bp bm ps hand ix){i:Nat}{p':Pc}(n:ps[i]?=Z e)(r:p'.fu=A4)(s:ix p'.aO=O)(t:0<=p'.aO)(u:p'.aO<=65535)
  (v:Ag w 1 p'.lv p'.ld.length (Ar p'.ld)/\(∀b,p'.lv.ownBlock=Z b->col b=0/\b<w.heap.size)/\(∀x∈p'.ld,x<256)){q':Nat}
  (z:Aa w' c 272 [E (Z ⟨bp,0,O⟩) room room,BZ (Z bm),Y V hand])
  (l:Aa w' bp 326 (CI (ps.set i p')))(A:MF w' A2 3 bm q' (Ei (Ht ix e p'.aO i))){S:Nat->Prop}(o:Ac S w w')(B:∀b,col b=0->¬S b):AX w' col c room q' bp bm (ps.set i p') hand (Ht ix e p'.aO i):=by
 have C:=(jL.1 n).1;refine{h with y:=z,aI:=l,map:=A,aC:=by rw[kG];exact h.aC,cm:=λk j=>?_,cV:=λx a=>?_,ez:=λx a=>?_}
 ·unfold Ht
  by_cases m:j=i
  ·subst m;rw[kv C]
   constructor
   ·intro d
    split at d
    ·rename_i p
     exact⟨p',rfl,r,p.symm⟩
    ·split at d
     ·cases d
     ·rename_i p D
      obtain⟨x,a,g,f⟩:=(h.cm k j).1 d;rw[n]at a
      cases a
      exact absurd ⟨g,f.symm⟩ D
   ·rintro⟨x,a,g,f⟩
    cases a
    rw[jP f.symm]
  ·rw[jO (λc=>m c.symm)]
   constructor
   ·intro d
    split at d
    ·injection d with d;exact absurd d.symm m
    ·split at d
     ·cases d
     ·exact(h.cm k j).1 d
   ·intro a;have g:=(h.cm k j).2 a;rw[jN (λc=>by rw[c,s]at g;cases g),jN (λc=>?_)]
    ·exact g
    ·have f:=(h.cm k i).2 ⟨e,n,c.1,c.2.symm⟩;rw[g]at f;injection f with f;exact m f
 ·have F:Ag w 1 x.lv x.ld.length (Ar x.ld)/\(∀b,x.lv.ownBlock=Z b->col b=0/\b<w.heap.size)/\(∀G∈x.ld,G<256):=by
   rcases lI a with a|rfl
   ·exact h.cV x a
   ·exact v
  obtain⟨g,f,H⟩:=F;exact⟨o.aN g (λb l=>B b (f b l).1),λb l=>⟨(f b l).1,jJ (f b l).2 o.aQ⟩,H⟩
 ·rcases lI a with a|rfl
  ·exact h.ez x a
  ·exact⟨t,u⟩
theorem AX.fE(h:AX w col c room q bp bm ps hand ix){i:Nat}{a:Pc}(f:ps[i]?=Z e)(j:Int):BN (ps.set i a) (Ht ix e a.aO i) j=if j=a.aO then Z a.pg else if e.fu=A4/\j=e.aO then O else BN ps ix j:=by
 have k:=(jL.1 f).1;unfold BN Ht
 by_cases d:j=a.aO
 ·rw[jP d,jP d];simp[kv k]
 ·rw[jN d,jN d]
  by_cases b:e.fu=A4/\j=e.aO
  ·rw[jP b,jP b];rfl
  ·rw[jN b,jN b]
   cases l:ix j with
   |none=>rfl
   |some m=>
    have n:m≠i:=λc=>by
     subst c;obtain⟨x,g,o,p⟩:=(h.cm j m).1 l;rw[f]at g
     cases g
     exact b ⟨o,p.symm⟩
    simp only[nS];rw[jO (λc=>n c.symm)]
theorem AX.ie(h:AX w col c room q bp bm ps hand ix){i:Nat}(a:ps[i]?=Z e)(b:e.fu=A4):BN ps ix e.aO=Z e.pg:=by
 unfold BN;rw[(h.cm e.aO i).2 ⟨e,a,b,rfl⟩];simp[a]
theorem AX.gX(h:AX w col c room q bp bm ps hand ix){i:Nat}(b:ps[i]?=Z e)(g:e.fu=A4)(d:Pc)(j:Int):BN (ps.set i d) ix j=if j=e.aO then Z d.pg else BN ps ix j:=by
 have k:=(jL.1 b).1;unfold BN
 by_cases a:j=e.aO
 ·rw[jP a,a,(h.cm e.aO i).2 ⟨e,b,g,rfl⟩];simp[kv k]
 ·rw[jN a]
  cases l:ix j with
  |none=>rfl
  |some m=>
   have n:m≠i:=λc=>by
    subst c;obtain⟨x,f,p,o⟩:=(h.cm j m).1 l;rw[b]at f
    cases f
    exact a o.symm
   simp only[nS];rw[jO (λc=>n c.symm)]
theorem AX.ic(h:AX w col c room q bp bm ps hand ix){i:Nat}(m:ps[i]?=Z e)(p:e.fu=A4)
  (r:Aa w' c 272 [E (Z ⟨bp,0,O⟩) room room,BZ (Z bm),Y V hand])
  (f:Aa w' bp 326 (CI (ps.set i Pc.af)))(s:MF w' A2 3 bm q (Ei (Jp ix e.aO))){S:Nat->Prop}(o:Ac S w w')(t:∀b,col b=0->¬S b):AX w' col c room q bp bm (ps.set i Pc.af) hand (Jp ix e.aO):=by
 have u:=(jL.1 m).1;refine{h with y:=r,aI:=f,map:=s,aC:=by rw[kG];exact h.aC,cm:=λk j=>?_,cV:=λx a=>?_,ez:=λx a=>?_}
 ·unfold Jp
  by_cases n:j=i
  ·subst n;rw[kv u]
   constructor
   ·intro g
    split at g
    ·cases g
    ·rename_i v
     obtain⟨x,a,l,d⟩:=(h.cm k j).1 g;rw[m]at a
     cases a
     exact absurd d.symm v
   ·rintro⟨x,a,l,d⟩
    cases a
    cases l
  ·rw[jO (λc=>n c.symm)]
   constructor
   ·intro g
    split at g
    ·cases g
    ·exact(h.cm k j).1 g
   ·intro a;have l:=(h.cm k j).2 a;rw[jN (λc=>?_)]
    ·exact l
    ·have d:=(h.cm k i).2 ⟨e,m,p,c.symm⟩;rw[l]at d;injection d with d;exact n d
 ·rcases lI a with a|rfl
  ·obtain⟨l,d,z⟩:=h.cV x a;exact⟨o.aN l (λb f=>t b (d b f).1),λb f=>⟨(d b f).1,jJ (d b f).2 o.aQ⟩,z⟩
  ·exact⟨Ag.nil _ 1,λb f=>by simp[Pc.af,Pc.lv,BL]at f,λB A=>by cases A⟩
 ·rcases lI a with a|rfl
  ·exact h.ez x a
  ·exact⟨Int.le_refl _,Ξ⟩
theorem AX.gR(h:AX w col c room q bp bm ps hand ix){i:Nat}(d:ps[i]?=Z e)(j:Int):BN (ps.set i Pc.af) (Jp ix e.aO) j=if j=e.aO then O else BN ps ix j:=by
 unfold BN Jp
 by_cases a:j=e.aO
 ·rw[jP a,jP a];rfl
 ·rw[jN a,jN a]
  cases f:ix j with
  |none=>rfl
  |some m=>
   have g:m≠i:=λc=>by
    subst c;obtain⟨x,b,l,k⟩:=(h.cm j m).1 f;rw[d]at b
    cases b
    exact a k.symm
   simp only[nS];rw[jO (λc=>g c.symm)]
end
section
open Go.RowKit
attribute [local go_sem ↓] Go.wp_at_zero Go.wp_at_succ
theorem Bm(w:A6):w.grownBy w.drew O:=AZ w 1 O
theorem AX.iu(i:AX f b h k o g p c q a):g≠h:=λe=>by
 have j:=i.y;have d:=i.aI;rw[e]at d;unfold Aa at j d;rw[j]at d;injection d with l;injection l with _ m;exact absurd m Ξ
theorem AX.gy(d:AX f b h k o g p c q a):h≠g:=λe=>d.iu e.symm
def fh(w:A6)(l:Ae)(c m q n o:Nat)(f:List Pc)(g:Int->Option Nat)(k:Int)(x:Pg)(e:Ending)(h:A6):Prop:=
 ∃i a r d,Ad (Sc (λj=>j=2) 101) w l h i/\AX h i c m (q+1) n o a r d/\BN a d k=Z x/\
  ((e=A5 (Bn #[Y V 0,Pc.af.eZ,J Ax])/\∀j,j≠k->BN a d j=BN f g j)\/
   (∃p:Pc,e=A5 (Bn #[Y V p.aO,p.eZ,J A4])/\p.aO≠k/\BN f g p.aO=Z p.pg/\BN a d p.aO=O/\(∀j,j≠k->j≠p.aO->BN a d j=BN f g j)/\
    Ag h 1 p.lv p.ld.length (Ar p.ld)/\(∀b,p.lv.ownBlock=Z b->i b=0/\b<h.heap.size)/\(∀y∈p.ld,y<256)/\BN f g k=O))
theorem dz{c:Nat}{N:List Pc}{F:Int->Option Nat}(aP:AX f b c p o h k N q F)(bA:AD f b)(hq:o<maxLen)(l:Int)(k0:0<=l)(k1:l<=65535)
  (st:Nat)(a:Option BX)(u:Nat)(ld:List Nat)(di:Bool)(hr:Ag f 1 (E a ld.length u) ld.length (Ar ld))(ho:∀g,(E a ld.length u).ownBlock=Z g->b g=0/\g<f.heap.size)(hs:∀x∈ld,x<256):
  BE A2 151 #[A7 (Z ⟨c,0,O⟩),Y V l,Bd #[Y V st,E a ld.length u,J di]] f (fh f b c p o h k N F l (st,ld,di)):=by
 have H:=zh aP;have b1:=zh bA;have ax:=zh (And.intro hr (And.intro ho hs));clear aP bA hr ho hs
 go_enter Tryz.func151,Tryz.ntmps151
 go_wp2_with fail;obtain⟨L,ak⟩:=Af ((f.alloc (Bx #[Y V st,E a ld.length u,J di] 198)).alloc (Bx #[Y V 0,E O 0 0,J Ax] 198))
 have bF:Aa L f.heap.size 198 [Y V st,E a ld.length u,J di]:=by rw[<-ak];exact(Aa.new f _ _).alloc _
 have bG:Aa L (f.heap.size+1) 198 [Y V 0,E O 0 0,J Ax]:=by
  rw[<-ak];have:=Aa.new (f.alloc (Bx #[Y V st,E a ld.length u,J di] 198)) 198 [Y V 0,E O 0 0,J Ax];rw[World.size_alloc]at this;exact this
 have ay:f.grownBy L O:=by rw[<-ak];exact Ab (AA _ _ O) (AA _ _ O)
 have b2:L.heap.size=f.heap.size+2:=by rw[<-ak];simp
 rw[ak];have aQ:=zh bF;have bH:=zh bG;obtain⟨A,a7⟩:=Af (AN (AN b f.heap.size 100) (f.heap.size+1) 100)
 have aR:∀j,A j=if j=f.heap.size+1 then 100 else if j=f.heap.size then 100 else b j:=λj=>by rw[<-a7];rfl
 have bI:Ad (Sc (λj=>j=2) 101) f b L A:=by
  rw[<-a7];exact((Ad.u b1.o ay).bQ (jF _) Ω (BA ⟨Ω,Ω⟩)).bQ Ω Ω (BA ⟨Ω,Ω⟩)
 have a8:∀j,j<f.heap.size->A j=b j:=λj hj=>by rw[aR,jN Ω,jN Ω]
 have z:=zh (H.o.ao (col':=A) (Ac.az (S:=λ_=>False) ay) (λ_ _ aP=>aP) a8);have az:=zh bI;have C:Hd (A f.heap.size=100/\A (f.heap.size+1)=100):=zh ⟨by rw[aR,jN Ω,jP rfl],by rw[aR,jP rfl]⟩;have aA:Hd (Ag L 1 (E a ld.length u) ld.length (Ar ld)/\(∀g,(E a ld.length u).ownBlock=Z g->A g=0/\g<L.heap.size)/\(∀x∈ld,x<256)):=zh ⟨ax.o.1.u ay Δ,λg n=>⟨by rw[a8 g (ax.o.2.1 g n).2];exact(ax.o.2.1 g n).1,jJ (ax.o.2.1 g n).2 ay.size⟩,ax.o.2.2⟩;clear ak bF bG ay aR bI a8 a7;refine(KQ z.o l k0 k1).mono ?_;rintro e cI ⟨rfl,rfl⟩
 cases hx:F l with
 |some i=>
  have hf:EZ h F l=A7 (Z ⟨h,i*6,O⟩):=by rw[EZ,hx]
  rw[hf];obtain⟨r,B,ab,bJ⟩:=(H.o.cm l i).1 hx;have v:=zh B;have R:=zh (And.intro ab bJ);clear B ab bJ hx hf;have x0:=aQ.o.m 0;have x1:=aQ.o.m 1;have x2:=aQ.o.m 2;have y1:=z.o.at v.o (j:=1) rfl;have y2:=z.o.at v.o (j:=2) rfl;have y3:=z.o.at v.o (j:=3) rfl;have y5:=z.o.at v.o (j:=5) rfl;have f1:=z.o.aI.v (i*6+1);have f2:=z.o.aI.v (i*6+2);have f3:=z.o.aI.v (i*6+3);have f5:=z.o.aI.v (i*6+5);go_wp2_with fail
  have w:=zh (z.o.aV (w':=((((L.setCell ⟨h,i*6+1,O⟩ (Y V st)).setCell ⟨h,i*6+1+1,O⟩ (E a ld.length u)).setCell ⟨h,i*6+1+2,O⟩ (J di)).setCell ⟨h,i*6+5,O⟩ (J A4))) v.o {r with st:=st,a:=a,c:=u,ld:=ld,di:=di,ma:=A4} rfl rfl aA.o
   (by rw[<-eW N i r v.o];exact(((z.o.aI.setCell _ _).setCell _ _).setCell _ _).setCell _ _)
   ((((Ac.of (Ao _ _ _) (λl e=>by cases e;rfl)).trans (Ac.of (Ao _ _ _) (λl e=>by cases e;rfl))).trans (Ac.of (Ao _ _ _) (λl e=>by cases e;rfl))).trans (Ac.of (Ao _ _ _) (λl e=>by cases e;rfl))))
  have T2:Hd (Ac (λl=>l=h) L ((((L.setCell ⟨h,i*6+1,O⟩ (Y V st)).setCell ⟨h,i*6+1+1,O⟩ (E a ld.length u)).setCell ⟨h,i*6+1+2,O⟩ (J di)).setCell ⟨h,i*6+5,O⟩ (J A4))):=zh ((((Ac.of (Ao _ _ _) (λl e=>by cases e;rfl)).trans (Ac.of (Ao _ _ _) (λl e=>by cases e;rfl))).trans (Ac.of (Ao _ _ _) (λl e=>by cases e;rfl))).trans (Ac.of (Ao _ _ _) (λl e=>by cases e;rfl)));generalize((((L.setCell ⟨h,i*6+1,O⟩ (Y V st)).setCell ⟨h,i*6+1+1,O⟩ (E a ld.length u)).setCell ⟨h,i*6+1+2,O⟩ (J di)).setCell ⟨h,i*6+5,O⟩ (J A4))=G at*
  have ad:f.heap.size+1≠h:=λe=>by have:=z.o.c1;rw[<-e,C.o.2]at this;cases this
  have P:=zh (T2.o.y bH.o ad);clear x0 x1 x2 y1 y2 y3 y5 f1 f2 f3 f5;have z0:=P.o.m 0;have z1:=P.o.m 1;have z2:=P.o.m 2;have g0:=P.o.v 0;have g1:=P.o.v 1;have I:=P.o.v 2
  go_still_tail 2,Φ
  go_wp2_with fail;obtain⟨D,b6,aE,T3⟩:=Bq P.o (Y V 0) (E O 0 0) (J Ax);rw[b6];have G4:=AZ D 1 O;have aX:=aE.cU;have T4:Ac (λl=>l=f.heap.size+1) G D.drew:=T3.trans (Ac.az G4);have b8:=z.o.c1;have y:=C.o.2;have b9:=w.o.ao (col':=A) T4 (λj hj e=>by rw[e,y]at hj;omega) (λ_ _=>rfl);refine Bk (NG (s:=6) (p:=7) (t:=8) (ty:=198) rfl _ _ (f.heap.size+1) _ _ _ _ rfl aX lX rfl rfl) rfl ?_;refine⟨A,N.set i {r with st:=st,a:=a,c:=u,ld:=ld,di:=di,ma:=A4},q,F,?_,b9.mono (j9 o),?_,Bs ⟨rfl,λj hj=>?_⟩⟩
  ·exact(az.o.trans (AL az.o.new T2.o (λj e=>Bs (by rw[e];exact b8)))).trans (AL (az.o.new.au T2.o) T4 (λj e=>BA (by rw[e,y];omega)))
  ·rw[z.o.gX v.o R.o.1,R.o.2,jP rfl];rfl
  ·rw[z.o.gX v.o R.o.1,R.o.2,jN hj]
 |none=>
  have HX:=zh hx
  have hf:EZ h F l=A7 O:=by rw[EZ,hx]
  rw[hf];clear hf hx;go_wp2_with fail;refine(Yl z.o).mono ?_;rintro e G ⟨⟨m,bf,rfl⟩,I⟩;have w:=zh (z.o.u I);have aZ:=zh (aQ.o.u I Δ);have P:=zh (bH.o.u I Δ);have aF:=zh (az.o.trans (Ad.u az.o.new I));have Q:Hd (Ag G 1 (E a ld.length u) ld.length (Ar ld)/\(∀g,(E a ld.length u).ownBlock=Z g->A g=0/\g<G.heap.size)/\(∀x∈ld,x<256)):=zh ⟨aA.o.1.u I Δ,λg n=>⟨(aA.o.2.1 g n).1,jJ (aA.o.2.1 g n).2 I.size⟩,aA.o.2.2⟩;have bL:=zh bf;have bg:=H.o.aC;have cJ:=H.o.r1;have bM:=bf.1;clear bf I
  by_cases hm:m=N.length
  ·have hv:Jf N m= -1:=jP hm;rw[hv];clear hv;go_wp2_with fail;refine(WA w.o aF.o.new).mono ?_;rintro e D ⟨i,qs,cK,hi,rfl,bh,bi,ae⟩;obtain⟨r,B⟩:∃r,qs[i]?=Z r:=⟨_,jK (by rw[bh.aC];exact hi)⟩
   have ab:r.fu=A4:=by
    have h1:=bi.fN i;rw[B]at h1
    cases bj:N[i]? with
    |none=>rw[bj]at h1;cases h1
    |some x=>
     rw[bj]at h1
     have h2:x.fu=A4:=by
      have h3:=bL.o.2.1 i (by rw[hm,bg];exact hi);unfold BF at h3
      rwa[kH,bj,mD]at h3
     have h4:r.dP=x.dP:=by injection h1
     have h5:r.dP.fu=x.dP.fu:=by rw[h4]
     exact h5.trans h2
   have d:=zh bh;have v:=zh B;have R:=zh ab;have bP:=zh bi;have T3:=zh ae;have aI:=zh (aF.o.trans (AL aF.o.new ae (λj e=>Bs (by rcases e with e|e<;>rw[e];exact w.o.c0;exact w.o.c1))))
   have ce:=zh (ae.y aZ.o (λe=>by
    rcases e with e|e
    ·have:=w.o.c0;rw[<-e,C.o.1]at this;cases this
    ·have:=w.o.c1;rw[<-e,C.o.1]at this;cases this))
   have T:=zh (ae.y P.o (λe=>by
    rcases e with e|e
    ·have:=w.o.c0;rw[<-e,C.o.2]at this;cases this
    ·have:=w.o.c1;rw[<-e,C.o.2]at this;cases this))
   have aE:Hd (Ag D 1 (E a ld.length u) ld.length (Ar ld)/\(∀g,(E a ld.length u).ownBlock=Z g->A g=0/\g<D.heap.size)/\(∀x∈ld,x<256)):=zh ⟨ae.aN Q.o.1 (λg n e=>by
    rcases e with e|e
    ·have:=(Q.o.2.1 g n).1;rw[e,w.o.c0]at this;cases this
    ·have:=(Q.o.2.1 g n).1;rw[e,w.o.c1]at this;cases this),λg n=>⟨(Q.o.2.1 g n).1,jJ (Q.o.2.1 g n).2 ae.aQ⟩,Q.o.2.2⟩
   clear bh bi ae B ab hm bM bg;go_wp2_with fail;have c0:=d.o.y.m 0;have y0:=d.o.at v.o (j:=0) rfl;have y1:=d.o.at v.o (j:=1) rfl;have y2:=d.o.at v.o (j:=2) rfl;have y3:=d.o.at v.o (j:=3) rfl;simp only[Pc.lv]at y2;simp only[kU]at y0;have z0:=T.o.m 0;have z1:=T.o.m 1;have z2:=T.o.m 2;have g0:=T.o.v 0;have g1:=T.o.v 1;have I:=T.o.v 2;have c1:=d.o.y.m 1;have bk:=d.o.ez r (kp v.o);obtain⟨w4,ao,aX,T4⟩:=Bq T.o (Y V r.st) (E r.a r.ld.length r.c) (J r.di);have y:=C.o.2;have aL:MF w4.drew A2 3 k o (Ei F):=(d.o.map.au T4 (λe=>by have:=d.o.c2;rw[e,y]at this;cases this)).u (Bm w4) Δ;obtain⟨w5,bQ,aM,U⟩:=aL.gp kj mi r.aO (Hy bk.1 bk.2) 0
   have ap:f.heap.size+1≠c:=λe=>by have:=d.o.c0;rw[<-e,y]at this;cases this
   have bR:c≠f.heap.size+1:=λe=>ap e.symm
   have ah:Ac (λj=>j=f.heap.size+1\/j=k) D w5:=((T4.trans (Ac.az (Bm w4))).mono (λ_ e=>Bs e)).trans (Ac.of U (λj e=>BA (by cases e;rfl)))
   have bS:h≠f.heap.size+1:=λe=>by have:=d.o.c1;rw[e,y]at this;cases this
   have bT:k≠f.heap.size+1:=λe=>by have:=d.o.c2;rw[e,y]at this;cases this
   have a1:=zh (ah.y d.o.y (λe=>e.elim bR d.o.eJ.1));have bl:=zh (ah.y d.o.aI (λe=>e.elim bS d.o.eJ.2));have W:=zh ((aX.u (Bm w4) Δ).u U (by simp;exact λe=>bT e.symm));have bm:=zh (ah.y ce.o (λe=>e.elim Ω (λe=>by have:=d.o.c2;rw[<-e,C.o.1]at this;cases this)));have bn:=zh aM;have bo:=zh ah;rw[<-ao]at bQ;clear aX T4 aL aM U ah ao bS bT y bk
   go_still_tail 17,Φ
   go_wp2_with fail;clear c0 c1 y0 y1 y2 y3 z0 z1 z2 g0 g1 I bQ ap bR w4;have c0:=a1.o.m 0;have v0:=bm.o.m 0;have v1:=bm.o.m 1;have v2:=bm.o.m 2
   go_still_tail 8,Φ
   iterate 4 go_step
   have cf:=zh (a1.o.cU);have bU:=zh (bl.o.cU);have cg:=zh (W.o.cU);have ch:=zh (bn.o.u (Bm w5) Δ);have ci:=zh (bo.o.trans (Ac.az (Bm w5)));clear c0 v0 v1 v2;generalize w5.drew=w6 at*;refine BB 326 (.tmp 62) (.tmp 61) rfl h (i*6) (Pc.cells ⟨l,st,a,u,ld,di,A4,A4⟩).toArray rfl rfl (Pc.fh bU.o v.o) PD (Pc.dI _) ?_;obtain⟨w7,bs⟩:=Af (w6.setCells h (i*6) (Pc.cells ⟨l,st,a,u,ld,di,A4,A4⟩).toArray.toList);obtain⟨bt,aq⟩:=Pc.dj bU.o v.o ⟨l,st,a,u,ld,di,A4,A4⟩;rw[bs];rw[show w6.setCells h (i*6) (Pc.cells ⟨l,st,a,u,ld,di,A4,A4⟩)=w7 from bs]at bt aq;have y:=C.o.2
   have ad:f.heap.size+1≠h:=λe=>by have:=d.o.c1;rw[<-e,y]at this;cases this
   have a2:f.heap.size+1≠k:=λe=>by have:=d.o.c2;rw[<-e,y]at this;cases this
   have ap:f.heap.size+1≠c:=λe=>by have:=d.o.c0;rw[<-e,y]at this;cases this
   have bu:=aq.y cf.o d.o.gy;have ck:=zh (aq.y cg.o ad);have bV:=ch.o.au aq (λe=>d.o.eJ.2 e.symm);obtain⟨w8,ar,bX,aN⟩:=bV.ff kj mi hq l (Hy k0 k1) (Y V i);have c1:=bu.m 1;have aj:=zh (ck.o.u aN (by simp;exact λe=>a2 e));have cl:=zh (bt.u aN (by simp;exact λe=>d.o.eJ.2 e));have cn:=zh (bu.u aN (by simp;exact λe=>d.o.eJ.1 e));have co:=zh bX;have cp:Hd (Ac (λj=>(j=f.heap.size+1\/j=k)\/j=h) D w8):=zh (((ci.o.mono (λ_ e=>Bs e)).trans (aq.mono (λ_ e=>BA e))).trans (Ac.of aN (λj e=>Bs (BA (by cases e;rfl)))));clear bt aq bu bV bX aN bs ad a2 ap y;go_wp2_with fail;clear c1 ar;have z0:=aj.o.m 0;have z1:=aj.o.m 1;have z2:=aj.o.m 2;have g0:=aj.o.v 0;have g1:=aj.o.v 1;have I:=aj.o.v 2;refine FU (λ_=>True) [([],[0,1,2,3],4,Ax),([],[],5,Ax)] Φ Φ ?_;refine Dw ?_
   iterate 4 ((apply AC rfl Θ;(· intro wS X;(try have X:=X rfl);(try dsimp only at X);(try subst X);go_simp;(try with_reducible rfl)));refine Al ?_)
   refine Aj ?_;refine Am ?_;intro K M;refine Aq M ?_;clear M K;refine Dw ?_;refine Aj ?_;refine Am ?_;intro K M;refine Aq M ?_;clear M K;refine Fw (NoPanic.normal ?_);go_wp2_with fail;obtain⟨w9,cr,cs,T9⟩:=Bq aj.o (Y V r.st) (E r.a r.ld.length r.c) (J r.di);rw[cr];have cu:=cs.cU;have a4:Ac (λl=>l=f.heap.size+1) w8 w9.drew:=T9.trans (Ac.az (Bm w9));have y:=C.o.2;have TT:Ac (λj=>(j=f.heap.size+1\/j=k)\/j=h) D w9.drew:=cp.o.trans (a4.mono (λ_ e=>Bs (Bs e)));have bv:F (Pc.mk l st a u ld di A4 A4).aO=O:=HX.o
   have bY:∀g,A g=0->¬((g=f.heap.size+1\/g=k)\/g=h):=λg n e=>by
    rcases e with(e|e)|e
    ·rw[e,y]at n;cases n
    ·rw[e,d.o.c2]at n;cases n
    ·rw[e,d.o.c1]at n;cases n
   have bw:=d.o.g5 (w':=w9.drew) (q':=o+1) v.o (p':=⟨l,st,a,u,ld,di,A4,A4⟩) rfl bv k0 k1 aE.o
    (a4.y cn.o (λe=>by have:=d.o.c0;rw[e,y]at this;cases this)) (a4.y cl.o (λe=>by have:=d.o.c1;rw[e,y]at this;cases this))
    (by rw[<-fW F r l i R.o];exact co.o.au a4 (λe=>by have:=d.o.c2;rw[e,y]at this;cases this))
    TT bY
   have bZ:r.aO≠l:=λe=>by
    have:=(d.o.cm r.aO i).2 ⟨r,v.o,R.o,rfl⟩;rw[e,HX.o]at this
    cases this
   have aO:=d.o.cV r (kp v.o);refine Bk (NG (s:=6) (p:=7) (t:=8) (ty:=198) rfl _ _ (f.heap.size+1) _ _ _ _ rfl cu lX rfl rfl) rfl ?_;refine⟨A,_,_,_,?_,bw,?_,BA ⟨r,rfl,bZ,?_,?_,λj hj cv=>?_,TT.aN aO.1 (λg n=>bY g (aO.2.1 g n).1),λg n=>⟨(aO.2.1 g n).1,jJ (aO.2.1 g n).2 TT.aQ⟩,aO.2.2,(by unfold BN;rw[HX.o];rfl)⟩⟩
   ·refine aI.o.trans (AL aI.o.new TT (λj e=>?_))
    rcases e with(e|e)|e
    ·exact BA (by rw[e,y];omega)
    ·exact Bs (by rw[e];exact d.o.c2)
    ·exact Bs (by rw[e];exact d.o.c1)
   ·rw[d.o.fE v.o,jP rfl];rfl
   ·rw[<-bP.o.a7];exact d.o.ie v.o R.o
   ·rw[d.o.fE v.o,jN (by exact bZ),jP ⟨R.o,rfl⟩]
   ·rw[d.o.fE v.o,jN (by exact hj),jN (λc=>cv c.2)];exact bP.o.a7 F j
  ·have hv:Jf N m=(m:Nat):=jN hm;rw[hv];clear hv;obtain⟨r,B⟩:∃r,N[m]?=Z r:=⟨_,jK Ω⟩;have cw:decide ((m:Int)<0)=Ax:=Δ;have cx:Hd (m<N.length):=zh Ω;go_wp2_with fail;have v:=zh B;have c0:=w.o.y.m 0;have v0:=aZ.o.m 0;have v1:=aZ.o.m 1;have v2:=aZ.o.m 2;have y0:=w.o.at B (j:=0) rfl;have y1:=w.o.at B (j:=1) rfl;have y2:=w.o.at B (j:=2) rfl;have y3:=w.o.at B (j:=3) rfl;have y4:=w.o.at B (j:=4) rfl;have y5:=w.o.at B (j:=5) rfl;have f0:=w.o.aI.v (m*6);have f1:=w.o.aI.v (m*6+1);have f2:=w.o.aI.v (m*6+2);have f3:=w.o.aI.v (m*6+3);have f4:=w.o.aI.v (m*6+4);have f5:=w.o.aI.v (m*6+5);have cB:m<p:=Ω;clear B;clear hm bM bg cw
   go_still_tail 8,Φ
   go_step
   go_step
   go_step
   go_step
   have d:=zh (w.o.u (Bm G));have T:=zh (P.o.u (Bm G) Δ);have aI:=zh (aF.o.trans (Ad.u aF.o.new (Bm G)));have aE:Hd (Ag G.drew 1 (E a ld.length u) ld.length (Ar ld)/\(∀g,(E a ld.length u).ownBlock=Z g->A g=0/\g<G.drew.heap.size)/\(∀x∈ld,x<256)):=zh ⟨Q.o.1.u (Bm G) Δ,λg n=>⟨(Q.o.2.1 g n).1,jJ (Q.o.2.1 g n).2 (Bm G).size⟩,Q.o.2.2⟩;clear v0 v1 v2 y0 y1 y2 y3 y4 y5 f0 f1 f2 f3 f4 f5 c0;generalize G.drew=D at*;refine BB 326 (.tmp 62) (.tmp 61) rfl h (m*6) (Pc.cells ⟨l,st,a,u,ld,di,A4,A4⟩).toArray rfl rfl (d.o.fh v.o) PD (Pc.dI _) ?_;obtain⟨w4,ao⟩:=Af (D.setCells h (m*6) (Pc.cells ⟨l,st,a,u,ld,di,A4,A4⟩).toArray.toList);obtain⟨bx,au⟩:=Pc.dj d.o.aI v.o ⟨l,st,a,u,ld,di,A4,A4⟩;rw[ao];rw[show D.setCells h (m*6) (Pc.cells ⟨l,st,a,u,ld,di,A4,A4⟩)=w4 from ao]at bx au;have bz:=au.y d.o.y d.o.gy
   have ad:f.heap.size+1≠h:=λe=>by have:=d.o.c1;rw[<-e,C.o.2]at this;cases this
   have cC:=zh (au.y T.o ad);have aL:=d.o.map.au au (d.o.map.cg d.o.aI);obtain⟨w5,ar,aM,U⟩:=aL.ff kj mi hq l (Hy k0 k1) (Y V m);have c1:=bz.m 1
   have a2:f.heap.size+1≠k:=λe=>by have:=d.o.c2;rw[<-e,C.o.2]at this;cases this
   have W:=zh (cC.o.u U Γ);have bl:=zh (bx.u U (by simp;exact λe=>d.o.map.cg d.o.aI e.symm));have a1:=zh (bz.u U (by simp;exact λe=>d.o.map.cg d.o.y e.symm));have bn:=zh aM;have bo:=zh ((au.mono (S':=λj=>j=h\/j=k) (λj e=>Bs e)).trans (Ac.of U (λj e=>BA (by cases e;rfl))));have cD:=zh ar;clear bx au bz aL aM U ao ar;clear b2 cB a2 ad
   go_step
   have ar:=cD.o;go_wp2_with fail
   have ap:f.heap.size+1≠c:=λe=>by have:=d.o.c0;rw[<-e,C.o.2]at this;cases this
   clear c1 ar;have z0:=W.o.m 0;have z1:=W.o.m 1;have z2:=W.o.m 2;have g0:=W.o.v 0;have g1:=W.o.v 1;have I:=W.o.v 2;refine FU (λ_=>True) [([],[0,1,2,3],4,Ax),([],[],5,Ax)] Φ Φ ?_;refine Dw ?_
   iterate 4 ((apply AC rfl Θ;(· intro wS X;(try have X:=X rfl);(try dsimp only at X);(try subst X);go_simp;(try with_reducible rfl)));refine Al ?_)
   refine Aj ?_;refine Am ?_;intro K M;refine Aq M ?_;clear M K;refine Dw ?_;refine Aj ?_;refine Am ?_;intro K M;refine Aq M ?_;clear M K;refine Fw (NoPanic.normal ?_);go_wp2_with fail;obtain⟨w6,cE,cF,T6⟩:=Bq W.o (Y V 0) (E O 0 0) (J Ax);rw[cE];have cH:=cF.cU;have T7:Ac (λl=>l=f.heap.size+1) w5 w6.drew:=T6.trans (Ac.az (Bm w6));have y:=C.o.2
   have ab:r.fu=Ax:=by
    have h1:=bL.o.2.2 cx.o;unfold BF at h1
    rwa[kH,v.o,mD]at h1
   have ah:Ac (λj=>j=h\/j=k) D w5:=bo.o;have b0:Ac (λj=>(j=h\/j=k)\/j=f.heap.size+1) D w6.drew:=(ah.mono (λ_ e=>Bs e)).trans (T7.mono (λ_ e=>BA e));have bv:F (Pc.mk l st a u ld di A4 A4).aO=O:=HX.o
   have bw:=d.o.g5 (w':=w6.drew) (q':=o+1) v.o (p':=⟨l,st,a,u,ld,di,A4,A4⟩) rfl bv k0 k1 aE.o
    (T7.y a1.o (λe=>ap e.symm)) (T7.y bl.o (λe=>by have:=d.o.c1;rw[e,y]at this;cases this))
    (by rw[<-cm F r l m ab];exact bn.o.au T7 (λe=>by have:=d.o.c2;rw[e,y]at this;cases this))
    b0 (λg n e=>by
     rcases e with(e|e)|e
     ·rw[e,d.o.c1]at n;cases n
     ·rw[e,d.o.c2]at n;cases n
     ·rw[e,y]at n;cases n)
   refine Bk (NG (s:=6) (p:=7) (t:=8) (ty:=198) rfl _ _ (f.heap.size+1) _ _ _ _ rfl cH lX rfl rfl) rfl ?_;refine⟨A,_,q,_,?_,bw,?_,Bs ⟨rfl,λj hj=>?_⟩⟩
   ·refine aI.o.trans (AL aI.o.new b0 (λj e=>?_))
    rcases e with(e|e)|e
    ·exact Bs (by rw[e];exact d.o.c1)
    ·exact Bs (by rw[e];exact d.o.c2)
    ·exact BA (by rw[e,y];omega)
   ·rw[d.o.fE v.o,jP rfl];rfl
   ·rw[d.o.fE v.o,jN hj,jN (λc=>by rw[ab]at c;cases c.1)]
end
section
open Go.RowKit
attribute [local go_sem ↓] Go.wp_at_zero Go.wp_at_succ
theorem fL:(A2.info? 326).map (λi=>(i.zero,i.size,i.bytes))=Z (Z (Bd #[Y V 0,Y V 0,E O 0 0,J Ax,J Ax,J Ax]),6,56):=Φ
theorem Wz(n m:Nat):(BC (Bd #[Y V 0,Y V 0,E O 0 0,J Ax,J Ax,J Ax]).cells (n*6))[m]?=(CI (A3 n Pc.af))[m]?:=by
 by_cases d:m<n*6
 ·have a:(BC (Bd #[Y V 0,Y V 0,E O 0 0,J Ax,J Ax,J Ax]).cells (n*6))[m]?=Z (#[Y V 0,Y V 0,E O 0 0,J Ax,J Ax,J Ax][m%6]!):=by
   unfold BC;rw[Array.getElem?_map,lZ (by simpa using d)];simp[Value.cells]
  rw[a]
  have b:(A3 n Pc.af)[m/6]?=Z Pc.af:=by rw[ot,jP Ω]
  have c:=Gm (A3 n Pc.af) (m/6) (m%6) Pc.af b Ω;rw[show m/6*6+m%6=m by omega]at c;rw[c];obtain⟨r,f,e⟩:∃r,r<6/\m%6=r:=⟨_,lA _ Ω,rfl⟩;rw[e]
  match r,f with
  |0,_=>rfl
  |1,_=>rfl
  |2,_=>rfl
  |3,_=>rfl
  |4,_=>rfl
  |5,_=>rfl
 ·have a:=size_madeCells (Bd #[Y V 0,Y V 0,E O 0 0,J Ax,J Ax,J Ax]).cells (n*6)
  have b:(CI (A3 n Pc.af)).length=n*6:=by rw[I6,lU]
  rw[kV Ω,lF Ω]
theorem eD(n:Nat):BC (Bd #[Y V 0,Y V 0,E O 0 0,J Ax,J Ax,J Ax]).cells (n*6)=(CI (A3 n Pc.af)).toArray:=
 Array.ext_getElem? (λm=>(Wz n m).trans Δ)
theorem XM(W:A6)(n:Nat)(f:n<=4096):(Instr.makeSlice 270 (Y V n) (Y V n)).run A2 W=.ok (E (Z ⟨W.heap.size,0,O⟩) n n) (W.alloc (Bx (CI (A3 n Pc.af)).toArray 326)):=by
 obtain⟨b,c,d,a,e⟩:=info_parts fL;have:=run_makeSlice (P:=A2) W 270 326 b _ Tryz.underlying270 c d V V n n Ω Ω (by rw[a];omega) (by rw[e];omega) Ω;rw[this,a,jS,eD]
def bu(w:A6)(f c:Nat)(a:A6):Prop:=∃b d,w.grownBy a O/\w.heap.size<=c/\w.heap.size<=b/\w.heap.size<=d/\c<a.heap.size/\b<a.heap.size/\d<a.heap.size/\
   ∀e:Ae,e c=2->e b=2->e d=2->AX a e c f 0 b d (A3 f Pc.af) 0 (λ_=>O)
theorem dN(w:A6)(a:Nat)(r0:1<=a)(r1:a<=4096):
  BE A2 132 #[Y V a] w λe s=>∃c,e=A5 (A7 (Z ⟨c,0,O⟩))/\bu w a c s:=by
 have D:=λW=>XM W a r1
 have F:=@run_makeMap A2;have G:¬(a:Int)<1:=Ω;have H:¬(4096:Int)<a:=Ω;have I:¬a<1:=Ω;have J:¬4096<a:=Ω
 go_enter Tryz.func132,Tryz.ntmps132
 go_wp2;go_ret;obtain⟨d,j⟩:=Af (w.alloc (Bx (CI (A3 a Pc.af)).toArray 326))
 have q:d.heap.size=w.heap.size+1:=by rw[<-j];simp
 have t:Aa d w.heap.size 326 (CI (A3 a Pc.af)):=by rw[<-j];exact Aa.new _ _ _
 rw[j];obtain⟨f,l⟩:=Af (d.alloc (.map #[] 0))
 have u:f.heap.size=d.heap.size+1:=by rw[<-l];simp
 have v:MF f A2 3 d.heap.size 0 (λ_=>O):=by rw[<-l];exact MF.cB _ _ _
 rw[l];obtain⟨n,m⟩:=Af (f.alloc (Bx #[E (Z ⟨w.heap.size,0,O⟩) a a,BZ (Z (w.heap.size+1)),Y V 0] 272))
 have K:n.heap.size=f.heap.size+1:=by rw[<-m];simp
 have x:w.grownBy d O:=by rw[<-j];exact AA _ _ O
 have r:d.grownBy f O:=by rw[<-l];exact AA _ _ O
 have o:f.grownBy n O:=by rw[<-m];exact AA _ _ O
 have z:Aa n f.heap.size 272 [E (Z ⟨w.heap.size,0,O⟩) a a,BZ (Z (w.heap.size+1)),Y V 0]:=by rw[<-m];exact Aa.new _ _ _
 rw[m];refine⟨f.heap.size,by rw[u,q];rfl,w.heap.size,d.heap.size,Ab (Ab x r) o,Ω,Ω,Ω,Ω,Ω,Ω,λL c0 c1 c2=>?_⟩;refine{y:=by rw[q];exact z,aI:=(t.u r Δ).u o Δ,map:=v.u o Δ,aC:=lU,r0:=r0,r1:=r1,gv:=Ω,cm:=λk i=>?_,cV:=λp g=>?_,ez:=λp g=>?_,c0:=c0,c1:=c1,c2:=c2}
 ·constructor
  ·intro h;cases h
  ·rintro⟨p,g,A,_⟩;have:=ls (kp g);subst this
   cases A
 ·have:=ls g;subst this;exact⟨Ag.nil _ 1,λb B=>by simp[Pc.af,Pc.lv,BL]at B,λM C=>by cases C⟩
 ·have:=ls g;subst this;exact⟨Int.le_refl _,Ξ⟩
open Go.Maps in
theorem MF.gY(d:MF f n r h g j)(e:n.underlying t=Z (.map r w))(b:BR):
  ∃a:Nat,a<=g/\(Builtin.len_ #[t] b #[BZ (Z h)]).run n f=.ok (Y V (a:Nat)) f:=by
 obtain⟨a,D,i,c,k⟩:=d;exact⟨_,jM c.size_le i,c.len e b⟩
theorem cU(d:AX f b h g k o p c q a):
  BE A2 98 #[A7 (Z ⟨h,0,O⟩)] f λe i=>(∃n:Nat,e=A5 (Y V (n:Nat)))/\f=i:=by
 have j:=d.y.m 1;obtain⟨n,_,l⟩:=d.map.gY mi 0;obtain⟨m,_,r⟩:=d.map.gY mi 3;clear d
 go_enter Tryz.func98,Tryz.ntmps98
 go_wp2;go_ret;exact⟨⟨_,rfl⟩,rfl⟩
theorem Zx(x:AX f b k o p h g c q a)(ap:AD f b)(l:Int)(k0:0<=l)(k1:l<=65535):
  BE A2 159 #[A7 (Z ⟨k,0,O⟩),Y V l] f λe w'=>∃v ar ae af,e=A5 v/\Ad (Sc (λj=>j=2) 101) f b w' ar/\AX w' ar k o p h g ae q af/\BN ae af l=O/\∀j,j≠l->BN ae af j=BN c a j:=by
 have H:=zh x;have au:=zh ap;clear x ap
 go_enter Tryz.func159,Tryz.ntmps159
 go_wp2_with fail;obtain⟨N,F⟩:=Af (f.alloc (Bx #[Y V 0,E O 0 0,J Ax] 198))
 have g1:f.grownBy N O:=by rw[<-F];exact AA _ _ O
 have b1:Aa N f.heap.size 198 [Y V 0,E O 0 0,J Ax]:=by rw[<-F];exact Aa.new _ _ _
 have bo:N.heap.size=f.heap.size+1:=by rw[<-F];simp
 rw[F];have G1:=zh g1;have B1:=zh b1;have H1:=zh (H.o.u g1);clear F g1 b1;refine(Mv H1.o l k0 k1).mono ?_;rintro e P ⟨rfl,G⟩;have H2:=zh (H1.o.u G);have B2:=zh (B1.o.u G Δ);have G2:=zh (Ab G1.o G);have aV:=G.size;clear G
 cases s:a l with
 |none=>
  have I:Gr (Dl c a l)=Bn #[Bd #[Y V 0,E O 0 0,J Ax],J Ax]:=by rw[Dl,s];rfl
  rw[I];have HX:=zh s;clear s I;have n:=zh (B2.o.alloc (Bx #[Y V 0,E O 0 0,J Ax] 198));have y0:=n.o.m 0;have y1:=n.o.m 1;have y2:=n.o.m 2;have f0:=n.o.v 0;have f1:=n.o.v 1;have f2:=n.o.v 2;go_wp2_with fail;obtain⟨u,a2,b4,t4⟩:=Bq n.o (Y V 0) (E O 0 0) (J Ax);rw[a2];have g4:f.grownBy u O:=Ac.u (Ab G2.o (AA _ _ O)) t4 (λj e=>e▸jF _);refine Bk (BQ (p:=4) (ty:=198) rfl _ _ f.heap.size _ _ _ _ rfl b4 lX rfl rfl) rfl ⟨_,b,c,a,rfl,Ad.u au.o g4,H.o.u g4,?_,λj _=>rfl⟩;unfold BN;rw[HX.o];rfl
 |some i=>
  obtain⟨d,hp,aA,Q⟩:=(H.o.cm l i).1 s
  have I:Gr (Dl c a l)=Bn #[Bd #[Y V d.st,E d.a d.ld.length d.c,J d.di],J A4]:=by simp[Dl,s,hp,Gr];rfl
  rw[I];have HX:=zh s;have y:=zh hp;have aB:=zh (And.intro aA Q);clear s I hp aA Q;go_wp2_with fail;obtain⟨m,R⟩:=Af (P.alloc (Bx #[Y V d.st,E d.a d.ld.length d.c,J d.di] 198))
  have T:P.grownBy m O:=by rw[<-R];exact AA _ _ O
  have b3:Aa m P.heap.size 198 [Y V d.st,E d.a d.ld.length d.c,J d.di]:=by rw[<-R];exact Aa.new _ _ _
  have A:=zh (H2.o.u T);have n:=zh (B2.o.u T Δ);have D3:=zh b3;have G3:=zh (Ab G2.o T);rw[R];have aD:=A.o.map.u (Bm m) Δ;have aj:=aD.fT (e:=3) (t:=115) kj mi (z:=Y V 0) (w:=m.drew) rfl l (Hy k0 k1);rw[show(Ei a l).getD (Y V 0)=Y V i by rw[Ei,HX.o];rfl]at aj;have a7:(Instr.lookup 115 (BZ (Z g)) (Y V l) Ax).run A2 {m with drawn:=m.drawn+1}=.ok (Y V i) {m with drawn:=m.drawn+1}:=aj
  have bp:i<o:=by rw[<-A.o.aC];exact(jL.1 y.o).1
  have bq:=A.o.r1;have c0:=A.o.y.m 0;have c1:=A.o.y.m 1;clear R T b3 aD;refine FU (λ_=>True) [([],[0,1,2,3,4,5,6,7,8,9,10,11],12,Ax)] Φ Φ ?_;refine Dw ?_
  iterate 12 ((apply AC rfl Θ;(· intro wS U;(try have U:=U rfl);(try dsimp only at U);(try subst U);go_simp;(try with_reducible rfl)));refine Al ?_)
  refine Aj ?_;refine AE rfl (λK hK=>?_);have r:=zh (A.o.u (Bm m));have B4:=zh n.o.cU;have D4:=zh D3.o.cU;have W:=zh (Ab G3.o (Bm m));clear aj a7 c0 c1;generalize m.drew=u at*;refine BB 326 (.tmp 26) (.tmp 25) rfl h (i*6) (Pc.cells Pc.af).toArray rfl rfl (r.o.fh y.o) PD (Pc.dI _) ?_;refine hK _ _ ⟨_,λ_ x=>x,λhf=>(by cases hf),?_⟩;clear hK K;obtain⟨w5,ak⟩:=Af (u.setCells h (i*6) (Pc.cells Pc.af).toArray.toList);obtain⟨al,L⟩:=Pc.dj r.o.aI y.o Pc.af;rw[ak];rw[show u.setCells h (i*6) (Pc.cells Pc.af)=w5 from ak]at al L;have am:=L.y r.o.y r.o.gy;have aH:=r.o.map.au L (λe=>r.o.eJ.2 e.symm);obtain⟨w6,bs,aI,X⟩:=aH.gp kj mi l (Hy k0 k1) 0;have c1:=am.m 1;have T6:Ac (λj=>j=h\/j=g) u w6:=(L.mono (λ_ e=>Bs e)).trans (Ac.of X (λj e=>BA (by cases e;rfl)));have bd:=H.o.aI.lt;have aJ:=H.o.map.lt;have aK:=W.o.size;have w:=zh (T6.y B4.o (λe=>Ω));have be:N.heap.size<=P.heap.size:=aV;have D6:=zh (T6.y D4.o (λe=>Ω));have C6:=zh (am.u X (by simp;exact r.o.eJ.1));have P6:=zh (al.u X (by simp;exact r.o.eJ.2));have M6:=zh aI;have bi:=zh T6;clear al L am aH aI X T6 ak;refine Al ?_;refine Fw (NoPanic.normal ?_);have y0:=w.o.m 0;have y1:=w.o.m 1;have y2:=w.o.m 2;have f0:=w.o.v 0;have f1:=w.o.v 1;have f2:=w.o.v 2;have z0:=D6.o.m 0;have z1:=D6.o.m 1;have z2:=D6.o.m 2;clear bd aJ aK be;go_wp2_with fail;obtain⟨w7,bj,b7,t7⟩:=Bq w.o (Y V d.st) (E d.a d.ld.length d.c) (J d.di);rw[bj];have TT:Ac (λj=>(j=h\/j=g)\/j=f.heap.size) u w7:=(bi.o.mono (λ_ e=>Bs e)).trans (t7.mono (λ_ e=>BA e));have bw:=H.o.y.lt;have bx:=H.o.aI.lt;have aJ:=H.o.map.lt;obtain⟨B,ao⟩:=Af (AN b f.heap.size 100)
  have aN:B f.heap.size=100:=by rw[<-ao];exact A0 _ _ _
  have aK:=W.o.size
  have bl:∀j,j<f.heap.size->B j=b j:=λj hj=>by rw[<-ao];exact Bz _ _ Ω
  have s4:Ad (Sc (λj=>j=2) 101) f b u B:=by rw[<-ao];exact Cl au.o W.o (jF _) B4.o.lt (BA ⟨Ω,Ω⟩)
  have C:=H.o.ao (col':=B) (Ac.az (S:=λ_=>False) W.o) (λ_ _ x=>x) bl;have aQ:=C.c1;have aR:=C.c2;have bz:=C.c0
  have bm:∀M,B M=0->¬((M=h\/M=g)\/M=f.heap.size):=λM D e=>by
   rcases e with(e|e)|e
   ·rw[e,aQ]at D;cases D
   ·rw[e,aR]at D;cases D
   ·rw[e,aN]at D;cases D
  have Q:=aB.o.2;subst Q;have HD:=C.ic (w':=w7) y.o aB.o.1 (t7.y C6.o (λe=>Ω)) (t7.y P6.o (λe=>Ω)) (by rw[<-gJ];exact M6.o.au t7 (λe=>Ω)) TT bm;refine Bk (BQ (p:=4) (ty:=198) rfl _ _ f.heap.size _ _ _ _ rfl b7 lX rfl rfl) rfl ⟨_,B,_,_,rfl,s4.trans (AL s4.new TT (λj e=>?_)),HD,?_,λj hj=>?_⟩
  ·rcases e with(e|e)|e
   ·exact Bs (by rw[e];exact aQ)
   ·exact Bs (by rw[e];exact aR)
   ·exact BA (by rw[e,aN];omega)
  ·rw[C.gR y.o,jP rfl]
  ·rw[C.gR y.o,jN hj]
theorem gT(a:CZ f b h g k d):
  BE A2 98 #[A7 (Z ⟨h,0,O⟩)] f λe c=>(∃n:Nat,e=A5 (Y V (n:Nat)))/\f=c:=
 let⟨_,_,_,_,_,i,_⟩:=a
 cU i
def jy(b:Nat)(a:Option BX)(c:Nat)(d:List Nat)(e:Bool):BD:=Bd #[Y V b,E a d.length c,J e]
def Bw(w:A6)(e:Ae)(a:Option BX)(c:Nat)(d:List Nat):Prop:=Ag w 1 (E a d.length c) d.length (Ar d)/\(∀b,(E a d.length c).ownBlock=Z b->e b=0/\b<w.heap.size)/\(∀x∈d,x<256)
theorem Bw.ao{col':Ae}{S:Nat->Prop}(c:Bw f b i h l)(e:Ac S f s)(g:∀a,b a=0->¬S a)(j:∀k,k<f.heap.size->col' k=b k):Bw s col' i h l:=
 ⟨e.aN c.1 (λa d=>g a (c.2.1 a d).1),λa d=>⟨by rw[j a (c.2.1 a d).2];exact(c.2.1 a d).1,jJ (c.2.1 a d).2 e.aQ⟩,c.2.2⟩
theorem Bw.ag{C:Nat->Prop}{a:Ae}(c:Bw f b i h l)(k:Ad C f b s a)(d:¬C 0):Bw s a i h l:=
 c.ao k.au (λj e g=>d (by rw[<-e];exact g)) k.ak
theorem Bw.u(a:Bw f b i h l)(g:f.grownBy s O):Bw s b i h l:=
 a.ao (Ac.az (S:=λ_=>False) g) (λ_ _ a=>a) (λ_ _=>rfl)
theorem Pw(F:CZ f b h k g d)(G:AD f b)(H:g<maxLen)(c:Int)(I:0<=c)(K:c<=65535)(r:Nat)(a:Option BX)(s:Nat)(n:List Nat)(t:Bool)(u:Bw f b a s n):
  BE A2 151 #[A7 (Z ⟨h,0,O⟩),Y V c,Bd #[Y V r,E a n.length s,J t]] f λe o=>∃i l,Ad (Sc (λj=>j=2) 101) f b o i/\CZ o i h k (g+1) l/\l c=Z (r,n,t)/\
   ((e=A5 (Bn #[Y V 0,Bd #[Y V 0,E O 0 0,J Ax],J Ax])/\∀j,j≠c->l j=d j)\/
    (∃(m:Int) (y:Nat) (z:Option BX) (A:Nat) (v:List Nat) (B:Bool),e=A5 (Bn #[Y V m,Bd #[Y V y,E z v.length A,J B],J A4])/\m≠c/\d m=Z (y,v,B)/\l m=O/\(∀j,j≠c->j≠m->l j=d j)/\Bw o i z A v/\d c=O)):=by
 obtain⟨L,M,ps,ag,ix,N,q⟩:=F;refine(dz N G H c I K r a s n t u.1 u.2.1 u.2.2).mono ?_;rintro e o ⟨i,C,P,D,Q,R,S,T⟩;refine⟨i,BN C D,Q,⟨L,M,C,P,D,R,λ_=>rfl⟩,S,?_⟩
 rcases T with⟨rfl,w⟩|⟨p,rfl,w,U,W,X,h5,h6,h7,h8⟩
 ·exact Bs ⟨rfl,λj x=>(w j x).trans (q j).symm⟩
 ·exact BA ⟨p.aO,p.st,p.a,p.c,p.ld,p.di,rfl,w,(q _).trans U,W,λj x ae=>(X j x ae).trans (q j).symm,⟨h5,h6,h7⟩,(q c).trans h8⟩
theorem TR(o:CZ f b h g k d)(p:AD f b)(a:Int)(q:0<=a)(r:a<=65535):
  BE A2 159 #[A7 (Z ⟨h,0,O⟩),Y V a] f λe i=>∃v c l,e=A5 v/\Ad (Sc (λj=>j=2) 101) f b i c/\CZ i c h g k l/\l a=O/\∀j,j≠a->l j=d j:=by
 obtain⟨s,t,D,u,E,w,x⟩:=o;refine(Zx w p a q r).mono ?_;rintro e i ⟨v,c,m,n,rfl,y,z,A,B⟩;exact⟨v,c,BN m n,rfl,y,⟨s,t,m,u,n,z,λ_=>rfl⟩,A,λj C=>(B j C).trans (x j).symm⟩
theorem To(b:List Pc)(a:Int->Option Nat)(k:Int):BN b a k=(Dl b a k).map Pc.pg:=by
 unfold BN Dl
 cases a k with
 |none=>rfl
 |some i=>rfl
theorem UH(B:CZ f b h g k d)(C:AD f b)(c:Int)(D:0<=c)(F:c<=65535):
  BE A2 255 #[A7 (Z ⟨h,0,O⟩),Y V c] f λe q=>∃m,Ad (Sc (λj=>j=2) 101) f b q m/\CZ q m h g k d/\
   ((d c=O/\e=A5 (Bn #[Bd #[Y V 0,E O 0 0,J Ax],J Ax]))\/
    (∃(u:Nat) (a:Option BX) (v:Nat) (r:List Nat) (w:Bool),d c=Z (u,r,w)/\e=A5 (Bn #[Bd #[Y V u,E a r.length v,J w],J A4])/\Bw q m a v r)):=by
 obtain⟨G,H,s,I,n,K,x⟩:=B;refine(ZS K C c D F).mono ?_;rintro e q ⟨rfl,m,L,y⟩;refine⟨m,L,⟨G,H,_,I,n,y,λj=>(x j).trans (Zm s n c j).symm⟩,?_⟩;have o:=x c;rw[To]at o
 cases l:Dl s n c with
 |none=>
  rw[l]at o;exact Bs ⟨o,rfl⟩
 |some p=>
  rw[l]at o
  obtain⟨i,M,z⟩:∃i,n c=Z i/\s[i]?=Z p:=by
   unfold Dl at l
   cases A:n c with
   |none=>rw[A]at l;cases l
   |some i=>rw[A]at l;exact⟨i,rfl,l⟩
  have t:=y.cV {p with ma:=A4} (by
   rw[Ob M z]
   exact kp (kv (jL.1 z).1))
  exact BA ⟨p.st,p.a,p.c,p.ld,p.di,o,rfl,t.1,t.2.1,t.2.2⟩
theorem fG(y:CZ f b h g k d)(c:Int)(z:0<=c)(A:c<=65535):
  BE A2 211 #[A7 (Z ⟨h,0,O⟩),Y V c] f λe m=>f.grownBy m O/\
   ((d c=O/\e=A5 (Bn #[Bd #[Y V 0,E O 0 0,J Ax],J Ax]))\/
    (∃(r:Nat) (a:Option BX) (s:Nat) (n:List Nat) (t:Bool),d c=Z (r,n,t)/\e=A5 (Bn #[Bd #[Y V r,E a n.length s,J t],J A4])/\Bw m b a s n)):=by
 obtain⟨D,F,u,G,o,v,B⟩:=y;refine(Mv v c z A).mono ?_;rintro e m ⟨rfl,w⟩;refine⟨w,?_⟩;have l:=B c;rw[To]at l
 cases j:Dl u o c with
 |none=>
  rw[j]at l;exact Bs ⟨l,rfl⟩
 |some p=>
  rw[j]at l
  obtain⟨i,H,C⟩:∃i,o c=Z i/\u[i]?=Z p:=by
   unfold Dl at j
   cases x:o c with
   |none=>rw[x]at j;cases j
   |some i=>rw[x]at j;exact⟨i,rfl,j⟩
  have q:=(v.u w).cV p (kp C);exact BA ⟨p.st,p.a,p.c,p.ld,p.di,l,rfl,q.1,q.2.1,q.2.2⟩
end
