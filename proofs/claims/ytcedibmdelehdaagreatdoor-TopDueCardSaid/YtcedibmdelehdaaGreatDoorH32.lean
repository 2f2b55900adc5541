/- Lemmas. -/
import Derived.Test.YtcedibmdelehdaaGreatDoorH30
import Derived.Deep.MidRow
namespace Go.Proofs.YtcedibmdelehdaaGreatDoor
set_option maxRecDepth 100000
set_option maxHeartbeats 32000000
open Go.Value renaming slice->E,bool->J,int->Y,pointer->Bn,agg->Bs,tuple->BA,ownBlock->B0,map->B8
open Option renaming none->O,some->Z
open Go.IntKind renaming i64->V
open Bool renaming false->Ax,true->A4
open Go.World renaming grownBy_alloc->AA
open Go.Proofs.Tryz renaming prog->A2
open List renaming replicate->A3
open Go.Ending renaming returned->Bd
open Go renaming World->Bk,bodyPost_ret->Bx,wp_store_mid->BE,madeCells->BL,Value->BR,Calls->BX,TypeId->B5,Addr->B7
open Or renaming inl->BB,inr->BD
open Go.Obj renaming cells->BC
variable{h s:Bk}{a g k o p q:Nat}{b:Int->Option Nat}{c:Ad}{d:List Pc}{e:Int->Option Pg}{f:Pc}{i:Option B7}{j:Int->Option BR}{l:List Nat}{n:Program}{r t w:B5}
section
open Go.RowKit
attribute [local go_sem ↓] Go.wp_at_zero Go.wp_at_succ
open Go.Maps in
theorem MF.fG(l:MF h n r a g j)(e:n.underlying r=Z (.int V))(m:n.underlying t=Z (.map r w))(i:Int)(o:(Lit.int V i).wf=A4)(f:B5):
  ∃b,(Builtin.delete_ #[t,r] f #[B8 (Z a),Y V i]).run n h=.ok (BA #[]) b/\MF b n r a g (FN j i)/\h.grownBy b (Z a):=by
 obtain⟨p,D,q,s,k⟩:=l;obtain⟨b,u,v,x⟩:=s.drop (int_keyed e) m (keyOf_int_mk e o) f;refine⟨b,u,⟨p,_,q,v,λd=>?_⟩,x.grown⟩
 by_cases c:d=i
 ·subst c;rw[Z2,Maps.has_del_same];exact⟨rfl,λz=>Maps.atKey_del_same _⟩
 ·rw[fH j c,Maps.has_del_other (MQ c)];exact⟨(k d).1,λz=>by rw[Maps.atKey_del_other (MQ c)];exact(k d).2 z⟩
theorem Nz{c:Func}{s p t:Tmp}{ty:B5}(h:c.results=#[.tmp s,.cell p ty,.tmp t])(a:Array BR)(w:Bk)(g:Nat)(e:B5)(b:Array BR)(f:Nat×Nat)(d:TypeDesc)
  (i:a.getD p undef=Bn (Z ⟨g,0,O⟩))(j:w.heap[g]?=Z (BC b e f))
  (k:n.underlying ty=Z d)(l:(match d with| .struct _| .array _ _=>A4|_=>Ax)=A4)(m:(n.info? ty).map (·.size)=Z b.size):
  (results c a).run n w=.ok (BA #[a.getD s undef,Bs b,a.getD t undef]) w:=by
 have o:a[p]?.getD undef=Bn (Z ⟨g,0,O⟩):=by simpa using i
 simp[results,h,o,asAddr,run_loadVar_row w g e ty b f d j k l m]
theorem eY(b:List Pc)(i:Nat)(p:Pc)(h:b[i]?=Z p)(st:Nat)(a:Option B7)(g:Nat)(ld:List Nat)(di:Bool):
  ((((Ct b).set (i*6+1) (Y V st)).set (i*6+1+1) (E a ld.length g)).set (i*6+1+2) (J di)).set (i*6+5) (J A4)=Ct (b.set i {p with st:=st,a:=a,c:=g,ld:=ld,di:=di,ma:=A4}):=by
 have v:=(jX.1 h).1
 have w:∀(k l n q:BR) (L:List BR) (o:Nat),o+6<=L.length->(((L.set (o+1) k).set (o+1+1) l).set (o+1+2) n).set (o+5) q=(((L.set (o+1) k).set (o+2) l).set (o+3) n).set (o+5) q:=λ_ _ _ _ _ _ _=>rfl
 refine lR (λm=>?_);obtain⟨j,r,d,rfl⟩:∃j r,r<6/\m=j*6+r:=⟨m/6,m%6,Ω,Ω⟩
 by_cases s:j=i
 ·subst s;rw[Ga (b.set j _) j r _ (kZ v) d];have t:=Ga b j r p h d
  have f:j*6+r<(Ct b).length:=by rw[IQ];omega
  obtain⟨w,y,z,A,B,C,D,F⟩:=p
  match r,d with
  |0,_=>rw[j9 Ω,j9 Ω,j9 Ω,j9 Ω,t];rfl
  |1,_=>rw[j9 Ω,j9 Ω,j9 Ω,kZ f];rfl
  |2,_=>rw[j9 Ω,j9 Ω,kZ (by rw[lm];exact f)];rfl
  |3,_=>rw[j9 Ω,kZ (by rw[lm,lm];exact f)];rfl
  |4,_=>rw[j9 Ω,j9 Ω,j9 Ω,j9 Ω,t];rfl
  |5,_=>rw[kZ (by rw[lm,lm,lm];exact f)];rfl
 ·rw[j9 Ω,j9 Ω,j9 Ω,j9 Ω]
  by_cases x:j<b.length
  ·have u:b[j]?=Z b[j]:=jW x;rw[Ga b j r _ u d,Ga (b.set i _) j r _ ((j9 (λe=>s e.symm)).trans u) d]
  ·rw[lH (by rw[IQ];omega),lH (by rw[IQ,lm];omega)]
theorem fG(a:List Pc)(i:Nat)(p d:Pc)(h:a[i]?=Z p)(f g k l n o:BR)(t:d.cells=[f,g,k,l,n,o]):
  ((((((Ct a).set (i*6) f).set (i*6+1) g).set (i*6+2) k).set (i*6+3) l).set (i*6+4) n).set (i*6+5) o=Ct (a.set i d):=by
 have u:=(jX.1 h).1;refine lR (λm=>?_);obtain⟨j,r,c,rfl⟩:∃j r,r<6/\m=j*6+r:=⟨m/6,m%6,Ω,Ω⟩
 by_cases q:j=i
 ·subst q;rw[Ga (a.set j _) j r _ (kZ u) c,t]
  have b:j*6+r<(Ct a).length:=by rw[IQ];omega
  match r,c with
  |0,_=>
   simp only[lD]at b⊢
   rw[j9 Ω,j9 Ω,j9 Ω,j9 Ω,j9 Ω,kZ b];rfl
  |1,_=>rw[j9 Ω,j9 Ω,j9 Ω,j9 Ω,kZ (by simp only[lm];exact b)];rfl
  |2,_=>rw[j9 Ω,j9 Ω,j9 Ω,kZ (by simp only[lm];exact b)];rfl
  |3,_=>rw[j9 Ω,j9 Ω,kZ (by simp only[lm];exact b)];rfl
  |4,_=>rw[j9 Ω,kZ (by simp only[lm];exact b)];rfl
  |5,_=>rw[kZ (by simp only[lm];exact b)];rfl
 ·rw[j9 Ω,j9 Ω,j9 Ω,j9 Ω,j9 Ω,j9 Ω]
  by_cases v:j<a.length
  ·have s:a[j]?=Z a[j]:=jW v;rw[Ga a j r _ s c,Ga (a.set i _) j r _ ((j9 (λe=>q e.symm)).trans s) c]
  ·rw[lH (by rw[IQ];omega),lH (by rw[IQ,lm];omega)]
theorem Pu:(A2.info? 326).map (·.size)=Z 6:=Φ
theorem Pc.dE(p:Pc):p.cells.toArray.all (·.oneCell')=A4:=all_oneCell_toArray (by
 intro v a;simp only[Pc.cells,Pc.lv,lK,nh,pZ]at a
 rcases a with rfl|rfl|rfl|rfl|rfl|rfl<;>rfl)
theorem AU.eJ(f:AU h c g o p k a d q b):g≠a/\k≠a:=⟨λe=>f.map.b6 f.u e.symm,λe=>f.map.b6 f.aB e.symm⟩
theorem Pc.fl(b:Aa h a 326 (Ct d)){i:Nat}(e:d[i]?=Z f):h.there a (i*6) 6:=λj c=>by
 obtain⟨v,g⟩:∃v,f.cells[j]?=Z v:=⟨_,jW (by exact c)⟩;rw[b.aq (by rw[Ga d i j f e c];exact g)];exact⟨rfl,b.v _⟩
theorem AU.fl(e:AU h c g k o a p d q b){i:Nat}(l:d[i]?=Z f):h.there a (i*6) 6:=λj m=>by
 obtain⟨v,n⟩:∃v,f.cells[j]?=Z v:=⟨_,jW (by exact m)⟩;rw[e.at l n];exact⟨rfl,e.aB.v _⟩
theorem Pc.c7(c:Aa h a 326 (Ct d)){i:Nat}(g:d[i]?=Z f)(b:Pc):Aa (h.setCells a (i*6) b.cells) a 326 (Ct (d.set i b))/\Ac (λk=>k=a) h (h.setCells a (i*6) b.cells):=by
 constructor
 ·rw[<-fG d i f b g _ _ _ _ _ _ (show b.cells=[Y V b.aN,Y V b.st,b.lv,J b.di,J b.fu,J b.ma]from rfl)];exact(((((c.setCell _ _).setCell _ _).setCell _ _).setCell _ _).setCell _ _).setCell _ _
 ·have t:∀(h:Bk) (o:Nat) (v:BR),Ac (λk=>k=a) h (h.setCell ⟨a,o,O⟩ v):=λh o v=>Ac.of (An _ _ _) (λk e=>by cases e;rfl)
  exact(((((t _ _ _).trans (t _ _ _)).trans (t _ _ _)).trans (t _ _ _)).trans (t _ _ _)).trans (t _ _ _)
def He(a:Int->Option Nat)(p:Pc)(k:Int)(i:Nat):Int->Option Nat:=λj=>if j=k then Z i else if p.fu=A4/\j=p.aN then O else a j
def Jd(a:Int->Option Nat)(k:Int):Int->Option Nat:=λj=>if j=k then O else a j
theorem fU(d:Int->Option Nat)(p:Pc)(k:Int)(i:Nat)(h:p.fu=A4):Ec (FN (DS d) p.aN) k (Y V i)=DS (He d p k i):=by
 funext j
 unfold Ec FN DS He
 by_cases a:j=k
 ·simp[a]
 ·by_cases b:j=p.aN
  ·rw[j7 a,ke b,j7 a,ke ⟨h,b⟩];rfl
  ·rw[j7 a,j7 b,j7 a,j7 (λc=>b c.2)]
theorem bK(a:Int->Option Nat)(p:Pc)(k:Int)(i:Nat)(h:p.fu=Ax):Ec (DS a) k (Y V i)=DS (He a p k i):=by
 funext j
 unfold Ec DS He
 by_cases b:j=k
 ·simp[b]
 ·simp[b,h]
theorem gH(a:Int->Option Nat)(k:Int):FN (DS a) k=DS (Jd a k):=by
 funext j
 unfold FN DS Jd
 by_cases b:j=k<;>simp[b]
variable {w w':World} {col:Ad} {c room q bp bm:Nat} {ps:List Pc} {hand:Nat} {ix:Int->Option Nat}
theorem AU.ho(h:AU w col c room q bp bm ps hand ix){i:Nat}{p':Pc}(n:ps[i]?=Z f)(r:p'.fu=A4)(s:ix p'.aN=O)(t:0<=p'.aN)(v:p'.aN<=65535)
  (z:Ai w 1 p'.lv p'.ld.length (Ao p'.ld)/\(∀b,p'.lv.ownBlock=Z b->col b=0/\b<w.heap.size)/\(∀x∈p'.ld,x<256)){q':Nat}
  (A:Aa w' c 272 [E (Z ⟨bp,0,O⟩) room room,B8 (Z bm),Y V hand])
  (m:Aa w' bp 326 (Ct (ps.set i p')))(B:MF w' A2 3 bm q' (DS (He ix f p'.aN i))){S:Nat->Prop}(o:Ac S w w')(C:∀b,col b=0->¬S b):AU w' col c room q' bp bm (ps.set i p') hand (He ix f p'.aN i):=by
 have D:=(jX.1 n).1;refine{h with u:=A,aB:=m,map:=B,aF:=by rw[lm];exact h.aF,cj:=λk j=>?_,cR:=λx a=>?_,ev:=λx a=>?_}
 ·unfold He
  by_cases e:j=i
  ·subst e;rw[kZ D]
   constructor
   ·intro d
    split at d
    ·rename_i p
     exact⟨p',rfl,r,p.symm⟩
    ·split at d
     ·cases d
     ·rename_i p F
      obtain⟨x,a,l,g⟩:=(h.cj k j).1 d;rw[n]at a
      cases a
      exact absurd ⟨l,g.symm⟩ F
   ·rintro⟨x,a,l,g⟩
    cases a
    rw[ke g.symm]
  ·rw[j9 (λc=>e c.symm)]
   constructor
   ·intro d
    split at d
    ·injection d with d;exact absurd d.symm e
    ·split at d
     ·cases d
     ·exact(h.cj k j).1 d
   ·intro a;have l:=(h.cj k j).2 a;rw[j7 (λc=>by rw[c,s]at l;cases l),j7 (λc=>?_)]
    ·exact l
    ·have g:=(h.cj k i).2 ⟨f,n,c.1,c.2.symm⟩;rw[l]at g;injection g with g;exact e g
 ·have G:Ai w 1 x.lv x.ld.length (Ao x.ld)/\(∀b,x.lv.ownBlock=Z b->col b=0/\b<w.heap.size)/\(∀y∈x.ld,y<256):=by
   rcases lZ a with a|rfl
   ·exact h.cR x a
   ·exact z
  obtain⟨l,g,H⟩:=G;exact⟨o.aP l (λb m=>C b (g b m).1),λb m=>⟨(g b m).1,jY (g b m).2 o.size⟩,H⟩
 ·rcases lZ a with a|rfl
  ·exact h.ev x a
  ·exact⟨t,v⟩
theorem AU.fF(h:AU w col c room q bp bm ps hand ix){i:Nat}{a:Pc}(d:ps[i]?=Z f)(j:Int):By (ps.set i a) (He ix f a.aN i) j=if j=a.aN then Z a.pg else if f.fu=A4/\j=f.aN then O else By ps ix j:=by
 have k:=(jX.1 d).1;unfold By He
 by_cases e:j=a.aN
 ·rw[ke e,ke e];simp[kZ k]
 ·rw[j7 e,j7 e]
  by_cases b:f.fu=A4/\j=f.aN
  ·rw[ke b,ke b];rfl
  ·rw[j7 b,j7 b]
   cases l:ix j with
   |none=>rfl
   |some m=>
    have n:m≠i:=λc=>by
     subst c;obtain⟨x,g,o,p⟩:=(h.cj j m).1 l;rw[d]at g
     cases g
     exact b ⟨o,p.symm⟩
    simp only[oH];rw[j9 (λc=>n c.symm)]
theorem AU.iv(h:AU w col c room q bp bm ps hand ix){i:Nat}(a:ps[i]?=Z f)(b:f.fu=A4):By ps ix f.aN=Z f.pg:=by
 unfold By;rw[(h.cj f.aN i).2 ⟨f,a,b,rfl⟩];simp[a]
theorem AU.hh(h:AU w col c room q bp bm ps hand ix){i:Nat}(a:ps[i]?=Z f)(g:f.fu=A4)(b:Pc)(j:Int):By (ps.set i b) ix j=if j=f.aN then Z b.pg else By ps ix j:=by
 have k:=(jX.1 a).1;unfold By
 by_cases e:j=f.aN
 ·rw[ke e,e,(h.cj f.aN i).2 ⟨f,a,g,rfl⟩];simp[kZ k]
 ·rw[j7 e]
  cases l:ix j with
  |none=>rfl
  |some m=>
   have n:m≠i:=λc=>by
    subst c;obtain⟨x,d,p,o⟩:=(h.cj j m).1 l;rw[a]at d
    cases d
    exact e o.symm
   simp only[oH];rw[j9 (λc=>n c.symm)]
theorem AU.it(h:AU w col c room q bp bm ps hand ix){i:Nat}(n:ps[i]?=Z f)(p:f.fu=A4)
  (r:Aa w' c 272 [E (Z ⟨bp,0,O⟩) room room,B8 (Z bm),Y V hand])
  (g:Aa w' bp 326 (Ct (ps.set i Pc.ad)))(s:MF w' A2 3 bm q (DS (Jd ix f.aN))){S:Nat->Prop}(o:Ac S w w')(t:∀b,col b=0->¬S b):AU w' col c room q bp bm (ps.set i Pc.ad) hand (Jd ix f.aN):=by
 have v:=(jX.1 n).1;refine{h with u:=r,aB:=g,map:=s,aF:=by rw[lm];exact h.aF,cj:=λk j=>?_,cR:=λx a=>?_,ev:=λx a=>?_}
 ·unfold Jd
  by_cases e:j=i
  ·subst e;rw[kZ v]
   constructor
   ·intro l
    split at l
    ·cases l
    ·rename_i z
     obtain⟨x,a,m,d⟩:=(h.cj k j).1 l;rw[n]at a
     cases a
     exact absurd d.symm z
   ·rintro⟨x,a,m,d⟩
    cases a
    cases m
  ·rw[j9 (λc=>e c.symm)]
   constructor
   ·intro l
    split at l
    ·cases l
    ·exact(h.cj k j).1 l
   ·intro a;have m:=(h.cj k j).2 a;rw[j7 (λc=>?_)]
    ·exact m
    ·have d:=(h.cj k i).2 ⟨f,n,p,c.symm⟩;rw[m]at d;injection d with d;exact e d
 ·rcases lZ a with a|rfl
  ·obtain⟨m,d,A⟩:=h.cR x a;exact⟨o.aP m (λb g=>t b (d b g).1),λb g=>⟨(d b g).1,jY (d b g).2 o.size⟩,A⟩
  ·exact⟨Ai.nil _ 1,λb g=>by simp[Pc.ad,Pc.lv,B0]at g,λy B=>by cases B⟩
 ·rcases lZ a with a|rfl
  ·exact h.ev x a
  ·exact⟨qS _,Ξ⟩
theorem AU.g6(h:AU w col c room q bp bm ps hand ix){i:Nat}(b:ps[i]?=Z f)(j:Int):By (ps.set i Pc.ad) (Jd ix f.aN) j=if j=f.aN then O else By ps ix j:=by
 unfold By Jd
 by_cases e:j=f.aN
 ·rw[ke e,ke e];rfl
 ·rw[j7 e,j7 e]
  cases d:ix j with
  |none=>rfl
  |some m=>
   have g:m≠i:=λc=>by
    subst c;obtain⟨x,a,l,k⟩:=(h.cj j m).1 d;rw[b]at a
    cases a
    exact e k.symm
   simp only[oH];rw[j9 (λc=>g c.symm)]
end
section
open Go.RowKit
attribute [local go_sem ↓] Go.wp_at_zero Go.wp_at_succ
theorem Be(w:Bk):w.grownBy w.drew O:=AS w 1 O
theorem AU.iK(i:AU h c a k o g p d q b):g≠a:=λe=>by
 have j:=i.u;have f:=i.aB;rw[e]at f;unfold Aa at j f;rw[j]at f;injection f with l;injection l with _ m;exact absurd m Ξ
theorem AU.gG(f:AU h c a k o g p d q b):a≠g:=λe=>f.iK e.symm
def ff(w:Bk)(l:Ad)(c m q n o:Nat)(f:List Pc)(g:Int->Option Nat)(k:Int)(x:Pg)(e:Ending)(h:Bk):Prop:=
 ∃i a r d,Ab (Sc (λj=>j=2) 101) w l h i/\AU h i c m (q+1) n o a r d/\By a d k=Z x/\
  ((e=Bd (BA #[Y V 0,Pc.ad.e3,J Ax])/\∀j,j≠k->By a d j=By f g j)\/
   (∃p:Pc,e=Bd (BA #[Y V p.aN,p.e3,J A4])/\p.aN≠k/\By f g p.aN=Z p.pg/\By a d p.aN=O/\(∀j,j≠k->j≠p.aN->By a d j=By f g j)/\
    Ai h 1 p.lv p.ld.length (Ao p.ld)/\(∀b,p.lv.ownBlock=Z b->i b=0/\b<h.heap.size)/\(∀y∈p.ld,y<256)/\By f g k=O))
theorem da{X:Ad}{c n:Nat}(aP:AU h X c p o n k d q b)(bA:Aw h X)(hq:o<maxLen)(l:Int)(k0:0<=l)(k1:l<=65535)
  (st:Nat)(a:Option B7)(v:Nat)(ld:List Nat)(di:Bool)(hr:Ai h 1 (E a ld.length v) ld.length (Ao ld))(ho:∀g,(E a ld.length v).ownBlock=Z g->X g=0/\g<h.heap.size)(hs:∀x∈ld,x<256):
  BX A2 151 #[Bn (Z ⟨c,0,O⟩),Y V l,Bs #[Y V st,E a ld.length v,J di]] h (ff h X c p o n k d b l (st,ld,di)):=by
 have H:=zh aP;have b2:=zh bA;have ax:=zh (And.intro hr (And.intro ho hs));clear aP bA hr ho hs
 go_enter Tryz.func151,Tryz.ntmps151
 go_wp2_with fail;obtain⟨L,ak⟩:=Ag ((h.alloc (BC #[Y V st,E a ld.length v,J di] 198)).alloc (BC #[Y V 0,E O 0 0,J Ax] 198))
 have bF:Aa L h.heap.size 198 [Y V st,E a ld.length v,J di]:=by rw[<-ak];exact(Aa.new h _ _).alloc _
 have bG:Aa L (h.heap.size+1) 198 [Y V 0,E O 0 0,J Ax]:=by
  rw[<-ak];have:=Aa.new (h.alloc (BC #[Y V st,E a ld.length v,J di] 198)) 198 [Y V 0,E O 0 0,J Ax];rw[World.size_alloc]at this;exact this
 have ay:h.grownBy L O:=by rw[<-ak];exact Ae (AA _ _ O) (AA _ _ O)
 have b3:L.heap.size=h.heap.size+2:=by rw[<-ak];simp
 rw[ak];have aQ:=zh bF;have bH:=zh bG;obtain⟨B,a7⟩:=Ag (AL (AL X h.heap.size 100) (h.heap.size+1) 100)
 have aR:∀j,B j=if j=h.heap.size+1 then 100 else if j=h.heap.size then 100 else X j:=λj=>by rw[<-a7];rfl
 have bI:Ab (Sc (λj=>j=2) 101) h X L B:=by
  rw[<-a7];exact((Ab.grown b2.o ay).bC (jS _) Ω (BD ⟨Ω,Ω⟩)).bC Ω Ω (BD ⟨Ω,Ω⟩)
 have a8:∀j,j<h.heap.size->B j=X j:=λj hj=>by rw[aR,j7 Ω,j7 Ω]
 have A:=zh (H.o.am (col':=B) (Ac.au (S:=λ_=>False) ay) (λ_ _ aP=>aP) a8);have az:=zh bI;have D:Hd (B h.heap.size=100/\B (h.heap.size+1)=100):=zh ⟨by rw[aR,j7 Ω,ke rfl],by rw[aR,ke rfl]⟩;have aA:Hd (Ai L 1 (E a ld.length v) ld.length (Ao ld)/\(∀g,(E a ld.length v).ownBlock=Z g->B g=0/\g<L.heap.size)/\(∀x∈ld,x<256)):=zh ⟨ax.o.1.grown ay Δ,λg r=>⟨by rw[a8 g (ax.o.2.1 g r).2];exact(ax.o.2.1 g r).1,jY (ax.o.2.1 g r).2 ay.size⟩,ax.o.2.2⟩;clear ak bF bG ay aR bI a8 a7;refine(Ku A.o l k0 k1).mono ?_;rintro e cI ⟨rfl,rfl⟩
 cases hx:b l with
 |some i=>
  have hf:EV n b l=Bn (Z ⟨n,i*6,O⟩):=by rw[EV,hx]
  rw[hf];obtain⟨u,C,ab,bJ⟩:=(H.o.cj l i).1 hx;have w:=zh C;have Q:=zh (And.intro ab bJ);clear C ab bJ hx hf;have x0:=aQ.o.m 0;have x1:=aQ.o.m 1;have x2:=aQ.o.m 2;have y1:=A.o.at w.o (j:=1) rfl;have y2:=A.o.at w.o (j:=2) rfl;have y3:=A.o.at w.o (j:=3) rfl;have y5:=A.o.at w.o (j:=5) rfl;have f1:=A.o.aB.v (i*6+1);have f2:=A.o.aB.v (i*6+2);have f3:=A.o.aB.v (i*6+3);have f5:=A.o.aB.v (i*6+5);go_wp2_with fail
  have y:=zh (A.o.aR (w':=((((L.setCell ⟨n,i*6+1,O⟩ (Y V st)).setCell ⟨n,i*6+1+1,O⟩ (E a ld.length v)).setCell ⟨n,i*6+1+2,O⟩ (J di)).setCell ⟨n,i*6+5,O⟩ (J A4))) w.o {u with st:=st,a:=a,c:=v,ld:=ld,di:=di,ma:=A4} rfl rfl aA.o
   (by rw[<-eY d i u w.o];exact(((A.o.aB.setCell _ _).setCell _ _).setCell _ _).setCell _ _)
   ((((Ac.of (An _ _ _) (λl e=>by cases e;rfl)).trans (Ac.of (An _ _ _) (λl e=>by cases e;rfl))).trans (Ac.of (An _ _ _) (λl e=>by cases e;rfl))).trans (Ac.of (An _ _ _) (λl e=>by cases e;rfl))))
  have T2:Hd (Ac (λl=>l=n) L ((((L.setCell ⟨n,i*6+1,O⟩ (Y V st)).setCell ⟨n,i*6+1+1,O⟩ (E a ld.length v)).setCell ⟨n,i*6+1+2,O⟩ (J di)).setCell ⟨n,i*6+5,O⟩ (J A4))):=zh ((((Ac.of (An _ _ _) (λl e=>by cases e;rfl)).trans (Ac.of (An _ _ _) (λl e=>by cases e;rfl))).trans (Ac.of (An _ _ _) (λl e=>by cases e;rfl))).trans (Ac.of (An _ _ _) (λl e=>by cases e;rfl)));generalize((((L.setCell ⟨n,i*6+1,O⟩ (Y V st)).setCell ⟨n,i*6+1+1,O⟩ (E a ld.length v)).setCell ⟨n,i*6+1+2,O⟩ (J di)).setCell ⟨n,i*6+5,O⟩ (J A4))=G at*
  have ad:h.heap.size+1≠n:=λe=>by have:=A.o.c1;rw[<-e,D.o.2]at this;cases this
  have N:=zh (T2.o.u bH.o ad);clear x0 x1 x2 y1 y2 y3 y5 f1 f2 f3 f5;have z0:=N.o.m 0;have z1:=N.o.m 1;have z2:=N.o.m 2;have g0:=N.o.v 0;have g1:=N.o.v 1;have I:=N.o.v 2
  go_still_tail 2,Φ
  go_wp2_with fail;obtain⟨F,b7,aE,T3⟩:=Br N.o (Y V 0) (E O 0 0) (J Ax);rw[b7];have G4:=AS F 1 O;have aX:=aE.cQ;have T4:Ac (λl=>l=h.heap.size+1) G F.drew:=T3.trans (Ac.au G4);have b9:=A.o.c1;have z:=D.o.2;have ca:=y.o.am (col':=B) T4 (λj hj e=>by rw[e,z]at hj;omega) (λ_ _=>rfl);refine Bx (Nz (s:=6) (p:=7) (t:=8) (ty:=198) rfl _ _ (h.heap.size+1) _ _ _ _ rfl aX mF rfl rfl) rfl ?_;refine⟨B,d.set i {u with st:=st,a:=a,c:=v,ld:=ld,di:=di,ma:=A4},q,b,?_,ca.mono (lC o),?_,BB ⟨rfl,λj hj=>?_⟩⟩
  ·exact(az.o.trans (AG az.o.new T2.o (λj e=>BB (by rw[e];exact b9)))).trans (AG (az.o.new.ak T2.o) T4 (λj e=>BD (by rw[e,z];omega)))
  ·rw[A.o.hh w.o Q.o.1,Q.o.2,ke rfl];rfl
  ·rw[A.o.hh w.o Q.o.1,Q.o.2,j7 hj]
 |none=>
  have HX:=zh hx
  have hf:EV n b l=Bn O:=by rw[EV,hx]
  rw[hf];clear hf hx;go_wp2_with fail;refine(Ya A.o).mono ?_;rintro e G ⟨⟨m,bf,rfl⟩,I⟩;have y:=zh (A.o.grown I);have aZ:=zh (aQ.o.grown I Δ);have N:=zh (bH.o.grown I Δ);have aF:=zh (az.o.trans (Ab.grown az.o.new I));have P:Hd (Ai G 1 (E a ld.length v) ld.length (Ao ld)/\(∀g,(E a ld.length v).ownBlock=Z g->B g=0/\g<G.heap.size)/\(∀x∈ld,x<256)):=zh ⟨aA.o.1.grown I Δ,λg r=>⟨(aA.o.2.1 g r).1,jY (aA.o.2.1 g r).2 I.size⟩,aA.o.2.2⟩;have bM:=zh bf;have bg:=H.o.aF;have cJ:=H.o.r1;have bN:=bf.1;clear bf I
  by_cases hm:m=d.length
  ·have hv:IZ d m= -1:=ke hm;rw[hv];clear hv;go_wp2_with fail;refine(Wx y.o aF.o.new).mono ?_;rintro e F ⟨i,qs,cK,hi,rfl,bh,bi,ae⟩;obtain⟨u,C⟩:∃u,qs[i]?=Z u:=⟨_,jW (by rw[bh.aF];exact hi)⟩
   have ab:u.fu=A4:=by
    have h1:=bi.fS i;rw[C]at h1
    cases bj:d[i]? with
    |none=>rw[bj]at h1;cases h1
    |some x=>
     rw[bj]at h1
     have h2:x.fu=A4:=by
      have h3:=bM.o.2.1 i (by rw[hm,bg];exact hi);unfold Bm at h3
      rwa[lp,bj,nf]at h3
     have h4:u.dL=x.dL:=by injection h1
     have h5:u.dL.fu=x.dL.fu:=by rw[h4]
     exact h5.trans h2
   have f:=zh bh;have w:=zh C;have Q:=zh ab;have bQ:=zh bi;have T3:=zh ae;have aI:=zh (aF.o.trans (AG aF.o.new ae (λj e=>BB (by rcases e with e|e<;>rw[e];exact y.o.c0;exact y.o.c1))))
   have cf:=zh (ae.u aZ.o (λe=>by
    rcases e with e|e
    ·have:=y.o.c0;rw[<-e,D.o.1]at this;cases this
    ·have:=y.o.c1;rw[<-e,D.o.1]at this;cases this))
   have R:=zh (ae.u N.o (λe=>by
    rcases e with e|e
    ·have:=y.o.c0;rw[<-e,D.o.2]at this;cases this
    ·have:=y.o.c1;rw[<-e,D.o.2]at this;cases this))
   have aE:Hd (Ai F 1 (E a ld.length v) ld.length (Ao ld)/\(∀g,(E a ld.length v).ownBlock=Z g->B g=0/\g<F.heap.size)/\(∀x∈ld,x<256)):=zh ⟨ae.aP P.o.1 (λg r e=>by
    rcases e with e|e
    ·have:=(P.o.2.1 g r).1;rw[e,y.o.c0]at this;cases this
    ·have:=(P.o.2.1 g r).1;rw[e,y.o.c1]at this;cases this),λg r=>⟨(P.o.2.1 g r).1,jY (P.o.2.1 g r).2 ae.size⟩,P.o.2.2⟩
   clear bh bi ae C ab hm bN bg;go_wp2_with fail;have c0:=f.o.u.m 0;have y0:=f.o.at w.o (j:=0) rfl;have y1:=f.o.at w.o (j:=1) rfl;have y2:=f.o.at w.o (j:=2) rfl;have y3:=f.o.at w.o (j:=3) rfl;simp only[Pc.lv]at y2;simp only[lD]at y0;have z0:=R.o.m 0;have z1:=R.o.m 1;have z2:=R.o.m 2;have g0:=R.o.v 0;have g1:=R.o.v 1;have I:=R.o.v 2;have c1:=f.o.u.m 1;have bk:=f.o.ev u (kX w.o);obtain⟨w4,ao,aX,T4⟩:=Br R.o (Y V u.st) (E u.a u.ld.length u.c) (J u.di);have z:=D.o.2;have aL:MF w4.drew A2 3 k o (DS b):=(f.o.map.ak T4 (λe=>by have:=f.o.c2;rw[e,z]at this;cases this)).grown (Be w4) Δ;obtain⟨w5,bR,aM,T⟩:=aL.fG kr lS u.aN (Hj bk.1 bk.2) 0
   have ap:h.heap.size+1≠c:=λe=>by have:=f.o.c0;rw[<-e,z]at this;cases this
   have bS:c≠h.heap.size+1:=λe=>ap e.symm
   have ah:Ac (λj=>j=h.heap.size+1\/j=k) F w5:=((T4.trans (Ac.au (Be w4))).mono (λ_ e=>BB e)).trans (Ac.of T (λj e=>BD (by cases e;rfl)))
   have bT:n≠h.heap.size+1:=λe=>by have:=f.o.c1;rw[e,z]at this;cases this
   have bU:k≠h.heap.size+1:=λe=>by have:=f.o.c2;rw[e,z]at this;cases this
   have a1:=zh (ah.u f.o.u (λe=>e.elim bS f.o.eJ.1));have bl:=zh (ah.u f.o.aB (λe=>e.elim bT f.o.eJ.2));have U:=zh ((aX.grown (Be w4) Δ).grown T (by simp;exact λe=>bU e.symm));have bm:=zh (ah.u cf.o (λe=>e.elim Ω (λe=>by have:=f.o.c2;rw[<-e,D.o.1]at this;cases this)));have bn:=zh aM;have bo:=zh ah;rw[<-ao]at bR;clear aX T4 aL aM T ah ao bT bU z bk
   go_still_tail 17,Φ
   go_wp2_with fail;clear c0 c1 y0 y1 y2 y3 z0 z1 z2 g0 g1 I bR ap bS w4;have c0:=a1.o.m 0;have v0:=bm.o.m 0;have v1:=bm.o.m 1;have v2:=bm.o.m 2
   go_still_tail 8,Φ
   iterate 4 go_step
   have cg:=zh (a1.o.cQ);have bV:=zh (bl.o.cQ);have ch:=zh (U.o.cQ);have ci:=zh (bn.o.grown (Be w5) Δ);have cj:=zh (bo.o.trans (Ac.au (Be w5)));clear c0 v0 v1 v2;generalize w5.drew=w6 at*;refine BE 326 (.tmp 62) (.tmp 61) rfl n (i*6) (Pc.cells ⟨l,st,a,v,ld,di,A4,A4⟩).toArray rfl rfl (Pc.fl bV.o w.o) Pu (Pc.dE _) ?_;obtain⟨w7,bs⟩:=Ag (w6.setCells n (i*6) (Pc.cells ⟨l,st,a,v,ld,di,A4,A4⟩).toArray.toList);obtain⟨bt,aq⟩:=Pc.c7 bV.o w.o ⟨l,st,a,v,ld,di,A4,A4⟩;rw[bs];rw[show w6.setCells n (i*6) (Pc.cells ⟨l,st,a,v,ld,di,A4,A4⟩)=w7 from bs]at bt aq;have z:=D.o.2
   have ad:h.heap.size+1≠n:=λe=>by have:=f.o.c1;rw[<-e,z]at this;cases this
   have a2:h.heap.size+1≠k:=λe=>by have:=f.o.c2;rw[<-e,z]at this;cases this
   have ap:h.heap.size+1≠c:=λe=>by have:=f.o.c0;rw[<-e,z]at this;cases this
   have bu:=aq.u cg.o f.o.gG;have cl:=zh (aq.u ch.o ad);have bW:=ci.o.ak aq (λe=>f.o.eJ.2 e.symm);obtain⟨w8,ar,bY,aN⟩:=bW.eu kr lS hq l (Hj k0 k1) (Y V i);have c1:=bu.m 1;have aj:=zh (cl.o.grown aN (by simp;exact λe=>a2 e));have cm:=zh (bt.grown aN (by simp;exact λe=>f.o.eJ.2 e));have cn:=zh (bu.grown aN (by simp;exact λe=>f.o.eJ.1 e));have co:=zh bY;have cp:Hd (Ac (λj=>(j=h.heap.size+1\/j=k)\/j=n) F w8):=zh (((cj.o.mono (λ_ e=>BB e)).trans (aq.mono (λ_ e=>BD e))).trans (Ac.of aN (λj e=>BB (BD (by cases e;rfl)))));clear bt aq bu bW bY aN bs ad a2 ap z;go_wp2_with fail;clear c1 ar;have z0:=aj.o.m 0;have z1:=aj.o.m 1;have z2:=aj.o.m 2;have g0:=aj.o.v 0;have g1:=aj.o.v 1;have I:=aj.o.v 2;refine FQ (λ_=>True) [([],[0,1,2,3],4,Ax),([],[],5,Ax)] Φ Φ ?_;refine Dh ?_
   iterate 4 ((apply AB rfl Θ;(· intro wS W;(try have W:=W rfl);(try dsimp only at W);(try subst W);go_simp;(try with_reducible rfl)));refine Ak ?_)
   refine Aj ?_;refine Al ?_;intro K M;refine As M ?_;clear M K;refine Dh ?_;refine Aj ?_;refine Al ?_;intro K M;refine As M ?_;clear M K;refine Fv (NoPanic.normal ?_);go_wp2_with fail;obtain⟨w9,cr,cs,T9⟩:=Br aj.o (Y V u.st) (E u.a u.ld.length u.c) (J u.di);rw[cr];have cu:=cs.cQ;have a4:Ac (λl=>l=h.heap.size+1) w8 w9.drew:=T9.trans (Ac.au (Be w9));have z:=D.o.2;have TT:Ac (λj=>(j=h.heap.size+1\/j=k)\/j=n) F w9.drew:=cp.o.trans (a4.mono (λ_ e=>BB (BB e)));have bv:b (Pc.mk l st a v ld di A4 A4).aN=O:=HX.o
   have bZ:∀g,B g=0->¬((g=h.heap.size+1\/g=k)\/g=n):=λg r e=>by
    rcases e with(e|e)|e
    ·rw[e,z]at r;cases r
    ·rw[e,f.o.c2]at r;cases r
    ·rw[e,f.o.c1]at r;cases r
   have bw:=f.o.ho (w':=w9.drew) (q':=o+1) w.o (p':=⟨l,st,a,v,ld,di,A4,A4⟩) rfl bv k0 k1 aE.o
    (a4.u cn.o (λe=>by have:=f.o.c0;rw[e,z]at this;cases this)) (a4.u cm.o (λe=>by have:=f.o.c1;rw[e,z]at this;cases this))
    (by rw[<-fU b u l i Q.o];exact co.o.ak a4 (λe=>by have:=f.o.c2;rw[e,z]at this;cases this))
    TT bZ
   have b0:u.aN≠l:=λe=>by
    have:=(f.o.cj u.aN i).2 ⟨u,w.o,Q.o,rfl⟩;rw[e,HX.o]at this
    cases this
   have aO:=f.o.cR u (kX w.o);refine Bx (Nz (s:=6) (p:=7) (t:=8) (ty:=198) rfl _ _ (h.heap.size+1) _ _ _ _ rfl cu mF rfl rfl) rfl ?_;refine⟨B,_,_,_,?_,bw,?_,BD ⟨u,rfl,b0,?_,?_,λj hj cv=>?_,TT.aP aO.1 (λg r=>bZ g (aO.2.1 g r).1),λg r=>⟨(aO.2.1 g r).1,jY (aO.2.1 g r).2 TT.size⟩,aO.2.2,(by unfold By;rw[HX.o];rfl)⟩⟩
   ·refine aI.o.trans (AG aI.o.new TT (λj e=>?_))
    rcases e with(e|e)|e
    ·exact BD (by rw[e,z];omega)
    ·exact BB (by rw[e];exact f.o.c2)
    ·exact BB (by rw[e];exact f.o.c1)
   ·rw[f.o.fF w.o,ke rfl];rfl
   ·rw[<-bQ.o.a7];exact f.o.iv w.o Q.o
   ·rw[f.o.fF w.o,j7 (by exact b0),ke ⟨Q.o,rfl⟩]
   ·rw[f.o.fF w.o,j7 (by exact hj),j7 (λc=>cv c.2)];exact bQ.o.a7 b j
  ·have hv:IZ d m=(m:Nat):=j7 hm;rw[hv];clear hv;obtain⟨u,C⟩:∃u,d[m]?=Z u:=⟨_,jW Ω⟩;have cw:decide ((m:Int)<0)=Ax:=Δ;have cx:Hd (m<d.length):=zh Ω;go_wp2_with fail;have w:=zh C;have c0:=y.o.u.m 0;have v0:=aZ.o.m 0;have v1:=aZ.o.m 1;have v2:=aZ.o.m 2;have y0:=y.o.at C (j:=0) rfl;have y1:=y.o.at C (j:=1) rfl;have y2:=y.o.at C (j:=2) rfl;have y3:=y.o.at C (j:=3) rfl;have y4:=y.o.at C (j:=4) rfl;have y5:=y.o.at C (j:=5) rfl;have f0:=y.o.aB.v (m*6);have f1:=y.o.aB.v (m*6+1);have f2:=y.o.aB.v (m*6+2);have f3:=y.o.aB.v (m*6+3);have f4:=y.o.aB.v (m*6+4);have f5:=y.o.aB.v (m*6+5);have cB:m<p:=Ω;clear C;clear hm bN bg cw
   go_still_tail 8,Φ
   go_step
   go_step
   go_step
   go_step
   have f:=zh (y.o.grown (Be G));have R:=zh (N.o.grown (Be G) Δ);have aI:=zh (aF.o.trans (Ab.grown aF.o.new (Be G)));have aE:Hd (Ai G.drew 1 (E a ld.length v) ld.length (Ao ld)/\(∀g,(E a ld.length v).ownBlock=Z g->B g=0/\g<G.drew.heap.size)/\(∀x∈ld,x<256)):=zh ⟨P.o.1.grown (Be G) Δ,λg r=>⟨(P.o.2.1 g r).1,jY (P.o.2.1 g r).2 (Be G).size⟩,P.o.2.2⟩;clear v0 v1 v2 y0 y1 y2 y3 y4 y5 f0 f1 f2 f3 f4 f5 c0;generalize G.drew=F at*;refine BE 326 (.tmp 62) (.tmp 61) rfl n (m*6) (Pc.cells ⟨l,st,a,v,ld,di,A4,A4⟩).toArray rfl rfl (f.o.fl w.o) Pu (Pc.dE _) ?_;obtain⟨w4,ao⟩:=Ag (F.setCells n (m*6) (Pc.cells ⟨l,st,a,v,ld,di,A4,A4⟩).toArray.toList);obtain⟨bx,au⟩:=Pc.c7 f.o.aB w.o ⟨l,st,a,v,ld,di,A4,A4⟩;rw[ao];rw[show F.setCells n (m*6) (Pc.cells ⟨l,st,a,v,ld,di,A4,A4⟩)=w4 from ao]at bx au;have bz:=au.u f.o.u f.o.gG
   have ad:h.heap.size+1≠n:=λe=>by have:=f.o.c1;rw[<-e,D.o.2]at this;cases this
   have cC:=zh (au.u R.o ad);have aL:=f.o.map.ak au (f.o.map.b6 f.o.aB);obtain⟨w5,ar,aM,T⟩:=aL.eu kr lS hq l (Hj k0 k1) (Y V m);have c1:=bz.m 1
   have a2:h.heap.size+1≠k:=λe=>by have:=f.o.c2;rw[<-e,D.o.2]at this;cases this
   have U:=zh (cC.o.grown T Γ);have bl:=zh (bx.grown T (by simp;exact λe=>f.o.map.b6 f.o.aB e.symm));have a1:=zh (bz.grown T (by simp;exact λe=>f.o.map.b6 f.o.u e.symm));have bn:=zh aM;have bo:=zh ((au.mono (S':=λj=>j=n\/j=k) (λj e=>BB e)).trans (Ac.of T (λj e=>BD (by cases e;rfl))));have cD:=zh ar;clear bx au bz aL aM T ao ar;clear b3 cB a2 ad
   go_step
   have ar:=cD.o;go_wp2_with fail
   have ap:h.heap.size+1≠c:=λe=>by have:=f.o.c0;rw[<-e,D.o.2]at this;cases this
   clear c1 ar;have z0:=U.o.m 0;have z1:=U.o.m 1;have z2:=U.o.m 2;have g0:=U.o.v 0;have g1:=U.o.v 1;have I:=U.o.v 2;refine FQ (λ_=>True) [([],[0,1,2,3],4,Ax),([],[],5,Ax)] Φ Φ ?_;refine Dh ?_
   iterate 4 ((apply AB rfl Θ;(· intro wS W;(try have W:=W rfl);(try dsimp only at W);(try subst W);go_simp;(try with_reducible rfl)));refine Ak ?_)
   refine Aj ?_;refine Al ?_;intro K M;refine As M ?_;clear M K;refine Dh ?_;refine Aj ?_;refine Al ?_;intro K M;refine As M ?_;clear M K;refine Fv (NoPanic.normal ?_);go_wp2_with fail;obtain⟨w6,cE,cF,T6⟩:=Br U.o (Y V 0) (E O 0 0) (J Ax);rw[cE];have cH:=cF.cQ;have T7:Ac (λl=>l=h.heap.size+1) w5 w6.drew:=T6.trans (Ac.au (Be w6));have z:=D.o.2
   have ab:u.fu=Ax:=by
    have h1:=bM.o.2.2 cx.o;unfold Bm at h1
    rwa[lp,w.o,nf]at h1
   have ah:Ac (λj=>j=n\/j=k) F w5:=bo.o;have b1:Ac (λj=>(j=n\/j=k)\/j=h.heap.size+1) F w6.drew:=(ah.mono (λ_ e=>BB e)).trans (T7.mono (λ_ e=>BD e));have bv:b (Pc.mk l st a v ld di A4 A4).aN=O:=HX.o
   have bw:=f.o.ho (w':=w6.drew) (q':=o+1) w.o (p':=⟨l,st,a,v,ld,di,A4,A4⟩) rfl bv k0 k1 aE.o
    (T7.u a1.o (λe=>ap e.symm)) (T7.u bl.o (λe=>by have:=f.o.c1;rw[e,z]at this;cases this))
    (by rw[<-bK b u l m ab];exact bn.o.ak T7 (λe=>by have:=f.o.c2;rw[e,z]at this;cases this))
    b1 (λg r e=>by
     rcases e with(e|e)|e
     ·rw[e,f.o.c1]at r;cases r
     ·rw[e,f.o.c2]at r;cases r
     ·rw[e,z]at r;cases r)
   refine Bx (Nz (s:=6) (p:=7) (t:=8) (ty:=198) rfl _ _ (h.heap.size+1) _ _ _ _ rfl cH mF rfl rfl) rfl ?_;refine⟨B,_,q,_,?_,bw,?_,BB ⟨rfl,λj hj=>?_⟩⟩
   ·refine aI.o.trans (AG aI.o.new b1 (λj e=>?_))
    rcases e with(e|e)|e
    ·exact BB (by rw[e];exact f.o.c1)
    ·exact BB (by rw[e];exact f.o.c2)
    ·exact BD (by rw[e,z];omega)
   ·rw[f.o.fF w.o,ke rfl];rfl
   ·rw[f.o.fF w.o,j7 hj,j7 (λc=>by rw[ab]at c;cases c.1)]
end
section
open Go.RowKit
attribute [local go_sem ↓] Go.wp_at_zero Go.wp_at_succ
theorem fJ:(A2.info? 326).map (λi=>(i.zero,i.size,i.bytes))=Z (Z (Bs #[Y V 0,Y V 0,E O 0 0,J Ax,J Ax,J Ax]),6,56):=Φ
theorem Ww(n m:Nat):(BL (Bs #[Y V 0,Y V 0,E O 0 0,J Ax,J Ax,J Ax]).cells (n*6))[m]?=(Ct (A3 n Pc.ad))[m]?:=by
 by_cases d:m<n*6
 ·have a:(BL (Bs #[Y V 0,Y V 0,E O 0 0,J Ax,J Ax,J Ax]).cells (n*6))[m]?=Z (#[Y V 0,Y V 0,E O 0 0,J Ax,J Ax,J Ax][m%6]!):=by
   unfold BL;rw[Array.getElem?_map,lO (by simpa using d)];simp[Value.cells]
  rw[a]
  have b:(A3 n Pc.ad)[m/6]?=Z Pc.ad:=by rw[nV,ke Ω]
  have c:=Ga (A3 n Pc.ad) (m/6) (m%6) Pc.ad b Ω;rw[show m/6*6+m%6=m by omega]at c;rw[c];obtain⟨r,f,e⟩:∃r,r<6/\m%6=r:=⟨_,lT _ Ω,rfl⟩;rw[e]
  match r,f with
  |0,_=>rfl
  |1,_=>rfl
  |2,_=>rfl
  |3,_=>rfl
  |4,_=>rfl
  |5,_=>rfl
 ·have a:=size_madeCells (Bs #[Y V 0,Y V 0,E O 0 0,J Ax,J Ax,J Ax]).cells (n*6)
  have b:(Ct (A3 n Pc.ad)).length=n*6:=by rw[IQ,mw]
  rw[lI Ω,lH Ω]
theorem eF(n:Nat):BL (Bs #[Y V 0,Y V 0,E O 0 0,J Ax,J Ax,J Ax]).cells (n*6)=(Ct (A3 n Pc.ad)).toArray:=
 Array.ext_getElem? (λm=>(Ww n m).trans Δ)
theorem Xx(W:Bk)(n:Nat)(f:n<=4096):(Instr.makeSlice 270 (Y V n) (Y V n)).run A2 W=.ok (E (Z ⟨W.heap.size,0,O⟩) n n) (W.alloc (BC (Ct (A3 n Pc.ad)).toArray 326)):=by
 obtain⟨b,c,d,a,e⟩:=info_parts fJ;have:=run_makeSlice (P:=A2) W 270 326 b _ Tryz.underlying270 c d V V n n Ω Ω (by rw[a];omega) (by rw[e];omega) Ω;rw[this,a,km,eF]
def aW(w:Bk)(f c:Nat)(a:Bk):Prop:=∃b d,w.grownBy a O/\w.heap.size<=c/\w.heap.size<=b/\w.heap.size<=d/\c<a.heap.size/\b<a.heap.size/\d<a.heap.size/\
   ∀e:Ad,e c=2->e b=2->e d=2->AU a e c f 0 b d (A3 f Pc.ad) 0 (λ_=>O)
theorem dG(w:Bk)(a:Nat)(r0:1<=a)(r1:a<=4096):
  BX A2 132 #[Y V a] w λe s=>∃c,e=Bd (Bn (Z ⟨c,0,O⟩))/\aW w a c s:=by
 have F:=λW=>Xx W a r1
 have G:=@run_makeMap A2;have H:¬(a:Int)<1:=Ω;have I:¬(4096:Int)<a:=Ω;have J:¬a<1:=Ω;have K:¬4096<a:=Ω
 go_enter Tryz.func132,Tryz.ntmps132
 go_wp2;go_ret;obtain⟨d,j⟩:=Ag (w.alloc (BC (Ct (A3 a Pc.ad)).toArray 326))
 have q:d.heap.size=w.heap.size+1:=by rw[<-j];simp
 have t:Aa d w.heap.size 326 (Ct (A3 a Pc.ad)):=by rw[<-j];exact Aa.new _ _ _
 rw[j];obtain⟨f,l⟩:=Ag (d.alloc (.map #[] 0))
 have v:f.heap.size=d.heap.size+1:=by rw[<-l];simp
 have x:MF f A2 3 d.heap.size 0 (λ_=>O):=by rw[<-l];exact MF.bR _ _ _
 rw[l];obtain⟨n,m⟩:=Ag (f.alloc (BC #[E (Z ⟨w.heap.size,0,O⟩) a a,B8 (Z (w.heap.size+1)),Y V 0] 272))
 have L:n.heap.size=f.heap.size+1:=by rw[<-m];simp
 have z:w.grownBy d O:=by rw[<-j];exact AA _ _ O
 have r:d.grownBy f O:=by rw[<-l];exact AA _ _ O
 have o:f.grownBy n O:=by rw[<-m];exact AA _ _ O
 have A:Aa n f.heap.size 272 [E (Z ⟨w.heap.size,0,O⟩) a a,B8 (Z (w.heap.size+1)),Y V 0]:=by rw[<-m];exact Aa.new _ _ _
 rw[m];refine⟨f.heap.size,by rw[v,q];rfl,w.heap.size,d.heap.size,Ae (Ae z r) o,Ω,Ω,Ω,Ω,Ω,Ω,λM c0 c1 c2=>?_⟩;refine{u:=by rw[q];exact A,aB:=(t.grown r Δ).grown o Δ,map:=x.grown o Δ,aF:=mw,r0:=r0,r1:=r1,gD:=Ω,cj:=λk i=>?_,cR:=λp g=>?_,ev:=λp g=>?_,c0:=c0,c1:=c1,c2:=c2}
 ·constructor
  ·intro h;cases h
  ·rintro⟨p,g,B,_⟩;have:=lN (kX g);subst this
   cases B
 ·have:=lN g;subst this;exact⟨Ai.nil _ 1,λb C=>by simp[Pc.ad,Pc.lv,B0]at C,λy D=>by cases D⟩
 ·have:=lN g;subst this;exact⟨qS _,Ξ⟩
open Go.Maps in
theorem MF.hj(e:MF h n r a g j)(f:n.underlying t=Z (.map r w))(c:B5):
  ∃b:Nat,b<=g/\(Builtin.len_ #[t] c #[B8 (Z a)]).run n h=.ok (Y V (b:Nat)) h:=by
 obtain⟨b,D,i,d,k⟩:=e;exact⟨_,j8 d.size_le i,d.len f c⟩
theorem cE(f:AU h c a g k o p d q b):
  BX A2 98 #[Bn (Z ⟨a,0,O⟩)] h λe i=>(∃n:Nat,e=Bd (Y V (n:Nat)))/\h=i:=by
 have j:=f.u.m 1;obtain⟨n,_,l⟩:=f.map.hj lS 0;obtain⟨m,_,r⟩:=f.map.hj lS 3;clear f
 go_enter Tryz.func98,Tryz.ntmps98
 go_wp2;go_ret;exact⟨⟨_,rfl⟩,rfl⟩
theorem Zm(x:AU h c k o p a g d q b)(ap:Aw h c)(l:Int)(k0:0<=l)(k1:l<=65535):
  BX A2 159 #[Bn (Z ⟨k,0,O⟩),Y V l] h λe w'=>∃v ar ae af,e=Bd v/\Ab (Sc (λj=>j=2) 101) h c w' ar/\AU w' ar k o p a g ae q af/\By ae af l=O/\∀j,j≠l->By ae af j=By d b j:=by
 have H:=zh x;have au:=zh ap;clear x ap
 go_enter Tryz.func159,Tryz.ntmps159
 go_wp2_with fail;obtain⟨N,F⟩:=Ag (h.alloc (BC #[Y V 0,E O 0 0,J Ax] 198))
 have g1:h.grownBy N O:=by rw[<-F];exact AA _ _ O
 have b1:Aa N h.heap.size 198 [Y V 0,E O 0 0,J Ax]:=by rw[<-F];exact Aa.new _ _ _
 have bo:N.heap.size=h.heap.size+1:=by rw[<-F];simp
 rw[F];have G1:=zh g1;have B1:=zh b1;have H1:=zh (H.o.grown g1);clear F g1 b1;refine(Mj H1.o l k0 k1).mono ?_;rintro e P ⟨rfl,G⟩;have H2:=zh (H1.o.grown G);have B2:=zh (B1.o.grown G Δ);have G2:=zh (Ae G1.o G);have aV:=G.size;clear G
 cases s:b l with
 |none=>
  have I:Ge (CP d b l)=BA #[Bs #[Y V 0,E O 0 0,J Ax],J Ax]:=by rw[CP,s];rfl
  rw[I];have HX:=zh s;clear s I;have n:=zh (B2.o.alloc (BC #[Y V 0,E O 0 0,J Ax] 198));have y0:=n.o.m 0;have y1:=n.o.m 1;have y2:=n.o.m 2;have f0:=n.o.v 0;have f1:=n.o.v 1;have f2:=n.o.v 2;go_wp2_with fail;obtain⟨u,a2,b4,t4⟩:=Br n.o (Y V 0) (E O 0 0) (J Ax);rw[a2];have g4:h.grownBy u O:=Ac.grown (Ae G2.o (AA _ _ O)) t4 (λj e=>e▸jS _);refine Bx (DH (p:=4) (ty:=198) rfl _ _ h.heap.size _ _ _ _ rfl b4 mF rfl rfl) rfl ⟨_,c,d,b,rfl,Ab.grown au.o g4,H.o.grown g4,?_,λj _=>rfl⟩;unfold By;rw[HX.o];rfl
 |some i=>
  obtain⟨f,hp,aA,Q⟩:=(H.o.cj l i).1 s
  have I:Ge (CP d b l)=BA #[Bs #[Y V f.st,E f.a f.ld.length f.c,J f.di],J A4]:=by simp[CP,s,hp,Ge];rfl
  rw[I];have HX:=zh s;have y:=zh hp;have aB:=zh (And.intro aA Q);clear s I hp aA Q;go_wp2_with fail;obtain⟨m,R⟩:=Ag (P.alloc (BC #[Y V f.st,E f.a f.ld.length f.c,J f.di] 198))
  have T:P.grownBy m O:=by rw[<-R];exact AA _ _ O
  have b3:Aa m P.heap.size 198 [Y V f.st,E f.a f.ld.length f.c,J f.di]:=by rw[<-R];exact Aa.new _ _ _
  have A:=zh (H2.o.grown T);have n:=zh (B2.o.grown T Δ);have D3:=zh b3;have G3:=zh (Ae G2.o T);rw[R];have aD:=A.o.map.grown (Be m) Δ;have aj:=aD.fi (e:=3) (t:=115) kr lS (z:=Y V 0) (w:=m.drew) rfl l (Hj k0 k1);rw[show(DS b l).getD (Y V 0)=Y V i by rw[DS,HX.o];rfl]at aj;have a7:(Instr.lookup 115 (B8 (Z g)) (Y V l) Ax).run A2 {m with drawn:=m.drawn+1}=.ok (Y V i) {m with drawn:=m.drawn+1}:=aj
  have bp:i<o:=by rw[<-A.o.aF];exact(jX.1 y.o).1
  have bq:=A.o.r1;have c0:=A.o.u.m 0;have c1:=A.o.u.m 1;clear R T b3 aD;refine FQ (λ_=>True) [([],[0,1,2,3,4,5,6,7,8,9,10,11],12,Ax)] Φ Φ ?_;refine Dh ?_
  iterate 12 ((apply AB rfl Θ;(· intro wS U;(try have U:=U rfl);(try dsimp only at U);(try subst U);go_simp;(try with_reducible rfl)));refine Ak ?_)
  refine Aj ?_;refine AH rfl (λK hK=>?_);have r:=zh (A.o.grown (Be m));have B4:=zh n.o.cQ;have D4:=zh D3.o.cQ;have W:=zh (Ae G3.o (Be m));clear aj a7 c0 c1;generalize m.drew=u at*;refine BE 326 (.tmp 26) (.tmp 25) rfl a (i*6) (Pc.cells Pc.ad).toArray rfl rfl (r.o.fl y.o) Pu (Pc.dE _) ?_;refine hK _ _ ⟨_,λ_ x=>x,λhf=>(by cases hf),?_⟩;clear hK K;obtain⟨w5,ak⟩:=Ag (u.setCells a (i*6) (Pc.cells Pc.ad).toArray.toList);obtain⟨al,L⟩:=Pc.c7 r.o.aB y.o Pc.ad;rw[ak];rw[show u.setCells a (i*6) (Pc.cells Pc.ad)=w5 from ak]at al L;have am:=L.u r.o.u r.o.gG;have aH:=r.o.map.ak L (λe=>r.o.eJ.2 e.symm);obtain⟨w6,bs,aI,X⟩:=aH.fG kr lS l (Hj k0 k1) 0;have c1:=am.m 1;have T6:Ac (λj=>j=a\/j=g) u w6:=(L.mono (λ_ e=>BB e)).trans (Ac.of X (λj e=>BD (by cases e;rfl)));have bd:=H.o.aB.lt;have aJ:=H.o.map.lt;have aK:=W.o.size;have w:=zh (T6.u B4.o (λe=>Ω));have be:N.heap.size<=P.heap.size:=aV;have D6:=zh (T6.u D4.o (λe=>Ω));have C6:=zh (am.grown X (by simp;exact r.o.eJ.1));have P6:=zh (al.grown X (by simp;exact r.o.eJ.2));have M6:=zh aI;have bi:=zh T6;clear al L am aH aI X T6 ak;refine Ak ?_;refine Fv (NoPanic.normal ?_);have y0:=w.o.m 0;have y1:=w.o.m 1;have y2:=w.o.m 2;have f0:=w.o.v 0;have f1:=w.o.v 1;have f2:=w.o.v 2;have z0:=D6.o.m 0;have z1:=D6.o.m 1;have z2:=D6.o.m 2;clear bd aJ aK be;go_wp2_with fail;obtain⟨w7,bj,b7,t7⟩:=Br w.o (Y V f.st) (E f.a f.ld.length f.c) (J f.di);rw[bj];have TT:Ac (λj=>(j=a\/j=g)\/j=h.heap.size) u w7:=(bi.o.mono (λ_ e=>BB e)).trans (t7.mono (λ_ e=>BD e));have bw:=H.o.u.lt;have bx:=H.o.aB.lt;have aJ:=H.o.map.lt;obtain⟨B,ao⟩:=Ag (AL c h.heap.size 100)
  have aN:B h.heap.size=100:=by rw[<-ao];exact AY _ _ _
  have aK:=W.o.size
  have bl:∀j,j<h.heap.size->B j=c j:=λj hj=>by rw[<-ao];exact Bg _ _ Ω
  have s4:Ab (Sc (λj=>j=2) 101) h c u B:=by rw[<-ao];exact Cc au.o W.o (jS _) B4.o.lt (BD ⟨Ω,Ω⟩)
  have C:=H.o.am (col':=B) (Ac.au (S:=λ_=>False) W.o) (λ_ _ x=>x) bl;have aQ:=C.c1;have aR:=C.c2;have bz:=C.c0
  have bm:∀M,B M=0->¬((M=a\/M=g)\/M=h.heap.size):=λM D e=>by
   rcases e with(e|e)|e
   ·rw[e,aQ]at D;cases D
   ·rw[e,aR]at D;cases D
   ·rw[e,aN]at D;cases D
  have Q:=aB.o.2;subst Q;have HD:=C.it (w':=w7) y.o aB.o.1 (t7.u C6.o (λe=>Ω)) (t7.u P6.o (λe=>Ω)) (by rw[<-gH];exact M6.o.ak t7 (λe=>Ω)) TT bm;refine Bx (DH (p:=4) (ty:=198) rfl _ _ h.heap.size _ _ _ _ rfl b7 mF rfl rfl) rfl ⟨_,B,_,_,rfl,s4.trans (AG s4.new TT (λj e=>?_)),HD,?_,λj hj=>?_⟩
  ·rcases e with(e|e)|e
   ·exact BB (by rw[e];exact aQ)
   ·exact BB (by rw[e];exact aR)
   ·exact BD (by rw[e,aN];omega)
  ·rw[C.g6 y.o,ke rfl]
  ·rw[C.g6 y.o,j7 hj]
theorem gT(b:DR h c a g k e):
  BX A2 98 #[Bn (Z ⟨a,0,O⟩)] h λd f=>(∃n:Nat,d=Bd (Y V (n:Nat)))/\h=f:=
 let⟨_,_,_,_,_,i,_⟩:=b
 cE i
def jK(b:Nat)(a:Option B7)(c:Nat)(d:List Nat)(e:Bool):BR:=Bs #[Y V b,E a d.length c,J e]
def Bj(w:Bk)(e:Ad)(a:Option B7)(c:Nat)(d:List Nat):Prop:=Ai w 1 (E a d.length c) d.length (Ao d)/\(∀b,(E a d.length c).ownBlock=Z b->e b=0/\b<w.heap.size)/\(∀x∈d,x<256)
theorem Bj.am{col':Ad}{S:Nat->Prop}(d:Bj h c i a l)(f:Ac S h s)(g:∀b,c b=0->¬S b)(j:∀k,k<h.heap.size->col' k=c k):Bj s col' i a l:=
 ⟨f.aP d.1 (λb e=>g b (d.2.1 b e).1),λb e=>⟨by rw[j b (d.2.1 b e).2];exact(d.2.1 b e).1,jY (d.2.1 b e).2 f.size⟩,d.2.2⟩
theorem Bj.ae{C:Nat->Prop}{d:Ad}(e:Bj h c i a l)(k:Ab C h c s d)(f:¬C 0):Bj s d i a l:=
 e.am k.ak (λb g j=>f (by rw[<-g];exact j)) k.ah
theorem Bj.grown(b:Bj h c i a l)(g:h.grownBy s O):Bj s c i a l:=
 b.am (Ac.au (S:=λ_=>False) g) (λ_ _ b=>b) (λ_ _=>rfl)
theorem Pn(F:DR h c a k g e)(G:Aw h c)(H:g<maxLen)(b:Int)(I:0<=b)(K:b<=65535)(o:Nat)(q:Option B7)(r:Nat)(l:List Nat)(s:Bool)(t:Bj h c q r l):
  BX A2 151 #[Bn (Z ⟨a,0,O⟩),Y V b,Bs #[Y V o,E q l.length r,J s]] h λu m=>∃d f,Ab (Sc (λj=>j=2) 101) h c m d/\DR m d a k (g+1) f/\f b=Z (o,l,s)/\
   ((u=Bd (BA #[Y V 0,Bs #[Y V 0,E O 0 0,J Ax],J Ax])/\∀j,j≠b->f j=e j)\/
    (∃(i:Int) (y:Nat) (z:Option B7) (A:Nat) (v:List Nat) (B:Bool),u=Bd (BA #[Y V i,Bs #[Y V y,E z v.length A,J B],J A4])/\i≠b/\e i=Z (y,v,B)/\f i=O/\(∀j,j≠b->j≠i->f j=e j)/\Bj m d z A v/\e b=O)):=by
 obtain⟨L,M,ps,ag,ix,N,n⟩:=F;refine(da N G H b I K o q r l s t.1 t.2.1 t.2.2).mono ?_;rintro u m ⟨d,C,P,D,Q,R,S,T⟩;refine⟨d,By C D,Q,⟨L,M,C,P,D,R,λ_=>rfl⟩,S,?_⟩
 rcases T with⟨rfl,w⟩|⟨p,rfl,w,U,W,X,h5,h6,h7,h8⟩
 ·exact BB ⟨rfl,λj x=>(w j x).trans (n j).symm⟩
 ·exact BD ⟨p.aN,p.st,p.a,p.c,p.ld,p.di,rfl,w,(n _).trans U,W,λj x ae=>(X j x ae).trans (n j).symm,⟨h5,h6,h7⟩,(n b).trans h8⟩
theorem TA(o:DR h c a g k e)(p:Aw h c)(b:Int)(q:0<=b)(r:b<=65535):
  BX A2 159 #[Bn (Z ⟨a,0,O⟩),Y V b] h λl f=>∃v d i,l=Bd v/\Ab (Sc (λj=>j=2) 101) h c f d/\DR f d a g k i/\i b=O/\∀j,j≠b->i j=e j:=by
 obtain⟨s,t,D,u,E,w,x⟩:=o;refine(Zm w p b q r).mono ?_;rintro l f ⟨v,d,m,n,rfl,y,z,A,B⟩;exact⟨v,d,By m n,rfl,y,⟨s,t,m,u,n,z,λ_=>rfl⟩,A,λj C=>(B j C).trans (x j).symm⟩
theorem Te(b:List Pc)(a:Int->Option Nat)(k:Int):By b a k=(CP b a k).map Pc.pg:=by
 unfold By CP
 cases a k with
 |none=>rfl
 |some i=>rfl
theorem Ut(B:DR h c a g k e)(C:Aw h c)(b:Int)(D:0<=b)(F:b<=65535):
  BX A2 255 #[Bn (Z ⟨a,0,O⟩),Y V b] h λo n=>∃f,Ab (Sc (λj=>j=2) 101) h c n f/\DR n f a g k e/\
   ((e b=O/\o=Bd (BA #[Bs #[Y V 0,E O 0 0,J Ax],J Ax]))\/
    (∃(t:Nat) (u:Option B7) (v:Nat) (q:List Nat) (w:Bool),e b=Z (t,q,w)/\o=Bd (BA #[Bs #[Y V t,E u q.length v,J w],J A4])/\Bj n f u v q)):=by
 obtain⟨G,H,r,I,l,K,x⟩:=B;refine(ZH K C b D F).mono ?_;rintro o n ⟨rfl,f,L,y⟩;refine⟨f,L,⟨G,H,_,I,l,y,λj=>(x j).trans (Y9 r l b j).symm⟩,?_⟩;have m:=x b;rw[Te]at m
 cases d:CP r l b with
 |none=>
  rw[d]at m;exact BB ⟨m,rfl⟩
 |some p=>
  rw[d]at m
  obtain⟨i,M,z⟩:∃i,l b=Z i/\r[i]?=Z p:=by
   unfold CP at d
   cases A:l b with
   |none=>rw[A]at d;cases d
   |some i=>rw[A]at d;exact⟨i,rfl,d⟩
  have s:=y.cR {p with ma:=A4} (by
   rw[NS M z]
   exact kX (kZ (jX.1 z).1))
  exact BD ⟨p.st,p.a,p.c,p.ld,p.di,m,rfl,s.1,s.2.1,s.2.2⟩
theorem fF(y:DR h c a g k e)(b:Int)(z:0<=b)(A:b<=65535):
  BX A2 211 #[Bn (Z ⟨a,0,O⟩),Y V b] h λj l=>h.grownBy l O/\
   ((e b=O/\j=Bd (BA #[Bs #[Y V 0,E O 0 0,J Ax],J Ax]))\/
    (∃(q:Nat) (r:Option B7) (s:Nat) (m:List Nat) (t:Bool),e b=Z (q,m,t)/\j=Bd (BA #[Bs #[Y V q,E r m.length s,J t],J A4])/\Bj l c r s m)):=by
 obtain⟨D,F,u,G,n,v,B⟩:=y;refine(Mj v b z A).mono ?_;rintro j l ⟨rfl,w⟩;refine⟨w,?_⟩;have f:=B b;rw[Te]at f
 cases d:CP u n b with
 |none=>
  rw[d]at f;exact BB ⟨f,rfl⟩
 |some p=>
  rw[d]at f
  obtain⟨i,H,C⟩:∃i,n b=Z i/\u[i]?=Z p:=by
   unfold CP at d
   cases x:n b with
   |none=>rw[x]at d;cases d
   |some i=>rw[x]at d;exact⟨i,rfl,d⟩
  have o:=(v.grown w).cR p (kX C);exact BD ⟨p.st,p.a,p.c,p.ld,p.di,f,rfl,o.1,o.2.1,o.2.2⟩
end
