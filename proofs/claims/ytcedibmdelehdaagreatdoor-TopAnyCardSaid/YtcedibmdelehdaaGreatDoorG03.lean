/- Lemmas. -/
import Derived.Test.YtcedibmdelehdaaGreatDoorG02
import Derived.BigQuiet
import Derived.Deep.QuietTactic
import Derived.Laws.AppendOwnNone
import Derived.Lib.Hide
import Derived.Maps.AppendAt
import Derived.WalkKit
namespace Go.Proofs.YtcedibmdelehdaaGreatDoor
set_option maxRecDepth 100000
set_option maxHeartbeats 32000000
open Go renaming Value->J,World->O,TypeId->Y,Oper->A6,wpList_append_own_none->A7,getD_replicate_false->Bn,Program->BC,maxLen->BD,wpQuiet->BR,wpList->BX,TypeInfo->BZ,Addr->B1,Act->B2
open Option renaming some->V,none->Z
open Bool renaming true->Ax,false->BA
open List renaming range->AA
open Go.RowKit.Below renaming heap_alloc->A2,heap_setCell->A5
open Go.Region renaming binds->A3,ready->Bk,noSelect->BB,wanted->BL,Mode->B0
open Go.Value renaming ownBlock->A4,slice->Bd
open Go.World renaming cell?_of_block->Bs,cell?->Bx,setCell->BE
variable{f d s:O}{h A:List J}{E e o z:Nat}{a:J}{b:Y}{c:Exit->B2->O->Prop}{g:A6}{i:BC}{j:Array A6}{k:List A6}{l:B2}{n:Option Nat}{p:Array J}{q:Array Bool}{r:B1}{t:Obj}{w:FuncId}{x:Prop}
section
open Go.RowKit
def Aa(w:O)(a:Nat)(e:Y)(b:List J):Prop:=w.heap[a]?=V (.cells b.toArray e (0,0))
theorem Aa.lt(a:Aa f E b h):E<f.heap.size:=(jR.1 a).1
theorem Aa.cell?(a:Aa f E b h)(j:Nat):f.cell? ⟨E,j,Z⟩=h[j]?:=by
 unfold Aa at a;simp[Bx,a]
theorem Aa.v(a:Aa f E b h)(j:Nat):f.frozen? ⟨E,j,Z⟩=BA:=by
 unfold Aa at a;simp[World.frozen?,a]
theorem Aa.ap(a:Aa f E b h){j:Nat}{v:J}(c:h[j]?=V v):f.cell? ⟨E,j,Z⟩=V v:=by rw[a.cell?,c]
theorem Aa.bb(a:Aa f E b h)(c:d.heap[E]?=f.heap[E]?):Aa d E b h:=by
 unfold Aa at*;rw[c,a]
theorem Aa.new(w:O)(e:Y)(a:List J):Aa (w.alloc (.cells a.toArray e)) w.heap.size e a:=by
 unfold Aa;show(w.heap.push _)[w.heap.size]?=_;simp
theorem Aa.alloc(a:Aa f E b h)(o:Obj):Aa (f.alloc o) E b h:=
 a.bb (A2 f o E a.lt)
theorem Aa.cU(a:Aa f E b h):Aa f.drew E b h:=a
theorem Aa.fe(a:Aa f E b h){p:B1}(c:E≠p.block)(u:J):Aa (f.setCell p u) E b h:=
 a.bb (A5 f p u E c)
theorem Aa.setCell(a:Aa f E b h)(j:Nat)(u:J):Aa (f.setCell ⟨E,j,Z⟩ u) E b (h.set j u):=by
 unfold Aa at*;simp[BE,Array.getElem?_modify,a]
theorem Aa.u(a:Aa f E b h)(c:f.grownBy d n)(e:V E≠n):Aa d E b h:=
 a.bb (c.block E a.lt e)
theorem Aa.below(a:Aa f E b h)(c:Below e f d)(g:E<e):Aa d E b h:=
 a.bb (c.block E g)
def Ag(w:O)(c:Nat)(v:J)(n:Nat)(b:List J):Prop:=
 b.length=n*c/\n<=BD/\((v=Bd Z 0 0/\n=0)\/∃a d,v=Bd (V a) n d/\(n≠0->a.spot=Z)/\∀j u,b[j]?=V u->w.cell? ⟨a.block,a.off+j,Z⟩=V u)
theorem Ag.at(d:Ag f e a E h)(m:0<E):∃b c g,a=Bd (V ⟨b,c,Z⟩) E g/\∀j u,h[j]?=V u->f.cell? ⟨b,c+j,Z⟩=V u:=by
 obtain⟨_,_,d⟩:=d
 rcases d with⟨_,n⟩|⟨⟨b,c,i⟩,g,rfl,k,l⟩
 ·omega
 ·obtain rfl:i=Z:=k Ω;exact⟨b,c,g,rfl,l⟩
theorem Ag.slice(b:Ag f e a E h):∃d c,a=Bd d E c:=by
 obtain⟨_,_,b⟩:=b
 rcases b with⟨rfl,b⟩|⟨g,i,rfl,_⟩
 ·exact⟨Z,0,by rw[b]⟩
 ·exact⟨_,_,rfl⟩
theorem Ag.bA{a:Option B1}(g:Ag f e (Bd a E o) E h)(i:0<E):∃b c,a=V ⟨b,c,Z⟩/\∀j u,h[j]?=V u->f.cell? ⟨b,c+j,Z⟩=V u:=by
 obtain⟨b,c,l,d,k⟩:=g.at i;simp only[Value.slice.injEq]at d;exact⟨b,c,d.1,k⟩
theorem Ag.bb{v:J}(g:Ag f E v e h)(n:h≠[]->∀b,v.ownBlock=V b->b<f.heap.size->d.heap[b]?=f.heap[b]?):Ag d E v e h:=by
 obtain⟨o,p,g⟩:=g;refine⟨o,p,?_⟩
 rcases g with g|⟨c,q,k,r,s⟩
 ·exact .inl g
 ·refine .inr ⟨c,q,k,r,λj u l=>?_⟩;have m:=s j u l
  have i:c.block<f.heap.size:=by
   by_cases i:c.block<f.heap.size
   ·exact i
   ·simp[Bx,kV (oM i)]at m
  rw[<-m];exact Bs (w:=f) (a:=⟨c.block,c.off+j,Z⟩) (n (λt=>by simp[t]at l) c.block (by rw[k];rfl) i)
theorem Ag.lt(c:Ag f E a e h)(i:h≠[]):∀b,a.ownBlock=V b->b<f.heap.size:=by
 intro m d;obtain⟨n,o,c⟩:=c
 rcases c with⟨rfl,p⟩|⟨j,q,rfl,_,k⟩
 ·simp[A4]at d
 ·simp[A4]at d;subst d
  cases h with
  |nil=>exact absurd rfl i
  |cons u r=>
   have l:=k 0 u rfl
   by_cases g:j.block<f.heap.size
   ·exact g
   ·simp[Bx,kV (oM g)]at l
theorem Ag.u(c:Ag f E a e h)(g:f.grownBy d n)(i:∀b,n=V b->a.ownBlock≠V b):Ag d E a e h:=
 c.bb λ_ b j k=>g.block b k (λl=>i b l.symm j)
theorem Ag.alloc(c:Ag f E a e h)(o:Obj):Ag (f.alloc o) E a e h:=
 c.bb λ_ b _ d=>A2 f o b d
theorem Ag.drewN(b:Ag f E a e h)(k:Nat):Ag (f.drewN k) E a e h:=b
theorem Ag.below(c:Ag f e a o h)(g:Below E f d)(i:h≠[]->∀b,a.ownBlock=V b->b<E):Ag d e a o h:=
 c.bb λj b k _=>g.block b (i j b k)
theorem Ag.nil(w:O)(a:Nat):Ag w a (Bd Z 0 0) 0 []:=⟨Δ,Δ,.inl ⟨rfl,rfl⟩⟩
theorem Ag.ai(c:f.ownsRow o b E a e h):Ag f E a e h:=by
 obtain⟨k,c⟩:=c
 rcases c with⟨d,l⟩|⟨g,m,r,d,_,n,s,t,v,p⟩
 ·exact⟨k,Ω,.inl ⟨d,l⟩⟩
 ·refine⟨k,Ω,.inr ⟨⟨g,0,Z⟩,m,d,λ_=>rfl,λj u i=>?_⟩⟩;subst p;simp[Bx,n]
  have q:j<e*E:=by
   have:=(jL.1 i).1;rw[jW]at this;omega
  rw[pV q]at i;simpa using i
theorem Ag.bq(a:Aa f E b h){sz n:Nat}(d:h.length=n*sz)(e:n<=BD){c:Nat}:Ag f sz (Bd (V ⟨E,0,Z⟩) n c) n h:=
 ⟨d,e,.inr ⟨⟨E,0,Z⟩,c,rfl,λ_=>rfl,λj u g=>by simpa using a.ap g⟩⟩
theorem Gg{P:BC}(w:g.guard=Z)(s x:Operand)(t:Y)
  (y:g.op=.call {callee:=.builtin .append,args:=#[s,x],argTypes:=#[t,t]})
  (d:Nat)(e:Y)(i:BZ)(z:J)(a m:Nat)(A:P.underlying t=V (.slice e))(B:P.info? e=V i)(K:i.zero=V z)
  (L:i.size=a)(M:i.bytes=m)(N:z.cells.size=a)(Q:0<a)
  {v:J}{n:Nat}{xs:List J}(C:l.eval s=v)(o:f.ownsRow d e a v n xs)
  {sv:J}(D:l.eval x=sv)(p:Ag f a sv E h)(R:∀u∈h,u.oneCell'=Ax)
  (S:n+E<=BD)(T:(n+E)*m<=140737488355328)(U:d<=f.heap.size)
  (F:∀q r,r.ownsRow d e a q (n+E) (xs++h)->f.grownBy r v.ownBlock->(q=Bd Z 0 0↔v=Bd Z 0 0/\E=0)->BX P j c k (l.put g.dst q) r):BX P j c (g::k) l f:=by
 obtain⟨G,hm,p⟩:=p
 rcases p with⟨rfl,rfl⟩|⟨⟨b,W,H⟩,X,rfl,aa,hc⟩
 ·have ac:h=[]:=km (by simpa using G);subst ac;refine A7 w s x t y d e i a A B v n xs C o D ?_;exact F v f (by simpa using o) ⟨rfl,rfl,rfl,jF _,λ_ _ _=>rfl⟩ Δ
 ·exact wpList_append_own f w s x t y d e i z a m A B K L M N Q v n xs C o ⟨b,W,H⟩ E X h D G (λad u I=>by
   have ae:E≠0:=by
    rintro rfl;have:=(jL.1 I).1;omega
   obtain rfl:H=Z:=aa ae;have:=hc ad u I;unfold Addr.add
   split
   ·subst_vars;simpa using this
   ·exact this) R S T U F
theorem NH{P:BC}(y:g.guard=Z)(s x:Operand)(t:Y)
  (A:g.op=.call {callee:=.builtin .append,args:=#[s,x],argTypes:=#[t,t]})
  (o:Nat)(e:Y)(i:BZ)(z:J)(a q:Nat)(B:P.underlying t=V (.slice e))(C:P.info? e=V i)(I:i.zero=V z)
  (K:i.size=a)(L:i.bytes=q)(M:z.cells.size=a)(N:0<a)
  {v:J}{n:Nat}{xs:List J}(D:l.eval s=v)(r:f.ownsRow o e a v n xs)
  {sv:J}{m:Nat}{news:List J}(E:l.eval x=sv)(w:Ag f a sv m news)(Q:∀u∈news,u.oneCell'=Ax)
  (R:n+m<=BD)(S:(n+m)*q<=140737488355328)(T:o<=f.heap.size)
  (h:∀d p,p.ownsRow o e a d (n+m) (xs++news)->f.grownBy p v.ownBlock->(d.ownBlock=v.ownBlock\/d.ownBlock=V f.heap.size)->BX P j c k (l.put g.dst d) p):BX P j c (g::k) l f:=by
 obtain⟨F,hm,w⟩:=w
 rcases w with⟨rfl,rfl⟩|⟨⟨b,U,G⟩,W,rfl,X,hc⟩
 ·have ab:news=[]:=km (by simpa using F);subst ab;refine A7 y s x t A o e i a B C v n xs D r E ?_;exact h v f (by simpa using r) ⟨rfl,rfl,rfl,jF _,λ_ _ _=>rfl⟩ (.inl rfl)
 ·exact wpList_append_own_at f y s x t A o e i z a q B C I K L M N v n xs D r ⟨b,U,G⟩ m W news E F (λac u H=>by
   have ad:m≠0:=by
    rintro rfl;have:=(jL.1 H).1;omega
   obtain rfl:G=Z:=X ad;have:=hc ac u H;unfold Addr.add
   split
   ·subst_vars;simpa using this
   ·exact this) Q R S T (λd p q1 q2 _ q4=>h d p q1 q2 q4)
theorem Cf(c:f.ownsRow E b o a z h)(l:e<=E):f.ownsRow e b o a z h:=by
 obtain⟨d,c⟩:=c;refine⟨d,?_⟩
 rcases c with c|⟨g,i,j,k,m,c⟩
 ·exact .inl c
 ·exact .inr ⟨g,i,j,k,Ω,c⟩
theorem Ab(h:f.grownBy d n)(k:d.grownBy s n):f.grownBy s n:=
 ⟨k.os.trans h.os,k.tape.trans h.tape,k.output.trans h.output,jM h.size k.size,λi a b=>(k.block i (jJ a h.size) b).trans (h.block i a b)⟩
theorem Bo(a:O)(b:Option Nat):a.grownBy a b:=⟨rfl,rfl,rfl,jF _,λ_ _ _=>rfl⟩
theorem Kw(h:f.grownBy d Z)(a:Option Nat):f.grownBy d a:=⟨h.os,h.tape,h.output,h.size,λi b _=>h.block i b Δ⟩
theorem Ff(h:Below f.heap.size f d):f.grownBy d Z:=⟨h.os,h.tape,h.output,h.size,λi a _=>h.block i a⟩
theorem Fv(h:f.grownBy d Z):Below f.heap.size f d:=⟨h.os,h.tape,h.output,h.size,λi a=>h.block i a Δ⟩
theorem AZ(a:O)(n:Nat)(b:Option Nat):a.grownBy (a.drewN n) b:=⟨rfl,rfl,rfl,jF _,λ_ _ _=>rfl⟩
theorem Ao(W:O)(p:B1)(v:J):W.grownBy (W.setCell p v) (V p.block):=
 ⟨rfl,rfl,rfl,by simp[BE],λk _ a=>A5 _ _ _ k (λe=>a (by rw[e]))⟩
theorem JH(h:(f.alloc t).grownBy d (V f.heap.size)):f.grownBy d Z:=
 ⟨h.os,h.tape,h.output,jM Δ h.size,λk a _=>(h.block k Γ Γ).trans (A2 _ _ _ a)⟩
theorem Ik(a:Nat)(e:Y):∀(f d b c:List J) (w:O),d.length=f.length->Aa w a e (b++(d++c))->Aa (w.setCells a b.length f) a e (b++(f++c))
 |[],[],b,c,w,_,h=>h
 |u::f,o::d,b,c,w,i,h=>by
  have g:=h.setCell b.length u;have j:(b++(o::d++c)).set b.length u=(b++[u])++(d++c):=Δ;rw[j]at g;have k:=Ik a e f d (b++[u]) c _ (by simpa using i) g;simpa[World.setCells]using k
theorem Ij(a:Nat):∀(b:List J) (o:Nat) (w:O),w.grownBy (w.setCells a o b) (V a)
 |[],_,w=>Bo w _
 |u::b,o,w=>Ab (Ao w ⟨a,o,Z⟩ u) (Ij a b (o+1) _)
theorem jv(h:(f.alloc t).grownBy d (V f.heap.size))(a:d.grownBy s (V E))(c:f.heap.size<=E):f.grownBy s Z:=
 ⟨a.os.trans h.os,a.tape.trans h.tape,a.output.trans h.output,jM (JH h).size a.size,λk b _=>(a.block k (jJ b (JH h).size) Γ).trans ((JH h).block k b Δ)⟩
theorem Br(h:f.grownBy d Z)(a:d.grownBy s (V E))(c:f.heap.size<=E):f.grownBy s Z:=
 ⟨a.os.trans h.os,a.tape.trans h.tape,a.output.trans h.output,jM h.size a.size,λk b _=>(a.block k (jJ b h.size) Γ).trans (h.block k b Δ)⟩
theorem VV{wr:O}(c:f.grownBy wr Z)(g:wr.ownsRow E b e a o h)(m:f.heap.size<=E)(d:(wr.alloc t).grownBy s a.ownBlock):f.grownBy s Z:=by
 have i:=c.size;refine⟨d.os.trans c.os,d.tape.trans c.tape,d.output.trans c.output,jM i (jM Δ d.size),λk j _=>?_⟩;rw[d.block k Γ ?_,A2 _ _ _ Ω,c.block k j Δ];intro l;have:=(g.lt k l.symm).1;omega
theorem AV(c:f.ownsRow E b e a o h)(i:f.grownBy d Z):d.ownsRow E b e a o h:=by
 refine c.kept i ?_
 rcases hv:a.ownBlock with _|g
 ·exact .inl rfl
 ·exact .inr Δ
theorem DT{wr:O}(c:f.grownBy wr Z)(g:wr.ownsRow E b e a o h)(m:f.heap.size<=E)(d:wr.grownBy s a.ownBlock):f.grownBy s Z:=by
 have i:=c.size;refine⟨d.os.trans c.os,d.tape.trans c.tape,d.output.trans c.output,jM i d.size,λk j _=>?_⟩;rw[d.block k Ω ?_,c.block k j Δ];intro l;have:=(g.lt k l.symm).1;omega
theorem jx(b:Nat)(c:f.grownBy d a.ownBlock)(g:∀q,a.ownBlock=V q->b<=q){u:J}(h:f.cell? r=V u)(i:r.block<b):d.cell? r=V u:=
 c.cell h (λe=>by have:=g _ e.symm;omega)
theorem Ho(c:Nat)(e:f.grownBy d a.ownBlock)(g:∀q,a.ownBlock=V q->c<=q)(i:Aa f E b h)(j:E<c):Aa d E b h:=
 i.u e (λb=>by have:=g _ b.symm;omega)
theorem Hj(c:f.ownsRow E b e a o h):∀q,a.ownBlock=V q->E<=q:=λq d=>(c.lt q d).1
theorem JI{a:Nat}(c:Aa f o b h)(d:a<=o)(g:E<=e)(i:e<=BD)(j:h.length=e*z)(k:h.take (E*z)=A)(l:A.length=E*z):
  f.ownsRow a b z (Bd (V ⟨o,0,Z⟩) E e) E A:=
 ⟨l,.inr ⟨o,e,h.toArray,rfl,d,c,g,i,by simpa using j,by simpa using k⟩⟩
theorem Df(c:f.ownsRow E b e a o h)(p:B1)(u:J)(g:p.block<E):(f.setCell p u).ownsRow E b e a o h:=by
 refine c.kept (Ao f p u) (.inr λd=>?_);have:=(c.lt _ d).1;omega
theorem cY(c:Ag f E a e h)(p:B1)(u:J)(d:h≠[]->a.ownBlock≠V p.block):Ag (f.setCell p u) E a e h:=
 c.bb λg b i _=>A5 f p u b (λj=>d g (by rw[<-j];exact i))
theorem gm(d:Ag f E a e h)(p:B1)(u:J)(g:a.ownBlock≠V p.block):Ag (f.setCell p u) E a e h:=
 d.u (Ao f p u) (λb c i=>g (by simp at c;rw[c];exact i))
theorem Aa.m(c:Aa f E b h)(j:Nat)(d:h[j]?=V a:=by exact rfl):f.cell? ⟨E,j,Z⟩=V a:=c.ap d
theorem Al{q:Prop}(h:q)(k:q->x:=by(intro a;(try simp only[Act.put,List.setIfInBounds_toArray,List.set_cons_zero,List.set_cons_succ]);exact a)):x:=k h
end
section
open Go Go.RowKit
def Fl(w:O):Type:={w':O // w.grownBy w' Z}
instance(w:O):Nonempty (Fl w):=⟨⟨w,Bo w Z⟩⟩
instance(w:O):Inhabited (Fl w):=⟨⟨w,Bo w Z⟩⟩
def gw{w:O}(g:Fl w):O:=g.1
theorem Bu(g:Fl f):f.grownBy (gw g) Z:=g.2
theorem AJ(h:f.cell? r=V a):∀g:Fl f,(gw g).cell? r=V a:=λg=>g.2.cell h Δ
section
variable {P:Program} {w:World}
theorem Cb(b:P.follows .mixedOrders=Ax)(d:Region.lexB .any k.toArray=Ax)
  (h:BR P k.toArray (λa=>∃g:Fl w,a=gw g) (λe=>∀a,(∃g:Fl w,a=gw g)->c .normal e a) k l):(Code.region E k.toArray Ax).wp P c l w:=
 wp_region_quiet (C:=λa=>∃g:Fl w,a=gw g) b d ⟨⟨{w with drawn:=w.drawn+1},AZ w 1 Z⟩,rfl⟩ (by simpa using h)
theorem FY{f:FuncId}(h:∀W,w.grownBy W Z->Calls P f p W λe b=>e=.returned a/\W.grownBy b Z)(g:Fl w):
  Calls P f p (gw g) λe c=>e=.returned a/\∃d:Fl w,c=gw d:=
 (h _ g.2).mono λ_ b ⟨i,j⟩=>⟨i,⟨b,Ab g.2 j⟩,rfl⟩
theorem Mh{f:FuncId}(h:∀W,Calls P f p W λe b=>e=.returned a/\W.grownBy b Z)(g:Fl w):
  Calls P f p (gw g) λe c=>e=.returned a/\∃d:Fl w,c=gw d:=FY (λW _=>h W) g
end
theorem NJ{Q:B2->Prop}:∀(l:List A6) (a:B2),BR i j (λc=>c=f) Q l a->wpStill i j f Q l a
 |[],_,h=>h
 |o::l,a,h=>by
  simp only[BR]at h;simp only[wpStill]
  split
  ·rename_i d
   rw[jP d]at h;obtain⟨v,g,k⟩:=h;have b:=g f rfl;have e:=NJ l _ k;unfold Oper.quietAt at b;unfold Oper.still;generalize(execOp a.eval o).run i f=r at*
   cases r with
   |ok n c=>
    cases n<;>simp only[Oper.quietUpon]at b<;>simp only[Oper.stillUpon]
    case value u=>exact⟨b.1,by rw[b.2];exact e⟩
    case skip=>exact⟨b.1,by rw[<-b.2];exact e⟩
    case enter m p=>exact⟨b.1,v,b.2,e⟩
   |halt x c=>simp only[Oper.quietUpon]at b
  ·rename_i d
   rw[jN d]at h;exact NJ l _ h
theorem NI(n:Nat)(a:i.follows .mixedOrders=Ax)(b:Region.lexTailB .any k.toArray n=Ax)
  (h:BR i k.toArray (λd=>d=f.drew) (λe=>BX i k.toArray c (k.drop n) e f.drew) (k.take n) l):(Code.region E k.toArray Ax).wp i c l f:=
 wp_region_still_tail n a b (NJ _ _ h)
end
section
open Go Go.RowKit
structure Ac(S:Nat->Prop)(w a:O):Prop where
 os:a.os=w.os
 f8:a.tape=w.tape
 fV:a.output=w.output
 aQ:w.heap.size<=a.heap.size
 bV:∀k,k<w.heap.size->¬S k->a.heap[k]?=w.heap[k]?
theorem Ac.refl(S:Nat->Prop)(w:O):Ac S w w:=⟨rfl,rfl,rfl,jF _,λ_ _ _=>rfl⟩
theorem Ac.of{S:Nat->Prop}{row:Option Nat}(h:f.grownBy d row)(a:∀k,row=V k->S k):Ac S f d:=
 ⟨h.os,h.tape,h.output,h.size,λk b c=>h.block k b (λe=>c (a k e.symm))⟩
theorem Ac.az{S:Nat->Prop}(h:f.grownBy d Z):Ac S f d:=Ac.of h (λ_ e=>by cases e)
theorem Ac.ag{S a:Nat->Prop}(h:Ac S f d)(k:Ac a d s)(g:∀j,a j->S j\/f.heap.size<=j):Ac S f s:=
 ⟨k.os.trans h.os,k.f8.trans h.f8,k.fV.trans h.fV,jM h.aQ k.aQ,λi b c=>(k.bV i (jJ b h.aQ) (λl=>by
  rcases g i l with e|e
  ·exact c e
  ·omega)).trans (h.bV i b c)⟩
theorem Ac.trans{S:Nat->Prop}(h:Ac S f d)(k:Ac S d s):Ac S f s:=h.ag k (λ_ h=>.inl h)
theorem Ac.mono{S S':Nat->Prop}(h:Ac S f d)(a:∀j,S j->S' j):Ac S' f d:=⟨h.os,h.f8,h.fV,h.aQ,λi b c=>h.bV i b (λe=>c (a i e))⟩
theorem Ac.u{S:Nat->Prop}{b:O}(a:f.grownBy d Z)(h:Ac S d b)(g:∀j,S j->f.heap.size<=j):f.grownBy b Z:=
 ⟨h.os.trans a.os,h.f8.trans a.tape,h.fV.trans a.output,jM a.size h.aQ,λk c _=>(h.bV k (jJ c a.size) (λe=>by have:=g k e;omega)).trans (a.block k c Δ)⟩
theorem Ac.y{S:Nat->Prop}(c:Ac S f d)(a:Aa f E b h)(e:¬S E):Aa d E b h:=a.bb (c.bV E a.lt e)
theorem Ac.aN{S:Nat->Prop}(c:Ac S f d)(g:Ag f E a e h)(i:∀b,a.ownBlock=V b->¬S b):Ag d E a e h:=
 g.bb λ_ b j k=>c.bV b k (i b j)
theorem Ac.aT{S:Nat->Prop}(j:Ac S f d)(c:f.ownsRow E b e a o h)(k:∀i,a.ownBlock=V i->¬S i):d.ownsRow E b e a o h:=by
 have l:=c.lt;obtain⟨m,c⟩:=c;refine⟨m,?_⟩
 rcases c with c|⟨g,n,p,rfl,q,r,s⟩
 ·exact .inl c
 ·exact .inr ⟨g,n,p,rfl,q,by rw[j.bV g (l g rfl).2 (k g rfl),r],s⟩
theorem Ac.ap{S:Nat->Prop}(h:Ac S f d)(b:f.cell? r=V a)(c:¬S r.block):d.cell? r=V a:=by
 have e:r.block<f.heap.size:=World.block_lt_of_cell? f r b;rw[Bs (h.bV r.block e c),b]
theorem Bv{i:Y}(j:Aa f E b h)(k:f.ownsRow e i o a z A)(l:b≠i):a.ownBlock≠V E:=by
 intro c
 rcases k.2 with⟨rfl,_⟩|⟨g,m,n,rfl,_,d,_⟩
 ·simp[A4]at c
 ·simp[A4]at c;subst c;unfold Aa at j;rw[j]at d;simp at d;exact l d.2
end
section
open Go
section
variable {P:Program} {ops:Array Oper} {Q:Exit->Act->World->Prop} {md:Region.Mode} {M:List Nat} {C:List (List Nat)}
def FN(M:List Nat)(i j:Nat):Bool:=(M.getD i 0).testBit j
def Ji(md:B0)(ops:Array A6)(M:List Nat)(C:List (List Nat))(i:Nat)(o:A6):Bool:=
 o.after.all (λe=>! A3 md e||decide (e.on<i))&&
 (AA ops.size).all (λj=>! FN M i j||o.after.any (λe=>A3 md e&&(e.on==j||FN M e.on j)))&&
 (AA ops.size).all (λj=>i==j||(match DL ops j with
  |none=>Ax
  |some d=>!(o.dst==V d)&&(!(o.looksAt ops).contains d||(C.getD i []).contains j||FN M j i)))&&
 (C.getD i []).all (λj=>decide (j<ops.size)&&FN M i j)&&decide (C.getD i []).Nodup
def Ew(md:B0)(ops:Array A6)(M:List Nat)(C:List (List Nat)):Bool:=
 BB ops&&C.length==ops.size&&
 (AA ops.size).all (λi=>match ops[i]? with
  |none=>Ax
  |some o=>Ji md ops M C i o)
theorem KT(h:Ew md ops M C=Ax){i:Nat}(a:ops[i]?=V g):Ji md ops M C i g=Ax:=by
 simp only[Ew,jQ,lu,lm]at h
 have c:i<ops.size:=by
  rcases mn i ops.size with h|h
  ·exact h
  ·rw[kV h]at a;cases a
 have b:=h.2 i c;rw[a]at b;exact b
theorem aH(h:Ew md ops M C=Ax):C.length=ops.size:=by
 simp only[Ew,jQ,mz]at h;exact h.1.2
theorem Zi(h:Ew md ops M C=Ax):BB ops=Ax:=by
 simp only[Ew,jQ]at h;exact h.1.1
theorem Oc(h:Ew md ops M C=Ax){i:Nat}(b:ops[i]?=V g):∀e∈g.after,A3 md e=Ax->e.on<i:=by
 have a:=KT h b;simp only[Ji,jQ]at a;intro e c d;have f:=py.1 a.1.1.1.1 e c;simpa[d]using f
theorem dM(h:Ew md ops M C=Ax){i:Nat}(d:ops[i]?=V g)(f:E<ops.size)(j:FN M i E=Ax):∃e∈g.after,A3 md e=Ax/\(e.on=E\/FN M e.on E=Ax):=by
 have a:=KT h d;simp only[Ji,jQ,lu,lm]at a;have b:=a.1.1.1.2 E f;rw[j,Bool.not_true,oS]at b;obtain⟨e,k,c⟩:=Array.any_eq_true'.1 b;rw[jQ,mw,mz]at c;exact⟨e,k,c⟩
theorem SU(h:Ew md ops M C=Ax){i:Nat}{d:Tmp}(e:ops[i]?=V g)(f:E<ops.size)(j:i≠E)(k:DL ops E=V d):g.dst≠V d/\(d∈g.looksAt ops->E∉C.getD i []->FN M E i=Ax):=by
 have c:=KT h e;simp only[Ji,jQ,lu,lm]at c;have a:=c.1.1.2 E f;rw[k]at a
 have l:(i==E)=BA:=by simpa using j
 rw[l,oS]at a;simp only[jQ]at a;refine⟨by simpa using a.1,λm n=>?_⟩;have:=a.2;rw[mw,mw]at this
 rcases this with(b|b)|b
 ·simp[m]at b
 ·exact absurd (by simpa using b) n
 ·exact b
theorem ME(h:Ew md ops M C=Ax){i:Nat}(b:ops[i]?=V g)(c:E∈C.getD i []):E<ops.size/\FN M i E=Ax:=by
 have a:=KT h b;simp only[Ji,jQ,lu,lm]at a;have d:=a.1.2 E c;simpa using d
theorem X6(h:Ew md ops M C=Ax){i:Nat}(b:ops[i]?=V g):(C.getD i []).Nodup:=by
 have a:=KT h b;simp only[Ji,jQ]at a;exact j7 a.2
theorem QZ(h:Ew md ops M C=Ax):∀i j d,i≠j->DL ops i=V d->DL ops j≠V d:=by
 intro i j d e b a;have f:=Tp a;have c:ops[j]?=V ops[j]:=lZ f;have g:=(SU h c (Tp b) (qr e) b).1;rw[DL,c]at a;exact g a
theorem QK(h:Ew md ops M C=Ax)(m:q.size=ops.size)(n:Dh md ops q):∀(i:Nat) (o:A6),ops[i]?=V o->(∀e∈o.after,A3 md e=Ax->q.getD e.on BA=Ax)->∀j,j<ops.size->FN M i j=Ax->q.getD j BA=Ax:=by
 intro i
 induction i using Nat.strongRecOn with
 |ind i p=>
  intro o d r j f s;obtain⟨e,g,k,a⟩:=dM h d f s;have b:=r e g k
  rcases a with rfl|a
  ·exact b
  ·have t:e.on<ops.size:=by
    rcases mn e.on q.size with c|c
    ·rw[<-m];exact c
    ·simp[kV c]at b
   have l:ops[e.on]?=V ops[e.on]:=lZ t;exact p e.on (Oc h d e g k) _ l (n e.on _ l b) j f a
theorem FO.iG{L:List Nat}(h:FO md ops q L)(c:Ew md ops M C=Ax)(g:Bk md ops q=[]):L.Perm (AA ops.size):=by
 have i:∀j,j<ops.size->q.getD j BA=Ax:=by
  intro j
  induction j using Nat.strongRecOn with
  |ind j k=>
   intro a
   cases l:q.getD j BA
   ·exfalso
    have b:ops[j]?=V ops[j]:=lZ a;have:j∈Bk md ops q:=mem_ready.2 ⟨getD_in (by rw[h.aQ];exact a) l,_,b,λe d f=>k e.on (Oc c b e d f) (Nat.lt_trans (Oc c b e d f) a)⟩;rw[g]at this
    cases this
   ·rfl
 refine(mU h.nd nw).2 (λj=>?_);rw[lm];exact⟨h.lt,λa=>(h.a7 j).2 (i j a)⟩
theorem Wi(I:(Nat->Bool)->(Nat->J)->O->Prop)(m:B2)(q:Ew md ops M C=Ax)(Y:∀c a N w,Q (.panic c) a w->Q (.panic c) N w)
  (Z:∀i o,ops[i]?=V o->∀D f w,I D f w->D i=BA->(∀j,j<ops.size->FN M i j=Ax->D j=Ax)->wpOp P ops Q i (EY o (Dg ops f (C.getD i []) m) (λv F=>I (Nz D i) (Kk f i v) F)) (Dg ops f (C.getD i []) m) w)
  (hE:∀D f w,I D f w->(∀j,j<ops.size->D j=Ax)->Q .normal (Dg ops f (AA ops.size) m) w):
  ∀(y:Nat) (l:Array Bool) (L:List Nat) (D:Nat->Bool) (f:Nat->J) (w:O),FO md ops l L->(∀j,D j=Ax↔j∈L)->I D f w->L.length+y=ops.size->wpAny P md ops Q y l (Dg ops f L m) w:=by
 have R:∀(l:Array Bool) (L:List Nat) (D:Nat->Bool) (f:Nat->J) (w:O),FO md ops l L->(∀j,D j=Ax↔j∈L)->I D f w->Bk md ops l=[]->Q .normal (Dg ops f L m) w:=by
  intro l L D f w g s u x;have A:=g.iG q x;rw[QS (QZ q) A];exact hE D f w u (λj r=>(s j).2 (A.mem_iff.2 (lm.2 r)))
 have ab:∀(l:Array Bool) (L:List Nat),FO md ops l L->L.length=ops.size->Bk md ops l=[]:=λl L h G=>h.eA G
 have ac:=Zi q;intro y
 induction y with
 |zero=>
  intro l L D f w g s u G;have x:=ab l L g Ω;exact⟨x,R l L D f w g s u x⟩
 |succ y ih=>
  intro l L D f w g s u G;refine⟨λx=>R l L D f w g s u x,λi S=>?_⟩;obtain⟨ae,o,p,ag⟩:=mem_ready.1 S
  have B:i∉L:=λh=>by
   have:=(g.a7 i).1 h;rw[getD_both ae]at this
   cases this
  have ah:D i=BA:=by
   cases h:D i
   ·rfl
   ·exact absurd ((s i).1 h) B
  have T:∀j,j<ops.size->FN M i j=Ax->j∈L:=λj r z=>(g.a7 j).2 (QK q g.aQ g.gs i o p ag j r z)
  have ai:i<ops.size:=by
   rcases mn i ops.size with h|h
   ·exact h
   ·rw[kV h]at p;cases p
  have aj:∀k∈L,FN M k i=BA:=λk t=>by
   cases z:FN M k i
   ·rfl
   ·have H:=g.lt t;have U:ops[k]?=V ops[k]:=lZ H;exact absurd ((g.a7 i).2 (QK q g.aQ g.gs k _ U (g.gs k _ U ((g.a7 k).1 t)) i ai z)) B
  have ak:∀j∈C.getD i [],j∈L:=λj r=>by
   have:=ME q p r;exact T j this.1 this.2
  have A:(C.getD i []++L.filter (λj=>!(C.getD i []).contains j)).Perm L:=by
   have h1:=QO (n:=ops.size) g.nd (λj=>(C.getD i []).contains j) (λj r=>by
    have E:j∈C.getD i []:=by simpa using r
    exact⟨(ME q p E).1,ak j E⟩)
   have h2:((AA ops.size).filter λj=>(C.getD i []).contains j).Perm (C.getD i []):=by
    refine(mU (nI _ nw) (X6 q p)).2 (λj=>?_);simp only[nc,lm,List.contains_eq_mem,lO];exact⟨λh=>h.2,λh=>⟨(ME q p h).1,h⟩⟩
   exact(h2.symm.append_right _).trans h1
  have an:=Z i o p D f w u ah (λj r z=>(s j).2 (T j r z));have W:=QS (vals:=f) (QZ q) A m;rw[Ql]at W
  have K:=QI (ops:=ops) o (λcs b=>Region.noSelect_spec ac i o cs b p) f (L.filter (λj=>!(C.getD i []).contains j)) (Dg ops f (C.getD i []) m) (λk t d hd=>by
   rw[nc]at t;have H:=g.lt t.1;intro aq
   have:=(SU q p H (show i≠k from λe=>B (by rw[e];exact t.1)) hd).2 aq (λE=>by
    have h9:(C.getD i []).contains k=Ax:=by simpa using E
    have X:=t.2;rw[h9]at X
    cases X)
   rw[aj k t.1]at this
   cases this)
  rw[W]at K;have au:=af (P:=P) (Q:=Q) p (by rw[NT,NT]) K.1 K.2 Y an;refine wpOp_mono (λN F hK=>?_) au;obtain⟨v,rfl,aw⟩:=hK;have ax:=g.add S
  have ay:(Dg ops f L m).put o.dst v=Dg ops (Kk f i v) (L++[i]) m:=by
   have az:Dg ops f L m=Dg ops (Kk f i v) L m:=Qs L m (λj r=>by
    unfold Kk
    rw[jN (show¬j=i from λe=>B (by rw[<-e];exact r))])
   rw[Ql, <-az];simp[Dg,DL,p,Kk]
  rw[ay];refine ih _ (L++[i]) (Nz D i) _ F ax (λj=>?_) aw (by rw[jI,lr];omega);unfold Nz;rw[mw,mz,s j,kI,j8];exact Or.comm
end
section
variable {P:Program} {l:List Oper} {Q:Exit->Act->World->Prop} {M:List Nat} {C:List (List Nat)}
def eV(l:List A6)(M:List Nat)(C:List (List Nat)):Bool:=Ew .any l.toArray M C
theorem Vc{a:B2}(F:Nat->J->O->Prop)(M:List Nat)(C:List (List Nat))(y:P.follows .mixedOrders=Ax)(z:eV l M C=Ax)
  (hF:∀j v W n,W.grownBy n Z->F j v W->F j v n)
  (G:JY P l Q (λW=>f.grownBy W Z) (λW n=>W.grownBy n Z) F a 0 C l)
  (H:∀W,f.grownBy W Z->Hv l.toArray F W (λa=>Q .normal a W) (AA l.toArray.size) a):(Code.region E l.toArray Ax).wp P Q a f:=by
 have r:Ew .any l.toArray M C=Ax:=z;refine wp_region_noPanic (wp_region_any y ?_)
 have I:FO .any l.toArray (Array.replicate l.toArray.size BA) []:=
  ⟨List.nodup_nil,λj=>⟨λh=>(by cases h),λh=>(by rw[Bn]at h;cases h)⟩,Δ,λj S _ t=>(by rw[Bn]at t;cases t)⟩
 have T:∀{A B D:O},A.grownBy B Z->B.grownBy D Z->A.grownBy D Z:=λh k=>⟨k.os.trans h.os,k.tape.trans h.tape,k.output.trans h.output,jM h.size k.size,λi p u=>(k.block i (jJ p h.size) u).trans (h.block i p u)⟩
 refine Wi (P:=P) (Q:=NoPanic Q) (md:=.any) (λD g W=>f.grownBy W Z/\∀j,D j=Ax->F j (g j) W) a r (λc a U f h=>h) (λi o q D g W d w L=>?_) (λD g W d w=>?_) l.toArray.size _ [] (λ_=>BA) (λ_=>undef) f.drew I (λj=>Δ) ⟨⟨rfl,rfl,rfl,jF _,λ_ _ _=>rfl⟩,λj b=>by cases b⟩ Δ
 ·have p:i<l.toArray.size:=by
   rcases mn i l.toArray.size with h|h
   ·exact h
   ·rw[kV h]at q;cases q
  have N:C[i]?=V (C.getD i []):=by
   have:i<C.length:=by rw[aH r];exact p
   simp[List.getD,this]
  have x:=Rr l C 0 G i o _ (by simpa using q) N W d.1;rw[lN]at x
  have R:=Oh (K:=λa=>wpOp P l.toArray (NoPanic Q) i (EY o a (λv m=>W.grownBy m Z/\f.grownBy m Z/\F i v m)) a W) g (C.getD i []) a (λj b=>d.2 j (by
   have:=ME r q b
   exact L j this.1 this.2)) x
  refine Wp (λv m s=>⟨s.2.1,λj b=>?_⟩) R;unfold Nz at b;unfold Kk
  by_cases e:j=i
  ·rw[jP e,e];exact s.2.2
  ·rw[jN e]
   have:(j==i)=BA:=by simpa using e
   rw[this,oS]at b;exact hF j _ W m s.1 (d.2 j b)
 ·exact Oh (K:=λa=>NoPanic Q .normal a W) g _ a (λj b=>d.2 j (w j (lm.1 b))) (H W d.1)
variable {F:Nat->Value->Prop} {G:(Nat->Bool)->(Nat->Value)->World->Prop} {a:Act}
end
end
section
open Go Go.RowKit
theorem Gh{P:BC}{K:B2->O->Prop}(M:BL g (yielded j l.tmps)=Ax)(s w:Operand)(t:Y)
  (y:g.op=.call {callee:=.builtin .append,args:=#[s,w],argTypes:=#[t,t]})
  (n:Nat)(k:Y)(i:BZ)(z:J)(d q:Nat)(B:P.underlying t=V (.slice k))(C:P.info? k=V i)(N:i.zero=V z)
  (Q:i.size=d)(R:i.bytes=q)(S:z.cells.size=d)(T:0<d)
  {v:J}(D:l.eval s=v)(r:f.ownsRow n k d v E A)
  (F:l.eval w=a)(o:Ag f d a e h)(U:∀u∈h,u.oneCell'=Ax)
  (W:E+e<=BD)(X:(E+e)*q<=140737488355328)(aa:n<=f.heap.size)
  (G:∀m p,p.ownsRow n k d m (E+e) (A++h)->f.grownBy p v.ownBlock->(m.ownBlock=v.ownBlock\/m.ownBlock=V f.heap.size)->K (l.put g.dst m) p):
  if BL g (yielded j l.tmps)=Ax then Oper.wp P g l f K c else x:=by
 rw[jP M];obtain⟨H,hm,o⟩:=o
 rcases o with⟨rfl,rfl⟩|⟨⟨b,ab,I⟩,ac,rfl,ad,hc⟩
 ·have af:h=[]:=km (by simpa using H);subst af;have ag:=run_append_owned_none (P:=P) (w:=f) n t g.type k i d B C v E A r;unfold Oper.wp;simp[execOp,y,resolve,invoke,builtin,D,F,ag,Result.andThen];exact G v f (by simpa using r) ⟨rfl,rfl,rfl,jF _,λ_ _ _=>rfl⟩ (.inl rfl)
 ·obtain⟨m,p,o,h2,h3,_,h5⟩:=run_append_own_at (P:=P) f n t g.type k i z d q B C N Q R S T v E A r ⟨b,ab,I⟩ e ac h H (λak u L=>by
   have al:e≠0:=by
    rintro rfl;have:=(jL.1 L).1;omega
   obtain rfl:I=Z:=ad al;have:=hc ak u L;unfold Addr.add
   split
   ·subst_vars;simpa using this
   ·exact this) U W X aa
  unfold Oper.wp execOp;simp only[y,resolve,invoke,builtin,Sem.run_bind,Sem.run_pure,Result.andThen_ok,oN,pW,qe,D,F,o];exact G m p h2 h3 h5
end
