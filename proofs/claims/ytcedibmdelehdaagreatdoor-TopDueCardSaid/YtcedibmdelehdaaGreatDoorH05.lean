/- Lemmas. -/
import Derived.Test.YtcedibmdelehdaaGreatDoorH04
import Derived.BigQuiet
import Derived.Deep.QuietTactic
import Derived.Laws.AppendOwnNone
import Derived.Lib.Hide
import Derived.Maps.AppendAt
import Derived.WalkKit
namespace Go.Proofs.YtcedibmdelehdaaGreatDoor
set_option maxRecDepth 100000
set_option maxHeartbeats 32000000
open Go renaming Value->J,World->O,TypeId->Y,Oper->Bk,wpList_append_own_none->Bn,getD_replicate_false->BA,Program->BL,maxLen->BR,wpQuiet->B1,wpList->B2,TypeInfo->B3,Addr->B5,Act->B6
open Option renaming some->V,none->Z
open Bool renaming true->Ax,false->BD
open List renaming range->AA
open Go.RowKit.Below renaming heap_alloc->A2,heap_setCell->Bd
open Go.Region renaming binds->A3,ready->Bx,noSelect->BE,wanted->B0,Mode->B4
open Go.Value renaming ownBlock->A4,slice->Bs
open Go.World renaming cell?_of_block->BB,cell?->BC,setCell->BX
variable{h e s:O}{E z:List J}{a f o y:Nat}{b:J}{c:Y}{d:Exit->B6->O->Prop}{g:Bk}{i:BL}{j:Array Bk}{k:List Bk}{l:B6}{n:Option Nat}{p:Array J}{q:Array Bool}{r:B5}{t:Obj}{w:FuncId}{x:Prop}
section
open Go.RowKit
def Aa(w:O)(a:Nat)(e:Y)(b:List J):Prop:=w.heap[a]?=V (.cells b.toArray e (0,0))
theorem Aa.lt(b:Aa h a c E):a<h.heap.size:=(kf.1 b).1
theorem Aa.cell?(b:Aa h a c E)(j:Nat):h.cell? ⟨a,j,Z⟩=E[j]?:=by
 unfold Aa at b;simp[BC,b]
theorem Aa.v(b:Aa h a c E)(j:Nat):h.frozen? ⟨a,j,Z⟩=BD:=by
 unfold Aa at b;simp[World.frozen?,b]
theorem Aa.aq(b:Aa h a c E){j:Nat}{v:J}(d:E[j]?=V v):h.cell? ⟨a,j,Z⟩=V v:=by rw[b.cell?,d]
theorem Aa.bg(b:Aa h a c E)(d:e.heap[a]?=h.heap[a]?):Aa e a c E:=by
 unfold Aa at*;rw[d,b]
theorem Aa.new(w:O)(e:Y)(a:List J):Aa (w.alloc (.cells a.toArray e)) w.heap.size e a:=by
 unfold Aa;show(w.heap.push _)[w.heap.size]?=_;simp
theorem Aa.alloc(b:Aa h a c E)(o:Obj):Aa (h.alloc o) a c E:=
 b.bg (A2 h o a b.lt)
theorem Aa.cQ(b:Aa h a c E):Aa h.drew a c E:=b
theorem Aa.eH(b:Aa h a c E){p:B5}(d:a≠p.block)(u:J):Aa (h.setCell p u) a c E:=
 b.bg (Bd h p u a d)
theorem Aa.setCell(b:Aa h a c E)(j:Nat)(u:J):Aa (h.setCell ⟨a,j,Z⟩ u) a c (E.set j u):=by
 unfold Aa at*;simp[BX,pz,b]
theorem Aa.grown(b:Aa h a c E)(d:h.grownBy e n)(f:V a≠n):Aa e a c E:=
 b.bg (d.block a b.lt f)
theorem Aa.below(b:Aa h a c E)(d:Below f h e)(g:a<f):Aa e a c E:=
 b.bg (d.block a g)
def Ai(w:O)(c:Nat)(v:J)(n:Nat)(b:List J):Prop:=
 b.length=n*c/\n<=BR/\((v=Bs Z 0 0/\n=0)\/∃a d,v=Bs (V a) n d/\(n≠0->a.spot=Z)/\∀j u,b[j]?=V u->w.cell? ⟨a.block,a.off+j,Z⟩=V u)
theorem Ai.at(e:Ai h f b a E)(m:0<a):∃c d g,b=Bs (V ⟨c,d,Z⟩) a g/\∀j u,E[j]?=V u->h.cell? ⟨c,d+j,Z⟩=V u:=by
 obtain⟨_,_,e⟩:=e
 rcases e with⟨_,n⟩|⟨⟨c,d,i⟩,g,rfl,k,l⟩
 ·omega
 ·obtain rfl:i=Z:=k Ω;exact⟨c,d,g,rfl,l⟩
theorem Ai.slice(d:Ai h f b a E):∃e c,b=Bs e a c:=by
 obtain⟨_,_,d⟩:=d
 rcases d with⟨rfl,d⟩|⟨g,i,rfl,_⟩
 ·exact⟨Z,0,by rw[d]⟩
 ·exact⟨_,_,rfl⟩
theorem Ai.aZ{d:Option B5}(g:Ai h f (Bs d a o) a E)(i:0<a):∃b c,d=V ⟨b,c,Z⟩/\∀j u,E[j]?=V u->h.cell? ⟨b,c+j,Z⟩=V u:=by
 obtain⟨b,c,l,e,k⟩:=g.at i;simp only[Value.slice.injEq]at e;exact⟨b,c,e.1,k⟩
theorem Ai.bg{k:Nat}(d:Ai h k b f E)(o:E≠[]->∀g,b.ownBlock=V g->g<h.heap.size->e.heap[g]?=h.heap[g]?):Ai e k b f E:=by
 obtain⟨p,q,d⟩:=d;refine⟨p,q,?_⟩
 rcases d with d|⟨c,r,l,s,t⟩
 ·exact .inl d
 ·refine .inr ⟨c,r,l,s,λj u m=>?_⟩;have n:=t j u m
  have i:c.block<h.heap.size:=by
   by_cases i:c.block<h.heap.size
   ·exact i
   ·simp[BC,lI (pC i)]at n
  rw[<-n];exact BB (w:=h) (a:=⟨c.block,c.off+j,Z⟩) (o (λv=>by simp[v]at m) c.block (by rw[l];rfl) i)
theorem Ai.lt(c:Ai h a b f E)(i:E≠[]):∀e,b.ownBlock=V e->e<h.heap.size:=by
 intro m d;obtain⟨n,o,c⟩:=c
 rcases c with⟨rfl,p⟩|⟨j,q,rfl,_,k⟩
 ·simp[A4]at d
 ·simp[A4]at d;subst d
  cases E with
  |nil=>exact absurd rfl i
  |cons u r=>
   have l:=k 0 u rfl
   by_cases g:j.block<h.heap.size
   ·exact g
   ·simp[BC,lI (pC g)]at l
theorem Ai.grown(d:Ai h a b f E)(g:h.grownBy e n)(i:∀c,n=V c->b.ownBlock≠V c):Ai e a b f E:=
 d.bg λ_ c j k=>g.block c k (λl=>i c l.symm j)
theorem Ai.alloc(c:Ai h a b f E)(o:Obj):Ai (h.alloc o) a b f E:=
 c.bg λ_ d _ e=>A2 h o d e
theorem Ai.drewN(c:Ai h a b f E)(k:Nat):Ai (h.drewN k) a b f E:=c
theorem Ai.below(d:Ai h f b o E)(g:Below a h e)(i:E≠[]->∀c,b.ownBlock=V c->c<a):Ai e f b o E:=
 d.bg λj c k _=>g.block c (i j c k)
theorem Ai.nil(w:O)(a:Nat):Ai w a (Bs Z 0 0) 0 []:=⟨Δ,Δ,.inl ⟨rfl,rfl⟩⟩
theorem Ai.aj(d:h.ownsRow o c a b f E):Ai h a b f E:=by
 obtain⟨k,d⟩:=d
 rcases d with⟨e,l⟩|⟨g,m,r,e,_,n,s,t,v,p⟩
 ·exact⟨k,Ω,.inl ⟨e,l⟩⟩
 ·refine⟨k,Ω,.inr ⟨⟨g,0,Z⟩,m,e,λ_=>rfl,λj u i=>?_⟩⟩;subst p;simp[BC,n]
  have q:j<f*a:=by
   have:=(jX.1 i).1;rw[kA]at this;omega
  rw[nR q]at i;simpa using i
theorem Ai.bn{e:Y}(b:Aa h a e E){sz n:Nat}(d:E.length=n*sz)(f:n<=BR){c:Nat}:Ai h sz (Bs (V ⟨a,0,Z⟩) n c) n E:=
 ⟨d,f,.inr ⟨⟨a,0,Z⟩,c,rfl,λ_=>rfl,λj u g=>by simpa using b.aq g⟩⟩
theorem IG{P:BL}(w:g.guard=Z)(s x:Operand)(t:Y)
  (y:g.op=.call {callee:=.builtin .append,args:=#[s,x],argTypes:=#[t,t]})
  (c:Nat)(e:Y)(i:B3)(z:J)(a f:Nat)(A:P.underlying t=V (.slice e))(B:P.info? e=V i)(I:i.zero=V z)
  (K:i.size=a)(L:i.bytes=f)(M:z.cells.size=a)(N:0<a)
  {v:J}{n:Nat}{xs:List J}(C:l.eval s=v)(o:h.ownsRow c e a v n xs)
  {sv:J}{m:Nat}{news:List J}(D:l.eval x=sv)(p:Ai h a sv m news)(Q:∀u∈news,u.oneCell'=Ax)
  (R:n+m<=BR)(S:(n+m)*f<=140737488355328)(T:c<=h.heap.size)
  (E:∀q r,r.ownsRow c e a q (n+m) (xs++news)->h.grownBy r v.ownBlock->(q=Bs Z 0 0↔v=Bs Z 0 0/\m=0)->B2 P j d k (l.put g.dst q) r):B2 P j d (g::k) l h:=by
 obtain⟨F,hm,p⟩:=p
 rcases p with⟨rfl,rfl⟩|⟨⟨b,U,G⟩,W,rfl,X,hc⟩
 ·have ab:news=[]:=kV (by simpa using F);subst ab;refine Bn w s x t y c e i a A B v n xs C o D ?_;exact E v h (by simpa using o) ⟨rfl,rfl,rfl,jS _,λ_ _ _=>rfl⟩ Δ
 ·exact wpList_append_own h w s x t y c e i z a f A B I K L M N v n xs C o ⟨b,U,G⟩ m W news D F (λac u H=>by
   have ad:m≠0:=by
    rintro rfl;have:=(jX.1 H).1;omega
   obtain rfl:G=Z:=X ad;have:=hc ac u H;unfold Addr.add
   split
   ·subst_vars;simpa using this
   ·exact this) Q R S T E
theorem Lw{P:BL}(w:g.guard=Z)(s x:Operand)(t:Y)
  (y:g.op=.call {callee:=.builtin .append,args:=#[s,x],argTypes:=#[t,t]})
  (f:Nat)(e:Y)(i:B3)(z:J)(a p:Nat)(A:P.underlying t=V (.slice e))(B:P.info? e=V i)(I:i.zero=V z)
  (K:i.size=a)(L:i.bytes=p)(M:z.cells.size=a)(N:0<a)
  {v:J}{n:Nat}{xs:List J}(C:l.eval s=v)(q:h.ownsRow f e a v n xs)
  {sv:J}{m:Nat}{news:List J}(D:l.eval x=sv)(r:Ai h a sv m news)(Q:∀u∈news,u.oneCell'=Ax)
  (R:n+m<=BR)(S:(n+m)*p<=140737488355328)(T:f<=h.heap.size)
  (E:∀c o,o.ownsRow f e a c (n+m) (xs++news)->h.grownBy o v.ownBlock->(c.ownBlock=v.ownBlock\/c.ownBlock=V h.heap.size)->B2 P j d k (l.put g.dst c) o):B2 P j d (g::k) l h:=by
 obtain⟨F,hm,r⟩:=r
 rcases r with⟨rfl,rfl⟩|⟨⟨b,U,G⟩,W,rfl,X,hc⟩
 ·have ab:news=[]:=kV (by simpa using F);subst ab;refine Bn w s x t y f e i a A B v n xs C q D ?_;exact E v h (by simpa using q) ⟨rfl,rfl,rfl,jS _,λ_ _ _=>rfl⟩ (.inl rfl)
 ·exact wpList_append_own_at h w s x t y f e i z a p A B I K L M N v n xs C q ⟨b,U,G⟩ m W news D F (λac u H=>by
   have ad:m≠0:=by
    rintro rfl;have:=(jX.1 H).1;omega
   obtain rfl:G=Z:=X ad;have:=hc ac u H;unfold Addr.add
   split
   ·subst_vars;simpa using this
   ·exact this) Q R S T (λc o q1 q2 _ q4=>E c o q1 q2 q4)
theorem BQ(d:h.ownsRow a c o b y E)(l:f<=a):h.ownsRow f c o b y E:=by
 obtain⟨e,d⟩:=d;refine⟨e,?_⟩
 rcases d with d|⟨g,i,j,k,m,d⟩
 ·exact .inl d
 ·exact .inr ⟨g,i,j,k,Ω,d⟩
theorem Ae(a:h.grownBy e n)(k:e.grownBy s n):h.grownBy s n:=
 ⟨k.os.trans a.os,k.tape.trans a.tape,k.output.trans a.output,j8 a.size k.size,λi b c=>(k.block i (jY b a.size) c).trans (a.block i b c)⟩
theorem Bf(a:O)(b:Option Nat):a.grownBy a b:=⟨rfl,rfl,rfl,jS _,λ_ _ _=>rfl⟩
theorem Ki(a:h.grownBy e Z)(b:Option Nat):h.grownBy e b:=⟨a.os,a.tape,a.output,a.size,λi c _=>a.block i c Δ⟩
theorem Ff(a:Below h.heap.size h e):h.grownBy e Z:=⟨a.os,a.tape,a.output,a.size,λi b _=>a.block i b⟩
theorem Ft(a:h.grownBy e Z):Below h.heap.size h e:=⟨a.os,a.tape,a.output,a.size,λi b=>a.block i b Δ⟩
theorem AS(a:O)(n:Nat)(b:Option Nat):a.grownBy (a.drewN n) b:=⟨rfl,rfl,rfl,jS _,λ_ _ _=>rfl⟩
theorem An(W:O)(p:B5)(v:J):W.grownBy (W.setCell p v) (V p.block):=
 ⟨rfl,rfl,rfl,by simp[BX],λk _ a=>Bd _ _ _ k (λe=>a (by rw[e]))⟩
theorem Jt(a:(h.alloc t).grownBy e (V h.heap.size)):h.grownBy e Z:=
 ⟨a.os,a.tape,a.output,j8 Δ a.size,λk b _=>(a.block k Γ Γ).trans (A2 _ _ _ b)⟩
theorem Hu(a:Nat)(e:Y):∀(f d b c:List J) (w:O),d.length=f.length->Aa w a e (b++(d++c))->Aa (w.setCells a b.length f) a e (b++(f++c))
 |[],[],b,c,w,_,h=>h
 |u::f,o::d,b,c,w,i,h=>by
  have g:=h.setCell b.length u;have j:(b++(o::d++c)).set b.length u=(b++[u])++(d++c):=Δ;rw[j]at g;have k:=Hu a e f d (b++[u]) c _ (by simpa using i) g;simpa[World.setCells]using k
theorem Ht(a:Nat):∀(b:List J) (o:Nat) (w:O),w.grownBy (w.setCells a o b) (V a)
 |[],_,w=>Bf w _
 |u::b,o,w=>Ae (An w ⟨a,o,Z⟩ u) (Ht a b (o+1) _)
theorem jG(b:(h.alloc t).grownBy e (V h.heap.size))(c:e.grownBy s (V a))(f:h.heap.size<=a):h.grownBy s Z:=
 ⟨c.os.trans b.os,c.tape.trans b.tape,c.output.trans b.output,j8 (Jt b).size c.size,λk d _=>(c.block k (jY d (Jt b).size) Γ).trans ((Jt b).block k d Δ)⟩
theorem BN(b:h.grownBy e Z)(c:e.grownBy s (V a))(f:h.heap.size<=a):h.grownBy s Z:=
 ⟨c.os.trans b.os,c.tape.trans b.tape,c.output.trans b.output,j8 b.size c.size,λk d _=>(c.block k (jY d b.size) Γ).trans (b.block k d Δ)⟩
theorem VP{wr:O}(d:h.grownBy wr Z)(g:wr.ownsRow a c f b o E)(m:h.heap.size<=a)(e:(wr.alloc t).grownBy s b.ownBlock):h.grownBy s Z:=by
 have i:=d.size;refine⟨e.os.trans d.os,e.tape.trans d.tape,e.output.trans d.output,j8 i (j8 Δ e.size),λk j _=>?_⟩;rw[e.block k Γ ?_,A2 _ _ _ Ω,d.block k j Δ];intro l;have:=(g.lt k l.symm).1;omega
theorem AP(d:h.ownsRow a c f b o E)(i:h.grownBy e Z):e.ownsRow a c f b o E:=by
 refine d.kept i ?_
 rcases hv:b.ownBlock with _|g
 ·exact .inl rfl
 ·exact .inr Δ
theorem Gt{wr:O}(d:h.grownBy wr Z)(g:wr.ownsRow a c f b o E)(m:h.heap.size<=a)(e:wr.grownBy s b.ownBlock):h.grownBy s Z:=by
 have i:=d.size;refine⟨e.os.trans d.os,e.tape.trans d.tape,e.output.trans d.output,j8 i e.size,λk j _=>?_⟩;rw[e.block k Ω ?_,d.block k j Δ];intro l;have:=(g.lt k l.symm).1;omega
theorem jI(a:Nat)(c:h.grownBy e b.ownBlock)(d:∀q,b.ownBlock=V q->a<=q){u:J}(f:h.cell? r=V u)(i:r.block<a):e.cell? r=V u:=
 c.cell f (λg=>by have:=d _ g.symm;omega)
theorem NK{b:Nat}(d:Aa h o c E)(e:b<=o)(g:a<=f)(i:f<=BR)(j:E.length=f*y)(k:E.take (a*y)=z)(l:z.length=a*y):
  h.ownsRow b c y (Bs (V ⟨o,0,Z⟩) a f) a z:=
 ⟨l,.inr ⟨o,f,E.toArray,rfl,e,d,g,i,by simpa using j,by simpa using k⟩⟩
theorem CI(d:h.ownsRow a c f b o E)(p:B5)(u:J)(g:p.block<a):(h.setCell p u).ownsRow a c f b o E:=by
 refine d.kept (An h p u) (.inr λe=>?_);have:=(d.lt _ e).1;omega
theorem cH(c:Ai h a b f E)(p:B5)(u:J)(d:E≠[]->b.ownBlock≠V p.block):Ai (h.setCell p u) a b f E:=
 c.bg λg i j _=>Bd h p u i (λe=>d g (by rw[<-e];exact j))
theorem gh(d:Ai h a b f E)(p:B5)(u:J)(e:b.ownBlock≠V p.block):Ai (h.setCell p u) a b f E:=
 d.grown (An h p u) (λi c g=>e (by simp at c;rw[c];exact g))
theorem Aa.m(d:Aa h a c E)(j:Nat)(e:E[j]?=V b:=by exact rfl):h.cell? ⟨a,j,Z⟩=V b:=d.aq e
theorem Ak{q:Prop}(h:q)(k:q->x:=by(intro a;(try simp only[Act.put,List.setIfInBounds_toArray,List.set_cons_zero,List.set_cons_succ]);exact a)):x:=k h
end
section
open Go Go.RowKit
def Fl(w:O):Type:={w':O // w.grownBy w' Z}
instance(w:O):Nonempty (Fl w):=⟨⟨w,Bf w Z⟩⟩
instance(w:O):Inhabited (Fl w):=⟨⟨w,Bf w Z⟩⟩
def gw{w:O}(g:Fl w):O:=g.1
theorem CY(g:Fl h):h.grownBy (gw g) Z:=g.2
theorem AV(a:h.cell? r=V b):∀g:Fl h,(gw g).cell? r=V b:=λg=>g.2.cell a Δ
section
variable {P:Program} {w:World}
theorem CU(c:P.follows .mixedOrders=Ax)(e:Region.lexB .any k.toArray=Ax)
  (h:B1 P k.toArray (λb=>∃g:Fl w,b=gw g) (λf=>∀b,(∃g:Fl w,b=gw g)->d .normal f b) k l):(Code.region a k.toArray Ax).wp P d l w:=
 wp_region_quiet (C:=λb=>∃g:Fl w,b=gw g) c e ⟨⟨{w with drawn:=w.drawn+1},AS w 1 Z⟩,rfl⟩ (by simpa using h)
theorem LS{f:FuncId}(h:∀W,w.grownBy W Z->Calls P f p W λe a=>e=.returned b/\W.grownBy a Z)(g:Fl w):
  Calls P f p (gw g) λe c=>e=.returned b/\∃d:Fl w,c=gw d:=
 (h _ g.2).mono λ_ a ⟨i,j⟩=>⟨i,⟨a,Ae g.2 j⟩,rfl⟩
theorem LO{f:FuncId}(h:∀W,Calls P f p W λe a=>e=.returned b/\W.grownBy a Z)(g:Fl w):
  Calls P f p (gw g) λe c=>e=.returned b/\∃d:Fl w,c=gw d:=LS (λW _=>h W) g
end
theorem NA{Q:B6->Prop}:∀(l:List Bk) (a:B6),B1 i j (λd=>d=h) Q l a->wpStill i j h Q l a
 |[],_,c=>c
 |o::l,a,c=>by
  simp only[B1]at c;simp only[wpStill]
  split
  ·rename_i e
   rw[ke e]at c;obtain⟨v,k,m⟩:=c;have b:=k h rfl;have g:=NA l _ m;unfold Oper.quietAt at b;unfold Oper.still;generalize(execOp a.eval o).run i h=r at*
   cases r with
   |ok n d=>
    cases n<;>simp only[Oper.quietUpon]at b<;>simp only[Oper.stillUpon]
    case value u=>exact⟨b.1,by rw[b.2];exact g⟩
    case skip=>exact⟨b.1,by rw[<-b.2];exact g⟩
    case enter f p=>exact⟨b.1,v,b.2,g⟩
   |halt x d=>simp only[Oper.quietUpon]at b
  ·rename_i e
   rw[j7 e]at c;exact NA l _ c
theorem Lx(n:Nat)(b:i.follows .mixedOrders=Ax)(c:Region.lexTailB .any k.toArray n=Ax)
  (e:B1 i k.toArray (λf=>f=h.drew) (λg=>B2 i k.toArray d (k.drop n) g h.drew) (k.take n) l):(Code.region a k.toArray Ax).wp i d l h:=
 wp_region_still_tail n b c (NA _ _ e)
end
section
open Go Go.RowKit
structure Ac(S:Nat->Prop)(w a:O):Prop where
 os:a.os=w.os
 fL:a.tape=w.tape
 fH:a.output=w.output
 size:w.heap.size<=a.heap.size
 bK:∀k,k<w.heap.size->¬S k->a.heap[k]?=w.heap[k]?
theorem Ac.refl(S:Nat->Prop)(w:O):Ac S w w:=⟨rfl,rfl,rfl,jS _,λ_ _ _=>rfl⟩
theorem Ac.of{S:Nat->Prop}{row:Option Nat}(a:h.grownBy e row)(b:∀k,row=V k->S k):Ac S h e:=
 ⟨a.os,a.tape,a.output,a.size,λk c d=>a.block k c (λf=>d (b k f.symm))⟩
theorem Ac.au{S:Nat->Prop}(a:h.grownBy e Z):Ac S h e:=Ac.of a (λ_ b=>by cases b)
theorem Ac.ae{S b:Nat->Prop}(a:Ac S h e)(k:Ac b e s)(g:∀j,b j->S j\/h.heap.size<=j):Ac S h s:=
 ⟨k.os.trans a.os,k.fL.trans a.fL,k.fH.trans a.fH,j8 a.size k.size,λi c d=>(k.bK i (jY c a.size) (λl=>by
  rcases g i l with f|f
  ·exact d f
  ·omega)).trans (a.bK i c d)⟩
theorem Ac.trans{S:Nat->Prop}(a:Ac S h e)(k:Ac S e s):Ac S h s:=a.ae k (λ_ a=>.inl a)
theorem Ac.mono{S S':Nat->Prop}(a:Ac S h e)(b:∀j,S j->S' j):Ac S' h e:=⟨a.os,a.fL,a.fH,a.size,λi c d=>a.bK i c (λf=>d (b i f))⟩
theorem Ac.grown{S:Nat->Prop}{b:O}(a:h.grownBy e Z)(c:Ac S e b)(f:∀j,S j->h.heap.size<=j):h.grownBy b Z:=
 ⟨c.os.trans a.os,c.fL.trans a.tape,c.fH.trans a.output,j8 a.size c.size,λk d _=>(c.bK k (jY d a.size) (λg=>by have:=f k g;omega)).trans (a.block k d Δ)⟩
theorem Ac.u{S:Nat->Prop}(d:Ac S h e)(b:Aa h a c E)(f:¬S a):Aa e a c E:=b.bg (d.bK a b.lt f)
theorem Ac.aP{S:Nat->Prop}(d:Ac S h e)(g:Ai h a b f E)(i:∀c,b.ownBlock=V c->¬S c):Ai e a b f E:=
 g.bg λ_ c j k=>d.bK c k (i c j)
theorem Ac.aL{S:Nat->Prop}(j:Ac S h e)(d:h.ownsRow a c f b o E)(k:∀i,b.ownBlock=V i->¬S i):e.ownsRow a c f b o E:=by
 have l:=d.lt;obtain⟨m,d⟩:=d;refine⟨m,?_⟩
 rcases d with d|⟨g,n,p,rfl,q,r,s⟩
 ·exact .inl d
 ·exact .inr ⟨g,n,p,rfl,q,by rw[j.bK g (l g rfl).2 (k g rfl),r],s⟩
theorem Ac.aq{S:Nat->Prop}(c:Ac S h e)(a:h.cell? r=V b)(d:¬S r.block):e.cell? r=V b:=by
 have f:r.block<h.heap.size:=World.block_lt_of_cell? h r a;rw[BB (c.bK r.block f d),a]
theorem Bh{e:Y}(j:Aa h a c E)(k:h.ownsRow f e o b y z)(l:c≠e):b.ownBlock≠V a:=by
 intro d
 rcases k.2 with⟨rfl,_⟩|⟨g,m,n,rfl,_,i,_⟩
 ·simp[A4]at d
 ·simp[A4]at d;subst d;unfold Aa at j;rw[j]at i;simp at i;exact l i.2
end
section
open Go
section
variable {P:Program} {ops:Array Oper} {Q:Exit->Act->World->Prop} {md:Region.Mode} {M:List Nat} {C:List (List Nat)}
def FJ(M:List Nat)(i j:Nat):Bool:=(M.getD i 0).testBit j
def I5(md:B4)(ops:Array Bk)(M:List Nat)(C:List (List Nat))(i:Nat)(o:Bk):Bool:=
 o.after.all (λe=>! A3 md e||decide (e.on<i))&&
 (AA ops.size).all (λj=>! FJ M i j||o.after.any (λe=>A3 md e&&(e.on==j||FJ M e.on j)))&&
 (AA ops.size).all (λj=>i==j||(match Dv ops j with
  |none=>Ax
  |some d=>!(o.dst==V d)&&(!(o.looksAt ops).contains d||(C.getD i []).contains j||FJ M j i)))&&
 (C.getD i []).all (λj=>decide (j<ops.size)&&FJ M i j)&&decide (C.getD i []).Nodup
def En(md:B4)(ops:Array Bk)(M:List Nat)(C:List (List Nat)):Bool:=
 BE ops&&C.length==ops.size&&
 (AA ops.size).all (λi=>match ops[i]? with
  |none=>Ax
  |some o=>I5 md ops M C i o)
theorem Kx(h:En md ops M C=Ax){i:Nat}(a:ops[i]?=V g):I5 md ops M C i g=Ax:=by
 simp only[En,kh,lQ,lE]at h
 have c:i<ops.size:=by
  rcases mU i ops.size with h|h
  ·exact h
  ·rw[lI h]at a;cases a
 have b:=h.2 i c;rw[a]at b;exact b
theorem am(h:En md ops M C=Ax):C.length=ops.size:=by
 simp only[En,kh,nc]at h;exact h.1.2
theorem Y2(h:En md ops M C=Ax):BE ops=Ax:=by
 simp only[En,kh]at h;exact h.1.1
theorem NT(h:En md ops M C=Ax){i:Nat}(b:ops[i]?=V g):∀e∈g.after,A3 md e=Ax->e.on<i:=by
 have a:=Kx h b;simp only[I5,kh]at a;intro e c d;have f:=pW.1 a.1.1.1.1 e c;simpa[d]using f
theorem dF(h:En md ops M C=Ax){i:Nat}(f:ops[i]?=V g)(j:a<ops.size)(k:FJ M i a=Ax):∃e∈g.after,A3 md e=Ax/\(e.on=a\/FJ M e.on a=Ax):=by
 have b:=Kx h f;simp only[I5,kh,lQ,lE]at b;have c:=b.1.1.1.2 a j;rw[k,Bool.not_true,pI]at c;obtain⟨e,l,d⟩:=Array.any_eq_true'.1 c;rw[kh,m7,nc]at d;exact⟨e,l,d⟩
theorem SH(h:En md ops M C=Ax){i:Nat}{d:Tmp}(f:ops[i]?=V g)(j:a<ops.size)(k:i≠a)(l:Dv ops a=V d):g.dst≠V d/\(d∈g.looksAt ops->a∉C.getD i []->FJ M a i=Ax):=by
 have e:=Kx h f;simp only[I5,kh,lQ,lE]at e;have b:=e.1.1.2 a j;rw[l]at b
 have m:(i==a)=BD:=by simpa using k
 rw[m,pI]at b;simp only[kh]at b;refine⟨by simpa using b.1,λn o=>?_⟩;have:=b.2;rw[m7,m7]at this
 rcases this with(c|c)|c
 ·simp[n]at c
 ·exact absurd (by simpa using c) o
 ·exact c
theorem Ms(h:En md ops M C=Ax){i:Nat}(c:ops[i]?=V g)(d:a∈C.getD i []):a<ops.size/\FJ M i a=Ax:=by
 have b:=Kx h c;simp only[I5,kh,lQ,lE]at b;have e:=b.1.2 a d;simpa using e
theorem XN(h:En md ops M C=Ax){i:Nat}(b:ops[i]?=V g):(C.getD i []).Nodup:=by
 have a:=Kx h b;simp only[I5,kh]at a;exact kQ a.2
theorem QQ(h:En md ops M C=Ax):∀i j d,i≠j->Dv ops i=V d->Dv ops j≠V d:=by
 intro i j d e b a;have f:=Tf a;have c:ops[j]?=V ops[j]:=lO f;have g:=(SH h c (Tf b) (qV e) b).1;rw[Dv,c]at a;exact g a
theorem QC(h:En md ops M C=Ax)(m:q.size=ops.size)(n:CK md ops q):∀(i:Nat) (o:Bk),ops[i]?=V o->(∀e∈o.after,A3 md e=Ax->q.getD e.on BD=Ax)->∀j,j<ops.size->FJ M i j=Ax->q.getD j BD=Ax:=by
 intro i
 induction i using Nat.strongRecOn with
 |ind i p=>
  intro o d r j f s;obtain⟨e,g,k,a⟩:=dF h d f s;have b:=r e g k
  rcases a with rfl|a
  ·exact b
  ·have t:e.on<ops.size:=by
    rcases mU e.on q.size with c|c
    ·rw[<-m];exact c
    ·simp[lI c]at b
   have l:ops[e.on]?=V ops[e.on]:=lO t;exact p e.on (NT h d e g k) _ l (n e.on _ l b) j f a
theorem FK.iX{L:List Nat}(h:FK md ops q L)(c:En md ops M C=Ax)(g:Bx md ops q=[]):L.Perm (AA ops.size):=by
 have i:∀j,j<ops.size->q.getD j BD=Ax:=by
  intro j
  induction j using Nat.strongRecOn with
  |ind j k=>
   intro a
   cases l:q.getD j BD
   ·exfalso
    have b:ops[j]?=V ops[j]:=lO a;have:j∈Bx md ops q:=mem_ready.2 ⟨getD_in (by rw[h.size];exact a) l,_,b,λe d f=>k e.on (NT c b e d f) (Nat.lt_trans (NT c b e d f) a)⟩;rw[g]at this
    cases this
   ·rfl
 refine(nz h.nd nu).2 (λj=>?_);rw[lE];exact⟨h.lt,λa=>(h.a7 j).2 (i j a)⟩
theorem V9(I:(Nat->Bool)->(Nat->J)->O->Prop)(m:B6)(q:En md ops M C=Ax)(Y:∀c a N w,Q (.panic c) a w->Q (.panic c) N w)
  (Z:∀i o,ops[i]?=V o->∀D f w,I D f w->D i=BD->(∀j,j<ops.size->FJ M i j=Ax->D j=Ax)->wpOp P ops Q i (EU o (CJ ops f (C.getD i []) m) (λv F=>I (Ns D i) (J5 f i v) F)) (CJ ops f (C.getD i []) m) w)
  (hE:∀D f w,I D f w->(∀j,j<ops.size->D j=Ax)->Q .normal (CJ ops f (AA ops.size) m) w):
  ∀(y:Nat) (l:Array Bool) (L:List Nat) (D:Nat->Bool) (f:Nat->J) (w:O),FK md ops l L->(∀j,D j=Ax↔j∈L)->I D f w->L.length+y=ops.size->wpAny P md ops Q y l (CJ ops f L m) w:=by
 have R:∀(l:Array Bool) (L:List Nat) (D:Nat->Bool) (f:Nat->J) (w:O),FK md ops l L->(∀j,D j=Ax↔j∈L)->I D f w->Bx md ops l=[]->Q .normal (CJ ops f L m) w:=by
  intro l L D f w g s u x;have A:=g.iX q x;rw[QI (QQ q) A];exact hE D f w u (λj r=>(s j).2 (A.mem_iff.2 (lE.2 r)))
 have ab:∀(l:Array Bool) (L:List Nat),FK md ops l L->L.length=ops.size->Bx md ops l=[]:=λl L h G=>h.ew G
 have ac:=Y2 q;intro y
 induction y with
 |zero=>
  intro l L D f w g s u G;have x:=ab l L g Ω;exact⟨x,R l L D f w g s u x⟩
 |succ y ih=>
  intro l L D f w g s u G;refine⟨λx=>R l L D f w g s u x,λi S=>?_⟩;obtain⟨ae,o,p,af⟩:=mem_ready.1 S
  have B:i∉L:=λh=>by
   have:=(g.a7 i).1 h;rw[getD_both ae]at this
   cases this
  have ag:D i=BD:=by
   cases h:D i
   ·rfl
   ·exact absurd ((s i).1 h) B
  have T:∀j,j<ops.size->FJ M i j=Ax->j∈L:=λj r z=>(g.a7 j).2 (QC q g.size g.gA i o p af j r z)
  have ah:i<ops.size:=by
   rcases mU i ops.size with h|h
   ·exact h
   ·rw[lI h]at p;cases p
  have ai:∀k∈L,FJ M k i=BD:=λk t=>by
   cases z:FJ M k i
   ·rfl
   ·have H:=g.lt t;have U:ops[k]?=V ops[k]:=lO H;exact absurd ((g.a7 i).2 (QC q g.size g.gA k _ U (g.gA k _ U ((g.a7 k).1 t)) i ah z)) B
  have aj:∀j∈C.getD i [],j∈L:=λj r=>by
   have:=Ms q p r;exact T j this.1 this.2
  have A:(C.getD i []++L.filter (λj=>!(C.getD i []).contains j)).Perm L:=by
   have h1:=QG (n:=ops.size) g.nd (λj=>(C.getD i []).contains j) (λj r=>by
    have E:j∈C.getD i []:=by simpa using r
    exact⟨(Ms q p E).1,aj j E⟩)
   have h2:((AA ops.size).filter λj=>(C.getD i []).contains j).Perm (C.getD i []):=by
    refine(nz (op _ nu) (XN q p)).2 (λj=>?_);simp only[nI,lE,List.contains_eq_mem,mb];exact⟨λh=>h.2,λh=>⟨(Ms q p h).1,h⟩⟩
   exact(h2.symm.append_right _).trans h1
  have am:=Z i o p D f w u ag (λj r z=>(s j).2 (T j r z));have W:=QI (vals:=f) (QQ q) A m;rw[Qd]at W
  have K:=QA (ops:=ops) o (λcs b=>Region.noSelect_spec ac i o cs b p) f (L.filter (λj=>!(C.getD i []).contains j)) (CJ ops f (C.getD i []) m) (λk t d hd=>by
   rw[nI]at t;have H:=g.lt t.1;intro ap
   have:=(SH q p H (show i≠k from λe=>B (by rw[e];exact t.1)) hd).2 ap (λE=>by
    have h9:(C.getD i []).contains k=Ax:=by simpa using E
    have X:=t.2;rw[h9]at X
    cases X)
   rw[ai k t.1]at this
   cases this)
  rw[W]at K;have ar:=ZV (P:=P) (Q:=Q) p (by rw[NI,NI]) K.1 K.2 Y am;refine wpOp_mono (λN F hK=>?_) ar;obtain⟨v,rfl,av⟩:=hK;have aw:=g.add S
  have ax:(CJ ops f L m).put o.dst v=CJ ops (J5 f i v) (L++[i]) m:=by
   have ay:CJ ops f L m=CJ ops (J5 f i v) L m:=Ql L m (λj r=>by
    unfold J5
    rw[j7 (show¬j=i from λe=>B (by rw[<-e];exact r))])
   rw[Qd, <-ay];simp[CJ,Dv,p,J5]
  rw[ax];refine ih _ (L++[i]) (Ns D i) _ F aw (λj=>?_) av (by rw[jU,lr];omega);unfold Ns;rw[m7,nc,s j,kY,kH];exact Or.comm
end
section
variable {P:Program} {l:List Oper} {Q:Exit->Act->World->Prop} {M:List Nat} {C:List (List Nat)}
def eV(l:List Bk)(M:List Nat)(C:List (List Nat)):Bool:=En .any l.toArray M C
theorem U2{d:B6}(F:Nat->J->O->Prop)(M:List Nat)(C:List (List Nat))(z:P.follows .mixedOrders=Ax)(E:eV l M C=Ax)
  (hF:∀j v W p,W.grownBy p Z->F j v W->F j v p)
  (G:JJ P l Q (λW=>h.grownBy W Z) (λW p=>W.grownBy p Z) F d 0 C l)
  (H:∀W,h.grownBy W Z->Hg l.toArray F W (λd=>Q .normal d W) (AA l.toArray.size) d):(Code.region a l.toArray Ax).wp P Q d h:=by
 have s:En .any l.toArray M C=Ax:=E;refine wp_region_noPanic (wp_region_any z ?_)
 have I:FK .any l.toArray (Array.replicate l.toArray.size BD) []:=
  ⟨List.nodup_nil,λj=>⟨λb=>(by cases b),λb=>(by rw[BA]at b;cases b)⟩,Δ,λj S _ u=>(by rw[BA]at u;cases u)⟩
 have T:∀{A B D:O},A.grownBy B Z->B.grownBy D Z->A.grownBy D Z:=λb k=>⟨k.os.trans b.os,k.tape.trans b.tape,k.output.trans b.output,j8 b.size k.size,λi q w=>(k.block i (jY q b.size) w).trans (b.block i q w)⟩
 refine V9 (P:=P) (Q:=NoPanic Q) (md:=.any) (λD m W=>h.grownBy W Z/\∀j,D j=Ax->F j (m j) W) d s (λc d U h b=>b) (λi o r D m W g x L=>?_) (λD m W g x=>?_) l.toArray.size _ [] (λ_=>BD) (λ_=>undef) h.drew I (λj=>Δ) ⟨⟨rfl,rfl,rfl,jS _,λ_ _ _=>rfl⟩,λj f=>by cases f⟩ Δ
 ·have q:i<l.toArray.size:=by
   rcases mU i l.toArray.size with b|b
   ·exact b
   ·rw[lI b]at r;cases r
  have N:C[i]?=V (C.getD i []):=by
   have:i<C.length:=by rw[am s];exact q
   simp[List.getD,this]
  have y:=Ri l C 0 G i o _ (by simpa using r) N W g.1;rw[mx]at y
  have R:=NX (K:=λd=>wpOp P l.toArray (NoPanic Q) i (EU o d (λv n=>W.grownBy n Z/\h.grownBy n Z/\F i v n)) d W) m (C.getD i []) d (λj f=>g.2 j (by
   have:=Ms s r f
   exact L j this.1 this.2)) y
  refine Wi (λv n t=>⟨t.2.1,λj f=>?_⟩) R;unfold Ns at f;unfold J5
  by_cases e:j=i
  ·rw[ke e,e];exact t.2.2
  ·rw[j7 e]
   have:(j==i)=BD:=by simpa using e
   rw[this,pI]at f;exact hF j _ W n t.1 (g.2 j f)
 ·exact NX (K:=λd=>NoPanic Q .normal d W) m _ d (λj f=>g.2 j (x j (lE.1 f))) (H W g.1)
variable {F:Nat->Value->Prop} {G:(Nat->Bool)->(Nat->Value)->World->Prop} {a:Act}
end
end
section
open Go Go.RowKit
theorem Kh{P:BL}{K:B6->O->Prop}(L:B0 g (yielded j l.tmps)=Ax)(s w:Operand)(t:Y)
  (y:g.op=.call {callee:=.builtin .append,args:=#[s,w],argTypes:=#[t,t]})
  (m:Nat)(e:Y)(i:B3)(p:J)(c q:Nat)(A:P.underlying t=V (.slice e))(B:P.info? e=V i)(M:i.zero=V p)
  (N:i.size=c)(Q:i.bytes=q)(R:p.cells.size=c)(S:0<c)
  {v:J}(C:l.eval s=v)(r:h.ownsRow m e c v a z)
  (D:l.eval w=b)(n:Ai h c b f E)(T:∀u∈E,u.oneCell'=Ax)
  (U:a+f<=BR)(W:(a+f)*q<=140737488355328)(X:m<=h.heap.size)
  (F:∀k o,o.ownsRow m e c k (a+f) (z++E)->h.grownBy o v.ownBlock->(k.ownBlock=v.ownBlock\/k.ownBlock=V h.heap.size)->K (l.put g.dst k) o):
  if B0 g (yielded j l.tmps)=Ax then Oper.wp P g l h K d else x:=by
 rw[ke L];obtain⟨G,hm,n⟩:=n
 rcases n with⟨rfl,rfl⟩|⟨⟨aa,ab,H⟩,ac,rfl,ad,hc⟩
 ·have af:E=[]:=kV (by simpa using G);subst af;have ag:=run_append_owned_none (P:=P) (w:=h) m t g.type e i c A B v a z r;unfold Oper.wp;simp[execOp,y,resolve,invoke,builtin,C,D,ag,Result.andThen];exact F v h (by simpa using r) ⟨rfl,rfl,rfl,jS _,λ_ _ _=>rfl⟩ (.inl rfl)
 ·obtain⟨k,o,n,h2,h3,_,h5⟩:=run_append_own_at (P:=P) h m t g.type e i p c q A B M N Q R S v a z r ⟨aa,ab,H⟩ f ac E G (λak u I=>by
   have al:f≠0:=by
    rintro rfl;have:=(jX.1 I).1;omega
   obtain rfl:H=Z:=ad al;have:=hc ak u I;unfold Addr.add
   split
   ·subst_vars;simpa using this
   ·exact this) T U W X
  unfold Oper.wp execOp;simp only[y,resolve,invoke,builtin,Sem.run_bind,Sem.run_pure,Result.andThen_ok,pD,qy,qH,C,D,n];exact F k o h2 h3 h5
end
