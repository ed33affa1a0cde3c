import Derived.Test.YtfmnlpedhgficaaGreatDoorK32
import Derived.Conc.Holds
import Derived.Test.YtfmnlpedhgficaaGreatDoorTie
import Derived.Test.YtfmnlpedhgficaaGreatDoorCards
import Derived.JoinedTies
set_option maxRecDepth 100000
set_option maxHeartbeats 8000000
set_option linter.all false
open Go.Value renaming int->U,slice->Y,bool->a5,agg->a9,pointer->bi,tuple->ci,iface->em
open Go.IntKind renaming i64->O
open Go.Obj renaming cells->ac
open Go.Ending renaming returned->be
open Go.Proofs.YtfmnlpedhgficaaGreatDoor
open Bool renaming false->Bz,true->AT
open Go renaming Addr->ajF,TypeId->TO,Value->so,World->AS
open Go.DataW renaming trod->alb
open List renaming getElem?_eq_getElem->ajK,range->ajv
open Option renaming none->ns,some->an
namespace Go.Proofs
def Md{p:Prop}(h:p:=by simp at gt;subst gt;exact⟨none,0,[],rfl,.inl ⟨rfl,rfl⟩,av _,dk _,λh=>absurd h (Nat.lt_irrefl _)⟩):p:=h
end Go.Proofs
namespace Go.Proofs.Q0
open Go.Proofs.Tryz
variable{a:ajF}{c n:Nat}{A:Option ajF}
section
open Go.ChangeShapes Go.WideShapes Go.ChangeAt Go.RowKit Go.Joins Go.Deep aL Go.Proofs.Q0.Open
def tT(W:AS)(A:Option ajF)(c:Nat):Prop:=(A=ns/\c=0)\/∃a,A=an a/\(c=0\/∃cs t f,W.heap[a.block]?=an (.cells cs t f))
def QY[ag]{ts:List Nat}{W:AS}{A:Option ajF}{n c:Nat}(h:tT W A c)(b:n<=c):VR (ff ts W.heap) (.slice A n c) (.slice A n c):=by
 rcases h with⟨rfl,rfl⟩|⟨a,rfl,rfl|⟨e,t,f,h⟩⟩
 ·exact .dV _ _
 ·obtain rfl:n=0:=by omega
  exact .empty
 ·exact .slice _ _ ⟨Eh h,rfl,rfl⟩
structure xo(W:AS)(A:Option ajF)(c:Nat)(xs:List Int):Prop where
 gC:tT W A c
 le:xs.length<=c
 cm:c<=maxLen
 rd:bB W W.heap.size A xs
 bJ:bytes xs
structure pk(W:AS)(A:Option ajF)(c:Nat)(ls:List (List Int)):Prop where
 gC:tT W A c
 le:ls.length<=c
 cm:c<=maxLen
 rd:0<ls.length->∃b o,A=an ⟨b,o,ns⟩/\b<W.heap.size/\∀i,i<ls.length->∃A' c',W.cell? ⟨b,o+i,ns⟩=an (.slice A' (aR ls i).length c')/\xo W A' c' (aR ls i)
def Zl{k:IntKind}{w:AS}{j:List Int}{len:Nat}(q:len<=j.length)(f:∀i,i<j.length->w.cell? (a.add i)=an (.int k (j.getD i 0))):
  0<len->∃b o,a=⟨b,o,ns⟩/\b<w.heap.size/\∀i,i<len->w.cell? ⟨b,o+i,ns⟩=an (.int k ((j.take len)[i]?.getD 0)):=by
 intro h0;obtain⟨b,off,h⟩:=a;have hc:=f 0 aa;have g:h=ns:=by simpa[Addr.add] using World.cell?_spot hc
 subst g;refine⟨b,off,rfl,?_,λi hi=>?_⟩
 ·rcases dg b w.heap.size with m|l
  ·omega
  ·simp[Addr.add,World.cell?,l] at hc
 ·have h1:=f i aa
  have e:(⟨b,off,ns⟩:ajF).add i=⟨b,off+i,ns⟩:=by
   unfold Addr.add;split
   ·simp
   ·rfl
  rw[e] at h1;rw[h1];simp[hi]
def nG(a:ajF)(n:Nat):(a.add n).block=a.block:=by unfold Addr.add;split<;>rfl
section
variable{H:Type}{enc:TO×so->H}{W:AS}{base:Nat}{v:so}{d:DataW H}{p:List MemPlace}
def Sd{V:Nat->so}(h:∀i,i<c->W.cell? (a.add i)=an (V i)):tT W (an a) c:=by
 refine .inr ⟨a,rfl,?_⟩;rcases jJ c with h0|h0
 ·omega
 ·obtain⟨b,t,f,h1,_⟩:=cells_of_cell (h 0 h0);exact .inr ⟨b,t,f,h1⟩
def abB{y:DataW H×List MemPlace}(m:alb enc Tryz.prog W 0 (λ_=>AT) AT n 62 [v]=an y):∃A c xs,v=.slice A xs.length c/\xo W A c xs:=by
 rcases ChangeShapes.open_ints underlying62 underlying5 ah m with⟨f,_⟩|⟨x,l,c,h,f,_,q,hm,j,_,g,k⟩
 ·simp at f;subst f;exact⟨ns,0,[],rfl,.inl ⟨rfl,rfl⟩,av _,dk _,bB.nil _ _ _,λx r=>by cases r⟩
 ·simp at f;subst f;simp only[if_true] at j;have hlen:(h.take l).length=l:=eY;refine⟨an x,c,h.take l,by simp[hlen],Sd (V:=λi=>.int .u8 (h.getD i 0)) λi hi=>g i aa,by rw[hlen];exact q,hm,?_,λz j=>bounds_u8 (k z (List.mem_of_mem_take j))⟩;intro h0;obtain⟨b,o,e,s,hc⟩:=Zl (len:=l) aa g (by rw[hlen] at h0;exact h0);subst e;exact⟨b,o,rfl,s,λi hi=>hc i (by rw[hlen] at hi;exact hi)⟩
def aaq{y:DataW H×List MemPlace}(x:alb enc Tryz.prog W 0 (λ_=>AT) AT n 34 [v]=an y):∃A c ls,v=.slice A ls.length c/\pk W A c ls:=by
 rcases open_slice1 underlying34 ah x with⟨gt,_⟩|⟨a,len,z,m,k,V,D,Pl,gt,_,B,hm,g,_,q⟩
 ·exact Md
 ·simp at gt;subst gt;simp only[if_true] at g;subst g
  have j:∀i,i<len->∃xs:List Int,∃b e,V i=.slice b xs.length e/\xo W b e xs:=λi hi=>by obtain⟨b,e,xs,h1,r⟩:=abB (q i aa).2;exact⟨xs,b,e,h1,r⟩
  have s:∀i,∃xs:List Int,i<len->∃b e,V i=.slice b xs.length e/\xo W b e xs:=λi=>by
   by_cases hi:i<len
   ·obtain⟨xs,h⟩:=j i hi;exact⟨xs,λ_=>h⟩
   ·exact⟨[],λh=>absurd h hi⟩
  obtain⟨L,C⟩:=Classical.axiomOfChoice s;have hlen:((ajv len).map L).length=len:=aj
  have l:∀i,i<len->aR ((ajv len).map L) i=L i:=λi hi=>by unfold aR;rw[List.getElem?_map,List.getElem?_range hi];rfl
  refine⟨an a,m,(ajv len).map L,aj,Sd (V:=V) λi hi=>(q i hi).1,by rw[hlen];exact B,hm,λh0=>?_⟩;rw[hlen] at h0⊢;obtain⟨I,t,f,u,w,_⟩:=cells_of_cell (q 0 aa).1;rw[nG] at u
  have o:a.spot=ns:=by unfold Addr.add at w;simpa using w
  obtain⟨E,F,G⟩:=a;simp only at o u;subst o;refine⟨E,F,rfl,(bE.1 u).1,λi hi=>?_⟩;obtain⟨b,e,h1,r⟩:=C i hi;have hc:=(q i aa).1;rw[h1] at hc;rw[l i hi];refine⟨b,e,?_,r⟩;rw[<-hc];congr 1;unfold Addr.add;split<;>simp_all
structure xp(W:AS)(A:Option ajF)(c:Nat)(cs:List df):Prop where
 gC:tT W A c
 le:cs.length<=c
 cm:c<=maxLen
 rd:0<cs.length->∃b o,A=an ⟨b,o,ns⟩/\b<W.heap.size/\∀i x,cs[i]?=an x->∃A' c',W.rangeAt b (o+i*5) [U O x.W,U O x.H,.bool x.I,U O x.q,.slice A' x.ls.length c']/\pk W A' c' x.ls
def abC{fuel:Nat}{l:List so}{z:DataW H×List MemPlace}(i:l.length=5)(C:alb enc Tryz.prog W 0 (λ_=>AT) AT fuel 36 l=an z):
  ∃x y I q A c ls,l=[U O x,U O y,.bool I,U O q,.slice A ls.length c]/\pk W A c ls:=by
 obtain⟨xs,m,_,_,_,hlen,b⟩:=DataW.trod_struct underlying36 C;have j:Tryz.prog.cellsOf 3=1:=ah;have D:Tryz.prog.cellsOf 4=1:=ah;have E:Tryz.prog.cellsOf 34=1:=ah
 obtain⟨c0,e,f,g,h,rfl⟩:∃c0 e f g h,l=[c0,e,f,g,h]:=by
  match l,i with
  |[c0,e,f,g,h],_=>exact⟨c0,e,f,g,h,rfl⟩
 have hlen:xs.length=5:=hlen;have k:alb enc Tryz.prog W 0 (λ_=>AT) AT m 3 (([c0,e,f,g,h].drop 0).take (Tryz.prog.cellsOf 3))=xs[0]?:=b 0 _ rfl;rw[j,ajK aa] at k;have q1:alb enc Tryz.prog W 0 (λ_=>AT) AT m 3 (([c0,e,f,g,h].drop 1).take (Tryz.prog.cellsOf 3))=xs[1]?:=b 1 _ rfl;rw[j,ajK aa] at q1;have o:alb enc Tryz.prog W 0 (λ_=>AT) AT m 4 (([c0,e,f,g,h].drop 2).take (Tryz.prog.cellsOf 4))=xs[2]?:=b 2 _ rfl;rw[D,ajK aa] at o;have r:alb enc Tryz.prog W 0 (λ_=>AT) AT m 3 (([c0,e,f,g,h].drop 3).take (Tryz.prog.cellsOf 3))=xs[3]?:=b 3 _ rfl;rw[j,ajK aa] at r;have s:alb enc Tryz.prog W 0 (λ_=>AT) AT m 34 (([c0,e,f,g,h].drop 4).take (Tryz.prog.cellsOf 34))=xs[4]?:=b 4 _ rfl;rw[E,ajK aa] at s;obtain⟨x,t,_,_⟩:=DataW.trod_int underlying3 k;obtain⟨y,u,_,_⟩:=DataW.trod_int underlying3 q1;obtain⟨I,w,_⟩:=DataW.trod_bool underlying4 o;obtain⟨q,B,_,_⟩:=DataW.trod_int underlying3 r;simp at t u w B;subst t u w B;obtain⟨A,c,ls,rfl,h1⟩:=aaq s;exact⟨x,y,I,q,A,c,ls,rfl,h1⟩
def abD{y:DataW H×List MemPlace}(J:alb enc Tryz.prog W 0 (λ_=>AT) AT n 22 [v]=an y):∃A c cs,v=.slice A cs.length c/\xp W A c cs:=by
 have z:Tryz.prog.cellsOf 36=5:=ah;rcases open_slice underlying22 J with⟨gt,_⟩|⟨a,len,K,m,k,D,Pl,gt,_,M,hm,l,_,E⟩
 ·exact Md
 ·simp at gt;subst gt;simp only[if_true] at l;subst l;rw[z] at E
  have o:∀i,i<m->∃x:df,∃b e,(∀j v,([U O x.W,U O x.H,.bool x.I,U O x.q,.slice b x.ls.length e]:List so)[j]?=an v->W.cell? ((a.add (i*5)).add j)=an v)/\pk W b e x.ls:=λi hi=>by obtain⟨N,h1,w⟩:=E i hi;obtain⟨_,hlen,hc⟩:=World.cells?_some h1;obtain⟨x,y,I,q,b,e,P,rfl,Q⟩:=abC hlen w;exact⟨⟨x,y,I,q,P⟩,b,e,λj v u=>(hc j (by have:=(ia.1 u).1;simpa using this)).trans u,Q⟩
  have B:∀i,∃x:df,i<m->∃b e,(∀j v,([U O x.W,U O x.H,.bool x.I,U O x.q,.slice b x.ls.length e]:List so)[j]?=an v->W.cell? ((a.add (i*5)).add j)=an v)/\pk W b e x.ls:=λi=>by
   by_cases hi:i<m
   ·obtain⟨x,h⟩:=o i hi;exact⟨x,λ_=>h⟩
   ·exact⟨⟨0,0,Bz,0,[]⟩,λh=>absurd h hi⟩
  obtain⟨L,F⟩:=Classical.axiomOfChoice B;have hlen:((ajv len).map L).length=len:=aj
  have r:0<m->∃cs t f,W.heap[a.block]?=an (.cells cs t f)/\a.spot=ns:=λh0=>by obtain⟨b,e,h1,_⟩:=F 0 h0;obtain⟨cs,t,f,g,G,_⟩:=cells_of_cell (h1 0 _ rfl);rw[nG,nG] at g;refine⟨cs,t,f,g,?_⟩;unfold Addr.add at G;simpa using G
  refine⟨an a,m,(ajv len).map L,aj,.inr ⟨a,rfl,?_⟩,by rw[hlen];exact M,hm,λh0=>?_⟩
  ·rcases jJ m with h0|h0
   ·exact .inl h0
   ·obtain⟨cs,t,f,g,_⟩:=r h0;exact .inr ⟨cs,t,f,g⟩
  rw[hlen] at h0;obtain⟨cs,t,f,g,s⟩:=r aa;obtain⟨R,S,T⟩:=a;simp only at s g;subst s;refine⟨R,S,rfl,(bE.1 g).1,λi x hi=>?_⟩;have C:i<len:=by have:=(ia.1 hi).1;omega
  rw[List.getElem?_map,List.getElem?_range C] at hi;obtain rfl:L i=x:=by simpa using hi
  obtain⟨b,e,h1,w⟩:=F i aa;refine⟨b,e,λj v u=>?_,w⟩;rw[<-h1 j v u];congr 1;unfold Addr.add;split<;>split<;>simp_all
end
def tU(W:AS)(ts:List Nat)(a:ajF):ajF:={a with block:=W.heap.size+ts.idxOf a.block}
abbrev Tj(ts:List Nat)(W wg:AS):Prop:=wg.heap=@aL.startHeap (cj (dR W.heap.size ts.length)) (λ_=>trivial) Gz.prog.globals.size ts W.heap
section
variable{W wg:AS}{a1 a2:ajF}{ts:List Nat}(hs:St W a1 a2)(hw:Tj ts W wg)
include hw in
def Tj.size:wg.heap.size=W.heap.size+ts.length:=by rw[hw];exact@vu (cj (dR W.heap.size ts.length)) ts W.heap _ (λ_=>trivial)
include hs in
def St.Ca{v:so}(h:W.cell? a=an v)(i:∀n,v≠.int .u64 n):a.block≠Gz.prog.globals.size:=λe=>by obtain⟨cs,t,f,g,_,b⟩:=cells_of_cell h;rw[e,show Gz.prog.globals.size=5 from BF,hs.hG] at g;cases g;rw[Array.getElem?_map] at b;obtain⟨_,_,b⟩:=j6.1 b;exact i _ b.symm
include hs hw in
def pn{k:IntKind}{n:Int}(h:W.cell? a=an (.int k n))(b:k≠.u64):wg.cell? a=an (.int k n):=
 @zK (cj (dR W.heap.size ts.length)) ts W.heap _ (λ_=>trivial) W wg rfl hw a _ h (hs.Ca h λ_ e=>by cases e;exact b rfl) (@VR.int (cj (dR W.heap.size ts.length)) _ k n)
include hs hw in
def aga{b:Bool}(h:W.cell? a=an (.bool b)):wg.cell? a=an (.bool b):=
 @zK (cj (dR W.heap.size ts.length)) ts W.heap _ (λ_=>trivial) W wg rfl hw a _ h (hs.Ca h λ_ e=>by cases e) (@VR.bool (cj (dR W.heap.size ts.length)) _ b)
include hs hw in
def Se(h:W.cell? a=an (.slice A n c))(b:tT W A c)(f:n<=c):wg.cell? a=an (.slice A n c):=
 @zK (cj (dR W.heap.size ts.length)) ts W.heap _ (λ_=>trivial) W wg rfl hw a _ h (hs.Ca h λ_ e=>by cases e) (@QY (cj (dR W.heap.size ts.length)) ts W A n c b f)
include hs hw in
def Ud{b:ajF}{u:TO}(h:W.cell? a=an (.iface u (.pointer (an b))))(f:b.block∈ts):wg.cell? a=an (.iface u (.pointer (an (tU W ts b)))):=by
 have e:mv W.heap.size ts (.iface u (.pointer (an b)))=.iface u (.pointer (an (tU W ts b))):=by simp[mv,f,tU]
 have:=@zK (cj (dR W.heap.size ts.length)) ts W.heap _ (λ_=>trivial) W wg rfl hw a _ h (hs.Ca h λ_ e=>by cases e) (by
  rw[e];refine@VR.iface (cj (dR W.heap.size ts.length)) _ u _ _ (@VR.ptr (cj (dR W.heap.size ts.length)) _ _ _ ⟨@Yz (cj (dR W.heap.size ts.length)) _ _ _ f,rfl,rfl⟩) (.inr (.inl ⟨_,rfl,.inr ⟨?_,?_⟩⟩))
  ·show W.heap.size<=W.heap.size+_;omega
  ·have:=List.idxOf_lt_length_of_mem f;show W.heap.size+_<_;omega)
 rw[e] at this;exact this
include hw in
def Ue{b:ajF}(f:b.block∈ts):dz wg (tU W ts b):=by refine⟨.stringIter default 0,?_,(λ_ _ e=>by cases e),λ_ _ _ e=>by cases e⟩;rw[hw];have:=List.idxOf_lt_length_of_mem f;exact@Ej (cj (dR W.heap.size ts.length)) ts W.heap _ (λ_=>trivial) _ (by show W.heap.size<=W.heap.size+_;omega) (by show W.heap.size+_<_;omega)
include hs hw in
def ae8{xs:List Int}(h:xo W A c xs):bB wg wg.heap.size A xs:=λh0=>by obtain⟨b,o,e,f,hc⟩:=h.rd h0;have:=hw.size;exact⟨b,o,e,aa,λi hi=>pn hs hw (hc i hi) al⟩
include hs hw in
def agb{ls:List (List Int)}(h:pk W A c ls):dH wg wg.heap.size A ls:=λh0=>by obtain⟨b,o,e,k,hc⟩:=h.rd h0;have:=hw.size;refine⟨b,o,e,aa,λi hi=>?_⟩;obtain⟨g,j,h1,f⟩:=hc i hi;exact⟨g,j,Se hs hw h1 f.gC f.le,ae8 hs hw f,f.le,f.cm⟩
include hs hw in
def ahh{cs:List df}(h:xp W A c cs):iw hQ wg wg.heap.size A cs:=λh0=>by
 obtain⟨b,o,e,q,hc⟩:=h.rd h0;have:=hw.size;refine⟨b,o,e,aa,λi x hi=>?_⟩;obtain⟨l,m,h1,g⟩:=hc i x hi;refine⟨_,⟨l,m,rfl,g.le,g.cm,agb hs hw g⟩,λj v f=>?_⟩;have k:=h1 j v f
 match j,f with
 |0,f=>cases f;exact pn hs hw k al
 |1,f=>cases f;exact pn hs hw k al
 |2,f=>cases f;exact aga hs hw k
 |3,f=>cases f;exact pn hs hw k al
 |4,f=>cases f;exact Se hs hw k g.gC g.le
 |_+5,f=>cases f
def pk.bJ{ls:List (List Int)}(h:pk W A c ls)(i:Nat)(hi:i<ls.length):bytes (aR ls i):=by obtain⟨_,_,_,_,hc⟩:=h.rd aa;obtain⟨_,_,_,b⟩:=hc i hi;exact b.bJ
include hs hw in
def agc(h1:a1.block∈ts)(b:a2.block∈ts):gw wg (tU W ts a1) (tU W ts a2) wg.heap.size:=by have:=hw.size;have e:=(bE.1 hs.hG).1;exact⟨Ud hs hw hs.e1 h1,Ud hs hw hs.e2 b,by show 2<_;omega,by show 3<_;omega⟩
include hs hw in
def aiw(hq:Lib.TabIs Tryz.prog W nH .i64 [1,2,4,8,12,16,24,32,48,64,96,128,192,256,384,512]):Tb wg:=by have:=hw.size;have b:=(bE.1 hs.hG).1;refine⟨aa,λq h=>?_⟩;rw[pn hs hw (hq.cell S8 q h) al];unfold step steps;rw[List.getD_eq_getElem?_getD]
def xp.bJ{cs:List df}(h:xp W A c cs)(i:Nat)(x:df)(hi:cs[i]?=an x)(j:Nat)(b:j<x.ls.length):bytes (aR x.ls j):=by obtain⟨_,_,_,_,hc⟩:=h.rd (by have:=(ia.1 hi).1;omega);obtain⟨_,_,_,e⟩:=hc i x hi;exact e.bJ j b
include hs hw in
def aix(hq:Lib.TabIs Tryz.prog W wE .u8 [0,1,56,2,57,49,28,3,61,58,42,50,38,29,17,4,62,47,59,36,45,43,51,22,53,39,33,30,24,18,12,5,63,55,48,27,60,41,37,16,46,35,44,21,52,32,23,11,54,26,40,15,34,20,31,10,25,14,19,9,13,8,7,6]):Tz wg:=by have:=hw.size;have b:=(bE.1 hs.hG).1;exact⟨by show 1<_;omega,pn hs hw (hq.cell B7 0 al) al,pn hs hw (hq.cell B7 1 al) al,pn hs hw (hq.cell B7 3 al) al⟩
end
end
section
open Go
def j00:(Rows.fnExactDecodeLayeredRow.wf (OpenSpec.ofChange Rows.fnExactDecodeLayeredSpec))=AT:=ah
def j01:(laidOutB Tryz.prog)=AT:=ah
def j02:(mapsRowed Tryz.prog)=AT:=ah
def j03:(Tryz.f3.params.all (Tryz.prog.readableRec ·))=AT:=ah
def j04:(namedTie Tryz.prog Rows.fnExactDecodeLayeredRow.named Rows.fnExactDecodeLayeredSpec.vars)=AT:=ah
def j05:((Rows.fnExactDecodeLayeredRow.stops==[]))=AT:=ah
def j06:((Tryz.prog.stops==[]))=AT:=aE
def j07:((Rows.fnExactDecodeLayeredRow.knobs==[]))=AT:=ah
def j08:((Tryz.prog.stopKnobs==[]))=AT:=aE
def j09:((Rows.fnExactDecodeLayeredRow.inPlace==Tryz.prog.inPlace 3))=AT:=ah
def j10:((Rows.fnExactDecodeLayeredRow.unfollowed==Tryz.prog.unfollowed 3))=AT:=ah
def j11:((Rows.fnExactDecodeLayeredRow.recurses==Tryz.prog.recurses 3))=AT:=ah
def j12:((Rows.fnExactDecodeLayeredRow.named==Tryz.prog.varsNamed 3))=AT:=ah
def j13:((Rows.fnExactDecodeLayeredRow.maps==(Tryz.f3.params.toList++Rows.fnExactDecodeLayeredSpec.plain.varTypes Tryz.prog).any (Tryz.prog.mapsRec ·)))=AT:=ah
def j14:((Rows.fnExactDecodeLayeredRow.ifaces==(Tryz.f3.params.toList++Rows.fnExactDecodeLayeredSpec.plain.varTypes Tryz.prog).any (Tryz.prog.ifacesRec ·)))=AT:=ah
def j15:((Rows.fnExactDecodeLayeredRow.mapsOut==Tryz.prog.mapsAmong Tryz.f3.resultTypes.toList))=AT:=aE
def j16:((Rows.fnExactDecodeLayeredRow.loops==(Tryz.f3.params.toList++Rows.fnExactDecodeLayeredSpec.plain.varTypes Tryz.prog).any (Tryz.prog.loopsFrom ·)))=AT:=ah
def j17:((Rows.fnExactDecodeLayeredRow.wideKeys==(Tryz.f3.params.toList++Rows.fnExactDecodeLayeredSpec.plain.varTypes Tryz.prog++Tryz.f3.resultTypes.toList).any (Tryz.prog.wideKeysFrom ·)))=AT:=ah
def j18:(Rows.fnExactDecodeLayeredSpec.vars.all (Tryz.prog.varReadable ·))=AT:=aE
def j19:(Tryz.f3.resultTypes.all λt=>Tryz.prog.readableRec t&&decide (t<Tryz.prog.types.size))=AT:=ah
def j20:((Rows.fnExactDecodeLayeredRow.ifacesOut==Tryz.f3.resultTypes.toList.any (Tryz.prog.ifacesRec ·)))=AT:=aE
def j21:((Rows.fnExactDecodeLayeredRow.loopsOut==Tryz.f3.resultTypes.toList.any (Tryz.prog.loopsFrom ·)))=AT:=aE
def j22:((Rows.fnExactDecodeLayeredRow.plainKeys==Tryz.prog.plainKeys))=AT:=aE
def j23:(Rows.fnExactDecodeLayeredRow.shortTexts.isNone)=AT:=ah
def j24:(Tryz.prog.stopsHeard)=AT:=ah
def j25:(Tryz.prog.mayEnter)=AT:=ah
def j26:((Rows.fnExactDecodeLayeredRow.lifted==Tryz.prog.liftsFinal))=AT:=ah
def j27:((Tryz.prog.make==an Rows.fnExactDecodeLayeredRow.make))=AT:=ah
def j28:((Rows.fnExactDecodeLayeredRow.kinds==(if Rows.fnExactDecodeLayeredRow.domain.isEmpty then[] else Tryz.f3.params.toList.map λt=>match Tryz.prog.underlying t with|some (.int k)=>an k|_=>ns)))=AT:=aE
def j29:((Rows.fnExactDecodeLayeredRow.pinned==Rows.fnExactDecodeLayeredRow.pinnedBy))=AT:=ah
def j30:((Rows.fnExactDecodeLayeredRow.veiled==(Tryz.f3.params.toList++Rows.fnExactDecodeLayeredSpec.plain.varTypes Tryz.prog++Tryz.f3.resultTypes.toList).any (Tryz.prog.veiledRec ·)))=AT:=ah
def j31:(Rows.fnExactDecodeLayeredRow.veiledFits Tryz.prog Tryz.f3.params.toList (Tryz.f3.params.toList++Rows.fnExactDecodeLayeredSpec.plain.varTypes Tryz.prog++Tryz.f3.resultTypes.toList))=AT:=ah
def dL{a b:Bool}(h:a=AT)(k:b=AT):(a&&b)=AT:=by simp_all
def ae9:joinedFacts Tryz.prog 3 Tryz.f3 Rows.fnExactDecodeLayeredSpec Rows.fnExactDecodeLayeredRow=AT:=(dL (dL (dL (dL (dL (dL (dL (dL (dL (dL (dL (dL (dL (dL (dL (dL (dL (dL (dL (dL (dL (dL (dL (dL (dL (dL (dL (dL (dL (dL (dL j00 j01) j02) j03) j04) j05) j06) j07) j08) j09) j10) j11) j12) j13) j14) j15) j16) j17) j18) j19) j20) j21) j22) j23) j24) j25) j26) j27) j28) j29) j30) j31)
end
section
open Go.ChangeShapes Go.WideShapes Go.ChangeAt Go.RowKit Go.Joins Go.Deep Go.Conc aL Go.Proofs.Q0.Open
def adu:ownKnob Tryz.prog.godebug=ns:=aE
def AG:laidOutB Tryz.prog=AT:=ah
def vr2[ag]{φ:Ren}{xs:List so}(h:∀x∈xs,VR φ x x):aw φ xs.toArray xs.toArray:=⟨rfl,λi x y b e=>by rw[b] at e;cases e;exact h x (oS (by simpa using b))⟩
def aiy:(Tryz.f3.results.toList.all λr=>match r with|.tmp _=>AT|_=>Bz)=AT:=mP
def aiz:Gz.prog.inits.idxOf? 3=ns:=mP
def aiA:ja.testBit 3=AT:=aE
def WU{W:AS}{a1 a2:ajF}(hs:St W a1 a2)(hq:Lib.TabIs Tryz.prog W nH .i64 [1,2,4,8,12,16,24,32,48,64,96,128,192,256,384,512])
  (k:Lib.TabIs Tryz.prog W wE .u8 [0,1,56,2,57,49,28,3,61,58,42,50,38,29,17,4,62,47,59,36,45,43,51,22,53,39,33,30,24,18,12,5,63,55,48,27,60,41,37,16,46,35,44,21,52,32,23,11,54,26,40,15,34,20,31,10,25,14,19,9,13,8,7,6])
  {L keep:Int}{cs:List df}(i:xp W A c cs):
  ∃M last o w' u,runNT Tryz.prog (M+1) (solo (G (Frame.enter Tryz.prog 3 #[.slice A cs.length c,U O L,U O keep] .normal) []) W) #[]=(.ended o w',u)/\
   runN Tryz.prog M (solo (G (Frame.enter Tryz.prog 3 #[.slice A cs.length c,U O L,U O keep] .normal) []) W)=.next last/\
   Go.step Tryz.prog last=.ended o w'/\Conc.Good Tryz.prog (Bh W) last o w' u:=by
 obtain⟨ts,l,w,x,m⟩:∃ts:List Nat,ts.Nodup/\a1.block∈ts/\a2.block∈ts/\∀b∈ts,b=a1.block\/b=a2.block:=by
  by_cases e:a1.block=a2.block
  ·exact⟨[a1.block],aj,aj,by simp[e],λb j=>by simp at j;exact .inl j⟩
  ·exact⟨[a1.block,a2.block],by simp[e],aj,aj,λb j=>by simpa using j⟩
 have y:Gz.prog.globals.size=5:=BF
 have q:0<((Array.range Tryz.prog.types.size).map λt=>Value.int .u64 (Int.ofNat t)).size:=by
  rw[Array.size_map,Array.size_range]
  exact Nat.lt_of_not_le λh=>by have:Nat.blt 0 Tryz.prog.types.size=AT:=ah;rw[Nat.blt_eq] at this;omega
 refine ahg ag8 (ts:=ts) (fn:=Tryz.f3) ⟨_,0,by rw[y];exact hs.hG,q⟩ l (λb j=>?_) (λg B=>?_) (Gz.mU func3 al) (λr C=>?_) aiz aiA ?_ λwg f=>?_
 ·rw[y];rcases m b j with rfl|rfl
  ·exact hs.r1
  ·exact hs.r2
 ·obtain⟨cs,t,h1⟩:=hs.uv g B;exact@OC (cj λ_=>True) _ _ _ _ _ h1
 ·have:=hU.1 aiy r (jI.2 C);cases r with|tmp t=>exact⟨t,rfl⟩|cell t _=>cases this
 ·refine@vr2 (cj (dR W.heap.size ts.length)) _ _ λz k=>?_;simp only[List.mem_cons,List.not_mem_nil,or_false] at k;rcases k with rfl|rfl|rfl
  ·exact@QY (cj (dR W.heap.size ts.length)) ts W A _ c i.gC i.le
  ·exact@VR.int (cj (dR W.heap.size ts.length)) _ _ _
  ·exact@VR.int (cj (dR W.heap.size ts.length)) _ _ _
 ·have hm:=i.le;have s:=i.cm;unfold maxLen at s;refine(WT cs.length c L keep (ahh hs f i) rfl aa i.bJ (agc hs f w x) (Ue f w) (Ue f x) (aiw hs f hq) (aix hs f k)).mono λe w' he=>?_;subst he;rfl
def adv(os:Os){args:Array so}:laidMetH Tryz.prog qH ((World.doorLaid Tryz.prog 400 os).forCall (λ_ _=>0) ⟨#[],args,[]⟩).memory:=
 laidMetH_of_parts3 (fuel:=8) (laidMet_of_run' 8 ah ah) ah ah
def WQ(os:Os)(l:os.Started)(H:Type)(enc:TO×so->H):
  ReturnsInLeavingWide {} Tryz.checked os 3 .any (λw args=>(Rows.fnExactDecodeLayeredSpec.pre enc Tryz.prog Tryz.f3 [] Bz w args/\laidMetH Tryz.prog qH w)/\sizedMet enc Tryz.prog Tryz.f3 (OpenSpec.ofChange Rows.fnExactDecodeLayeredSpec) Bz w args)
   (Rows.fnExactDecodeLayeredSpec.post enc Tryz.prog Tryz.f3 Bz AT Bz Bz):=by
 refine returnsInLeavingWide_of_good (C:=Tryz.checked) adu l
  (ChangeSpec.witness_shaped (enc:=enc) (C:=Tryz.checked) (os:=os) (X:=λw _=>laidMetH Tryz.prog qH w) Bz (World.doorLaid Tryz.prog 400 os) #[.slice ns 0 0,U O 0,U O 0] 8 rfl (World.shaped_of_RefB ah ah) ah ah ah (adv os)) ?_
 intro w tape i _ y _ V z _;obtain⟨_,_,_,Z,B,_,_,_,_,f⟩:=V;have e:Z=Tryz.f3:=aJ (B.symm.trans func3);subst e;obtain⟨⟨⟨r,J,K,hw0,_⟩,hL0⟩,_⟩:=z;have N:=DataW.Whole.of_heap (w':=w.forCall tape i) aD hw0;have P:laidMetH Tryz.prog qH (w.forCall tape i):=hL0.of_heap aD;generalize w.forCall tape i=W at y f N P;obtain⟨Q,args,vars⟩:=i;simp only at f N⊢;obtain⟨a1,a2,hs⟩:=ag5 y P;have k:∀(j:Nat) t v,Tryz.f3.params[j]?=an t->args[j]?=an v->Value.okWide Tryz.prog W .any w.heap.size t v:=f;have hW':=N;obtain⟨p,q,D,E,rfl,CC,hnd⟩:=hW';have hA:DataW.TrodAll enc Tryz.prog W 0 (λ_=>AT) AT Tryz.f3.params.toList args.toList r p:=D;have hV:DataW.TrodVars enc Tryz.prog W (λ_=>AT) [Be,we,nH] J q:=E;rw[params3] at hA k;obtain⟨v0,vs0,d0,ds0,p0,q0,aiM,rfl,rfl,h0,r0⟩:=trodAll_cons hA;obtain⟨v1,vs1,d1,ds1,p1,q1,rfl,rfl,rfl,h1,r1⟩:=trodAll_cons r0;obtain⟨v2,vs2,d2,ds2,p2,q2,rfl,rfl,rfl,h2,r2⟩:=trodAll_cons r1;obtain⟨rfl,rfl,rfl⟩:=trodAll_nil r2;obtain rfl:args=#[v0,v1,v2]:=by cases args;simp_all
 have hVB:∀W2,Below W.heap.size W W2->DataW.TrodVars enc Tryz.prog W2 (λb=>decide (b<W.heap.size)) [Be,we,nH] J q:=λW2 hb=>Below.trodVars AG hb ah hV
 obtain⟨gv0,tv0,ajk,R,dv0,F,pv0,qv0,rfl,G⟩:∃(g:Nat)(t:TO)(u:Array so)(fuel:Nat)(d:DataW H)(r:List (DataW H))(p q:List MemPlace),J=d::r/\DataW.TrodVars enc Tryz.prog W (λ_=>AT) [we,nH] r q:=by cases J with|nil=>exact hV.elim|cons d r=>obtain⟨g,t,u,fuel,p,q,_,_,_,_,h,_⟩:=hV;exact⟨g,t,u,fuel,d,r,p,q,rfl,h⟩
 obtain⟨gv1,tv1,ajl,S,dv1,dr1,pv1,qv1,rfl,hV2⟩:∃(g:Nat)(t:TO)(u:Array so)(fuel:Nat)(d:DataW H)(r:List (DataW H))(p q:List MemPlace),F=d::r/\DataW.TrodVars enc Tryz.prog W (λ_=>AT) [nH] r q:=by cases F with|nil=>exact G.elim|cons d r=>obtain⟨g,t,u,fuel,p,q,_,_,_,_,h,_⟩:=G;exact⟨g,t,u,fuel,d,r,p,q,rfl,h⟩
 obtain⟨gv2,tv2,ajm,T,dv2,pv2,rfl,_,_,_,_,_⟩:=trodVars_one hV2;have k0:=h0;have lt0:∀x∈p0,x.block<W.heap.size:=by obtain⟨m,hm⟩:=k0;exact DataW.trod_lt m _ _ _ hm
 have k1:=h1;have lt1:∀x∈p1,x.block<W.heap.size:=by obtain⟨m,hm⟩:=k1;exact DataW.trod_lt m _ _ _ hm
 have k2:=h2;have lt2:∀x∈p2,x.block<W.heap.size:=by obtain⟨m,hm⟩:=k2;exact DataW.trod_lt m _ _ _ hm
 obtain⟨_,_,_,rfl⟩:=okWide_slice underlying22 (k 0 22 v0 rfl rfl);obtain⟨aiN,U'⟩:=h0;obtain⟨A,c,u,e0,hl⟩:=abD U';obtain⟨L,rfl⟩:=okWide_int underlying3 (k 1 3 v1 rfl rfl);obtain⟨keep,rfl⟩:=okWide_int underlying3 (k 2 3 v2 rfl rfl);cases e0;clear D f E;obtain⟨M,last,o,w',t',g1,g2,g3,g4⟩:=WU (L:=L) (keep:=keep) hs (ada P) (afV P) hl;refine⟨M,last,o,w',t',g1,g2,g3,g4.mono λv⟨he,I,cM,hold⟩=>?_⟩;subst he;have s:Below W.heap.size W {w' with tape:=W.tape}:=⟨I.1,rfl,I.2,cM,hold⟩
 have hp:Rows.fnExactDecodeLayeredSpec.post enc Tryz.prog Tryz.f3 Bz AT Bz Bz W _ (.bool AT) {w' with tape:=W.tape}:=
  ⟨_,_,_,[],_,_,N,trodAll_mk1 (shut_bool underlying4 _),trodAll_cons_mk (Below.trod AG ah (of_decide_eq_true ah) k0 s lt0) (trodAll_cons_mk (Below.trod AG ah (of_decide_eq_true ah) k1 s lt1) (trodAll_cons_mk (Below.trod AG ah (of_decide_eq_true ah) k2 s lt2) trodAll_mk0)),hVB _ s,s.frame _,λh=>by cases h⟩
 have hb:=ChangeSpec.post_blind hp;exact hb
def WV:Rows.FnExactDecodeLayeredSaid:=
 OpenClaim.holds_of_wide_leaving 3 Tryz.f3 rfl rfl rfl rfl rfl rfl rfl ⟨rfl,rfl,rfl,rfl,rfl⟩ rfl rfl rfl rfl rfl ah func3 ae9
  (of_decide_eq_true ah) (by unfold Func.isWrapper;first|(rw[if_pos (by decide+kernel)];kernel_rfl)|(rw[if_neg (by decide+kernel)];exact⟨rfl,rfl⟩))
  (λos b H enc _=>WQ os b H enc)
def ahi:AT=Rows.fnExactDecodeLayeredRow.goesBy Tryz.prog:=ah
def abE{k:Looks}{p:Pinned}{s:OpenSpec}{c:OpenClaim}{kinds:List LaidKind}{b:Bool}(e:Bool×String)(g:Bool)
  (hc:c.holds p s)(hw:c.wfByText s=AT)(i:c.laidByTextAt k p kinds b)
  (l:c.start=.entering)(m:c.noBlocks=Bz/\c.again=Bz)(hm:p.checked.prog.mainIs=an (e.1,e.2.toList))(o:(!e.1&&e.2.isEmpty&&!g)=Bz)
  (q:∀f fn,p.checked.prog.funcNamed c.func=an f->p.checked.prog.funcs[f]?=an fn->g=p.checked.prog.looks []/\∀(j:Nat) t,fn.params[j]?=an t->p.checked.prog.wantsStandIn t=Bz)
  (u:AT=c.goesBy p.checked.prog):
  Claim7.holds p (.plain s) {stood:={row:=c,standIns:=[],harness:=e,looks:=g},kinds:=[],alts:=[],goes:=AT,laidByText:=AT,laidKinds:=kinds,laidTests:=b,laidLooks:=k}:=by
 have w:∀r:OpenClaim,Claim7.isSixth {stood:={row:=r,standIns:=[],harness:=e,looks:=g},kinds:=[]}=Bz:=λr=>by simpa[Claim7.isSixth] using o
 refine⟨Claim7.tied_new_at k kinds b (Claim7.new_of_sixth hc e g l m hm (w c) q) hw,λD x=>?_,i,(λh=>by cases h),u⟩;exact absurd x (List.not_mem_nil)
end
end Go.Proofs.Q0
namespace Go.Proofs.YtfmnlpedhgficaaGreatDoor
open Go.Proofs.Tryz Go.Proofs.Q0
open Go.ChangeShapes Go.WideShapes Go.ChangeAt Go.RowKit Go.Joins Go.Deep Go.Conc aL Go.Proofs.Q0.Open
theorem FnExactDecodeLayered_holds:Rows.FnExactDecodeLayeredCardSaid:=
 abE (AT, "cc3891cd46136ccec40dc751a55814822d5b93eb50def36e8fc59793918ccded") AT WV ah fnExactDecodeLayered_row_tie rfl ⟨rfl,rfl⟩ ah rfl
  (λf fn hf ST=>by
   obtain rfl:f=3:=aJ ((show Tryz.prog.funcNamed "loop.example/videocodec/laws.FnExactDecodeLayered" =an 3 by kernel_rfl).symm.trans hf)|>.symm;obtain rfl:fn=Tryz.f3:=(aJ (func3.symm.trans ST)).symm
   exact⟨ah,λj t ht=>by
    rw[params3] at ht;have hm:t∈[22,3,3]:=by simpa using lR ht
    have qQ:([22,3,3].all λu=>!Tryz.prog.wantsStandIn u)=AT:=ah;exact(show Tryz.prog.wantsStandIn t=Bz by simpa using hU.1 qQ t hm)⟩)
  ahi
end Go.Proofs.YtfmnlpedhgficaaGreatDoor
