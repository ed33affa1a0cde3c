import Derived.Test.YtnbpokndlaebbaaGreatDoorK20
import Derived.Laws.MakeOwn
import Derived.Room.Make
set_option maxRecDepth 100000
set_option maxHeartbeats 8000000
set_option linter.all false
open Go.Value renaming int->U,slice->Y,bool->ci,agg->bi,pointer->d9,tuple->em,iface->gc
open Go.IntKind renaming i64->O
open Go.Obj renaming cells->ap
open Go.Ending renaming returned->dl
open Array renaming getD->ajC,getElem?_eq_getElem->aik,getElem?_push_lt->aiM,replicate->aif
open Bool renaming false->Ba,true->AT
open Go renaming Event->aiK,Frame->ahY,Goroutine->BE,Oper->ajq,Program->OF,Value->AS,World->rl,execOp->aie,stepG->aiq
open Go.Conc renaming aside_setCell->ajQ,stepG_region_end->Kx
open Go.MemOp renaming ofEvents->aft
open Go.Region renaming binds->ajA,ready->aib,wanted->ahW
open Go.World renaming cell?->aiu,frozen?->ahV
open List renaming range->aij
open Option renaming none->ns,some->an
namespace Go.Proofs
def yH{p:Prop}(h:p:=by rw[IntKind.wrap_i64];omega):p:=h
def KR{p:Prop}(h:p:=by
  obtain rfl:g=a:=by rw[h0] at hi;exact(aH hi).symm
  have h1:=wB (w.at d) ⟨d,rfl⟩;cases hs:stepG P true g (w.at d) with
  |go g' w' es=>rw[hs] at h1;obtain⟨hD,hG'⟩:=h1;have Gp:=runT_crowd_go (P:=P) (sl:=qr) (i:=0) hi (show stepG P (0==0) g (w.at d)=_ from hs);have U':=(hF.at d).agj (a:=g) (a':=g') (fn:=g.frame.fn) (pos:=g.frame.place) hD;have tD:=hF.pos;obtain⟨N,K',a',po,Gq,t',q',y1,y2,y3,y4,y5,yio,y6⟩:=ih _ _ g' w' qr _ q (ay _) hG' U' (by simp[tD]) (adj In hD);exact⟨N+1,K',a',po,Gq,t',q',by simp only[runNT,ii,Gp];exact y1,y2.trans au,y3,y4,y5,hD.io.trans yio,y6⟩
  |_=>rw[hs] at h1;exact h1.elim):p:=h
def L2{p:Prop}(h:p:=by
  have e:Tryz.t68.size=1:=aC;rw[e] at h;simp only[Int.toNat_natCast,Nat.mul_one] at h
  have e2:madeCells (Value.slice none 0 0).cells n=Array.replicate n (.slice none 0 0):=by
   apply Array.ext
   ·simp[size_madeCells]
   ·intro i h1 h2;simp[madeCells,Value.cells,Nat.mod_one]
  rw[e2] at h;exact h):p:=h
def KT{p:Prop}(h:p:=by
  rw[hg];split
  ·rfl
  ·by_cases e:j=i
   ·subst e;exact i8 k hk
   ·exact h.cl j hj (i6 j e hl) k hk):p:=h
def KU{p:Prop}(h:p:=by refine listed_nil ?_;unfold execOp;simp only[pl,Sem.events_map,Sem.events_bind,Instr.alloc,newVar,newRow];simp[go_sem]):p:=h
def KV{p:Prop}(h:p:=by rw[if_pos av] at hj;rw[Array.getElem?_eq_getElem h1] at hj;simp only[Nat.sub_zero,Array.getElem?_toList] at hj;rw[Array.getElem?_eq_getElem h2] at hj;exact aH hj):p:=h
def CO{p:Prop}(h:p:=by simp[Region.wanted,IV]):p:=h
def L3{p:Prop}(h:p:=by rw[he];show(s>>=λv=>pure (Next.value v)).run P w=_;rw[Sem.run_bind,hr];rfl):p:=h
end Go.Proofs
namespace Go.Proofs.Q0.Open
open Go.Proofs.Tryz
variable{w:rl}
section
open Go.Conc Go.ConcN Go.RowKit Go.Conc.Lib Go.ConcR.Gen Go.ConcN.Gen aM
open Go.ConcR (KK wgBlock WgAt stA smA rd wr mk Payload Aside2 DC0 ofEvent_cell)
open Wg (AE zA)
def n5:aij GR.size=[0,1,2,3]:=aF
def n6:aij Bm.size=[0]:=aF
def n7:aij tz.size=[0,1,2]:=aF
def n8:aij qH.size=[0]:=aF
def n9:aij oX.size=[0,1]:=aF
def n10:aij qt.size=[0,1]:=aF
section
variable{A:Main}{Z:Act}{N0:Nat}{b:ahY}{k:List Item}{cs:List ahY}{Child:Nat->(Nat->Prop)->BE->rl->Prop}{Fin:Nat->(Nat->Prop)->BE->rl->Prop}
def abG{fn:FuncId}{a:Act}{o:ajq}(h:o.op=.alloc 3):listed Tryz.prog fn a o w=#[]:=by refine listed_nil ?_;unfold aie;simp only[h,Sem.events_map,Sem.events_bind,Instr.alloc,newVar,newRow];simp[go_sem]
def QR{b o:Nat}{v:AS}(h:w.cell? ⟨b,o,ns⟩=an v):b<w.heap.size:=by unfold aiu at h;cases c:w.heap[b]? with|none=>simp[c] at h|some o=>exact(bU.1 c).1
def SX(A:Main)(N0:Nat)(Child Fin:Nat->(Nat->Prop)->BE->rl->Prop)(M F:Nat->Prop)(j:Nat)(p:Bool)(n:Nat)(W:rl->Prop)(g:BE):Prop:=∀w,W w->bu Tryz.prog N0 84 A.Wg A.C A.n Child Fin j p n M F g w
def mW(A:Main)(N0:Nat)(M:Nat->Prop)(W:rl->Prop):Prop:=∀w w',RS N0 M 84 A.Wg A.C A.n w w'->W w->W w'
section
variable{M F:Nat->Prop}{j n i:Nat}{p:Bool}{W:rl->Prop}{g g':BE}{a:Act}{L:List (Nat×AS)}{ops:Array ajq}{r:List Nat}{x y:Code}
def SX.at(hw:W w)(h:SX A N0 Child Fin M F j p n W g):bu Tryz.prog N0 84 A.Wg A.C A.n Child Fin j p n M F g w:=h w hw
def SX.to(c:mW A N0 M W)(d:∀w,aiq Tryz.prog AT g w=.go g' w #[])(h:SX A N0 Child Fin M F j p n W g')(hr:g.status=.running:=by rfl):SX A N0 Child Fin M F j p n W g:=λ_ hw=>.calm hr d λw₁ r=>h w₁ (c _ _ r hw)
def SX.sq(c:mW A N0 M W)(h:SX A N0 Child Fin M F j p n W (G (b.at a (.code x::.code y::k)) cs)):SX A N0 Child Fin M F j p n W (G (b.at a (.code (.seq x y)::k)) cs):=h.to c λ_=>stepG_seq
def SX.rg(l:List Nat){id:Nat}(c:mW A N0 M W)(h:SX A N0 Child Fin M F j p n W (G (b.at a (.inRegion ops l::k)) cs))(d:aij ops.size=l:=by kernel_rfl):SX A N0 Child Fin M F j p n W (G (b.at a (.code (.region id ops Ba)::k)) cs):=by subst d;exact h.to c λ_=>stepG_region
def SX.re(c:mW A N0 M W)(h:SX A N0 Child Fin M F j p n W (G (b.at a k) cs)):SX A N0 Child Fin M F j p n W (G (b.at a (.inRegion ops []::k)) cs):=h.to c λ_=>Kx
def SX.pD{t:Bool}(c:mW A N0 M W)(hS:SF Z L a)(h:SX A N0 Child Fin M F j p n W (G (b.at a (.code (if t then x else y)::k)) cs))(d:L.lookup i=an (.bool t):=by rfl):SX A N0 Child Fin M F j p n W (G (b.at a (.code (.cond (.tmp i) x y)::k)) cs):=h.to c λ_=>stepG_cond (lU (hS.f _ _ d))
def SX.op{d:Nat}(op:Op)(v:AS)(m:mW A N0 M W)(c:b.kind≠.early)(hS:SF Z L a)(f:∃o,ops[i]?=an o/\o.op=op/\o.guard=ns/\o.dst=an d:=by exact⟨_,rfl,rfl,rfl,rfl⟩)(hd:(!kept d&&decide (d<41))=AT:=by decide)
  (hr:∀o:ajq,o.op=op->∀w,(aie a.eval o).run Tryz.prog w=.ok (.value v) w/\(aie a.eval o).events Tryz.prog w #[]=#[]:=by(intro o e w;unfold execOp;simp only[e];constructor<;>simp[go_sem,hS.tm,List.lookup,xI,Instr.makeFunc, *]))
  (h:∀a,SF Z ((d,v)::L) a->SX A N0 Child Fin M F j p n W (G (b.at a (.inRegion ops r::k)) cs)):SX A N0 Child Fin M F j p n W (G (b.at a (.inRegion ops (i::r)::k)) cs):=by
 obtain⟨o,f,e,q,l⟩:=f;refineλw hw=>bu.op (v:=v) c f q (λw=>(hr o e w).1) (λw=>(hr o e w).2) λw₁ r₁=>?_;rw[l];exact h _ (hS.put hd) w₁ (m _ _ r₁ hw)
end
def abH(D:b.kind≠.early)(Ce:b.fn=27)(S:MS A N0)
  (hch:∀i u M w,i<A.n->MI A N0 M->M u->u≠A.C->u≠A.Wg->WK (A.kZ i u) N0 (λc=>c=A.o\/c=u) w->Child i M (born Tryz.prog (mG (A.kZ i u))) w)
  (agk:∀M a w,MI A N0 M->SF Z (xI A A.n) a->MK A N0 M w->Fin A.n M (G ((base 54).at ⟨#[.pointer (an ⟨A.Wg,0,ns⟩)]++aif 83 undef,[]⟩ [.code (body_wait Tryz.link)]) (b.at a (.inRegion gN [0]::.code dA::k)::cs)) w):
  ∀r i,i+r=A.n->∀M F a w,MI A N0 M->MK A N0 M w->SF Z (xI A i) a->bu Tryz.prog N0 84 A.Wg A.C A.n Child Fin i Ba 0 M F (G (b.at a (.code jA::.inLoop jA::.inBlock 0::.code (.seq (.region 11 gN Ba) dA)::k)) cs) w:=by
 have Cf:=EJ;intro r
 induction r with
 |zero=>intro i hi M F a w R hK hS;obtain rfl:i=A.n:=aa;have q:mW A N0 M (MK A N0 M):=λ_ _ r h=>h.rely S R r;refine SX.at hK ?_;rw[show Item.code jA=.code (.seq (.region 6 Bm Ba) (.seq (.cond (.tmp 23) .skip (.exit 0)) (.seq (.block 1 (.seq (.region 7 tz Ba) (.seq (.region 8 qH Ba) (.region 9 oX Ba)))) (.region 10 qt Ba)))) by rw[EJ]];refine .sq q (.rg [0] q (.op (.binOp .lss 3 (.tmp 22) (.tmp 21) 3) (.bool Ba) q D hS (h:=λa hS=>?_)));refine .re q (.sq q (.pD (t:=Ba) q hS (.to q (λ_=>stepG_exit rfl) (.sq q (.rg [0] q ?_)))));obtain⟨o,ho,pl,hg,hd⟩:∃o,gN[0]?=an o/\o.op=.call {callee:=.value (.func 54),args:=#[.tmp 5],argTypes:=#[84]}/\o.guard=ns/\o.dst=an 28:=⟨_,rfl,rfl,rfl,rfl⟩;refineλw hK=>bu.call D ho hg pl func54 (nm_wait Tryz.link) rfl λw₁ r₁=>?_;rw[show(#[.tmp 5]:Array Operand).map a.eval=#[.pointer (an ⟨A.Wg,0,ns⟩)] by simp;exact hS.ev rfl];exact .fin λl E=>agk M _ l R (hS.sub _) (q _ _ E (q _ _ r₁ hK))
 |succ r ih=>
  intro i hi M F a w R hK hS;have V:i<A.n:=aa;have ahA:(i:Int)<(A.n:Int):=aa;have q:mW A N0 M (MK A N0 M):=λ_ _ r h=>h.rely S R r;refine SX.at hK ?_;clear hK;rw[show Item.code jA=.code (.seq (.region 6 Bm Ba) (.seq (.cond (.tmp 23) .skip (.exit 0)) (.seq (.block 1 (.seq (.region 7 tz Ba) (.seq (.region 8 qH Ba) (.region 9 oX Ba)))) (.region 10 qt Ba)))) by rw[EJ]];refine .sq q (.rg [0] q (.op (.binOp .lss 3 (.tmp 22) (.tmp 21) 3) (.bool AT) q D hS (h:=λa hS=>?_)));refine .re q (.sq q (.pD (t:=AT) q hS (.to q (λ_=>stepG_skip) (.sq q (.to q (λ_=>stepG_block) (.sq q (.rg [0,1,2] q (.op (.move (.tmp 22)) (U O i) q D hS (h:=λa hS=>?_)))))))));intro w₁ hK;have UZ:A.o<w₁.heap.size:=QR hK.o;have pv:A.C<w₁.heap.size:=let⟨_,h,_⟩:=hK.pay;(bU.1 h).1;have IW:A.Wg<w₁.heap.size:=let⟨_,_,h⟩:=hK.live;(bU.1 h).1;obtain⟨o1,lm,TB,wt,hd1⟩:∃o,tz[1]?=an o/\o.op=.alloc 3/\o.guard=ns/\o.dst=an 6:=⟨_,rfl,rfl,rfl,rfl⟩;obtain⟨o2,ho2,TD,rE,xx⟩:∃o,tz[2]?=an o/\o.op=.store 3 (.tmp 6) (.tmp 24)/\o.guard=ns/\o.dst=ns:=⟨_,rfl,rfl,rfl,rfl⟩;refine bu.G7 rfl λl E=>?_;replace hK:=hK.rely S R E;have UZ:=cC UZ E.size;have pv:=cC pv E.size;have IW:=cC IW E.size;clear E
  have N:(aie a.eval o1).run Tryz.prog l=.ok (.value (.pointer (an ⟨l.heap.size,0,ns⟩))) {l with heap:=l.heap.push (.cells #[U O 0] 3)}:=by show _=Result.ok _ (l.alloc (.cells #[U O 0] 3));unfold aie;simp only[TB];simp[go_sem]
  have hl:listed Tryz.prog b.fn a o1 l=#[]:=abG TB;have P:∀c,c<l.heap.size->(l.heap.push (.cells #[U O 0] 3))[c]?=l.heap[c]?:=λc hc=>by rw[aiM hc,<-aik hc]
  have hN:N0<=l.heap.size:=by have:=R.ge _ R.o;omega
  refine⟨_,_,_,stepG_value lm (by simp[ahW,wt]) D N,⟨au,λc hc _=>P c hc,⟨rfl,rfl⟩,by rw[hl];simp⟩,?_⟩
  have tV:RS N0 M 84 A.Wg A.C A.n l {l with heap:=l.heap.push (.cells #[U O 0] 3)}:=by
   refine⟨au,λc hc=>?_,λ⟨st,sm,h⟩=>⟨st,sm,h.of_block (P _ IW)⟩,λ⟨arr,h1,h2⟩=>⟨arr,(P _ pv).trans h1,h2⟩⟩;rcases cZ c l.heap.size with aV|E'
   ·exact P c aV
   ·rcases hc with hc|⟨hc,_⟩
    ·omega
    ·exact absurd (hK.lt c hc) aa
  have K:MI A N0 (grow M l {l with heap:=l.heap.push (.cells #[U O 0] 3)}):=⟨.inl R.o,.inl R.C,.inl R.Wg,λc hc=>hc.elim (R.ge c) λh=>aQ hN h.1⟩;have Q:(grow M l {l with heap:=l.heap.push (.cells #[U O 0] 3)}) l.heap.size:=.inr ⟨ay _,au⟩;have Cg:(grow F l {l with heap:=l.heap.push (.cells #[U O 0] 3)}) l.heap.size:=.inr ⟨ay _,au⟩;have H:=hK.rely S R tV;have B:MK A N0 (grow M l {l with heap:=l.heap.push (.cells #[U O 0] 3)}) {l with heap:=l.heap.push (.cells #[U O 0] 3)}:=⟨λc hc=>hc.elim (H.lt c) λh=>h.2,H.oF,H.o,H.s,H.W,H.I,H.vk,H.live,H.pay⟩;have z:(({l with heap:=l.heap.push (.cells #[U O 0] 3)}:rl).heap[l.heap.size]?)=an (.cells #[U O 0] 3):=au;clear H tV P N hl hK;generalize hw3:({l with heap:=l.heap.push (.cells #[U O 0] 3)}:rl)=G1 at K Q Cg B z⊢;clear hw3;generalize grow M l G1=J at K Q B⊢;generalize grow F l G1=ahB at Cg⊢;have uj:l.heap.size≠A.C:=aa;have PJ:l.heap.size≠A.Wg:=aa;have U0:l.heap.size≠A.o:=aa;rw[hd1];replace hS:=hS.put (d:=6) (v:=.pointer (an ⟨l.heap.size,0,ns⟩)) aw;have s6:=hS.f 6 _ rfl;have Ch:=hS.f 24 _ rfl;generalize a.put (an 6) (.pointer (an ⟨l.heap.size,0,ns⟩))=a at hS s6 Ch⊢;generalize l.heap.size=u at*;refine bu.G7 rfl λm TE=>?_;replace B:=B.rely S K TE;replace z:=(TE.bK u (.inr ⟨Q,uj,PJ⟩)).trans z;have hc:m.cell? ⟨u,0,ns⟩=an (U O 0):=by simp[aiu,z]
  have hz:m.frozen? ⟨u,0,ns⟩=Ba:=by simp[ahV,z]
  have N:(aie a.eval o2).run Tryz.prog m=.ok .skip (m.setCell ⟨u,0,ns⟩ (U O i)):=by unfold aie;simp only[TD];simp[go_sem,stored,hc,hz,s6,Ch]
  have hl:listed Tryz.prog b.fn a o2 m=#[⟨.cell ⟨u,0,ns⟩,AT,Ba⟩]:=by
   have he:(aie a.eval o2).events Tryz.prog m #[]=#[⟨.cell ⟨u,0,ns⟩,AT,Ba⟩]:=by unfold aie;simp only[TD];simp[go_sem,storedEv,hc,hz,s6,Ch]
   unfold listed;rw[he,seen_eq (by rw[Ce];kernel_rfl) au]
  have T:=ajQ m ⟨u,0,ns⟩ (U O i)
  have U1:(m.setCell ⟨u,0,ns⟩ (U O i)).heap[u]?=an (.cells #[U O i] 3):=by rw[setCell_eq_setRow m u 0 _ _ (0,0) _ z,setRow_heap m u _ _ _ _ z];rfl
  refine⟨_,_,_,stepG_none ho2 (by simp[ahW,rE]) D N,⟨nf T.size.symm,λc _ hn=>T.block c λe=>hn (e▸Cg),⟨T.os,T.output⟩,λe he=>?_⟩,?_⟩
  ·rw[hl,Array.mem_singleton] at he;subst he;exact⟨rfl,u,.inl ⟨_,rfl,rfl⟩,.inl (.inl Cg)⟩
  have gs:∀X:Nat->Prop,grow X m (m.setCell ⟨u,0,ns⟩ (U O i))=X:=λX=>by funext c;exact propext ⟨λh=>h.elim id λ⟨h1,h2⟩=>by rw[T.size] at h2;omega,.inl⟩
  rw[gs,gs,xx]
  have rF:MK A N0 J (m.setCell ⟨u,0,ns⟩ (U O i)):=by
   have cell:∀{b o:Nat}{sp:Option Nat},b≠u->(m.setCell ⟨u,0,ns⟩ (U O i)).cell? ⟨b,o,sp⟩=m.cell? ⟨b,o,sp⟩:=λ{b o sp} hb=>by simp only[aiu,T.block b hb]
   have E':=K.ge u Q;have:=S.cb;have:=S.sa;refine⟨λc hc=>by rw[T.size];exact B.lt c hc,(T.block _ (iY U0)).trans B.oF,(cell (iY U0)).trans B.o,(cell aa).trans B.s,(cell aa).trans B.W,(cell aa).trans B.I,λi hi=>?_,?_,?_⟩
   ·rw[<-B.vk i hi];simp only[aiu];rw[sG,T.block _ (show A.sa.block≠u by omega)]
   ·obtain⟨st,sm,h⟩:=B.live;exact⟨st,sm,h.of_block (T.block _ (iY PJ))⟩
   ·obtain⟨arr,h1,h2⟩:=B.pay;exact⟨arr,(T.block _ (iY uj)).trans h1,h2⟩
  have q:mW A N0 J (λw=>MK A N0 J w/\w.heap[u]?=an (.cells #[U O i] 3)):=λ_ _ r h=>⟨h.1.rely S K r,(r.bK u (.inr ⟨Q,uj,PJ⟩)).trans h.2⟩;refine SX.at (W:=λw=>MK A N0 J w/\w.heap[u]?=an (.cells #[U O i] 3)) ⟨rF,U1⟩ ?_;clear z hc hz N hl T gs B rF U1 s6 Ch;replace hS:SF Z _ (a.put ns undef):=hS;generalize a.put ns undef=a at hS⊢;refine .re q (.sq q (.rg [0] q ?_));obtain⟨o8,U2,agl,hg8,hd8⟩:∃o,qH[0]?=an o/\o.op=.call {callee:=.value (.func 50),args:=#[.tmp 5,.const (U O 1)],argTypes:=#[84,3]}/\o.guard=ns/\o.dst=an 25:=⟨_,rfl,rfl,rfl,rfl⟩;refineλw hK=>bu.call D U2 hg8 agl Tryz.we.f_add (nm_add Tryz.link) rfl λw₁ r₁=>?_;replace hK:=q _ _ r₁ hK;clear r₁
  have ea:(#[.tmp 5,.const (U O 1)]:Array Operand).map a.eval=#[.pointer (an ⟨A.Wg,0,ns⟩),U O 1]:=by simp only[List.map_toArray,List.map_cons,List.map_nil];rw[hS.ev (i:=5) rfl];rfl
  rw[ea];have qR:=AE (L:=Tryz.link) (Wg:=A.Wg) (b₀:=b) (a₀:=a) (ops₀:=qH) (i₀:=0) (rest₀:=[]) (k₀:=.code (.region 9 oX Ba)::.inBlock 1::.code (.region 10 qt Ba)::.inLoop jA::.inBlock 0::.code (.seq (.region 11 gN Ba) dA)::k) (cs:=cs) Tryz.we w₁ hK.1.live;simp only[body_add,addFn,Option.getD_some] at qR
  walk_nrmf addFn
  refine bu.add1 rfl qR hK.1.live S.CW (K.ge _ K.Wg) λw₁ _ r₁=>?_;replace hK:=q _ _ r₁ hK;rw[show(qH[0]?).bind (·.dst)=an 25 by rw[U2];exact hd8];replace hS:=hS.put (d:=25) (v:=.tuple #[]) aw;generalize a.put (an 25) (.tuple #[])=a at hS⊢;refine SX.at hK (.re q (.rg [0,1] q (.op (.makeFunc (.func 51) #[] #[.tmp 5,.tmp 1,.tmp 6,.tmp 4]) (.func (.func 51) #[] #[.pointer (an ⟨A.Wg,0,ns⟩),.pointer (an ⟨A.cb,A.co,ns⟩),.pointer (an ⟨u,0,ns⟩),.pointer (an ⟨A.o,0,ns⟩)]) q D hS (h:=λa hS=>?_))));obtain⟨og,xd,TG,hgg,hdg⟩:∃o,oX[1]?=an o/\o.op=.go {callee:=.value (.tmp 26),args:=#[],argTypes:=#[]}/\o.guard=ns/\o.dst=ns:=⟨_,rfl,rfl,rfl,rfl⟩;have U3:=hS.f 26 _ rfl
  have U4:∀w,aiq Tryz.prog AT (G (b.at a (.inRegion oX [1]::.inBlock 1::.code (.region 10 qt Ba)::.inLoop jA::.inBlock 0::.code (.seq (.region 11 gN Ba) dA)::k)) cs) w=.spawn (G (b.at a (.inRegion oX []::.inBlock 1::.code (.region 10 qt Ba)::.inLoop jA::.inBlock 0::.code (.seq (.region 11 gN Ba) dA)::k)) cs) (born Tryz.prog (mG (A.kZ i u))) w #[]:=λw=>by
   have hr:(aie a.eval og).run Tryz.prog w=.ok (.spawn (mG (A.kZ i u))) w:=by unfold aie;simp only[TG];simp[go_sem,U3,resolve,Deferred.ofValue,mG,Main.kZ]
   have he:(aie a.eval og).events Tryz.prog w #[]=#[]:=by unfold aie;simp only[TG];simp[go_sem,U3,resolve,Deferred.ofValue]
   rw[stepG_spawn xd (by simp[ahW,hgg]) D hr rfl,listed_nil he,hdg];rfl
  intro w hK;refine bu.go V rfl (λw₁ r₁ hp=>⟨_,_,U4 w₁,?_⟩) (λw₁ g' child w' es r₁ hs=>?_)
  ·obtain⟨hK,z⟩:=q _ _ r₁ hK;refine hch i u J w₁ V K Q uj PJ ⟨hK.o,?_,hK.s,hK.W,hK.I,hK.vk i V,hK.live,hp,.inr (.inl rfl),.inr (.inr rfl),.inl S.cb,.inl S.sa,V,cC V S.hs⟩;show w₁.cell? ⟨u,0,ns⟩=an (U O i);simp[aiu,z]
  rw[U4] at hs;cases hs;have hn:=S.hn;have hw:IntKind.i64.wrap ((i:Int)+1)=(i:Int)+1:=yH;refine SX.at (q _ _ r₁ hK) (.re q (.to q (λ_=>stepG_inBlock) (.rg [0,1] q (.op (.binOp .add 3 (.tmp 22) (.const (U O 1)) 3) (U O ((i:Int)+1)) q D hS (h:=λa hS=>?_)))));refine .op (.move (.tmp 27)) (U O ((i:Int)+1)) q D hS (h:=λa hS=>.re q (.to q (λ_=>stepG_inLoop) ?_));exactλw₁ hK=>ih (i+1) aa J _ a w₁ K hK.1 (hS.sub _)
end
end
section
open Go.Conc Go.ConcN Go.RowKit Go.Conc.Lib Go.ConcR.Gen Go.ConcN.Gen aM
open Go.ConcR (KK wgBlock WgAt stA smA rd wr mk Payload Aside2 DC0 ofEvent_cell)
open Wg (AE zA)
section
variable{A:Main}{Z:Act}{N0:Nat}{b:ahY}{k:List Item}{cs:List ahY}{Child:Nat->(Nat->Prop)->BE->rl->Prop}{Fin:Nat->(Nat->Prop)->BE->rl->Prop}{M F:Nat->Prop}{a:Act}{w:rl}
def Z9(l:b.kind≠.early)(E:b.fn=27)(S:MS A N0)
  (H:∀i u M w,i<A.n->MI A N0 M->M u->u≠A.C->u≠A.Wg->WK (A.kZ i u) N0 (λc=>c=A.o\/c=u) w->Child i M (born Tryz.prog (mG (A.kZ i u))) w)
  (z:∀M a w,MI A N0 M->SF Z (xI A A.n) a->MK A N0 M w->Fin A.n M (G ((base 54).at ⟨#[.pointer (an ⟨A.Wg,0,ns⟩)]++aif 83 undef,[]⟩ [.code (body_wait Tryz.link)]) (b.at a (.inRegion gN [0]::.code dA::k)::cs)) w)
  (I:MI A N0 M)(hK:MK A N0 M w)(B:a.defers=Z.defers)(D:∀d,kept d=AT->a.tmps[d]?=Z.tmps[d]?)(P:Sz Z a)(s1:a.tmps[1]?=an (.pointer (an ⟨A.cb,A.co,ns⟩)))(Q:a.tmps[4]?=an (.pointer (an ⟨A.o,0,ns⟩)))(R:a.tmps[5]?=an (.pointer (an ⟨A.Wg,0,ns⟩))):
  bu Tryz.prog N0 84 A.Wg A.C A.n Child Fin 0 Ba 0 M F (G (b.at a (.code (.seq tt (.seq (.region 11 gN Ba) dA))::k)) cs) w:=by
 have hS:SF Z [(1,.pointer (an ⟨A.cb,A.co,ns⟩)),(4,.pointer (an ⟨A.o,0,ns⟩)),(5,.pointer (an ⟨A.Wg,0,ns⟩))] a:=SF.add (SF.add (SF.add ⟨P,B,D,λ_ _ h=>by cases h⟩ R) Q) s1;clear P B D s1 Q R;have m:mW A N0 M (MK A N0 M):=λ_ _ r h=>h.rely S I r;refine SX.at hK (.sq m ?_);rw[abF];refine .sq m (.rg [0,1,2,3] m (.op (.fieldAddr 58 (.tmp 4) 1) (.pointer (an ⟨A.o,5,ns⟩)) m l hS (h:=λa hS=>?_)));refineλw hK=>bu.still rfl λw₁ r₁=>?_;replace hK:=m _ _ r₁ hK;have hc:=hK.o;obtain⟨T,J,q,K,N⟩:∃o,GR[1]?=an o/\o.op=.load 56 (.tmp 19)/\o.guard=ns/\o.dst=an 20:=⟨_,rfl,rfl,rfl,rfl⟩;have t:=hS.f 19 _ rfl;have s:(aie a.eval T).run Tryz.prog w₁=.ok (.value (.slice (an ⟨A.C,0,ns⟩) A.n A.n)) w₁:=by unfold aie;simp only[q];simp[go_sem,t,hc]
 refine⟨_,_,stepG_value J (by simp[ahW,K]) l s,λe he=>?_,?_⟩
 ·have hm:=mem_listed he;unfold aie at hm;simp only[q] at hm;simp[go_sem,t,hc] at hm;subst hm;exact⟨rfl,rfl,A.o,.inl ⟨_,rfl,rfl⟩,I.o,S.oC,S.oW⟩
 rw[N];replace hS:=hS.put (d:=20) (v:=.slice (an ⟨A.C,0,ns⟩) A.n A.n) aw;clear t s;generalize a.put (an 20) (.slice (an ⟨A.C,0,ns⟩) A.n A.n)=a at hS⊢;refine SX.at hK (.op (.call {callee:=.builtin .len,args:=#[.tmp 20],argTypes:=#[56]}) (U O A.n) m l hS (h:=λa hS=>.op (.move (.const (U O 0))) (U O 0) m l hS (h:=λa hS=>.re m (.to m (λ_=>stepG_block) (.to m (λ_=>stepG_loop) ?_)))));exactλw hK=>abH l E S H z A.n 0 aa M _ a w I hK (hS.sub _)
end
end
end Go.Proofs.Q0.Open
namespace Go.Proofs.Q0.aM
variable{pos:String}{fn:FuncId}
section
open Go.Conc
open Go.ConcN (CT Apart Ok0 OkW sumTo upd sumTo_upd upd_same upd_ne)
variable[ah]
def RA(w w₁:rl):Prop:=∃d,w₁=w.at d
structure DA(Sh:Loc->Prop)(nb:Nat)(w w':rl)(es:Array aiK):Prop where
 size:w.heap.size<=w'.heap.size
 io:iZ w w'
 ev:∀e∈es,e.sync=Ba/\∃c,bQ c e.loc/\c<w'.heap.size/\c<nb/\∀l,bQ c l->¬Sh l
def MC{e:aiK}(hs:e.sync=Ba)(hm:e.loc.isMemory=AT):MemAct.ofEvent e=.access e:=by exact LV
section
variable{P:OF}{Sh:Loc->Prop}{nb:Nat}{gs:Array BE}{a a':BE}{w w':rl}{t:Trace}{q:Nat->Nat}{d:Array aiK}
theorem dS.agj(h:dS P Sh gs w t q)(hD:DA Sh nb w w' d):
  dS P Sh ((gs.map (woken P a a' w')).setIfInBounds 0 a') w' (t++aft 0 fn pos d) q:=by
 have k:∀op∈aft 0 fn pos d,∃e∈d,op={g:=0,fn,pos,act:=.ofEvent e}:=λop k=>jT k;have hg:∀op∈aft 0 fn pos d,op.g=0:=λop h=>by obtain⟨e,_,rfl⟩:=k op h;rfl
 have tv:((gs.map (woken P a a' w')).setIfInBounds 0 a').size=gs.size:=au
 have f:∀e∈d,e.loc.isMemory=AT:=λe he=>by obtain⟨_,c,h1,_⟩:=hD.ev e he;exact h1.mem
 have qN:∀e∈d,MemAct.ofEvent e=.access e:=λe he=>MC (hD.ev e he).1 (f e he)
 have o:∀e∈d,∀x,(MemAct.ofEvent e).touch?=an x->x=⟨e.loc,e.write,.plain⟩:=λe he x hx=>by exact Kv
 have p:∀e∈d,∀m,e.loc≠.mark m:=λe he m hm=>by have:=f e he;rw[hm] at this;cases this
 refine⟨⟨λj x hj hx=>?_,λj hj=>?_⟩,?_,by rw[tv];exact h.pos,λi x hx r hm=>?_,handedOver_app h.over λop n=>.inl (hg op n),?_,λop n=>?_,λl s=>?_⟩
 ·exact Kq
 ·exact Kr
 ·rw[tv];refine h.ct.app0 (ED Sh) λop n=>?_;obtain⟨e,he,rfl⟩:=k op n;refine⟨rfl,λx hx=>.inr ?_⟩;rw[o e he x hx];obtain⟨_,c,h1,_,_,u⟩:=hD.ev e he;exact⟨u _ h1,λ_ _ _ h=>h,λ_ _ _ _ h=>h⟩
 ·obtain⟨op,n,pu⟩:=touch_of hx;rcases getElem?_append_cases n with⟨_,pz⟩|⟨_,v⟩
  ·exact h.plain i x CK r hm
  ·grind
 ·rw[Deaf_own,Go.ConcN.deafBehind_idle λe he=>⟨p e he _,p e he _⟩];exact h.hears
 ·rcases jv.1 n with n|n
  ·exact uX hD.size (h.low op n)
  ·obtain⟨e,he,rfl⟩:=k op n;obtain⟨_,c,h1,h3,_⟩:=hD.ev e he;exact KH
 ·obtain⟨a,e,y⟩:=h.shl l s;exact⟨a,e,cC y hD.size⟩
def adj(h:∀op∈t,op.act.low nb)(g:DA Sh nb w w' d):∀op∈t++aft 0 fn pos d,op.act.low nb:=λop f=>by
 rcases jv.1 f with f|f
 ·simp_all
 ·obtain⟨e,he,rfl⟩:=jT f;obtain⟨h0,c,h1,_,i,_⟩:=g.ev e he;rw[MC h0 h1.mem];rcases h1 with⟨a,j,hb⟩|hb
  ·show Loc.low _ _;rw[j];show a.block<_;omega
  ·show Loc.low _ _;rw[hb];exact i
def low_mute{i:Nat}(h:∀op∈t,op.act.low nb)(hm:∀e∈d,e.mute=AT):∀op∈t++aft i fn pos d,op.act.low nb:=λop c=>by
 rcases jv.1 c with c|c
 ·simp_all
 ·obtain⟨e,he,rfl⟩:=jT c;exact Go.Conc.low_mute (hm e he) _
def M3{Stop:BE->rl->Prop}(hr:∀g w,Stop g w->g.status=.running):∀(m M:Nat)(gs:Array BE)(a:BE)(w:rl)(sl:Option (Nat×Nat))(t:Trace)(q:Nat->Nat),sumTo gs.size q<=M->Goes P AT RA (DA Sh nb) Stop m a w->dS P Sh gs w t q->gs[0]?=an a->(∀op∈t,op.act.low nb)->
  ∃N h a' w' qr o r,runNT P N (crowd gs w sl) t=(.next (crowd h w' qr),o)/\h.size=gs.size/\h[0]?=an a'/\dS P Sh h w' o r/\Stop a' w'/\iZ w w'/\∀op∈o,op.act.low nb:=by
 intro m
 induction m with
 |zero=>exactλM gs a w sl t q _ p hF h0 B=>⟨0,gs,a,w,sl,t,q,rfl,rfl,h0,hF,p w ⟨w.drawn,rfl⟩,.refl _,B⟩
 |succ m ih=>
  intro M
  induction M with
  |zero=>
   intro gs a w sl t q C p hF h0 In;rcases p with ii|⟨c,wB⟩
   ·exact⟨0,gs,a,w,sl,t,q,rfl,rfl,h0,hF,ii w ⟨w.drawn,rfl⟩,.refl _,In⟩
   obtain⟨i,g,d,qr,hi,hg,ii⟩:=crowd_pick (P:=P) (w:=w) (sl:=sl) (hF.awake h0 c) ⟨0,a,h0,c⟩;rcases iI i with rfl|f
   ·exact KR
   ·exfalso;have hq:=hF.lv.old i g f hi;exact Ks
  |succ M s=>
   intro gs a w sl t q C p hF h0 In;rcases p with ii|⟨c,wB⟩
   ·exact⟨0,gs,a,w,sl,t,q,rfl,rfl,h0,hF,ii w ⟨w.drawn,rfl⟩,.refl _,In⟩
   obtain⟨i,g,d,qr,hi,hg,ii⟩:=crowd_pick (P:=P) (w:=w) (sl:=sl) (hF.awake h0 c) ⟨0,a,h0,c⟩;rcases iI i with rfl|f
   ·exact KR
   ·have hq:=hF.lv.old i g f hi;have tX:(i==0)=Ba:=av;have aV:=(bU.1 hi).1;cases Nm:q i with
    |zero=>rw[Nm] at hq;rw[hq.1] at hg;cases hg
    |succ k=>
     rw[Nm] at hq;rcases hq with⟨D,_⟩|⟨_,g',es,hm,Bv,u⟩
     ·rw[D] at hg;cases hg
     have j:=runT_crowd_go (P:=P) (sl:=qr) (i:=i) hi yD;have v:=hF.Gr (n:=d) hi f hm u
     have x:woken P g g' (w.at d) a=a:=by
      unfold woken;split
      ·exact Go.Conc.again_running _ (.inl c)
      ·rfl
     have A:sumTo gs.size (Go.ConcN.upd q i k)+(k+1)=sumTo gs.size q+k:=by exact Dn
     obtain⟨N,h,a',y,l,o,r,E,F,G,H,I,z,J⟩:=s _ a (w.at d) qr _ (Go.ConcN.upd q i k) av (.inr ⟨c,λw₁⟨e,he⟩=>wB w₁ ⟨e,he⟩⟩) v (by rw[Array.getElem?_setIfInBounds_ne (by omega),Array.getElem?_map,h0,Option.map_some,x]) (low_mute In hm);exact⟨N+1,h,a',y,l,o,r,by simp only[runNT,ii,j];exact E,F.trans au,G,H,I,z,J⟩
end
end
section
open Go.Conc
section
variable{P:OF}{b:Nat}{ty:TypeId}
theorem OI:∀(vs:List AS)(i:Nat)(cs:Array AS)(w:rl),w.heap[b]?=an (.cells cs ty)->i+vs.length<=cs.size->(∀v∈vs,v.oneCell'=AT)->
  ∃w' cs',(storeCells ⟨b,0,ns⟩ vs i).run P w=.ok () w'/\w'.heap[b]?=an (.cells cs' ty)/\cs'.size=cs.size/\(∀j,cs'[j]?=if i<=j/\j<i+vs.length then vs[j-i]? else cs[j]?)/\
   (∀c,c≠b->w'.heap[c]?=w.heap[c]?)/\w'.heap.size=w.heap.size/\w'.tape=w.tape/\w'.drawn=w.drawn/\(w'.os=w.os/\w'.output=w.output)/\∀es,∀e∈(storeCells ⟨b,0,ns⟩ vs i).events P w es,e∈es\/∃j,e=⟨.cell ⟨b,j,ns⟩,AT,Ba⟩:=by
 intro vs
 induction vs with
 |nil=>exactλi cs w h _ _=>⟨w,cs,rfl,h,rfl,λj=>by simp only[List.length_nil];rw[if_neg aa],λ_ _=>rfl,rfl,rfl,rfl,⟨rfl,rfl⟩,λes e he=>.inl he⟩
 |cons v vs r=>
  intro i cs w h s l;simp only[List.length_cons] at s;have hc:w.cell? ⟨b,i,ns⟩=an (cs[i]'aa):=by simp[aiu,h,show i<cs.size by omega]
  have n:w.frozen? ⟨b,i,ns⟩=Ba:=by simp[ahV,h]
  have o:Addr.add ⟨b,0,ns⟩ i=⟨b,i,ns⟩:=by
   unfold Addr.add;split
   ·next e=>subst e;rfl
   ·simp
  have h1:(w.setCell ⟨b,i,ns⟩ v).heap[b]?=an (.cells (cs.setIfInBounds i v) ty):=by rw[setCell_eq_setRow w b i cs _ (0,0) _ h,setRow_heap w b _ _ _ _ h]
  have g:=ajQ w ⟨b,i,ns⟩ v;have hd:(w.setCell ⟨b,i,ns⟩ v).drawn=w.drawn:=by rw[setCell_eq_setRow w b i cs _ (0,0) _ h];rfl
  have f:(store ⟨b,i,ns⟩ v).run P w=.ok () (w.setCell ⟨b,i,ns⟩ v):=by rw[run_store P w _ v .plain (l v au)];simp[stored,hc,n]
  have m:∀es,(store ⟨b,i,ns⟩ v).events P w es=es.push ⟨.cell ⟨b,i,ns⟩,AT,Ba⟩:=λes=>by rw[events_store P w es _ v .plain (l v au),hc];simp[n];rfl
  obtain⟨w',cs',u,y,z,G,A,B,C,D,k,E⟩:=r (i+1) _ _ h1 av (λx F=>l x (by simp[F]));refine⟨w',cs',?_,y,z.trans au,λj=>?_,λc hc=>(A c hc).trans (g.block c hc),B.trans g.size,C.trans g.tape,D.trans hd,⟨k.1.trans g.os,k.2.trans g.output⟩,λes e he=>?_⟩
  ·unfold storeCells;rw[o,Sem.run_bind,f];exact u
  ·grind
  ·unfold storeCells at he;rw[o,Sem.events_bind,f,m] at he;rcases E _ e he with p|p
   ·grind
   ·exact .inr p
end
end
end Go.Proofs.Q0.aM
namespace Go.Proofs.Q0.Open
open Go.Proofs.Tryz
section
open Go.Conc Go.ConcN Go.RowKit Go.Conc.Lib Go.ConcR.Gen Go.ConcN.Gen aM
open Go.ConcR (KK wgBlock WgAt stA smA rd wr mk Payload Aside2 DC0 ofEvent_cell)
def aej{w:rl}{n:Nat}(c:n<=1000):(Instr.makeSlice 56 (U O n) (U O n)).run Tryz.prog w=.ok (.slice (an ⟨w.heap.size,0,ns⟩) n n) (w.alloc (.cells (aif n (.slice ns 0 0)) 68)):=by
 have h:=run_makeSlice (P:=Tryz.prog) (w:=w) 56 68 Tryz.t68 (.slice ns 0 0) underlying56 aj aj .i64 .i64 n n aa aa (by
  have:Tryz.t68.size=1:=aC;rw[this];omega) (by
  have:Tryz.t68.bytes=24:=aC;rw[this];omega) aa
 exact L2
def ae5{w:rl}{n:Nat}(h:n<=1000):(Instr.makeSlice 56 (U O n) (U O n)).events Tryz.prog w #[]=#[]:=by
 have c:IntKind.i64.wrap (n:Int)=n:=yH;have d:¬(n:Int)<0:=aa;have e:¬(281474976710656<24*(n:Int)):=aa;have hi:Tryz.prog.info? 68=an Tryz.t68:=aj;have f:Tryz.t68.bytes=24:=aj;unfold Instr.makeSlice;have g:¬(n*24>roomBytes):=by unfold roomBytes;omega
 simp[go_sem,asInt,asIntOf,typeInfo,hi,f,c,d,e,askRoom,g]
def zO:fe.size=8:=aF
def n4:aij GQ.size=[0]:=aF
noncomputable def oN(i j:Nat):Bool:=(fe[i]?).any λo=>o.after.any λe=>e.on==j&&ajA .any e
def OJ{L:Array Bool}{i j:Nat}(h:i∈aib .any fe L)(hn:oN i j=AT):L.getD j Ba=AT:=by obtain⟨_,o,ho,qP⟩:=mem_ready.1 h;unfold oN at hn;exact LY
def agm:∀(i:Nat) o,fe[i]?=an o->∀e∈o.after,ajA .any e=AT->e.on<i:=by have h:(aij fe.size).all (λi=>(fe[i]?).all λo=>o.after.all λe=>!ajA .any e||decide (e.on<i))=AT:=aj;exact LZ
structure dh where
 cb:Nat
 co:Nat
 W:Int
 H:Int
 I:Bool
 Q:Int
 sa:Addr
 sn:Nat
 sc:Nat
def dh.cells(B:dh):Array AS:=#[U O B.W,U O B.H,.bool B.I,U O B.Q,.slice (an B.sa) B.sn B.sc]
def dh.full(B:dh)(C:Nat):Array AS:=#[U O B.W,U O B.H,.bool B.I,U O B.Q,.slice (an B.sa) B.sn B.sc,.slice (an ⟨C,0,ns⟩) B.sn B.sn]
def jH:Array AS:=#[U O 0,U O 0,.bool Ba,U O 0,.slice ns 0 0,.slice ns 0 0]
structure qF(B:dh)(w:rl):Prop where
 W:w.cell? ⟨B.cb,B.co,ns⟩=an (U O B.W)
 H:w.cell? ⟨B.cb,B.co+1,ns⟩=an (U O B.H)
 I:w.cell? ⟨B.cb,B.co+2,ns⟩=an (.bool B.I)
 Q:w.cell? ⟨B.cb,B.co+3,ns⟩=an (U O B.Q)
 S:w.cell? ⟨B.cb,B.co+4,ns⟩=an (.slice (an B.sa) B.sn B.sc)
abbrev Cm(i:Nat):Prop:=i=0\/i=1\/i=2\/i=3\/i=5
def pg(B:dh)(C:Nat)(i:Nat):AS:=match i with
 |0=>.agg B.cells|1=>.pointer (an ⟨B.cb,B.co+4,ns⟩)|2=>.slice (an B.sa) B.sn B.sc|3=>U O B.sn|5=>.agg (B.full C)|_=>undef
structure I3(B:dh)(Z:Act)(h0:Array Obj)(C o:Nat)(L:Array Bool)(a:Act)(w:rl):Prop where
 ds:a.defers=Z.defers
 bK:∀d,kept d=AT->a.tmps[d]?=Z.tmps[d]?
 size:Sz Z a
 cb:B.cb<h0.size
 grow:h0.size<=w.heap.size
 sz:w.heap.size=h0.size+(L.getD 4 Ba).toNat+(L.getD 6 Ba).toNat
 old:∀c,c<h0.size->w.heap[c]?=h0[c]?
 mX:qF B w
 s1:a.tmps[1]?=an (.pointer (an ⟨B.cb,B.co,ns⟩))
 cl:∀i,i<8->L.getD i Ba=AT->∀j,oN i j=AT->L.getD j Ba=AT
 v:∀i,Cm i->L.getD i Ba=AT->a.tmps[13+i]?=an (pg B C i)
 v4:L.getD 4 Ba=AT->h0.size<=C/\C<w.heap.size/\a.tmps[17]?=an (.slice (an ⟨C,0,ns⟩) B.sn B.sn)/\w.heap[C]?=an (.cells (aif B.sn (.slice ns 0 0)) 68)
 v6:L.getD 6 Ba=AT->h0.size<=o/\o<w.heap.size/\a.tmps[4]?=an (.pointer (an ⟨o,0,ns⟩))/\(L.getD 7 Ba=Ba->w.heap[o]?=an (.cells jH 58))
 ne:L.getD 4 Ba=AT->L.getD 6 Ba=AT->o≠C
 v7:L.getD 7 Ba=AT->w.heap[o]?=an (.cells (B.full C) 58)
section
variable{B:dh}{Z a:Act}{h0:Array Obj}{C o i:Nat}{L:Array Bool}{w w₁:rl}{Sh:Loc->Prop}
def qF.of(h:qF B w)(e:w₁.heap[B.cb]?=w.heap[B.cb]?):qF B w₁:=by
 have cell:∀{k:Nat}{sp:Option Nat},w₁.cell? ⟨B.cb,k,sp⟩=w.cell? ⟨B.cb,k,sp⟩:=λ{k sp}=>by simp only[aiu,e]
 exact⟨cell.trans h.W,cell.trans h.H,cell.trans h.I,cell.trans h.Q,cell.trans h.S⟩
def I3.rely(h:I3 B Z h0 C o L a w)(r:RA w w₁):I3 B Z h0 C o L a w₁:=by obtain⟨d,rfl⟩:=r;exact⟨h.ds,h.bK,h.size,h.cb,h.grow,h.sz,h.old,h.mX.of rfl,h.s1,h.cl,h.v,h.v4,h.v6,h.ne,h.v7⟩
def RL{L:Array Bool}{i j:Nat}(c:L.size=8)(hi:i<8):(L.setIfInBounds i AT).getD j Ba=if j=i then AT else L.getD j Ba:=by
 by_cases e:j=i
 ·simp_all
 ·rw[if_neg e,getD_set_ne Ba (Ne.symm e)]
def I3.put(h:I3 B Z h0 C o L a w)(m:L.size=8)(hi:Cm i)(i8:∀j,oN i j=AT->L.getD j Ba=AT):I3 B Z h0 C o (L.setIfInBounds i AT) (a.put (an (13+i)) (pg B C i)) w:=by
 have hg:∀j,(L.setIfInBounds i AT).getD j Ba=if j=i then AT else L.getD j Ba:=λj=>RL m aa
 have i6:∀j,j≠i->(L.setIfInBounds i AT).getD j Ba=AT->L.getD j Ba=AT:=λj hj hl=>by rw[hg,if_neg hj] at hl;exact hl
 have c:∀e,e≠13+i->(a.put (an (13+i)) (pg B C i)).tmps[e]?=a.tmps[e]?:=λe he=>nG he;refine⟨h.ds,λe he=>(c e λx=>?_).trans (h.bK e he),h.size.put,h.cb,h.grow,by rw[hg,hg,if_neg aa,if_neg aa];exact h.sz,h.old,h.mX,(c 1 aa).trans h.s1,λj hj hl k hk=>?_,λj hj hl=>?_,λhl=>?_,λhl=>?_,λn p=>?_,λhl=>?_⟩
 ·rw[x] at he;rcases hi with rfl|rfl|rfl|rfl|rfl<;>cases he
 ·exact KT
 ·by_cases e:j=i
  ·subst e;exact vP (h.size.lt (by rcases hi with rfl|rfl|rfl|rfl|rfl<;>decide))
  ·exact(c _ aa).trans (h.v j hj (i6 j e hl))
 ·obtain⟨d,f,g,l⟩:=h.v4 (i6 4 aa hl);exact⟨d,f,(c 17 aa).trans g,l⟩
 ·obtain⟨d,f,g,l⟩:=h.v6 (i6 6 aa hl);exact⟨d,f,(c 4 aa).trans g,λx=>l (by rw[hg,if_neg (by omega)] at x;exact x)⟩
 ·exact h.ne (i6 4 aa n) (i6 6 aa p)
 ·exact h.v7 (i6 7 aa hl)
def FH{w:rl}{nb:Nat}:DA Sh nb w w #[]:=⟨ay _,.refl _,λe he=>by simp at he⟩
def OL(W H Q:Int)(I:Bool)(sa:Addr)(sn sc C n m:Nat)(w:rl):(Instr.build 58 #[(0,.agg #[U O W,U O H,.bool I,U O Q,.slice (an sa) sn sc]),(1,.slice (an ⟨C,0,ns⟩) n m)]).run Tryz.prog w=.ok (.agg #[U O W,U O H,.bool I,U O Q,.slice (an sa) sn sc,.slice (an ⟨C,0,ns⟩) n m]) w:=aj
def abI(W H Q:Int)(I:Bool)(sa:Addr)(sn sc C n m:Nat)(w:rl)(es:Array aiK):(Instr.build 58 #[(0,.agg #[U O W,U O H,.bool I,U O Q,.slice (an sa) sn sc]),(1,.slice (an ⟨C,0,ns⟩) n m)]).events Tryz.prog w es=es:=aj
def wO{d:Nat}{v:AS}(op:Op)(ho:∃o,fe[i]?=an o/\o.op=op/\o.guard=ns/\o.dst=an d:=by exact⟨_,rfl,rfl,rfl,rfl⟩)
  (hr:∀o:ajq,o.op=op->(aie a.eval o).run Tryz.prog w=.ok (.value v) w:=by(intro o e;unfold execOp;simp only[e];simp[go_sem,pg,dh.cells,dh.full,OL, *]))
  (hl:∀o:ajq,o.op=op->∀e∈listed Tryz.prog 27 a o w,e.sync=Ba/\bQ B.cb e.loc:=by(intro o c e he;have hm:=mem_listed he;unfold execOp at hm;simp only[c] at hm;simp[go_sem,dh.cells,OL,abI, *] at hm<;>first|(subst hm;exact⟨rfl,.inl ⟨_,rfl,rfl⟩⟩)|(rcases hm with rfl|rfl|rfl|rfl|rfl<;>exact⟨rfl,.inl ⟨_,rfl,rfl⟩⟩))):
  ∃o,fe[i]?=an o/\ahW o (yielded fe a.tmps)=AT/\(aie a.eval o).run Tryz.prog w=.ok (.value v) w/\o.dst=an d/\∀e∈listed Tryz.prog 27 a o w,e.sync=Ba/\bQ B.cb e.loc:=by
 exact KJ
def I3.calm(h:I3 B Z h0 C o L a w)(hi:Cm i)(hr:i∈aib .any fe L):
  ∃op,fe[i]?=an op/\ahW op (yielded fe a.tmps)=AT/\(aie a.eval op).run Tryz.prog w=.ok (.value (pg B C i)) w/\op.dst=an (13+i)/\∀e∈listed Tryz.prog 27 a op w,e.sync=Ba/\bQ B.cb e.loc:=by
 have f1:=h.mX.W;have f2:=h.mX.H;have f3:=h.mX.I;have f4:=h.mX.Q;have f5:=h.mX.S;have s1:=h.s1;have n:=λj=>OJ (j:=j) hr;have c:=h.v;have d:=h.v4;rcases hi with rfl|rfl|rfl|rfl|rfl
 ·exact wO (.load 25 (.tmp 1))
 ·exact wO (.fieldAddr 25 (.tmp 1) 4)
 ·have q:=c 1 aa (n 1 aj);simp only[pg] at q;exact wO (.load 23 (.tmp 14))
 ·have q:=c 2 aa (n 2 aj);simp only[pg] at q;exact wO (.call {callee:=.builtin .len,args:=#[.tmp 15],argTypes:=#[23]})
 ·have f:=c 0 aa (n 0 aj);have g:=(d (n 4 aj)).2.2.1;simp only[pg] at f;exact wO (.build 58 #[(0,.tmp 13),(1,.tmp 17)])
def I3.step(h:I3 B Z h0 C o L a w)(J:L.size=fe.size)(hr:i∈aib .any fe L)(K:∀l,bQ B.cb l->¬Sh l)(A:∀l c,h0.size<=c->bQ c l->¬Sh l)(I:B.sn<=1000):
  ∃op v w',fe[i]?=an op/\ahW op (yielded fe a.tmps)=AT/\((aie a.eval op).run Tryz.prog w=.ok (.value v) w'\/((aie a.eval op).run Tryz.prog w=.ok .skip w'/\v=undef))/\
   DA Sh (h0.size+2) w w' (listed Tryz.prog 27 a op w)/\∃C' o',I3 B Z h0 C' o' (L.setIfInBounds i AT) (a.put op.dst v) w':=by
 rw[zO] at J;obtain⟨hl,op',M,_⟩:=mem_ready.1 hr;have hi:i<8:=by have:=(bU.1 M).1;rwa[zO] at this
 have m:L.getD i Ba=Ba:=by have N:i<L.size:=aa;simp[ajC,N] at hl⊢;exact hl
 have i8:∀j,oN i j=AT->L.getD j Ba=AT:=λj I=>OJ hr I;have hg:∀j,(L.setIfInBounds i AT).getD j Ba=if j=i then AT else L.getD j Ba:=λj=>RL J aa
 have i6:∀j,j≠i->(L.setIfInBounds i AT).getD j Ba=AT->L.getD j Ba=AT:=λj hj hl=>by rw[hg,if_neg hj] at hl;exact hl
 have s:∀j,j<8->(L.setIfInBounds i AT).getD j Ba=AT->∀k,oN j k=AT->(L.setIfInBounds i AT).getD k Ba=AT:=λj hj hl k hk=>by exact KT
 by_cases n:Cm i
 ·obtain⟨op,t,hw,f,hd,X⟩:=h.calm n hr;exact⟨op,_,w,t,hw,.inl f,⟨ay _,.refl _,λe he=>⟨(X e he).1,_,(X e he).2,cC h.cb h.grow,by have:=h.cb;omega,K⟩⟩,C,o,by rw[hd];exact h.put J n i8⟩
 have up:∀j k,j<8->oN j k=AT->L.getD k Ba=Ba->L.getD j Ba=Ba:=λj k hj hk hf=>by cases e:L.getD j Ba with|false=>rfl|true=>rw[h.cl j hj e k hk] at hf;cases hf
 have D:B.cb<w.heap.size:=cC h.cb h.grow;rcases(show i=4\/i=6\/i=7 by omega) with rfl|rfl|rfl
 ·
  obtain⟨op,t,pl,p,hd⟩:∃o,fe[4]?=an o/\o.op=.makeSlice 56 (.tmp 16) (.tmp 16)/\o.guard=ns/\o.dst=an 17:=⟨_,rfl,rfl,rfl,rfl⟩;have q3:a.tmps[16]?=an (U O B.sn):=h.v 3 aa (i8 3 aj)
  have f:(aie a.eval op).run Tryz.prog w=.ok (.value (.slice (an ⟨w.heap.size,0,ns⟩) B.sn B.sn)) (w.alloc (.cells (aif B.sn (.slice ns 0 0)) 68)):=by unfold aie;simp only[pl];simp[go_sem,q3,aej I]
  have q:listed Tryz.prog 27 a op w=#[]:=by refine listed_nil ?_;unfold aie;simp only[pl];simp[go_sem,q3,ae5 I]
  have g:∀c,c<w.heap.size->(w.heap.push (.cells (aif B.sn (.slice ns 0 0)) 68))[c]?=w.heap[c]?:=λc hc=>by rw[aiM hc,<-aik hc]
  refine⟨op,_,{w with heap:=w.heap.push (.cells (aif B.sn (.slice ns 0 0)) 68)},t,by simp[ahW,p],.inl f,⟨au,⟨rfl,rfl⟩,by rw[q];simp⟩,w.heap.size,o,?_⟩;rw[hd];have n5:=up 5 4 aa aj m;have n7:=up 7 4 aa aj m;have Q:(L.setIfInBounds 4 AT).getD 5 Ba=Ba:=by rw[hg,if_neg (by omega)];exact n5
  have u:(L.setIfInBounds 4 AT).getD 7 Ba=Ba:=by rw[hg,if_neg (by omega)];exact n7
  have d:∀e,e≠17->(a.put (an 17) (.slice (an ⟨w.heap.size,0,ns⟩) B.sn B.sn)).tmps[e]?=a.tmps[e]?:=λe he=>nG he
  refine⟨h.ds,λe he=>(d e λx=>by subst x;cases he).trans (h.bK e he),h.size.put,h.cb,by have:=h.grow;simp;omega,by rw[hg,hg,if_pos rfl,if_neg aa];have:=h.sz;rw[m] at this;simp at this⊢;omega,λc hc=>(g c (cC hc h.grow)).trans (h.old c hc),h.mX.of (g _ D),(d 1 aa).trans h.s1,s,
   λj hj hl=>?_,λ_=>⟨h.grow,au,vP (h.size.lt aw),au⟩,λhl=>?_,λ_ h6=>?_,λhl=>(by rw[u] at hl;cases hl)⟩
  ·rcases hj with rfl|rfl|rfl|rfl|rfl
   iterate 4 exact(d _ aa).trans (h.v _ aa (i6 _ aa hl))
   rw[Q] at hl;cases hl
  ·obtain⟨r,y,z,E⟩:=h.v6 (i6 6 aa hl);exact⟨r,by simp;omega,(d 4 aa).trans z,λ_=>(g o y).trans (E n7)⟩
  ·obtain⟨r,y,_⟩:=h.v6 (i6 6 aa h6);omega
 ·
  obtain⟨op,t,pl,p,hd⟩:∃o,fe[6]?=an o/\o.op=.alloc 58/\o.guard=ns/\o.dst=an 4:=⟨_,rfl,rfl,rfl,rfl⟩
  have f:(aie a.eval op).run Tryz.prog w=.ok (.value (.pointer (an ⟨w.heap.size,0,ns⟩))) (w.alloc (.cells jH 58)):=by unfold aie;simp only[pl];simp[go_sem,jH]
  have q:listed Tryz.prog 27 a op w=#[]:=by exact KU
  have g:∀c,c<w.heap.size->(w.heap.push (.cells jH 58))[c]?=w.heap[c]?:=λc hc=>by rw[aiM hc,<-aik hc]
  refine⟨op,_,{w with heap:=w.heap.push (.cells jH 58)},t,by simp[ahW,p],.inl f,⟨au,⟨rfl,rfl⟩,by rw[q];simp⟩,C,w.heap.size,?_⟩;rw[hd];have n7:=up 7 6 aa aj m;have u:(L.setIfInBounds 6 AT).getD 7 Ba=Ba:=by rw[hg,if_neg (by omega)];exact n7
  have d:∀e,e≠4->(a.put (an 4) (.pointer (an ⟨w.heap.size,0,ns⟩))).tmps[e]?=a.tmps[e]?:=λe he=>nG he
  refine⟨h.ds,λe he=>(d e λx=>by subst x;cases he).trans (h.bK e he),h.size.put,h.cb,by have:=h.grow;simp;omega,by rw[hg,hg,if_neg aa,if_pos rfl];have:=h.sz;rw[m] at this;simp at this⊢;omega,λc hc=>(g c (cC hc h.grow)).trans (h.old c hc),h.mX.of (g _ D),(d 1 aa).trans h.s1,s,
   λj hj hl=>(d _ aa).trans (h.v j hj (i6 j aa hl)),λhl=>?_,λ_=>⟨h.grow,au,vP (h.size.lt aw),λ_=>au⟩,λh4 _=>?_,λhl=>(by rw[u] at hl;cases hl)⟩
  ·obtain⟨r,y,z,E⟩:=h.v4 (i6 4 aa hl);exact⟨r,by simp;omega,(d 17 aa).trans z,(g C y).trans E⟩
  ·obtain⟨r,y,_⟩:=h.v4 (i6 4 aa h4);omega
 ·
  obtain⟨op,t,pl,p,hd⟩:∃o,fe[7]?=an o/\o.op=.store 58 (.tmp 4) (.tmp 18)/\o.guard=ns/\o.dst=ns:=⟨_,rfl,rfl,rfl,rfl⟩
  have all:∀j,j<7->L.getD j Ba=AT:=λj hj=>by have a7:(aij 7).all (λj=>oN 7 j)=AT:=aj;exact i8 j (gW.1 a7 j (fM.2 hj))
  obtain⟨r,y,z,E⟩:=h.v6 (all 6 aa);have q5:a.tmps[18]?=an (.agg (B.full C)):=h.v 5 aa (all 5 aa);have hz:=E m;obtain⟨w',R,y1,y2,y3,y4,S,F,_,_,T,y9⟩:=OI (P:=Tryz.prog) (B.full C).toList 0 jH w hz (by simp[dh.full,jH]) (by simp[dh.full];simp[Value.oneCell'])
  have V:R=B.full C:=by
   apply Array.ext
   ·rw[y3];simp[dh.full,jH]
   ·intro j h1 h2;have hj:=y4 j;have h6:(B.full C).size=6:=by simp[dh.full]
    exact KV
  subst V;have G:(B.full C).size=6:=rfl
  have f:(aie a.eval op).run Tryz.prog w=.ok .skip w':=by unfold aie;simp only[pl];simp[go_sem,z,q5,G,y1]
  have q:∀e∈listed Tryz.prog 27 a op w,∃j,e=⟨.cell ⟨o,j,ns⟩,AT,Ba⟩:=λe he=>by
   have hm:=mem_listed he;unfold aie at hm;simp only[pl] at hm;simp[go_sem,z,q5,G,y1] at hm;rcases y9 #[] e hm with W|W
   ·simp at W
   ·exact W
  refine⟨op,undef,w',t,by simp[ahW,p],.inr ⟨f,rfl⟩,⟨nf F.symm,T,λe he=>?_⟩,C,o,?_⟩
  ·obtain⟨j,rfl⟩:=q e he;exact⟨rfl,o,.inl ⟨_,rfl,rfl⟩,aa,by have:=h.sz;have e4:=Bool.toNat_le (L.getD 4 Ba);have e6:=Bool.toNat_le (L.getD 6 Ba);omega,λl hl=>A l o r hl⟩
  rw[hd];obtain⟨z1,z2,z3,z4⟩:=h.v4 (all 4 aa);have H:=h.ne (all 4 aa) (all 6 aa);refine⟨h.ds,h.bK,h.size,h.cb,by rw[F];exact h.grow,by rw[hg,hg,if_neg aa,if_neg aa,F];exact h.sz,λc hc=>(S c aa).trans (h.old c hc),h.mX.of (S _ (by have:=h.cb;omega)),h.s1,s,λj hj hl=>h.v j hj (i6 j aa hl),λ_=>⟨z1,by rw[F];exact z2,z3,(S C (iY H)).trans z4⟩,λ_=>⟨r,by rw[F];exact y,z,λhl=>?_⟩,λ_ _=>H,λ_=>y2⟩;rw[hg,if_pos rfl] at hl;cases hl
end
end
section
open Go.Conc Go.ConcN Go.RowKit Go.Conc.Lib Go.ConcR.Gen Go.ConcN.Gen aM
open Go.ConcR (KK wgBlock WgAt stA smA rd wr mk Payload Aside2 DC0 ofEvent_cell)
structure Made(B:dh)(Z:Act)(h0:Array Obj)(C o Wg:Nat)(a:Act)(w:rl):Prop where
 ds:a.defers=Z.defers
 bK:∀d,kept d=AT->a.tmps[d]?=Z.tmps[d]?
 size:Sz Z a
 s1:a.tmps[1]?=an (.pointer (an ⟨B.cb,B.co,ns⟩))
 s4:a.tmps[4]?=an (.pointer (an ⟨o,0,ns⟩))
 s5:a.tmps[5]?=an (.pointer (an ⟨Wg,0,ns⟩))
 grow:h0.size<=w.heap.size
 U5:Wg=h0.size+2
 old:∀c,c<h0.size->w.heap[c]?=h0[c]?
 U6:h0.size<=C/\h0.size<=o/\h0.size<=Wg/\o≠C/\o≠Wg/\C≠Wg/\C<w.heap.size/\o<w.heap.size/\Wg<w.heap.size
 hC:w.heap[C]?=an (.cells (aif B.sn (.slice ns 0 0)) 68)
 ho:w.heap[o]?=an (.cells (B.full C) 58)
 hW:WgAt 84 Wg w 0 0
section
variable{B:dh}{Z:Act}{w:rl}{Sh:Loc->Prop}{nb:Nat}{b:ahY}{k:List Item}{cs:List ahY}
def adk:LetsDraw (DA Sh nb):=λw=>⟨ay _,⟨rfl,rfl⟩,λe he=>by simp at he⟩
def adl(w:rl):RA w w:=⟨w.drawn,rfl⟩
def aaa(v:b.kind≠.early)(H:b.fn=27)(T:Sz Z Z)(s1:Z.tmps[1]?=an (.pointer (an ⟨B.cb,B.co,ns⟩)))(hc:qF B w)(V:B.sn<=1000)(I:∀l,bQ B.cb l->¬Sh l)(z:∀l c,w.heap.size<=c->bQ c l->¬Sh l):
  ∃m,Goes Tryz.prog AT RA (DA Sh (w.heap.size+2)) (λg w'=>∃C o Wg a,g=G (b.at a (.code (.seq tt (.seq (.region 11 gN Ba) dA))::k)) cs/\Made B Z w.heap C o Wg a w') m (G (b.at Z (.code iv::k)) cs) w:=by
 refine⟨(fe.size+6)+1+1,?_⟩;rw[abE];refine jy rfl λw₁ r=>?_;obtain⟨d,rfl⟩:=r;rw[stepG_seq];refine⟨FH,?_⟩
 have t:∀i,(aif fe.size Ba).getD i Ba=Ba:=λi=>by
  rcases cZ i fe.size with y|J
  ·simp[ajC,y]
  ·simp[ajC,Nat.not_lt.2 J]
 have K:=QR hc.W
 have j:∀w':rl,w'.heap=w.heap->I3 B Z w.heap 0 0 (aif fe.size Ba) Z w':=λw' hw=>⟨rfl,λ_ _=>rfl,T,K,by rw[hw];exact ay _,by rw[hw,t 4,t 6];rfl,λc _=>by rw[hw],hc.of (by rw[hw]),s1,λi _ h=>(by rw[t i] at h;cases h),λi _ h=>(by rw[t i] at h;cases h),λh=>(by rw[t 4] at h;cases h),λh=>(by rw[t 6] at h;cases h),λh=>(by rw[t 4] at h;cases h),λh=>(by rw[t 7] at h;cases h)⟩
 refine OG v adk agm mixed λw₁ r rest hlen X=>?_;obtain⟨d2,rfl⟩:=r;refine Goes.mono (EH (N:=6) v adl (λL a w'=>∃C o,I3 B Z w.heap C o L a w') (λ_=>False) (λL a w w₁⟨C,o,h⟩ r=>⟨C,o,h.rely r⟩) rfl (λL i rest a w hc _ _ _ _=>hc.elim) (λL i a w' _ h1 M⟨C,o,j⟩=>?_) (λL a w' h1 M⟨C,o,j⟩=>?_) rest _ _ _ X ⟨0,0,j _ rfl⟩) aa
 ·rw[H];exact j.step h1 M I (λl c hc hl=>z l c hc hl) V
 have p:∀i,i<8->L.getD i Ba=AT:=λi hi=>by
  have:=M i (by rw[zO];exact hi);have y:i<L.size:=by rw[h1,zO];exact hi
  simp[ajC,y] at this⊢;exact this
 have step:∀{g R:BE}{n:Nat}{u:rl}{St:BE->rl->Prop},g.status=.running->(∀w,aiq Tryz.prog AT g w=.go R w #[])->(∀d,Goes Tryz.prog AT RA (DA Sh (w.heap.size+2)) St n R (u.at d))->Goes Tryz.prog AT RA (DA Sh (w.heap.size+2)) St (n+1) g u:=λhr hs h=>jy hr λw₁⟨d,e⟩=>by subst e;rw[hs];exact⟨FH,h d⟩
 refine step rfl (λw=>Kx) λd3=>?_;replace j:=j.rely (⟨d3,rfl⟩:RA w' (w'.at d3));generalize w'.at d3=w' at j⊢;refine step rfl (λw=>stepG_seq) λd3=>?_;replace j:=j.rely (⟨d3,rfl⟩:RA w' (w'.at d3));generalize w'.at d3=w' at j⊢;refine step rfl (λw=>stepG_region) λd3=>?_;replace j:=j.rely (⟨d3,rfl⟩:RA w' (w'.at d3));generalize w'.at d3=w' at j⊢;rw[n4];obtain⟨op,A,pl,IV,hd⟩:∃o,GQ[0]?=an o/\o.op=.alloc 84/\o.guard=ns/\o.dst=an 5:=⟨_,rfl,rfl,rfl,rfl⟩;refine jy rfl λf r=>?_;replace j:=j.rely r
 have D:(aie a.eval op).run Tryz.prog f=.ok (.value (.pointer (an ⟨f.heap.size,0,ns⟩))) (f.alloc (wgBlock 84 0 0)):=by unfold aie;simp only[pl];simp[go_sem,wgBlock]
 have P:listed Tryz.prog b.fn a op f=#[]:=by exact KU
 rw[stepG_value A CO v D,P,hd];refine⟨⟨by show f.heap.size<=(f.heap.push _).size;simp,⟨rfl,rfl⟩,λe he=>by simp at he⟩,?_⟩;have q:∀c,c<f.heap.size->(f.heap.push (wgBlock 84 0 0))[c]?=f.heap[c]?:=λc hc=>by rw[aiM hc,<-aik hc]
 obtain⟨x1,x2,_,x4⟩:=j.v4 (p 4 aa);obtain⟨y1,y2,y3,_⟩:=j.v6 (p 6 aa);have Q:=j.ne (p 4 aa) (p 6 aa)
 have F:Made B Z w.heap C o f.heap.size (a.put (an 5) (.pointer (an ⟨f.heap.size,0,ns⟩))) (f.alloc (wgBlock 84 0 0)):=by have hg:=j.grow;have hz2:=j.sz;rw[p 4 aa,p 6 aa] at hz2;refine⟨j.ds,λe he=>(nG λx=>by subst x;cases he).trans (j.bK e he),j.size.put,(nG aw).trans j.s1,(nG aw).trans y3,vP (j.size.lt aw),by show _<=(f.heap.push _).size;simp;omega,hz2,λc hc=>(q c aa).trans (j.old c hc),⟨x1,y1,hg,Q,aa,aa,by show C<(f.heap.push _).size;simp;omega,by show o<(f.heap.push _).size;simp;omega,by show _<(f.heap.push _).size;simp⟩,(q C x2).trans x4,(q o y2).trans (j.v7 (p 7 aa)),?_⟩;show(f.heap.push _)[f.heap.size]?=_;simp
 generalize f.heap.size=Wg at F⊢;generalize f.alloc (wgBlock 84 0 0)=s at F⊢;generalize a.put (an 5) (.pointer (an ⟨Wg,0,ns⟩))=a at F⊢;have E:∀{s:rl} d,Made B Z w.heap C o Wg a s->Made B Z w.heap C o Wg a (s.at d):=λd h=>⟨h.ds,h.bK,h.size,h.s1,h.s4,h.s5,h.grow,h.U5,h.old,h.U6,h.hC,h.ho,h.hW⟩;refine step rfl (λw=>Kx) λd3=>?_;exact e7 λS⟨d4,e⟩=>by subst e;exact⟨C,o,Wg,a,rfl,E d4 (E d3 F)⟩
end
end
end Go.Proofs.Q0.Open
namespace Go.Proofs.Q0.aM
section
variable[ah]
open Go.Conc (G stepG_oper stepG_value stepG_none)
section
variable{P:OF}{Q:BE->Array Obj->Prop}{b:ahY}{a:Act}{ops:Array ajq}{i:Nat}{rest:List Nat}{k:List Item}{cs:List ahY}{w:rl}{o:ajq}
omit [ah] in
def World.adm(w:rl):w.on w.tape w.drawn=w:=rfl
omit [ah] in
def pW{x:Item}(d:∀c,x≠.code (.refuse c)):¬Lv P (G (b.at a (x::k)) cs):=by
 rintro⟨fr,e,h⟩;injection e with f g;subst f;rcases h with⟨h1,_⟩|⟨_,c,h1⟩
 ·cases h1
 ·injection h1 with h1;exact d c h1
omit [ah] in
def bO.go{g:BE}(h:bO P Q g w)(e:¬Lv P g):∃g1 w1 es,aiq P AT g w=.go g1 w1 es/\(∀c,g1.frame.mode≠.panicking c)/\Nx P (g1,w1) (g,w)/\bO P Q g1 w1:=by
 cases h with
 |lv h=>exact absurd h e
 |step _ h1 f=>obtain⟨g1,w1,es,d,j⟩:=h1 w.tape λ_ _ _=>rfl;exact⟨g1,w1,es,d,j,⟨e,w.tape,es,λ_ _ _=>rfl,d⟩,f w.tape (λ_ _ _=>rfl) g1 w1 es d⟩
omit [ah] in
def bO.to{g g1:BE}{w1:rl}{es:Array aiK}(h:bO P Q g w)(d:¬Lv P g)(e:aiq P AT g w=.go g1 w1 es):Nx P (g1,w1) (g,w)/\bO P Q g1 w1:=by obtain⟨l,m,f,c,_,j,hw⟩:=h.go d;rw[e] at c;cases c;exact⟨j,hw⟩
def bO.inv{K:aI}{φ:Ren}{s t:Sem AS}{h':Array Obj}(h:bO P Q (G (b.at a (.inRegion ops (i::rest)::k)) cs) w)(j:b.kind≠.early)(p:ops[i]?=an o)(hg:o.guard=ns)
  (he:aie a.eval o=s.bind λv=>.pure (.value v))(y:SR P K VR φ s t)(z:HR K φ w.heap h'):
  ∃v w1,s.run P w=.ok v w1/\Nx P (G (b.at (a.put o.dst v) (.inRegion ops rest::k)) cs,w1) (G (b.at a (.inRegion ops (i::rest)::k)) cs,w)/\bO P Q (G (b.at (a.put o.dst v) (.inRegion ops rest::k)) cs) w1:=by
 have A:¬Lv P (G (b.at a (.inRegion ops (i::rest)::k)) cs):=pW (λ_ e=>by cases e);obtain⟨g1,w1,es,d,B,C,hw⟩:=h.go A;have f:ahW o (yielded ops a.tmps)=AT:=yG;cases hr:s.run P w with
 |ok v l=>
  have g:(aie a.eval o).run P w=.ok (.value v) l:=by exact L3
  have D:=stepG_value (main:=AT) (k:=k) (cs:=cs) (rest:=rest) p f j g;rw[D] at d;cases d;exact⟨v,_,rfl,C,hw⟩
 |halt x l=>
  exfalso;have r:=(y.wh w {w with heap:=h'} ⟨z,λ_ _=>rfl⟩ x l hr).1
  have g:(aie a.eval o).run P w=.halt x l:=by exact L3
  rw[stepG_oper p f] at d;have n:((b.at a (.inRegion ops (i::rest)::k)).kind==CallKind.early)=Ba:=by simpa[Frame.at] using j
  have h1:=pJ P (aie a.eval o) w #[];unfold stepG.apply at d;generalize(aie a.eval o).runT P w #[]=q at h1 d;obtain⟨q1,F⟩:=q;subst h1;simp only[if_true,n,Bool.false_eq_true,if_false,g] at d;cases x with
  |panic v=>obtain⟨c,hc⟩:=raise_mode (b.at a (.inRegion ops (i::rest)::k)) [{v,recovered:=Ba}];injection d with E _ _;exact B c (by rw[<-E];show(Frame.raise _ _).mode=_;rw[hc])
  |stuck m=>simp only[GStep.after] at d;cases d
  |unsupported u=>cases u<;>first|exact r.elim|(simp only[GStep.after] at d;cases d)
  |_=>exact r.elim
end
end
end Go.Proofs.Q0.aM
