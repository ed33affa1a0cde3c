import Derived.Test.YtjjdeakghpmpfaaGreatDoorK22
import Derived.Laws.MakeOwn
import Derived.Room.Make
set_option maxRecDepth 100000
set_option maxHeartbeats 8000000
set_option linter.all false
open Go.Value renaming int->U,slice->Y,bool->a9,agg->a5,pointer->ci,tuple->dl,iface->em
open Go.IntKind renaming i64->O
open Go.Obj renaming cells->ac
open Go.Ending renaming returned->be
open Array renaming getD->aka,getElem?_eq_getElem->aiN,getElem?_push_lt->ajx,replicate->aiD
open Go renaming Event->ajl,Frame->aiH,Goroutine->so,Oper->aku,Program->Kx,Value->rl,World->ns,execOp->ait,stepG->aiO
open Go.Conc renaming aside_setCell->akp,stepG_region_end->AT
open Go.MemOp renaming ofEvents->SZ
open Go.Region renaming binds->ajX,ready->aiz,wanted->aiu
open Go.World renaming cell?->aiW,frozen?->ais
open List renaming range->aiB
namespace Go.Proofs
def xZ{p:Prop}(h:p:=by rw[IntKind.wrap_i64];omega):p:=h
def Lf{p:Prop}(h:p:=by
  obtain rfl:g=a:=by rw[h0] at hi;exact(aL hi).symm
  have h1:=vD (w.at d) ⟨d,rfl⟩;cases hs:stepG P true g (w.at d) with
  |go g' w' es=>rw[hs] at h1;obtain⟨hD,hG'⟩:=h1;have Gj:=runT_crowd_go (P:=P) (sl:=pu) (i:=0) hi (show stepG P (0==0) g (w.at d)=_ from hs);have UV:=(hF.at d).agX (a:=g) (a':=g') (fn:=g.frame.fn) (pos:=g.frame.place) hD;have sV:=hF.pos;obtain⟨N,JT,a',oI,Gk,t',q',y1,y2,y3,y4,y5,yio,y6⟩:=ih _ _ g' w' pu _ q (au _) hG' UV (by simp[sV]) (adO In hD);exact⟨N+1,JT,a',oI,Gk,t',q',by simp only[runNT,f9,Gj];exact y1,y2.trans aj,y3,y4,y5,hD.io.trans yio,y6⟩
  |_=>rw[hs] at h1;exact h1.elim):p:=h
def Mg{p:Prop}(h:p:=by
  have e:Tryz.t53.size=1:=aD;rw[e] at h;simp only[Int.toNat_natCast,Nat.mul_one] at h
  have e2:madeCells (Value.slice none 0 0).cells n=Array.replicate n (.slice none 0 0):=by
   apply Array.ext
   ·simp[size_madeCells]
   ·intro i h1 h2;simp[madeCells,Value.cells,Nat.mod_one]
  rw[e2] at h;exact h):p:=h
def Lg{p:Prop}(h:p:=by
  rw[hg];split
  ·rfl
  ·by_cases e:j=i
   ·subst e;exact g0 k hk
   ·exact h.cl j hj (ip j e hl) k hk):p:=h
def Lh{p:Prop}(h:p:=by refine listed_nil ?_;unfold execOp;simp only[mp,Sem.events_map,Sem.events_bind,Instr.alloc,newVar,newRow];simp[go_sem]):p:=h
def Li{p:Prop}(h:p:=by rw[if_pos aA] at hj;rw[Array.getElem?_eq_getElem h1] at hj;simp only[Nat.sub_zero,Array.getElem?_toList] at hj;rw[Array.getElem?_eq_getElem h2] at hj;exact aL hj):p:=h
def Cn{p:Prop}(h:p:=by simp[Region.wanted,xe]):p:=h
def Mh{p:Prop}(h:p:=by rw[he];show(s>>=λv=>pure (Next.value v)).run P w=_;rw[Sem.run_bind,hr];rfl):p:=h
end Go.Proofs
namespace Go.Proofs.Q0.Open
open Go.Proofs.Tryz
variable{w:ns}
section
open Go.Conc Go.ConcN Go.RowKit Go.Conc.Lib Go.ConcR.Gen Go.ConcN.Gen aI
open Go.ConcR (KK wgBlock WgAt stA smA rd wr mk Payload Aside2 DC0 ofEvent_cell)
open Wg (Ab yZ)
def n5:aiB GN.size=[0,1,2,3]:=aC
def n6:aiB AH.size=[0]:=aC
def n7:aiB sR.size=[0,1,2]:=aC
def n8:aiB qe.size=[0]:=aC
def n9:aiB ow.size=[0,1]:=aC
def n10:aiB pQ.size=[0,1]:=aC
section
variable{A:Main}{Z:Act}{N0:Nat}{b:aiH}{k:List Item}{cs:List aiH}{Child:Nat->(Nat->Prop)->so->ns->Prop}{Fin:Nat->(Nat->Prop)->so->ns->Prop}
def ab9{fn:FuncId}{a:Act}{o:aku}(h:o.op=.alloc 3):listed Tryz.prog fn a o w=#[]:=by refine listed_nil ?_;unfold ait;simp only[h,Sem.events_map,Sem.events_bind,Instr.alloc,newVar,newRow];simp[go_sem]
def Ra{b o:Nat}{v:rl}(h:w.cell? ⟨b,o,none⟩=some v):b<w.heap.size:=by unfold aiW at h;cases c:w.heap[b]? with|none=>simp[c] at h|some o=>exact(bF.1 c).1
def SX(A:Main)(N0:Nat)(Child Fin:Nat->(Nat->Prop)->so->ns->Prop)(M F:Nat->Prop)(j:Nat)(p:Bool)(n:Nat)(W:ns->Prop)(g:so):Prop:=∀w,W w->a8 Tryz.prog N0 104 A.Wg A.C A.n Child Fin j p n M F g w
def mD(A:Main)(N0:Nat)(M:Nat->Prop)(W:ns->Prop):Prop:=∀w w',RS N0 M 104 A.Wg A.C A.n w w'->W w->W w'
section
variable{M F:Nat->Prop}{j n i:Nat}{p:Bool}{W:ns->Prop}{g g':so}{a:Act}{L:List (Nat×rl)}{ops:Array aku}{r:List Nat}{x y:Code}
def SX.at(hw:W w)(h:SX A N0 Child Fin M F j p n W g):a8 Tryz.prog N0 104 A.Wg A.C A.n Child Fin j p n M F g w:=h w hw
def SX.to(c:mD A N0 M W)(d:∀w,aiO Tryz.prog true g w=.go g' w #[])(h:SX A N0 Child Fin M F j p n W g')(hr:g.status=.running:=by rfl):SX A N0 Child Fin M F j p n W g:=λ_ hw=>.calm hr d λw₁ r=>h w₁ (c _ _ r hw)
def SX.sq(c:mD A N0 M W)(h:SX A N0 Child Fin M F j p n W (G (b.at a (.code x::.code y::k)) cs)):SX A N0 Child Fin M F j p n W (G (b.at a (.code (.seq x y)::k)) cs):=h.to c λ_=>stepG_seq
def SX.rg(l:List Nat){id:Nat}(c:mD A N0 M W)(h:SX A N0 Child Fin M F j p n W (G (b.at a (.inRegion ops l::k)) cs))(d:aiB ops.size=l:=by kernel_rfl):SX A N0 Child Fin M F j p n W (G (b.at a (.code (.region id ops false)::k)) cs):=by subst d;exact h.to c λ_=>stepG_region
def SX.re(c:mD A N0 M W)(h:SX A N0 Child Fin M F j p n W (G (b.at a k) cs)):SX A N0 Child Fin M F j p n W (G (b.at a (.inRegion ops []::k)) cs):=h.to c λ_=>AT
def SX.oU{t:Bool}(c:mD A N0 M W)(hS:SF Z L a)(h:SX A N0 Child Fin M F j p n W (G (b.at a (.code (if t then x else y)::k)) cs))(d:L.lookup i=some (.bool t):=by rfl):SX A N0 Child Fin M F j p n W (G (b.at a (.code (.cond (.tmp i) x y)::k)) cs):=h.to c λ_=>stepG_cond (lD (hS.f _ _ d))
def SX.op{d:Nat}(op:Op)(v:rl)(m:mD A N0 M W)(c:b.kind≠.early)(hS:SF Z L a)(f:∃o,ops[i]?=some o/\o.op=op/\o.guard=none/\o.dst=some d:=by exact⟨_,rfl,rfl,rfl,rfl⟩)(hd:(!kept d&&decide (d<41))=true:=by decide)
  (hr:∀o:aku,o.op=op->∀w,(ait a.eval o).run Tryz.prog w=.ok (.value v) w/\(ait a.eval o).events Tryz.prog w #[]=#[]:=by(intro o e w;unfold execOp;simp only[e];constructor<;>simp[go_sem,hS.tm,List.lookup,xd,Instr.makeFunc, *]))
  (h:∀a,SF Z ((d,v)::L) a->SX A N0 Child Fin M F j p n W (G (b.at a (.inRegion ops r::k)) cs)):SX A N0 Child Fin M F j p n W (G (b.at a (.inRegion ops (i::r)::k)) cs):=by
 obtain⟨o,f,e,q,l⟩:=f;refineλw hw=>a8.op (v:=v) c f q (λw=>(hr o e w).1) (λw=>(hr o e w).2) λw₁ r₁=>?_;rw[l];exact h _ (hS.put hd) w₁ (m _ _ r₁ hw)
end
def aca(D:b.kind≠.early)(BN:b.fn=40)(S:MS A N0)
  (hch:∀i u M w,i<A.n->MI A N0 M->M u->u≠A.C->u≠A.Wg->WK (A.kH i u) N0 (λc=>c=A.o\/c=u) w->Child i M (born Tryz.prog (ma (A.kH i u))) w)
  (agY:∀M a w,MI A N0 M->SF Z (xd A A.n) a->MK A N0 M w->Fin A.n M (G ((base 65).at ⟨#[.pointer (some ⟨A.Wg,0,none⟩)]++aiD 83 undef,[]⟩ [.code (body_wait Tryz.link)]) (b.at a (.inRegion gq [0]::.code du::k)::cs)) w):
  ∀r i,i+r=A.n->∀M F a w,MI A N0 M->MK A N0 M w->SF Z (xd A i) a->a8 Tryz.prog N0 104 A.Wg A.C A.n Child Fin i false 0 M F (G (b.at a (.code jh::.inLoop jh::.inBlock 0::.code (.seq (.region 11 gq false) du)::k)) cs) w:=by
 have BO:=Es;intro r
 induction r with
 |zero=>intro i hi M F a w R hK hS;obtain rfl:i=A.n:=aa;have q:mD A N0 M (MK A N0 M):=λ_ _ r h=>h.rely S R r;refine SX.at hK ?_;rw[show Item.code jh=.code (.seq (.region 6 AH false) (.seq (.cond (.tmp 23) .skip (.exit 0)) (.seq (.block 1 (.seq (.region 7 sR false) (.seq (.region 8 qe false) (.region 9 ow false)))) (.region 10 pQ false)))) by rw[Es]];refine .sq q (.rg [0] q (.op (.binOp .lss 3 (.tmp 22) (.tmp 21) 3) (.bool false) q D hS (h:=λa hS=>?_)));refine .re q (.sq q (.oU (t:=false) q hS (.to q (λ_=>stepG_exit rfl) (.sq q (.rg [0] q ?_)))));obtain⟨o,ho,mp,hg,hd⟩:∃o,gq[0]?=some o/\o.op=.call {callee:=.value (.func 65),args:=#[.tmp 5],argTypes:=#[104]}/\o.guard=none/\o.dst=some 28:=⟨_,rfl,rfl,rfl,rfl⟩;refineλw hK=>a8.call D ho hg mp func65 (nm_wait Tryz.link) rfl λw₁ r₁=>?_;rw[show(#[.tmp 5]:Array Operand).map a.eval=#[.pointer (some ⟨A.Wg,0,none⟩)] by simp;exact hS.ev rfl];exact .fin λl E=>agY M _ l R (hS.sub _) (q _ _ E (q _ _ r₁ hK))
 |succ r ih=>
  intro i hi M F a w R hK hS;have V:i<A.n:=aa;have ah9:(i:Int)<(A.n:Int):=aa;have q:mD A N0 M (MK A N0 M):=λ_ _ r h=>h.rely S R r;refine SX.at hK ?_;clear hK;rw[show Item.code jh=.code (.seq (.region 6 AH false) (.seq (.cond (.tmp 23) .skip (.exit 0)) (.seq (.block 1 (.seq (.region 7 sR false) (.seq (.region 8 qe false) (.region 9 ow false)))) (.region 10 pQ false)))) by rw[Es]];refine .sq q (.rg [0] q (.op (.binOp .lss 3 (.tmp 22) (.tmp 21) 3) (.bool true) q D hS (h:=λa hS=>?_)));refine .re q (.sq q (.oU (t:=true) q hS (.to q (λ_=>stepG_skip) (.sq q (.to q (λ_=>stepG_block) (.sq q (.rg [0,1,2] q (.op (.move (.tmp 22)) (U O i) q D hS (h:=λa hS=>?_)))))))));intro w₁ hK;have Va:A.o<w₁.heap.size:=Ra hK.o;have oK:A.C<w₁.heap.size:=let⟨_,h,_⟩:=hK.pay;(bF.1 h).1;have IZ:A.Wg<w₁.heap.size:=let⟨_,_,h⟩:=hK.live;(bF.1 h).1;obtain⟨o1,gt,TR,t7,hd1⟩:∃o,sR[1]?=some o/\o.op=.alloc 3/\o.guard=none/\o.dst=some 6:=⟨_,rfl,rfl,rfl,rfl⟩;obtain⟨o2,ho2,TS,U',wS⟩:∃o,sR[2]?=some o/\o.op=.store 3 (.tmp 6) (.tmp 24)/\o.guard=none/\o.dst=none:=⟨_,rfl,rfl,rfl,rfl⟩;refine a8.G4 rfl λl E=>?_;replace hK:=hK.rely S R E;have Va:=cG Va E.size;have oK:=cG oK E.size;have IZ:=cG IZ E.size;clear E
  have N:(ait a.eval o1).run Tryz.prog l=.ok (.value (.pointer (some ⟨l.heap.size,0,none⟩))) {l with heap:=l.heap.push (.cells #[U O 0] 3)}:=by show _=Result.ok _ (l.alloc (.cells #[U O 0] 3));unfold ait;simp only[TR];simp[go_sem]
  have hl:listed Tryz.prog b.fn a o1 l=#[]:=ab9 TR;have P:∀c,c<l.heap.size->(l.heap.push (.cells #[U O 0] 3))[c]?=l.heap[c]?:=λc hc=>by rw[ajx hc,<-aiN hc]
  have hN:N0<=l.heap.size:=by have:=R.ge _ R.o;omega
  refine⟨_,_,_,stepG_value gt (by simp[aiu,t7]) D N,⟨aj,λc hc _=>P c hc,⟨rfl,rfl⟩,by rw[hl];simp⟩,?_⟩
  have oP:RS N0 M 104 A.Wg A.C A.n l {l with heap:=l.heap.push (.cells #[U O 0] 3)}:=by
   refine⟨aj,λc hc=>?_,λ⟨st,sm,h⟩=>⟨st,sm,h.of_block (P _ IZ)⟩,λ⟨arr,h1,h2⟩=>⟨arr,(P _ oK).trans h1,h2⟩⟩;rcases de c l.heap.size with aT|wt
   ·exact P c aT
   ·rcases hc with hc|⟨hc,_⟩
    ·omega
    ·exact absurd (hK.lt c hc) aa
  have K:MI A N0 (grow M l {l with heap:=l.heap.push (.cells #[U O 0] 3)}):=⟨.inl R.o,.inl R.C,.inl R.Wg,λc hc=>hc.elim (R.ge c) λh=>aJ hN h.1⟩;have Q:(grow M l {l with heap:=l.heap.push (.cells #[U O 0] 3)}) l.heap.size:=.inr ⟨au _,aj⟩;have BP:(grow F l {l with heap:=l.heap.push (.cells #[U O 0] 3)}) l.heap.size:=.inr ⟨au _,aj⟩;have H:=hK.rely S R oP;have B:MK A N0 (grow M l {l with heap:=l.heap.push (.cells #[U O 0] 3)}) {l with heap:=l.heap.push (.cells #[U O 0] 3)}:=⟨λc hc=>hc.elim (H.lt c) λh=>h.2,H.oF,H.o,H.s,H.W,H.I,H.vk,H.live,H.pay⟩;have z:(({l with heap:=l.heap.push (.cells #[U O 0] 3)}:ns).heap[l.heap.size]?)=some (.cells #[U O 0] 3):=aj;clear H oP P N hl hK;generalize hw3:({l with heap:=l.heap.push (.cells #[U O 0] 3)}:ns)=GZ at K Q BP B z⊢;clear hw3;generalize grow M l GZ=J at K Q B⊢;generalize grow F l GZ=aia at BP⊢;have tF:l.heap.size≠A.C:=aa;have PB:l.heap.size≠A.Wg:=aa;have Vb:l.heap.size≠A.o:=aa;rw[hd1];replace hS:=hS.put (d:=6) (v:=.pointer (some ⟨l.heap.size,0,none⟩)) aq;have s6:=hS.f 6 _ rfl;have BQ:=hS.f 24 _ rfl;generalize a.put (some 6) (.pointer (some ⟨l.heap.size,0,none⟩))=a at hS s6 BQ⊢;generalize l.heap.size=u at*;refine a8.G4 rfl λm TU=>?_;replace B:=B.rely S K TU;replace z:=(TU.cM u (.inr ⟨Q,tF,PB⟩)).trans z;have hc:m.cell? ⟨u,0,none⟩=some (U O 0):=by simp[aiW,z]
  have hz:m.frozen? ⟨u,0,none⟩=false:=by simp[ais,z]
  have N:(ait a.eval o2).run Tryz.prog m=.ok .skip (m.setCell ⟨u,0,none⟩ (U O i)):=by unfold ait;simp only[TS];simp[go_sem,stored,hc,hz,s6,BQ]
  have hl:listed Tryz.prog b.fn a o2 m=#[⟨.cell ⟨u,0,none⟩,true,false⟩]:=by
   have he:(ait a.eval o2).events Tryz.prog m #[]=#[⟨.cell ⟨u,0,none⟩,true,false⟩]:=by unfold ait;simp only[TS];simp[go_sem,storedEv,hc,hz,s6,BQ]
   unfold listed;rw[he,seen_eq (by rw[BN];kernel_rfl) aj]
  have T:=akp m ⟨u,0,none⟩ (U O i)
  have Vd:(m.setCell ⟨u,0,none⟩ (U O i)).heap[u]?=some (.cells #[U O i] 3):=by rw[setCell_eq_setRow m u 0 _ _ (0,0) _ z,setRow_heap m u _ _ _ _ z];rfl
  refine⟨_,_,_,stepG_none ho2 (by simp[aiu,U']) D N,⟨mJ T.size.symm,λc _ hn=>T.block c λe=>hn (e▸BP),⟨T.os,T.output⟩,λe he=>?_⟩,?_⟩
  ·rw[hl,Array.mem_singleton] at he;subst he;exact⟨rfl,u,.inl ⟨_,rfl,rfl⟩,.inl (.inl BP)⟩
  have gs:∀X:Nat->Prop,grow X m (m.setCell ⟨u,0,none⟩ (U O i))=X:=λX=>by funext c;exact propext ⟨λh=>h.elim id λ⟨h1,h2⟩=>by rw[T.size] at h2;omega,.inl⟩
  rw[gs,gs,wS]
  have eq:MK A N0 J (m.setCell ⟨u,0,none⟩ (U O i)):=by
   have cell:∀{b o:Nat}{sp:Option Nat},b≠u->(m.setCell ⟨u,0,none⟩ (U O i)).cell? ⟨b,o,sp⟩=m.cell? ⟨b,o,sp⟩:=λ{b o sp} hb=>by simp only[aiW,T.block b hb]
   have wt:=K.ge u Q;have:=S.cb;have:=S.sa;refine⟨λc hc=>by rw[T.size];exact B.lt c hc,(T.block _ (kS Vb)).trans B.oF,(cell (kS Vb)).trans B.o,(cell aa).trans B.s,(cell aa).trans B.W,(cell aa).trans B.I,λi hi=>?_,?_,?_⟩
   ·rw[<-B.vk i hi];simp only[aiW];rw[rO,T.block _ (show A.sa.block≠u by omega)]
   ·obtain⟨st,sm,h⟩:=B.live;exact⟨st,sm,h.of_block (T.block _ (kS PB))⟩
   ·obtain⟨arr,h1,h2⟩:=B.pay;exact⟨arr,(T.block _ (kS tF)).trans h1,h2⟩
  have q:mD A N0 J (λw=>MK A N0 J w/\w.heap[u]?=some (.cells #[U O i] 3)):=λ_ _ r h=>⟨h.1.rely S K r,(r.cM u (.inr ⟨Q,tF,PB⟩)).trans h.2⟩;refine SX.at (W:=λw=>MK A N0 J w/\w.heap[u]?=some (.cells #[U O i] 3)) ⟨eq,Vd⟩ ?_;clear z hc hz N hl T gs B eq Vd s6 BQ;replace hS:SF Z _ (a.put none undef):=hS;generalize a.put none undef=a at hS⊢;refine .re q (.sq q (.rg [0] q ?_));obtain⟨o8,Ve,agZ,hg8,hd8⟩:∃o,qe[0]?=some o/\o.op=.call {callee:=.value (.func 61),args:=#[.tmp 5,.const (U O 1)],argTypes:=#[104,3]}/\o.guard=none/\o.dst=some 25:=⟨_,rfl,rfl,rfl,rfl⟩;refineλw hK=>a8.call D Ve hg8 agZ Tryz.vu.f_add (nm_add Tryz.link) rfl λw₁ r₁=>?_;replace hK:=q _ _ r₁ hK;clear r₁
  have ea:(#[.tmp 5,.const (U O 1)]:Array Operand).map a.eval=#[.pointer (some ⟨A.Wg,0,none⟩),U O 1]:=by simp only[List.map_toArray,List.map_cons,List.map_nil];rw[hS.ev (i:=5) rfl];rfl
  rw[ea];have qo:=Ab (L:=Tryz.link) (Wg:=A.Wg) (b₀:=b) (a₀:=a) (ops₀:=qe) (i₀:=0) (rest₀:=[]) (k₀:=.code (.region 9 ow false)::.inBlock 1::.code (.region 10 pQ false)::.inLoop jh::.inBlock 0::.code (.seq (.region 11 gq false) du)::k) (cs:=cs) Tryz.vu w₁ hK.1.live;simp only[body_add,addFn,Option.getD_some] at qo
  walk_nrmf addFn
  refine a8.add1 rfl qo hK.1.live S.CW (K.ge _ K.Wg) λw₁ _ r₁=>?_;replace hK:=q _ _ r₁ hK;rw[show(qe[0]?).bind (·.dst)=some 25 by rw[Ve];exact hd8];replace hS:=hS.put (d:=25) (v:=.tuple #[]) aq;generalize a.put (some 25) (.tuple #[])=a at hS⊢;refine SX.at hK (.re q (.rg [0,1] q (.op (.makeFunc (.func 62) #[] #[.tmp 5,.tmp 1,.tmp 6,.tmp 4]) (.func (.func 62) #[] #[.pointer (some ⟨A.Wg,0,none⟩),.pointer (some ⟨A.cb,A.co,none⟩),.pointer (some ⟨u,0,none⟩),.pointer (some ⟨A.o,0,none⟩)]) q D hS (h:=λa hS=>?_))));obtain⟨og,wB,TV,hgg,hdg⟩:∃o,ow[1]?=some o/\o.op=.go {callee:=.value (.tmp 26),args:=#[],argTypes:=#[]}/\o.guard=none/\o.dst=none:=⟨_,rfl,rfl,rfl,rfl⟩;have Vf:=hS.f 26 _ rfl
  have Id:∀w,aiO Tryz.prog true (G (b.at a (.inRegion ow [1]::.inBlock 1::.code (.region 10 pQ false)::.inLoop jh::.inBlock 0::.code (.seq (.region 11 gq false) du)::k)) cs) w=.spawn (G (b.at a (.inRegion ow []::.inBlock 1::.code (.region 10 pQ false)::.inLoop jh::.inBlock 0::.code (.seq (.region 11 gq false) du)::k)) cs) (born Tryz.prog (ma (A.kH i u))) w #[]:=λw=>by
   have hr:(ait a.eval og).run Tryz.prog w=.ok (.spawn (ma (A.kH i u))) w:=by unfold ait;simp only[TV];simp[go_sem,Vf,resolve,Deferred.ofValue,ma,Main.kH]
   have he:(ait a.eval og).events Tryz.prog w #[]=#[]:=by unfold ait;simp only[TV];simp[go_sem,Vf,resolve,Deferred.ofValue]
   rw[stepG_spawn wB (by simp[aiu,hgg]) D hr rfl,listed_nil he,hdg];rfl
  intro w hK;refine a8.go V rfl (λw₁ r₁ hp=>⟨_,_,Id w₁,?_⟩) (λw₁ g' child w' es r₁ hs=>?_)
  ·obtain⟨hK,z⟩:=q _ _ r₁ hK;refine hch i u J w₁ V K Q tF PB ⟨hK.o,?_,hK.s,hK.W,hK.I,hK.vk i V,hK.live,hp,.inr (.inl rfl),.inr (.inr rfl),.inl S.cb,.inl S.sa,V,cG V S.hs⟩;show w₁.cell? ⟨u,0,none⟩=some (U O i);simp[aiW,z]
  rw[Id] at hs;cases hs;have hn:=S.hn;have hw:IntKind.i64.wrap ((i:Int)+1)=(i:Int)+1:=xZ;refine SX.at (q _ _ r₁ hK) (.re q (.to q (λ_=>stepG_inBlock) (.rg [0,1] q (.op (.binOp .add 3 (.tmp 22) (.const (U O 1)) 3) (U O ((i:Int)+1)) q D hS (h:=λa hS=>?_)))));refine .op (.move (.tmp 27)) (U O ((i:Int)+1)) q D hS (h:=λa hS=>.re q (.to q (λ_=>stepG_inLoop) ?_));exactλw₁ hK=>ih (i+1) aa J _ a w₁ K hK.1 (hS.sub _)
end
end
section
open Go.Conc Go.ConcN Go.RowKit Go.Conc.Lib Go.ConcR.Gen Go.ConcN.Gen aI
open Go.ConcR (KK wgBlock WgAt stA smA rd wr mk Payload Aside2 DC0 ofEvent_cell)
open Wg (Ab yZ)
section
variable{A:Main}{Z:Act}{N0:Nat}{b:aiH}{k:List Item}{cs:List aiH}{Child:Nat->(Nat->Prop)->so->ns->Prop}{Fin:Nat->(Nat->Prop)->so->ns->Prop}{M F:Nat->Prop}{a:Act}{w:ns}
def aau(l:b.kind≠.early)(E:b.fn=40)(S:MS A N0)
  (H:∀i u M w,i<A.n->MI A N0 M->M u->u≠A.C->u≠A.Wg->WK (A.kH i u) N0 (λc=>c=A.o\/c=u) w->Child i M (born Tryz.prog (ma (A.kH i u))) w)
  (z:∀M a w,MI A N0 M->SF Z (xd A A.n) a->MK A N0 M w->Fin A.n M (G ((base 65).at ⟨#[.pointer (some ⟨A.Wg,0,none⟩)]++aiD 83 undef,[]⟩ [.code (body_wait Tryz.link)]) (b.at a (.inRegion gq [0]::.code du::k)::cs)) w)
  (I:MI A N0 M)(hK:MK A N0 M w)(B:a.defers=Z.defers)(D:∀d,kept d=true->a.tmps[d]?=Z.tmps[d]?)(P:Sz Z a)(s1:a.tmps[1]?=some (.pointer (some ⟨A.cb,A.co,none⟩)))(Q:a.tmps[4]?=some (.pointer (some ⟨A.o,0,none⟩)))(R:a.tmps[5]?=some (.pointer (some ⟨A.Wg,0,none⟩))):
  a8 Tryz.prog N0 104 A.Wg A.C A.n Child Fin 0 false 0 M F (G (b.at a (.code (.seq sN (.seq (.region 11 gq false) du))::k)) cs) w:=by
 have hS:SF Z [(1,.pointer (some ⟨A.cb,A.co,none⟩)),(4,.pointer (some ⟨A.o,0,none⟩)),(5,.pointer (some ⟨A.Wg,0,none⟩))] a:=SF.add (SF.add (SF.add ⟨P,B,D,λ_ _ h=>by cases h⟩ R) Q) s1;clear P B D s1 Q R;have m:mD A N0 M (MK A N0 M):=λ_ _ r h=>h.rely S I r;refine SX.at hK (.sq m ?_);rw[ab8];refine .sq m (.rg [0,1,2,3] m (.op (.fieldAddr 66 (.tmp 4) 1) (.pointer (some ⟨A.o,5,none⟩)) m l hS (h:=λa hS=>?_)));refineλw hK=>a8.still rfl λw₁ r₁=>?_;replace hK:=m _ _ r₁ hK;have hc:=hK.o;obtain⟨T,J,q,K,N⟩:∃o,GN[1]?=some o/\o.op=.load 64 (.tmp 19)/\o.guard=none/\o.dst=some 20:=⟨_,rfl,rfl,rfl,rfl⟩;have t:=hS.f 19 _ rfl;have s:(ait a.eval T).run Tryz.prog w₁=.ok (.value (.slice (some ⟨A.C,0,none⟩) A.n A.n)) w₁:=by unfold ait;simp only[q];simp[go_sem,t,hc]
 refine⟨_,_,stepG_value J (by simp[aiu,K]) l s,λe he=>?_,?_⟩
 ·have hm:=mem_listed he;unfold ait at hm;simp only[q] at hm;simp[go_sem,t,hc] at hm;subst hm;exact⟨rfl,rfl,A.o,.inl ⟨_,rfl,rfl⟩,I.o,S.oC,S.oW⟩
 rw[N];replace hS:=hS.put (d:=20) (v:=.slice (some ⟨A.C,0,none⟩) A.n A.n) aq;clear t s;generalize a.put (some 20) (.slice (some ⟨A.C,0,none⟩) A.n A.n)=a at hS⊢;refine SX.at hK (.op (.call {callee:=.builtin .len,args:=#[.tmp 20],argTypes:=#[64]}) (U O A.n) m l hS (h:=λa hS=>.op (.move (.const (U O 0))) (U O 0) m l hS (h:=λa hS=>.re m (.to m (λ_=>stepG_block) (.to m (λ_=>stepG_loop) ?_)))));exactλw hK=>aca l E S H z A.n 0 aa M _ a w I hK (hS.sub _)
end
end
end Go.Proofs.Q0.Open
namespace Go.Proofs.Q0.aI
variable{pos:String}{fn:FuncId}
section
open Go.Conc
open Go.ConcN (CT Apart Ok0 OkW sumTo upd sumTo_upd upd_same upd_ne)
variable[ag]
def RA(w w₁:ns):Prop:=∃d,w₁=w.at d
structure DA(Sh:Loc->Prop)(nb:Nat)(w w':ns)(es:Array ajl):Prop where
 size:w.heap.size<=w'.heap.size
 io:iK w w'
 ev:∀e∈es,e.sync=false/\∃c,bG c e.loc/\c<w'.heap.size/\c<nb/\∀l,bG c l->¬Sh l
def MQ{e:ajl}(hs:e.sync=false)(hm:e.loc.isMemory=true):MemAct.ofEvent e=.access e:=by exact Mb
section
variable{P:Kx}{Sh:Loc->Prop}{nb:Nat}{gs:Array so}{a a':so}{w w':ns}{t:Trace}{q:Nat->Nat}{d:Array ajl}
theorem dO.agX(h:dO P Sh gs w t q)(hD:DA Sh nb w w' d):
  dO P Sh ((gs.map (woken P a a' w')).setIfInBounds 0 a') w' (t++SZ 0 fn pos d) q:=by
 have k:∀op∈SZ 0 fn pos d,∃e∈d,op={g:=0,fn,pos,act:=.ofEvent e}:=λop k=>jG k;have hg:∀op∈SZ 0 fn pos d,op.g=0:=λop h=>by obtain⟨e,_,rfl⟩:=k op h;rfl
 have sP:((gs.map (woken P a a' w')).setIfInBounds 0 a').size=gs.size:=aj
 have f:∀e∈d,e.loc.isMemory=true:=λe he=>by obtain⟨_,c,h1,_⟩:=hD.ev e he;exact h1.mem
 have qk:∀e∈d,MemAct.ofEvent e=.access e:=λe he=>MQ (hD.ev e he).1 (f e he)
 have o:∀e∈d,∀x,(MemAct.ofEvent e).touch?=some x->x=⟨e.loc,e.write,.plain⟩:=λe he x hx=>by exact KN
 have p:∀e∈d,∀m,e.loc≠.mark m:=λe he m hm=>by have:=f e he;rw[hm] at this;cases this
 refine⟨⟨λj x hj hx=>?_,λj hj=>?_⟩,?_,by rw[sP];exact h.pos,λi x hx r hm=>?_,handedOver_app h.over λop n=>.inl (hg op n),?_,λop n=>?_,λl s=>?_⟩
 ·exact KF
 ·exact KG
 ·rw[sP];refine h.ct.app0 (Eo Sh) λop n=>?_;obtain⟨e,he,rfl⟩:=k op n;refine⟨rfl,λx hx=>.inr ?_⟩;rw[o e he x hx];obtain⟨_,c,h1,_,_,u⟩:=hD.ev e he;exact⟨u _ h1,λ_ _ _ h=>h,λ_ _ _ _ h=>h⟩
 ·obtain⟨op,n,pm⟩:=touch_of hx;rcases getElem?_append_cases n with⟨_,oQ⟩|⟨_,v⟩
  ·exact h.plain i x Ci r hm
  ·grind
 ·rw[Deaf_own,Go.ConcN.deafBehind_idle λe he=>⟨p e he _,p e he _⟩];exact h.hears
 ·rcases jc.1 n with n|n
  ·exact uz hD.size (h.low op n)
  ·obtain⟨e,he,rfl⟩:=k op n;obtain⟨_,c,h1,h3,_⟩:=hD.ev e he;exact KY
 ·obtain⟨a,e,y⟩:=h.shl l s;exact⟨a,e,cG y hD.size⟩
def adO(h:∀op∈t,op.act.low nb)(g:DA Sh nb w w' d):∀op∈t++SZ 0 fn pos d,op.act.low nb:=λop f=>by
 rcases jc.1 f with f|f
 ·simp_all
 ·obtain⟨e,he,rfl⟩:=jG f;obtain⟨h0,c,h1,_,i,_⟩:=g.ev e he;rw[MQ h0 h1.mem];rcases h1 with⟨a,j,hb⟩|hb
  ·show Loc.low _ _;rw[j];show a.block<_;omega
  ·show Loc.low _ _;rw[hb];exact i
def low_mute{i:Nat}(h:∀op∈t,op.act.low nb)(hm:∀e∈d,e.mute=true):∀op∈t++SZ i fn pos d,op.act.low nb:=λop c=>by
 rcases jc.1 c with c|c
 ·simp_all
 ·obtain⟨e,he,rfl⟩:=jG c;exact Go.Conc.low_mute (hm e he) _
def Nn{Stop:so->ns->Prop}(hr:∀g w,Stop g w->g.status=.running):∀(m M:Nat)(gs:Array so)(a:so)(w:ns)(sl:Option (Nat×Nat))(t:Trace)(q:Nat->Nat),sumTo gs.size q<=M->Goes P true RA (DA Sh nb) Stop m a w->dO P Sh gs w t q->gs[0]?=some a->(∀op∈t,op.act.low nb)->
  ∃N h a' w' pu o r,runNT P N (crowd gs w sl) t=(.next (crowd h w' pu),o)/\h.size=gs.size/\h[0]?=some a'/\dO P Sh h w' o r/\Stop a' w'/\iK w w'/\∀op∈o,op.act.low nb:=by
 intro m
 induction m with
 |zero=>exactλM gs a w sl t q _ p hF h0 B=>⟨0,gs,a,w,sl,t,q,rfl,rfl,h0,hF,p w ⟨w.drawn,rfl⟩,.refl _,B⟩
 |succ m ih=>
  intro M
  induction M with
  |zero=>
   intro gs a w sl t q C p hF h0 In;rcases p with f9|⟨c,vD⟩
   ·exact⟨0,gs,a,w,sl,t,q,rfl,rfl,h0,hF,f9 w ⟨w.drawn,rfl⟩,.refl _,In⟩
   obtain⟨i,g,d,pu,hi,hg,f9⟩:=crowd_pick (P:=P) (w:=w) (sl:=sl) (hF.awake h0 c) ⟨0,a,h0,c⟩;rcases jE i with rfl|f
   ·exact Lf
   ·exfalso;have hq:=hF.lv.old i g f hi;exact KH
  |succ M s=>
   intro gs a w sl t q C p hF h0 In;rcases p with f9|⟨c,vD⟩
   ·exact⟨0,gs,a,w,sl,t,q,rfl,rfl,h0,hF,f9 w ⟨w.drawn,rfl⟩,.refl _,In⟩
   obtain⟨i,g,d,pu,hi,hg,f9⟩:=crowd_pick (P:=P) (w:=w) (sl:=sl) (hF.awake h0 c) ⟨0,a,h0,c⟩;rcases jE i with rfl|f
   ·exact Lf
   ·have hq:=hF.lv.old i g f hi;have tB:(i==0)=false:=aA;have aT:=(bF.1 hi).1;cases DP:q i with
    |zero=>rw[DP] at hq;rw[hq.1] at hg;cases hg
    |succ k=>
     rw[DP] at hq;rcases hq with⟨D,_⟩|⟨_,g',es,hm,AU,u⟩
     ·rw[D] at hg;cases hg
     have j:=runT_crowd_go (P:=P) (sl:=pu) (i:=i) hi xW;have v:=hF.Gl (n:=d) hi f hm u
     have x:woken P g g' (w.at d) a=a:=by
      unfold woken;split
      ·exact Go.Conc.again_running _ (.inl c)
      ·rfl
     have A:sumTo gs.size (ConcN.upd q i k)+(k+1)=sumTo gs.size q+k:=by exact C9
     obtain⟨N,h,a',y,l,o,r,E,F,G,H,I,z,J⟩:=s _ a (w.at d) pu _ (ConcN.upd q i k) aA (.inr ⟨c,λw₁⟨e,he⟩=>vD w₁ ⟨e,he⟩⟩) v (by rw[Array.getElem?_setIfInBounds_ne (by omega),Array.getElem?_map,h0,Option.map_some,x]) (low_mute In hm);exact⟨N+1,h,a',y,l,o,r,by simp only[runNT,f9,j];exact E,F.trans aj,G,H,I,z,J⟩
end
end
section
open Go.Conc
section
variable{P:Kx}{b:Nat}{ty:TypeId}
theorem OZ:∀(vs:List rl)(i:Nat)(cs:Array rl)(w:ns),w.heap[b]?=some (.cells cs ty)->i+vs.length<=cs.size->(∀v∈vs,v.oneCell'=true)->
  ∃w' cs',(storeCells ⟨b,0,none⟩ vs i).run P w=.ok () w'/\w'.heap[b]?=some (.cells cs' ty)/\cs'.size=cs.size/\(∀j,cs'[j]?=if i<=j/\j<i+vs.length then vs[j-i]? else cs[j]?)/\
   (∀c,c≠b->w'.heap[c]?=w.heap[c]?)/\w'.heap.size=w.heap.size/\w'.tape=w.tape/\w'.drawn=w.drawn/\(w'.os=w.os/\w'.output=w.output)/\∀es,∀e∈(storeCells ⟨b,0,none⟩ vs i).events P w es,e∈es\/∃j,e=⟨.cell ⟨b,j,none⟩,true,false⟩:=by
 intro vs
 induction vs with
 |nil=>exactλi cs w h _ _=>⟨w,cs,rfl,h,rfl,λj=>by simp only[List.length_nil];rw[if_neg aa],λ_ _=>rfl,rfl,rfl,rfl,⟨rfl,rfl⟩,λes e he=>.inl he⟩
 |cons v vs r=>
  intro i cs w h s l;simp only[List.length_cons] at s;have hc:w.cell? ⟨b,i,none⟩=some (cs[i]'aa):=by simp[aiW,h,show i<cs.size by omega]
  have n:w.frozen? ⟨b,i,none⟩=false:=by simp[ais,h]
  have o:Addr.add ⟨b,0,none⟩ i=⟨b,i,none⟩:=by
   unfold Addr.add;split
   ·next e=>subst e;rfl
   ·simp
  have h1:(w.setCell ⟨b,i,none⟩ v).heap[b]?=some (.cells (cs.setIfInBounds i v) ty):=by rw[setCell_eq_setRow w b i cs _ (0,0) _ h,setRow_heap w b _ _ _ _ h]
  have g:=akp w ⟨b,i,none⟩ v;have hd:(w.setCell ⟨b,i,none⟩ v).drawn=w.drawn:=by rw[setCell_eq_setRow w b i cs _ (0,0) _ h];rfl
  have f:(store ⟨b,i,none⟩ v).run P w=.ok () (w.setCell ⟨b,i,none⟩ v):=by rw[run_store P w _ v .plain (l v aj)];simp[stored,hc,n]
  have m:∀es,(store ⟨b,i,none⟩ v).events P w es=es.push ⟨.cell ⟨b,i,none⟩,true,false⟩:=λes=>by rw[events_store P w es _ v .plain (l v aj),hc];simp[n];rfl
  obtain⟨w',cs',u,y,z,G,A,B,C,D,k,E⟩:=r (i+1) _ _ h1 aA (λx F=>l x (by simp[F]));refine⟨w',cs',?_,y,z.trans aj,λj=>?_,λc hc=>(A c hc).trans (g.block c hc),B.trans g.size,C.trans g.tape,D.trans hd,⟨k.1.trans g.os,k.2.trans g.output⟩,λes e he=>?_⟩
  ·unfold storeCells;rw[o,Sem.run_bind,f];exact u
  ·grind
  ·unfold storeCells at he;rw[o,Sem.events_bind,f,m] at he;rcases E _ e he with p|p
   ·grind
   ·exact .inr p
end
end
end Go.Proofs.Q0.aI
namespace Go.Proofs.Q0.Open
open Go.Proofs.Tryz
section
open Go.Conc Go.ConcN Go.RowKit Go.Conc.Lib Go.ConcR.Gen Go.ConcN.Gen aI
open Go.ConcR (KK wgBlock WgAt stA smA rd wr mk Payload Aside2 DC0 ofEvent_cell)
def aeU{w:ns}{n:Nat}(c:n<=1000):(Instr.makeSlice 64 (U O n) (U O n)).run Tryz.prog w=.ok (.slice (some ⟨w.heap.size,0,none⟩) n n) (w.alloc (.cells (aiD n (.slice none 0 0)) 53)):=by
 have h:=run_makeSlice (P:=Tryz.prog) (w:=w) 64 53 Tryz.t53 (.slice none 0 0) underlying64 ai ai .i64 .i64 n n aa aa (by
  have:Tryz.t53.size=1:=aD;rw[this];omega) (by
  have:Tryz.t53.bytes=24:=aD;rw[this];omega) aa
 exact Mg
def afM{w:ns}{n:Nat}(h:n<=1000):(Instr.makeSlice 64 (U O n) (U O n)).events Tryz.prog w #[]=#[]:=by
 have c:IntKind.i64.wrap (n:Int)=n:=xZ;have d:¬(n:Int)<0:=aa;have e:¬(281474976710656<24*(n:Int)):=aa;have hi:Tryz.prog.info? 53=some Tryz.t53:=ai;have f:Tryz.t53.bytes=24:=ai;unfold Instr.makeSlice;have g:¬(n*24>roomBytes):=by unfold roomBytes;omega
 simp[go_sem,asInt,asIntOf,typeInfo,hi,f,c,d,e,askRoom,g]
def zp:eT.size=8:=aC
def n4:aiB GM.size=[0]:=aC
noncomputable def oe(i j:Nat):Bool:=(eT[i]?).any λo=>o.after.any λe=>e.on==j&&ajX .any e
def O5{L:Array Bool}{i j:Nat}(h:i∈aiz .any eT L)(hn:oe i j=true):L.getD j false=true:=by obtain⟨_,o,ho,qm⟩:=mem_ready.1 h;unfold oe at hn;exact Me
def ag0:∀(i:Nat) o,eT[i]?=some o->∀e∈o.after,ajX .any e=true->e.on<i:=by have h:(aiB eT.size).all (λi=>(eT[i]?).all λo=>o.after.all λe=>!ajX .any e||decide (e.on<i))=true:=ai;exact Mf
structure cV where
 cb:Nat
 co:Nat
 W:Int
 H:Int
 I:Bool
 Q:Int
 sa:Addr
 sn:Nat
 sc:Nat
def cV.cells(B:cV):Array rl:=#[U O B.W,U O B.H,.bool B.I,U O B.Q,.slice (some B.sa) B.sn B.sc]
def cV.full(B:cV)(C:Nat):Array rl:=#[U O B.W,U O B.H,.bool B.I,U O B.Q,.slice (some B.sa) B.sn B.sc,.slice (some ⟨C,0,none⟩) B.sn B.sn]
def jr:Array rl:=#[U O 0,U O 0,.bool false,U O 0,.slice none 0 0,.slice none 0 0]
structure pZ(B:cV)(w:ns):Prop where
 W:w.cell? ⟨B.cb,B.co,none⟩=some (U O B.W)
 H:w.cell? ⟨B.cb,B.co+1,none⟩=some (U O B.H)
 I:w.cell? ⟨B.cb,B.co+2,none⟩=some (.bool B.I)
 Q:w.cell? ⟨B.cb,B.co+3,none⟩=some (U O B.Q)
 S:w.cell? ⟨B.cb,B.co+4,none⟩=some (.slice (some B.sa) B.sn B.sc)
abbrev Cm(i:Nat):Prop:=i=0\/i=1\/i=2\/i=3\/i=5
def oB(B:cV)(C:Nat)(i:Nat):rl:=match i with
 |0=>.agg B.cells|1=>.pointer (some ⟨B.cb,B.co+4,none⟩)|2=>.slice (some B.sa) B.sn B.sc|3=>U O B.sn|5=>.agg (B.full C)|_=>undef
structure I3(B:cV)(Z:Act)(h0:Array Obj)(C o:Nat)(L:Array Bool)(a:Act)(w:ns):Prop where
 ds:a.defers=Z.defers
 cM:∀d,kept d=true->a.tmps[d]?=Z.tmps[d]?
 size:Sz Z a
 cb:B.cb<h0.size
 grow:h0.size<=w.heap.size
 sz:w.heap.size=h0.size+(L.getD 4 false).toNat+(L.getD 6 false).toNat
 old:∀c,c<h0.size->w.heap[c]?=h0[c]?
 mE:pZ B w
 s1:a.tmps[1]?=some (.pointer (some ⟨B.cb,B.co,none⟩))
 cl:∀i,i<8->L.getD i false=true->∀j,oe i j=true->L.getD j false=true
 v:∀i,Cm i->L.getD i false=true->a.tmps[13+i]?=some (oB B C i)
 v4:L.getD 4 false=true->h0.size<=C/\C<w.heap.size/\a.tmps[17]?=some (.slice (some ⟨C,0,none⟩) B.sn B.sn)/\w.heap[C]?=some (.cells (aiD B.sn (.slice none 0 0)) 53)
 v6:L.getD 6 false=true->h0.size<=o/\o<w.heap.size/\a.tmps[4]?=some (.pointer (some ⟨o,0,none⟩))/\(L.getD 7 false=false->w.heap[o]?=some (.cells jr 66))
 ne:L.getD 4 false=true->L.getD 6 false=true->o≠C
 v7:L.getD 7 false=true->w.heap[o]?=some (.cells (B.full C) 66)
section
variable{B:cV}{Z a:Act}{h0:Array Obj}{C o i:Nat}{L:Array Bool}{w w₁:ns}{Sh:Loc->Prop}
def pZ.of(h:pZ B w)(e:w₁.heap[B.cb]?=w.heap[B.cb]?):pZ B w₁:=by
 have cell:∀{k:Nat}{sp:Option Nat},w₁.cell? ⟨B.cb,k,sp⟩=w.cell? ⟨B.cb,k,sp⟩:=λ{k sp}=>by simp only[aiW,e]
 exact⟨cell.trans h.W,cell.trans h.H,cell.trans h.I,cell.trans h.Q,cell.trans h.S⟩
def I3.rely(h:I3 B Z h0 C o L a w)(r:RA w w₁):I3 B Z h0 C o L a w₁:=by obtain⟨d,rfl⟩:=r;exact⟨h.ds,h.cM,h.size,h.cb,h.grow,h.sz,h.old,h.mE.of rfl,h.s1,h.cl,h.v,h.v4,h.v6,h.ne,h.v7⟩
def R9{L:Array Bool}{i j:Nat}(c:L.size=8)(hi:i<8):(L.setIfInBounds i true).getD j false=if j=i then true else L.getD j false:=by
 by_cases e:j=i
 ·simp_all
 ·rw[if_neg e,getD_set_ne false (Ne.symm e)]
def I3.put(h:I3 B Z h0 C o L a w)(m:L.size=8)(hi:Cm i)(g0:∀j,oe i j=true->L.getD j false=true):I3 B Z h0 C o (L.setIfInBounds i true) (a.put (some (13+i)) (oB B C i)) w:=by
 have hg:∀j,(L.setIfInBounds i true).getD j false=if j=i then true else L.getD j false:=λj=>R9 m aa
 have ip:∀j,j≠i->(L.setIfInBounds i true).getD j false=true->L.getD j false=true:=λj hj hl=>by rw[hg,if_neg hj] at hl;exact hl
 have c:∀e,e≠13+i->(a.put (some (13+i)) (oB B C i)).tmps[e]?=a.tmps[e]?:=λe he=>m7 he;refine⟨h.ds,λe he=>(c e λx=>?_).trans (h.cM e he),h.size.put,h.cb,h.grow,by rw[hg,hg,if_neg aa,if_neg aa];exact h.sz,h.old,h.mE,(c 1 aa).trans h.s1,λj hj hl k hk=>?_,λj hj hl=>?_,λhl=>?_,λhl=>?_,λn p=>?_,λhl=>?_⟩
 ·rw[x] at he;rcases hi with rfl|rfl|rfl|rfl|rfl<;>cases he
 ·exact Lg
 ·by_cases e:j=i
  ·subst e;exact vh (h.size.lt (by rcases hi with rfl|rfl|rfl|rfl|rfl<;>decide))
  ·exact(c _ aa).trans (h.v j hj (ip j e hl))
 ·obtain⟨d,f,g,l⟩:=h.v4 (ip 4 aa hl);exact⟨d,f,(c 17 aa).trans g,l⟩
 ·obtain⟨d,f,g,l⟩:=h.v6 (ip 6 aa hl);exact⟨d,f,(c 4 aa).trans g,λx=>l (by rw[hg,if_neg (by omega)] at x;exact x)⟩
 ·exact h.ne (ip 4 aa n) (ip 6 aa p)
 ·exact h.v7 (ip 7 aa hl)
def FA{w:ns}{nb:Nat}:DA Sh nb w w #[]:=⟨au _,.refl _,λe he=>by simp at he⟩
def O7(W H Q:Int)(I:Bool)(sa:Addr)(sn sc C n m:Nat)(w:ns):(Instr.build 66 #[(0,.agg #[U O W,U O H,.bool I,U O Q,.slice (some sa) sn sc]),(1,.slice (some ⟨C,0,none⟩) n m)]).run Tryz.prog w=.ok (.agg #[U O W,U O H,.bool I,U O Q,.slice (some sa) sn sc,.slice (some ⟨C,0,none⟩) n m]) w:=ai
def acb(W H Q:Int)(I:Bool)(sa:Addr)(sn sc C n m:Nat)(w:ns)(es:Array ajl):(Instr.build 66 #[(0,.agg #[U O W,U O H,.bool I,U O Q,.slice (some sa) sn sc]),(1,.slice (some ⟨C,0,none⟩) n m)]).events Tryz.prog w es=es:=ai
def vS{d:Nat}{v:rl}(op:Op)(ho:∃o,eT[i]?=some o/\o.op=op/\o.guard=none/\o.dst=some d:=by exact⟨_,rfl,rfl,rfl,rfl⟩)
  (hr:∀o:aku,o.op=op->(ait a.eval o).run Tryz.prog w=.ok (.value v) w:=by(intro o e;unfold execOp;simp only[e];simp[go_sem,oB,cV.cells,cV.full,O7, *]))
  (hl:∀o:aku,o.op=op->∀e∈listed Tryz.prog 40 a o w,e.sync=false/\bG B.cb e.loc:=by(intro o c e he;have hm:=mem_listed he;unfold execOp at hm;simp only[c] at hm;simp[go_sem,cV.cells,O7,acb, *] at hm<;>first|(subst hm;exact⟨rfl,.inl ⟨_,rfl,rfl⟩⟩)|(rcases hm with rfl|rfl|rfl|rfl|rfl<;>exact⟨rfl,.inl ⟨_,rfl,rfl⟩⟩))):
  ∃o,eT[i]?=some o/\aiu o (yielded eT a.tmps)=true/\(ait a.eval o).run Tryz.prog w=.ok (.value v) w/\o.dst=some d/\∀e∈listed Tryz.prog 40 a o w,e.sync=false/\bG B.cb e.loc:=by
 exact Lb
def I3.calm(h:I3 B Z h0 C o L a w)(hi:Cm i)(hr:i∈aiz .any eT L):
  ∃op,eT[i]?=some op/\aiu op (yielded eT a.tmps)=true/\(ait a.eval op).run Tryz.prog w=.ok (.value (oB B C i)) w/\op.dst=some (13+i)/\∀e∈listed Tryz.prog 40 a op w,e.sync=false/\bG B.cb e.loc:=by
 have f1:=h.mE.W;have f2:=h.mE.H;have f3:=h.mE.I;have f4:=h.mE.Q;have f5:=h.mE.S;have s1:=h.s1;have n:=λj=>O5 (j:=j) hr;have c:=h.v;have d:=h.v4;rcases hi with rfl|rfl|rfl|rfl|rfl
 ·exact vS (.load 33 (.tmp 1))
 ·exact vS (.fieldAddr 33 (.tmp 1) 4)
 ·have q:=c 1 aa (n 1 ai);simp only[oB] at q;exact vS (.load 22 (.tmp 14))
 ·have q:=c 2 aa (n 2 ai);simp only[oB] at q;exact vS (.call {callee:=.builtin .len,args:=#[.tmp 15],argTypes:=#[22]})
 ·have f:=c 0 aa (n 0 ai);have g:=(d (n 4 ai)).2.2.1;simp only[oB] at f;exact vS (.build 66 #[(0,.tmp 13),(1,.tmp 17)])
def I3.step(h:I3 B Z h0 C o L a w)(J:L.size=eT.size)(hr:i∈aiz .any eT L)(K:∀l,bG B.cb l->¬Sh l)(A:∀l c,h0.size<=c->bG c l->¬Sh l)(I:B.sn<=1000):
  ∃op v w',eT[i]?=some op/\aiu op (yielded eT a.tmps)=true/\((ait a.eval op).run Tryz.prog w=.ok (.value v) w'\/((ait a.eval op).run Tryz.prog w=.ok .skip w'/\v=undef))/\
   DA Sh (h0.size+2) w w' (listed Tryz.prog 40 a op w)/\∃C' o',I3 B Z h0 C' o' (L.setIfInBounds i true) (a.put op.dst v) w':=by
 rw[zp] at J;obtain⟨hl,op',M,_⟩:=mem_ready.1 hr;have hi:i<8:=by have:=(bF.1 M).1;rwa[zp] at this
 have m:L.getD i false=false:=by have N:i<L.size:=aa;simp[aka,N] at hl⊢;exact hl
 have g0:∀j,oe i j=true->L.getD j false=true:=λj I=>O5 hr I;have hg:∀j,(L.setIfInBounds i true).getD j false=if j=i then true else L.getD j false:=λj=>R9 J aa
 have ip:∀j,j≠i->(L.setIfInBounds i true).getD j false=true->L.getD j false=true:=λj hj hl=>by rw[hg,if_neg hj] at hl;exact hl
 have s:∀j,j<8->(L.setIfInBounds i true).getD j false=true->∀k,oe j k=true->(L.setIfInBounds i true).getD k false=true:=λj hj hl k hk=>by exact Lg
 by_cases n:Cm i
 ·obtain⟨op,t,hw,f,hd,X⟩:=h.calm n hr;exact⟨op,_,w,t,hw,.inl f,⟨au _,.refl _,λe he=>⟨(X e he).1,_,(X e he).2,cG h.cb h.grow,by have:=h.cb;omega,K⟩⟩,C,o,by rw[hd];exact h.put J n g0⟩
 have up:∀j k,j<8->oe j k=true->L.getD k false=false->L.getD j false=false:=λj k hj hk hf=>by cases e:L.getD j false with|false=>rfl|true=>rw[h.cl j hj e k hk] at hf;cases hf
 have D:B.cb<w.heap.size:=cG h.cb h.grow;rcases(show i=4\/i=6\/i=7 by omega) with rfl|rfl|rfl
 ·
  obtain⟨op,t,mp,p,hd⟩:∃o,eT[4]?=some o/\o.op=.makeSlice 64 (.tmp 16) (.tmp 16)/\o.guard=none/\o.dst=some 17:=⟨_,rfl,rfl,rfl,rfl⟩;have q3:a.tmps[16]?=some (U O B.sn):=h.v 3 aa (g0 3 ai)
  have f:(ait a.eval op).run Tryz.prog w=.ok (.value (.slice (some ⟨w.heap.size,0,none⟩) B.sn B.sn)) (w.alloc (.cells (aiD B.sn (.slice none 0 0)) 53)):=by unfold ait;simp only[mp];simp[go_sem,q3,aeU I]
  have q:listed Tryz.prog 40 a op w=#[]:=by refine listed_nil ?_;unfold ait;simp only[mp];simp[go_sem,q3,afM I]
  have g:∀c,c<w.heap.size->(w.heap.push (.cells (aiD B.sn (.slice none 0 0)) 53))[c]?=w.heap[c]?:=λc hc=>by rw[ajx hc,<-aiN hc]
  refine⟨op,_,{w with heap:=w.heap.push (.cells (aiD B.sn (.slice none 0 0)) 53)},t,by simp[aiu,p],.inl f,⟨aj,⟨rfl,rfl⟩,by rw[q];simp⟩,w.heap.size,o,?_⟩;rw[hd];have n5:=up 5 4 aa ai m;have n7:=up 7 4 aa ai m;have Q:(L.setIfInBounds 4 true).getD 5 false=false:=by rw[hg,if_neg (by omega)];exact n5
  have u:(L.setIfInBounds 4 true).getD 7 false=false:=by rw[hg,if_neg (by omega)];exact n7
  have d:∀e,e≠17->(a.put (some 17) (.slice (some ⟨w.heap.size,0,none⟩) B.sn B.sn)).tmps[e]?=a.tmps[e]?:=λe he=>m7 he
  refine⟨h.ds,λe he=>(d e λx=>by subst x;cases he).trans (h.cM e he),h.size.put,h.cb,by have:=h.grow;simp;omega,by rw[hg,hg,if_pos rfl,if_neg aa];have:=h.sz;rw[m] at this;simp at this⊢;omega,λc hc=>(g c (cG hc h.grow)).trans (h.old c hc),h.mE.of (g _ D),(d 1 aa).trans h.s1,s,
   λj hj hl=>?_,λ_=>⟨h.grow,aj,vh (h.size.lt aq),aj⟩,λhl=>?_,λ_ h6=>?_,λhl=>(by rw[u] at hl;cases hl)⟩
  ·rcases hj with rfl|rfl|rfl|rfl|rfl
   iterate 4 exact(d _ aa).trans (h.v _ aa (ip _ aa hl))
   rw[Q] at hl;cases hl
  ·obtain⟨r,y,z,E⟩:=h.v6 (ip 6 aa hl);exact⟨r,by simp;omega,(d 4 aa).trans z,λ_=>(g o y).trans (E n7)⟩
  ·obtain⟨r,y,_⟩:=h.v6 (ip 6 aa h6);omega
 ·
  obtain⟨op,t,mp,p,hd⟩:∃o,eT[6]?=some o/\o.op=.alloc 66/\o.guard=none/\o.dst=some 4:=⟨_,rfl,rfl,rfl,rfl⟩
  have f:(ait a.eval op).run Tryz.prog w=.ok (.value (.pointer (some ⟨w.heap.size,0,none⟩))) (w.alloc (.cells jr 66)):=by unfold ait;simp only[mp];simp[go_sem,jr]
  have q:listed Tryz.prog 40 a op w=#[]:=by exact Lh
  have g:∀c,c<w.heap.size->(w.heap.push (.cells jr 66))[c]?=w.heap[c]?:=λc hc=>by rw[ajx hc,<-aiN hc]
  refine⟨op,_,{w with heap:=w.heap.push (.cells jr 66)},t,by simp[aiu,p],.inl f,⟨aj,⟨rfl,rfl⟩,by rw[q];simp⟩,C,w.heap.size,?_⟩;rw[hd];have n7:=up 7 6 aa ai m;have u:(L.setIfInBounds 6 true).getD 7 false=false:=by rw[hg,if_neg (by omega)];exact n7
  have d:∀e,e≠4->(a.put (some 4) (.pointer (some ⟨w.heap.size,0,none⟩))).tmps[e]?=a.tmps[e]?:=λe he=>m7 he
  refine⟨h.ds,λe he=>(d e λx=>by subst x;cases he).trans (h.cM e he),h.size.put,h.cb,by have:=h.grow;simp;omega,by rw[hg,hg,if_neg aa,if_pos rfl];have:=h.sz;rw[m] at this;simp at this⊢;omega,λc hc=>(g c (cG hc h.grow)).trans (h.old c hc),h.mE.of (g _ D),(d 1 aa).trans h.s1,s,
   λj hj hl=>(d _ aa).trans (h.v j hj (ip j aa hl)),λhl=>?_,λ_=>⟨h.grow,aj,vh (h.size.lt aq),λ_=>aj⟩,λh4 _=>?_,λhl=>(by rw[u] at hl;cases hl)⟩
  ·obtain⟨r,y,z,E⟩:=h.v4 (ip 4 aa hl);exact⟨r,by simp;omega,(d 17 aa).trans z,(g C y).trans E⟩
  ·obtain⟨r,y,_⟩:=h.v4 (ip 4 aa h4);omega
 ·
  obtain⟨op,t,mp,p,hd⟩:∃o,eT[7]?=some o/\o.op=.store 66 (.tmp 4) (.tmp 18)/\o.guard=none/\o.dst=none:=⟨_,rfl,rfl,rfl,rfl⟩
  have all:∀j,j<7->L.getD j false=true:=λj hj=>by have a7:(aiB 7).all (λj=>oe 7 j)=true:=ai;exact g0 j (gY.1 a7 j (fz.2 hj))
  obtain⟨r,y,z,E⟩:=h.v6 (all 6 aa);have q5:a.tmps[18]?=some (.agg (B.full C)):=h.v 5 aa (all 5 aa);have hz:=E m;obtain⟨w',R,y1,y2,y3,y4,S,F,_,_,T,y9⟩:=OZ (P:=Tryz.prog) (B.full C).toList 0 jr w hz (by simp[cV.full,jr]) (by simp[cV.full];simp[Value.oneCell'])
  have V:R=B.full C:=by
   apply Array.ext
   ·rw[y3];simp[cV.full,jr]
   ·intro j h1 h2;have hj:=y4 j;have h6:(B.full C).size=6:=by simp[cV.full]
    exact Li
  subst V;have G:(B.full C).size=6:=rfl
  have f:(ait a.eval op).run Tryz.prog w=.ok .skip w':=by unfold ait;simp only[mp];simp[go_sem,z,q5,G,y1]
  have q:∀e∈listed Tryz.prog 40 a op w,∃j,e=⟨.cell ⟨o,j,none⟩,true,false⟩:=λe he=>by
   have hm:=mem_listed he;unfold ait at hm;simp only[mp] at hm;simp[go_sem,z,q5,G,y1] at hm;rcases y9 #[] e hm with W|W
   ·simp at W
   ·exact W
  refine⟨op,undef,w',t,by simp[aiu,p],.inr ⟨f,rfl⟩,⟨mJ F.symm,T,λe he=>?_⟩,C,o,?_⟩
  ·obtain⟨j,rfl⟩:=q e he;exact⟨rfl,o,.inl ⟨_,rfl,rfl⟩,aa,by have:=h.sz;have e4:=Bool.toNat_le (L.getD 4 false);have e6:=Bool.toNat_le (L.getD 6 false);omega,λl hl=>A l o r hl⟩
  rw[hd];obtain⟨z1,z2,z3,z4⟩:=h.v4 (all 4 aa);have H:=h.ne (all 4 aa) (all 6 aa);refine⟨h.ds,h.cM,h.size,h.cb,by rw[F];exact h.grow,by rw[hg,hg,if_neg aa,if_neg aa,F];exact h.sz,λc hc=>(S c aa).trans (h.old c hc),h.mE.of (S _ (by have:=h.cb;omega)),h.s1,s,λj hj hl=>h.v j hj (ip j aa hl),λ_=>⟨z1,by rw[F];exact z2,z3,(S C (kS H)).trans z4⟩,λ_=>⟨r,by rw[F];exact y,z,λhl=>?_⟩,λ_ _=>H,λ_=>y2⟩;rw[hg,if_pos rfl] at hl;cases hl
end
end
section
open Go.Conc Go.ConcN Go.RowKit Go.Conc.Lib Go.ConcR.Gen Go.ConcN.Gen aI
open Go.ConcR (KK wgBlock WgAt stA smA rd wr mk Payload Aside2 DC0 ofEvent_cell)
structure Made(B:cV)(Z:Act)(h0:Array Obj)(C o Wg:Nat)(a:Act)(w:ns):Prop where
 ds:a.defers=Z.defers
 cM:∀d,kept d=true->a.tmps[d]?=Z.tmps[d]?
 size:Sz Z a
 s1:a.tmps[1]?=some (.pointer (some ⟨B.cb,B.co,none⟩))
 s4:a.tmps[4]?=some (.pointer (some ⟨o,0,none⟩))
 s5:a.tmps[5]?=some (.pointer (some ⟨Wg,0,none⟩))
 grow:h0.size<=w.heap.size
 Vg:Wg=h0.size+2
 old:∀c,c<h0.size->w.heap[c]?=h0[c]?
 Vh:h0.size<=C/\h0.size<=o/\h0.size<=Wg/\o≠C/\o≠Wg/\C≠Wg/\C<w.heap.size/\o<w.heap.size/\Wg<w.heap.size
 hC:w.heap[C]?=some (.cells (aiD B.sn (.slice none 0 0)) 53)
 ho:w.heap[o]?=some (.cells (B.full C) 66)
 hW:WgAt 104 Wg w 0 0
section
variable{B:cV}{Z:Act}{w:ns}{Sh:Loc->Prop}{nb:Nat}{b:aiH}{k:List Item}{cs:List aiH}
def adP:LetsDraw (DA Sh nb):=λw=>⟨au _,⟨rfl,rfl⟩,λe he=>by simp at he⟩
def adQ(w:ns):RA w w:=⟨w.drawn,rfl⟩
def aav(v:b.kind≠.early)(H:b.fn=40)(T:Sz Z Z)(s1:Z.tmps[1]?=some (.pointer (some ⟨B.cb,B.co,none⟩)))(hc:pZ B w)(V:B.sn<=1000)(I:∀l,bG B.cb l->¬Sh l)(z:∀l c,w.heap.size<=c->bG c l->¬Sh l):
  ∃m,Goes Tryz.prog true RA (DA Sh (w.heap.size+2)) (λg w'=>∃C o Wg a,g=G (b.at a (.code (.seq sN (.seq (.region 11 gq false) du))::k)) cs/\Made B Z w.heap C o Wg a w') m (G (b.at Z (.code hZ::k)) cs) w:=by
 refine⟨(eT.size+6)+1+1,?_⟩;rw[ab7];refine je rfl λw₁ r=>?_;obtain⟨d,rfl⟩:=r;rw[stepG_seq];refine⟨FA,?_⟩
 have t:∀i,(aiD eT.size false).getD i false=false:=λi=>by
  rcases de i eT.size with y|J
  ·simp[aka,y]
  ·simp[aka,Nat.not_lt.2 J]
 have K:=Ra hc.W
 have j:∀w':ns,w'.heap=w.heap->I3 B Z w.heap 0 0 (aiD eT.size false) Z w':=λw' hw=>⟨rfl,λ_ _=>rfl,T,K,by rw[hw];exact au _,by rw[hw,t 4,t 6];rfl,λc _=>by rw[hw],hc.of (by rw[hw]),s1,λi _ h=>(by rw[t i] at h;cases h),λi _ h=>(by rw[t i] at h;cases h),λh=>(by rw[t 4] at h;cases h),λh=>(by rw[t 6] at h;cases h),λh=>(by rw[t 4] at h;cases h),λh=>(by rw[t 7] at h;cases h)⟩
 refine OX v adP ag0 mixed λw₁ r rest hlen X=>?_;obtain⟨d2,rfl⟩:=r;refine Goes.mono (Er (N:=6) v adQ (λL a w'=>∃C o,I3 B Z w.heap C o L a w') (λ_=>False) (λL a w w₁⟨C,o,h⟩ r=>⟨C,o,h.rely r⟩) rfl (λL i rest a w hc _ _ _ _=>hc.elim) (λL i a w' _ h1 M⟨C,o,j⟩=>?_) (λL a w' h1 M⟨C,o,j⟩=>?_) rest _ _ _ X ⟨0,0,j _ rfl⟩) aa
 ·rw[H];exact j.step h1 M I (λl c hc hl=>z l c hc hl) V
 have p:∀i,i<8->L.getD i false=true:=λi hi=>by
  have:=M i (by rw[zp];exact hi);have y:i<L.size:=by rw[h1,zp];exact hi
  simp[aka,y] at this⊢;exact this
 have step:∀{g R:so}{n:Nat}{u:ns}{St:so->ns->Prop},g.status=.running->(∀w,aiO Tryz.prog true g w=.go R w #[])->(∀d,Goes Tryz.prog true RA (DA Sh (w.heap.size+2)) St n R (u.at d))->Goes Tryz.prog true RA (DA Sh (w.heap.size+2)) St (n+1) g u:=λhr hs h=>je hr λw₁⟨d,e⟩=>by subst e;rw[hs];exact⟨FA,h d⟩
 refine step rfl (λw=>AT) λd3=>?_;replace j:=j.rely (⟨d3,rfl⟩:RA w' (w'.at d3));generalize w'.at d3=w' at j⊢;refine step rfl (λw=>stepG_seq) λd3=>?_;replace j:=j.rely (⟨d3,rfl⟩:RA w' (w'.at d3));generalize w'.at d3=w' at j⊢;refine step rfl (λw=>stepG_region) λd3=>?_;replace j:=j.rely (⟨d3,rfl⟩:RA w' (w'.at d3));generalize w'.at d3=w' at j⊢;rw[n4];obtain⟨op,A,mp,xe,hd⟩:∃o,GM[0]?=some o/\o.op=.alloc 104/\o.guard=none/\o.dst=some 5:=⟨_,rfl,rfl,rfl,rfl⟩;refine je rfl λf r=>?_;replace j:=j.rely r
 have D:(ait a.eval op).run Tryz.prog f=.ok (.value (.pointer (some ⟨f.heap.size,0,none⟩))) (f.alloc (wgBlock 104 0 0)):=by unfold ait;simp only[mp];simp[go_sem,wgBlock]
 have P:listed Tryz.prog b.fn a op f=#[]:=by exact Lh
 rw[stepG_value A Cn v D,P,hd];refine⟨⟨by show f.heap.size<=(f.heap.push _).size;simp,⟨rfl,rfl⟩,λe he=>by simp at he⟩,?_⟩;have q:∀c,c<f.heap.size->(f.heap.push (wgBlock 104 0 0))[c]?=f.heap[c]?:=λc hc=>by rw[ajx hc,<-aiN hc]
 obtain⟨x1,x2,_,x4⟩:=j.v4 (p 4 aa);obtain⟨y1,y2,y3,_⟩:=j.v6 (p 6 aa);have Q:=j.ne (p 4 aa) (p 6 aa)
 have F:Made B Z w.heap C o f.heap.size (a.put (some 5) (.pointer (some ⟨f.heap.size,0,none⟩))) (f.alloc (wgBlock 104 0 0)):=by have hg:=j.grow;have hz2:=j.sz;rw[p 4 aa,p 6 aa] at hz2;refine⟨j.ds,λe he=>(m7 λx=>by subst x;cases he).trans (j.cM e he),j.size.put,(m7 aq).trans j.s1,(m7 aq).trans y3,vh (j.size.lt aq),by show _<=(f.heap.push _).size;simp;omega,hz2,λc hc=>(q c aa).trans (j.old c hc),⟨x1,y1,hg,Q,aa,aa,by show C<(f.heap.push _).size;simp;omega,by show o<(f.heap.push _).size;simp;omega,by show _<(f.heap.push _).size;simp⟩,(q C x2).trans x4,(q o y2).trans (j.v7 (p 7 aa)),?_⟩;show(f.heap.push _)[f.heap.size]?=_;simp
 generalize f.heap.size=Wg at F⊢;generalize f.alloc (wgBlock 104 0 0)=s at F⊢;generalize a.put (some 5) (.pointer (some ⟨Wg,0,none⟩))=a at F⊢;have E:∀{s:ns} d,Made B Z w.heap C o Wg a s->Made B Z w.heap C o Wg a (s.at d):=λd h=>⟨h.ds,h.cM,h.size,h.s1,h.s4,h.s5,h.grow,h.Vg,h.old,h.Vh,h.hC,h.ho,h.hW⟩;refine step rfl (λw=>AT) λd3=>?_;exact eR λS⟨d4,e⟩=>by subst e;exact⟨C,o,Wg,a,rfl,E d4 (E d3 F)⟩
end
end
end Go.Proofs.Q0.Open
namespace Go.Proofs.Q0.aI
section
variable[ag]
open Go.Conc (G stepG_oper stepG_value stepG_none)
section
variable{P:Kx}{Q:so->Array Obj->Prop}{b:aiH}{a:Act}{ops:Array aku}{i:Nat}{rest:List Nat}{k:List Item}{cs:List aiH}{w:ns}{o:aku}
omit [ag] in
def World.adR(w:ns):w.on w.tape w.drawn=w:=rfl
omit [ag] in
def px{x:Item}(d:∀c,x≠.code (.refuse c)):¬Lv P (G (b.at a (x::k)) cs):=by
 rintro⟨fr,e,h⟩;injection e with f g;subst f;rcases h with⟨h1,_⟩|⟨_,c,h1⟩
 ·cases h1
 ·injection h1 with h1;exact d c h1
omit [ag] in
def bE.go{g:so}(h:bE P Q g w)(e:¬Lv P g):∃g1 w1 es,aiO P true g w=.go g1 w1 es/\(∀c,g1.frame.mode≠.panicking c)/\Nx P (g1,w1) (g,w)/\bE P Q g1 w1:=by
 cases h with
 |lv h=>exact absurd h e
 |step _ h1 f=>obtain⟨g1,w1,es,d,j⟩:=h1 w.tape λ_ _ _=>rfl;exact⟨g1,w1,es,d,j,⟨e,w.tape,es,λ_ _ _=>rfl,d⟩,f w.tape (λ_ _ _=>rfl) g1 w1 es d⟩
omit [ag] in
def bE.to{g g1:so}{w1:ns}{es:Array ajl}(h:bE P Q g w)(d:¬Lv P g)(e:aiO P true g w=.go g1 w1 es):Nx P (g1,w1) (g,w)/\bE P Q g1 w1:=by obtain⟨l,m,f,c,_,j,hw⟩:=h.go d;rw[e] at c;cases c;exact⟨j,hw⟩
def bE.inv{K:aF}{φ:Ren}{s s':Sem rl}{h':Array Obj}(h:bE P Q (G (b.at a (.inRegion ops (i::rest)::k)) cs) w)(j:b.kind≠.early)(p:ops[i]?=some o)(hg:o.guard=none)
  (he:ait a.eval o=s.bind λv=>.pure (.value v))(t:SR P K VR φ s s')(y:HR K φ w.heap h'):
  ∃v w1,s.run P w=.ok v w1/\Nx P (G (b.at (a.put o.dst v) (.inRegion ops rest::k)) cs,w1) (G (b.at a (.inRegion ops (i::rest)::k)) cs,w)/\bE P Q (G (b.at (a.put o.dst v) (.inRegion ops rest::k)) cs) w1:=by
 have z:¬Lv P (G (b.at a (.inRegion ops (i::rest)::k)) cs):=px (λ_ e=>by cases e);obtain⟨g1,w1,es,d,A,B,hw⟩:=h.go z;have f:aiu o (yielded ops a.tmps)=true:=xY;cases hr:s.run P w with
 |ok v l=>
  have g:(ait a.eval o).run P w=.ok (.value v) l:=by exact Mh
  have C:=stepG_value (main:=true) (k:=k) (cs:=cs) (rest:=rest) p f j g;rw[C] at d;cases d;exact⟨v,_,rfl,B,hw⟩
 |halt x l=>
  exfalso;have r:=(t.pR w {w with heap:=h'} ⟨y,λ_ _=>rfl⟩ x l hr).1
  have g:(ait a.eval o).run P w=.halt x l:=by exact Mh
  rw[stepG_oper p f] at d;have n:((b.at a (.inRegion ops (i::rest)::k)).kind==CallKind.early)=false:=by simpa[Frame.at] using j
  have h1:=nM P (ait a.eval o) w #[];unfold stepG.apply at d;generalize(ait a.eval o).runT P w #[]=q at h1 d;obtain⟨q1,E⟩:=q;subst h1;simp only[if_true,n,Bool.false_eq_true,if_false,g] at d;cases x with
  |panic v=>obtain⟨c,hc⟩:=raise_mode (b.at a (.inRegion ops (i::rest)::k)) [{v,recovered:=false}];injection d with D _ _;exact A c (by rw[<-D];show(Frame.raise _ _).mode=_;rw[hc])
  |stuck m=>simp only[GStep.after] at d;cases d
  |unsupported u=>cases u<;>first|exact r.elim|(simp only[GStep.after] at d;cases d)
  |_=>exact r.elim
end
end
end Go.Proofs.Q0.aI
