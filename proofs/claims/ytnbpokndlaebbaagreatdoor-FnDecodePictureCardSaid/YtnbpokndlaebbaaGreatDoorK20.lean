import Derived.Test.YtnbpokndlaebbaaGreatDoorK19
import Derived.Conc.CompanyDraw
import Derived.Laws.BitsLemmas
set_option maxRecDepth 100000
set_option maxHeartbeats 8000000
set_option linter.all false
open Go.Value renaming int->U,slice->Y,bool->ci,agg->bi,pointer->d9,tuple->em,iface->gc
open Go.IntKind renaming i64->O
open Go.Obj renaming cells->ap
open Go.Ending renaming returned->dl
open Array renaming getD->ajC,getElem?_setIfInBounds_ne->ahT,getElem?_setIfInBounds_self_of_lt->aiv,replicate->aif
open Bool renaming false->Ba,true->AT
open Go renaming Addr->aic,Code->ajd,Frame->ahY,Goroutine->BE,Oper->ajq,Operand->aiD,Program->OF,Value->AS,World->rl,execOp->aie,stepG->aiq
open Go.Conc renaming Goes->ajg,aside_setCell->ajQ,stepG_region_end->Kx
open Go.ConcN renaming WgLive->aiT
open Go.Region renaming binds->ajA,ready->aib,wanted->ahW
open Go.World renaming cell?->aiu
open List renaming range->aij
open Option renaming getD_some->aii,none->ns,some->an
namespace Go.Proofs
abbrev jy:=@Go.Conc.Goes.step
def LY{p:Prop}(h:p:=by rw[ho,Option.any_some,Array.any_eq_true'] at hn;obtain⟨e,he,hb⟩:=hn;simp only[Bool.and_eq_true,beq_iff_eq] at hb;rw[<-hb.1];exact qP e he hb.2):p:=h
def KJ{p:Prop}(h:p:=by obtain⟨o,ho,e,hg,hd⟩:=ho;exact⟨o,ho,by simp[Region.wanted,hg],hr o e,hd,hl o e⟩):p:=h
def Dq{p:Prop}(h:p:=by
  simp only[dW,vW] at s0;refine⟨o,ho,by simp[Region.wanted,hg],?_,hd,listed_nil ?_⟩<;>
  ·unfold execOp;simp only[pl];simp[go_sem,vW,s0]):p:=h
def LZ{p:Prop}(h:p:=by intro i o ho e he hb;have hi:=(bU.1 ho).1;have h1:=gW.1 h i (fM.2 hi);rw[ho,Option.all_some,Array.all_eq_true_iff_forall_mem] at h1;have h2:=h1 e he;rw[hb] at h2;simpa using h2):p:=h
def CN{p:Prop}(h:p:=by have:=r.cell;rw[Nat.zero_add] at this;exact this.trans hh):p:=h
def yG{p:Prop}(h:p:=by simp[Region.wanted,hg]):p:=h
def KN{p:Prop}(h:p:=by
  rw[List.lookup_cons] at hu;split at hu
  ·next e1=>rw[beq_iff_eq.1 e1,<-hu];exact vP (h.z.lt hd.2)
  ·next e1=>exact(nG (beq_eq_false_iff_ne.1 e1)).trans (h.f _ _ hu)):p:=h
def KP{p:Prop}(h:p:=by obtain⟨v,hv⟩:=pN.1 hi;rw[lU (h.f _ _ hv),hv];rfl):p:=h
end Go.Proofs
namespace Go.Proofs.Q0.aM
section
open Go.Conc
section
variable{P:OF}{main:Bool}{R:rl->rl->Prop}{D:rl->rl->Array Event->Prop}{Stop:BE->rl->Prop}{b:ahY}{ops:Array ajq}{md:Region.Mode}{k:List Item}{cs:List ahY}{N:Nat}
def EH(g:b.kind≠.early)(y:∀w,R w w)(Inv:Array Bool->Act->rl->Prop)(c:Nat->Prop)(d:∀L a w w₁,Inv L a w->R w w₁->Inv L a w₁)(q:(G b cs).status=.running)
  (e:∀L i rest a w,c i->L.size=ops.size->i∈aib md ops L->kY md ops (L.setIfInBounds i AT) rest->Inv L a w->Stop (G (b.at a (.inRegion ops (i::rest)::k)) cs) w)
  (f:∀L i a w,¬c i->L.size=ops.size->i∈aib md ops L->Inv L a w->∃o v w',ops[i]?=an o/\ahW o (yielded ops a.tmps)=AT/\((aie a.eval o).run P w=.ok (.value v) w'\/((aie a.eval o).run P w=.ok .skip w'/\v=undef))/\
   D w w' (listed P b.fn a o w)/\Inv (L.setIfInBounds i AT) (a.put o.dst v) w')
  (j:∀L a w,L.size=ops.size->(∀i,i<ops.size->L.getD i AT=AT)->Inv L a w->ajg P main R D Stop N (G (b.at a (.inRegion ops []::k)) cs) w):
  ∀(rest:List Nat)(L:Array Bool)(a:Act)(w:rl),kY md ops L rest->Inv L a w->ajg P main R D Stop (rest.length+N) (G (b.at a (.inRegion ops rest::k)) cs) w:=by
 intro rest
 induction rest with
 |nil=>intro L a w n h;cases n with|nil h1 m=>simpa using j L a w h1 m h
 |cons i rest s=>
  intro L a w n h;cases n with
  |cons h1 m p=>
   by_cases hc:c i
   ·exact e7 λw₁ r=>e L i rest a w₁ hc h1 m p (d _ _ _ _ h r)
   ·rw[show(i::rest).length+N=(rest.length+N)+1 by simp;omega];refine jy rfl λw₁ r=>?_;obtain⟨o,v,w',t,hw,l,u,x⟩:=f L i a w₁ hc h1 m (d _ _ _ _ h r);rcases l with l|⟨l,rfl⟩
    ·rw[stepG_value t hw g l];exact⟨u,s _ _ _ p x⟩
    ·rw[stepG_none t hw g l];exact⟨u,s _ _ _ p x⟩
def OG(d:b.kind≠.early)(hd:LetsDraw D)(c:∀(i:Nat) o,ops[i]?=an o->∀e∈o.after,ajA .any e=AT->e.on<i)(hm:P.follows .mixedOrders=AT){id n:Nat}{a:Act}{w:rl}
  (h:∀w₁,R w w₁->∀rest,rest.length<=ops.size->kY .any ops (aif ops.size Ba) rest->ajg P main R D Stop n (G (b.at a (.inRegion ops rest::k)) cs) {w₁ with drawn:=w₁.drawn+1}):
  ajg P main R D Stop (n+1) (G (b.at a (.code (.region id ops AT)::k)) cs) w:=
 jy rfl λw₁ r=>by
  rw[stepG_region_draw];refine⟨hd _,?_⟩;have e:∀t,Region.schedule (P.follows .mixedOrders) ops t=Region.linearise .any ops t:=λt=>by rw[hm];rfl
  rw[e];exact h w₁ r _ (X9 (LX c)) (LX c)
end
end
end Go.Proofs.Q0.aM
namespace Go.Proofs.Q0.Wg
section
open Go.Conc Go.ConcN Go.ConcN.Gen Go.RowKit Go.Conc.Lib Go.ConcR.Gen
open Go.ConcR (KK wgBlock WgAt stA smA rd wr mk Payload Aside2 DC0)
variable{L:WgLink}
section
variable{P:OF}{main:Bool}{R R':rl->rl->Prop}{D D':rl->rl->Array Event->Prop}{Stop wj:BE->rl->Prop}
theorem meet(p:∀a b c,R a b->R b c->R a c)(i:∀w w',R' w w'->R w w')(q:∀g w,Stop g w->∃g' e,aiq P main g w=.go g' w #[e])(j:∀w,R' w w):∀{n:Nat}{g:BE}{w:rl}{m:Nat},ajg P main R' DC0 wj n g w->ajg P main R D Stop m g w->
  ajg P main R' DC0 (λg w=>wj g w/\∃m,ajg P main R D Stop m g w) n g w:=by
 intro n
 induction n with
 |zero=>exactλh k w₁ h₁=>⟨h w₁ h₁,_,jx p k (i _ _ h₁)⟩
 |succ n t=>
  intro g w m h k;rcases h with h|⟨u,h⟩
  ·exact .inl λw₁ h₁=>⟨h w₁ h₁,_,jx p k (i _ _ h₁)⟩
  ·refine .inr ⟨u,λw₁ h₁=>?_⟩;have f:=h w₁ h₁;have l:=jx p k (i _ _ h₁);cases o:aiq P main g w₁ with
   |go g' w' es=>
    rw[o] at f;refine⟨f.1,?_⟩
    have d:∀{x:Prop},Stop g w₁->x:=λ{x} r=>by obtain⟨v,e,he⟩:=q g w₁ r;rw[o] at he;rw[f.1.2] at he;exact absurd he au
    cases m with
    |zero=>exact d (l w₁ (i _ _ (j w₁)))
    |succ m=>
     rcases l with l|⟨_,l⟩
     ·simp_all
     ·have s:=l w₁ (i _ _ (j w₁));rw[o] at s;exact t f.2 s.2
   |_=>rw[o] at f;exact f.elim
theorem Z4(b:∀w,R w w):∀{n:Nat}{g:BE}{w:rl},ajg P main R DC0 Stop n g w->∃g',Stop g' w:=by
 intro n
 induction n with
 |zero=>exactλ{g w} h=>⟨g,h w (b w)⟩
 |succ n d=>
  intro g w h;rcases h with h|⟨f,h⟩
  ·exact⟨g,h w (b w)⟩
  ·have a:=h w (b w);cases c:aiq P main g w with
   |go g' i es=>rw[c] at a;obtain⟨⟨rfl,_⟩,e⟩:=a;exact d e
   |_=>rw[c] at a;exact a.elim
end
section
variable[Payload]{Wg:Nat}{b₀:ahY}{a₀:Act}{ops₀:Array ajq}{i₀:Nat}{rest₀:List Nat}{k₀:List Item}{cs:List ahY}
theorem ade{P:OF}(H:WgLib P L):
  ∃b a d c:BE,(∀w,aiT L.tWg Wg w->ajg P Ba (RM L.tWg Wg) DC0 (λg w=>g=b/\aiT L.tWg Wg w) 20
   (G ((base L.add).at ⟨#[.pointer (an ⟨Wg,0,ns⟩),U O (-1),undef,undef,undef,undef,undef,undef,undef,undef,undef,undef,undef,undef,undef,undef,undef,undef,undef,undef,undef,undef,undef,undef,undef,undef,undef,undef,undef,undef,undef,undef,undef,undef,undef,undef,undef,undef,undef,undef,undef,undef,undef,undef,undef,undef,undef,undef,undef,undef,undef,undef,undef,undef,undef,undef,undef,undef,undef,undef,undef,undef,undef,undef,undef,undef,undef,undef,undef,undef,undef,undef,undef,undef,undef,undef,undef,undef,undef,undef,undef,undef,undef,undef,undef,undef,undef,undef,undef,undef,undef,undef,undef,undef,undef,undef,undef,undef,undef,undef,undef,undef,undef,undef,undef,undef,undef,undef,undef,undef,undef,undef,undef,undef,undef,undef,undef],[]⟩ [.code (body_add L)]) (b₀.at a₀ (.inRegion ops₀ (i₀::rest₀)::k₀)::cs)) w)/\
   b.status=.running/\(∀w,aiq P Ba b w=.go a w #[mk (.releaseMerge (stA Wg))])/\(∀w,aiT L.tWg Wg w->ajg P Ba (RM L.tWg Wg) DC0 (λg w=>g=d/\aiT L.tWg Wg w) 10 a w)/\∀w,aiq P Ba d w=.go c w #[mk .disable]:=by
 simp only[body_add,addFn,aii];apply Exists.intro;apply Exists.intro;apply Exists.intro;apply Exists.intro;refine⟨λw hF=>?_,?_,λw=>?_,λw hF=>?_,λw=>?_⟩
 ·u_c stepG_seq rm hF
  u_cond true rm hF
  u_c stepG_seq rm hF;u_c stepG_seq rm hF
  u_reg rm hF
  u_op rm hF;u_op rm hF;u_c Kx rm hF
  u_cond true rm hF
  u_reg rm hF
  u_op rm hF
  u_conv H.underlying_tWgP H.room_tWg (WgLive.cell0 hF).choose_spec rm hF
  exact e7 (λw₁ h₁=>⟨rfl,rm hF h₁⟩)
 ·rfl
 ·exact stepG_markAt .releaseMerge au rfl rfl gg rfl H.f_relMerge (x_relMerge_n L) (x_relMerge_b L) (x_relMerge_x L) (x_relMerge_f L) (by simp[Act.eval,stA])
 ·walk_nrm
  u_c Kx rm hF;u_c stepG_seq rm hF
  u_reg rm hF
  exact e7 (λw₁ h₁=>⟨rfl,rm hF h₁⟩)
 ·exact stepG_mark0 .disable au rfl rfl gg rfl H.f_disable (x_disable_n L) (x_disable_b L) (x_disable_x L) (x_disable_f L)
theorem abC{P:OF}(H:WgLib P L){c:ahY}{cs:List ahY}:
  ∃d a e b:BE,(∀w,aiT L.tWg Wg w->ajg P Ba (RM L.tWg Wg) DC0 (λg w=>g=d/\aiT L.tWg Wg w) 23 (G ((baseD L.done).at ⟨#[.pointer (an ⟨Wg,0,ns⟩),undef,undef,undef],[]⟩ [.code (body_done L)]) (c::cs)) w)/\
   d.status=.running/\(∀w,aiq P Ba d w=.go a w #[mk (.releaseMerge (stA Wg))])/\(∀w,aiT L.tWg Wg w->ajg P Ba (RM L.tWg Wg) DC0 (λg w=>g=e/\aiT L.tWg Wg w) 10 a w)/\∀w,aiq P Ba e w=.go b w #[mk .disable]:=by
 have f:=@ade L _ Wg;simp only[body_done,body_add,doneFn,addFn,aii] at f⊢;obtain⟨d,a,e,b,h1,h,i,j,k⟩:=f H;refine⟨d,a,e,b,λw hF=>?_,h,i,j,k⟩
 u_reg rm hF
 u_op rm hF
 u_in rm hF
 refine goes_call rfl rfl gg rfl H.f_add (nm_add L) rfl ⟨by u_nil,?_⟩
 walk_nrmf addFn
 exact h1 _ hF
theorem ae2{P:OF}(H:WgLib P L){C n Low k:Nat}{val:AS}{c:ahY}{cs:List ahY}{y:Nat}{R:rl->rl->Prop}(p:∀w w',R w w'->RW L.tWg Wg C n Low (k-1) w w')(q:∀w,R w w)
  (r:c.mode=.returning)(z:QuitsD P y 0 (G c cs))(w:rl)(hK:aiT L.tWg Wg w/\Has C (k-1) val w):
  ajg P Ba R DC0 (AtR0 P L.tWg Wg C n Low k val) 23 (G ((baseD L.done).at ⟨#[.pointer (an ⟨Wg,0,ns⟩),undef,undef,undef],[]⟩ [.code (body_done L)]) (c::cs)) w:=by
 obtain⟨I,s,J,A,h1,K,B,E,t⟩:=abC (Wg:=Wg) (c:=c) (cs:=cs) H;have F:=doneN (P:=P) H (Own:=λ_ _=>False) (Rd:=λ_ _=>False) (n:=n) (Low:=Low) r z w hK;have f:∀w w',R w w'->RM L.tWg Wg w w':=λw w' h=>(p w w' h).live;have u:∀a b c,RW L.tWg Wg C n Low (k-1) a b->RW L.tWg Wg C n Low (k-1) b c->RW L.tWg Wg C n Low (k-1) a c:=λ_ _ _ a b=>a.trans b;have i:∀g w,AtR0 P L.tWg Wg C n Low k val g w->∃j e,aiq P Ba g w=.go j w #[e]:=λg w⟨_,_,j,h,_⟩=>⟨j,_,h⟩;refine qj (λ_ _ _ x=>x) (λg w h=>?_) (λ_ _ x=>x) (meet u p i q (qj (λ_ _ _ x=>x) (λ_ _ x=>x) f (h1 w hK.1)) F);obtain⟨⟨rfl,hF⟩,m,hm⟩:=h
 have cont:∀w,aiT L.tWg Wg w->∀m,ajg P Ba (RW L.tWg Wg C n Low (k-1)) (DWs Wg (λ_ _=>False) (λ_ _=>False) C n k) (AtR0 P L.tWg Wg C n Low k val) m s w->False:=λw hF m hm=>by
  obtain⟨j,⟨rfl,_⟩,v,l⟩:=Z4 q (meet u p i q (qj (λ_ _ _ x=>x) (λ_ _ x=>x) f (E w hF)) hm)
  have o:∀w,¬AtR0 P L.tWg Wg C n Low k val j w:=λw⟨_,_,M,d,_⟩=>by rw[t] at d;exact absurd d (by simp[mk])
  cases v with
  |zero=>exact o w (l w (.refl w))
  |succ v=>
   rcases l with d|⟨_,d⟩
   ·exact o w (d w (.refl w))
   ·have:=d w (.refl w);rw[t] at this;exact(this.1.2 (mk .disable) au).2.1 rfl
 cases m with
 |zero=>exact hm w (.refl w)
 |succ m=>
  rcases hm with d|⟨_,d⟩
  ·simp_all
  ·have:=d w (.refl w);rw[B] at this;exact(cont w hF m this.2).elim
end
end
end Go.Proofs.Q0.Wg
namespace Go.Proofs.Q0.Open
open Go.Proofs.Tryz
variable{i j lx cx:Nat}{sx:Option aic}
section
open Go.Conc Go.ConcN Go.RowKit Go.Conc.Lib Go.ConcR.Gen Go.ConcN.Gen aM
open Go.ConcR (KK wgBlock WgAt stA smA rd wr mk Payload Aside2 DC0 ofEvent_cell)
instance:Payload:=⟨68⟩
def bW:ahY:=baseD 51
noncomputable def bot:ahY:={(default:ahY) with fn:=Tryz.prog.funcs.size,defers:=[],mode:=.panicking [goexitEntry]}
noncomputable def wA:ajd:=Tryz.f51.body.getD .skip
noncomputable def di:Array ajq:=match wA with|.seq _ (.region _ b _)=>b|_=>#[]
noncomputable def TA:ajd:=match wA with|.seq a _=>a|_=>.skip
def abD:wA=.seq TA (.region 1 di AT):=aF
def pV:di.size=19:=aF
def dW(i:Nat):Nat:=match i with|0=>5|1=>6|2=>7|3=>8|4=>9|5=>10|6=>11|7=>12|8=>13|9=>14|10=>15|11=>16|12=>17|13=>18|14=>4|15=>19|16=>20|17=>21|_=>0
noncomputable def qE(i j:Nat):Bool:=(di[i]?).any λo=>o.after.any λe=>e.on==j&&ajA .any e
def sT{L:Array Bool}(h:i∈aib .any di L)(hn:qE i j=AT):L.getD j Ba=AT:=by obtain⟨_,o,ho,qP⟩:=mem_ready.1 h;unfold qE at hn;exact LY
structure nV where
 o:Nat
 cb:Nat
 co:Nat
 rb:Nat
 Wg:Nat
 C:Nat
 n:Nat
 k:Nat
 W:Int
 I:Bool
 sa:aic
 sn:Nat
 sc:Nat
 vk:AS
def vW(A:nV)(x:AS)(t:Bool)(i:Nat):AS:=match i with
 |0=>.pointer (an ⟨A.o,5,ns⟩)|1=>.slice (an ⟨A.C,0,ns⟩) A.n A.n|2=>U O A.k|3=>.pointer (an ⟨A.cb,A.co+4,ns⟩)|4=>.slice (an A.sa) A.sn A.sc|5=>U O A.k
 |6=>.pointer (an (A.sa.add A.k))|7=>A.vk|8=>.pointer (an ⟨A.cb,A.co,ns⟩)|9=>U O A.W|10=>U O (IntKind.i64.wrap (A.W.tdiv 8))|11=>.pointer (an ⟨A.cb,A.co+2,ns⟩)|12=>.bool A.I
 |13=>.tuple #[x,.bool t]|14=>.tuple #[x,.bool t]|15=>x|16=>.bool t|17=>.pointer (an ⟨A.C,A.k,ns⟩)|_=>undef
structure WK(A:nV)(N0:Nat)(X:Nat->Prop)(w:rl):Prop where
 o:w.cell? ⟨A.o,5,ns⟩=an (.slice (an ⟨A.C,0,ns⟩) A.n A.n)
 r:w.cell? ⟨A.rb,0,ns⟩=an (U O A.k)
 s:w.cell? ⟨A.cb,A.co+4,ns⟩=an (.slice (an A.sa) A.sn A.sc)
 W:w.cell? ⟨A.cb,A.co,ns⟩=an (U O A.W)
 I:w.cell? ⟨A.cb,A.co+2,ns⟩=an (.bool A.I)
 vk:w.cell? (A.sa.add A.k)=an A.vk
 live:aiT 84 A.Wg w
 pay:PayAt A.C A.n w
 Xo:A.o<N0\/X A.o
 Xr:A.rb<N0\/X A.rb
 Xc:A.cb<N0\/X A.cb
 Xs:A.sa.block<N0\/X A.sa.block
 hk:A.k<A.n
 hs:A.k<A.sn
section
variable{A:nV}{N0:Nat}{X:Nat->Prop}{Sh:Loc->Prop}{w w₁:rl}{x:AS}{t:Bool}{a:Act}{off:Nat}
def sG(a:aic)(n:Nat):(a.add n).block=a.block:=by unfold Addr.add;split<;>rfl
def WK.rely(h:WK A N0 X w)(r:RP N0 X 84 A.Wg A.C A.n 0 A.k w w₁):WK A N0 X w₁:=by
 have cell:∀{b o:Nat}{sp:Option Nat},(b<N0\/X b)->w₁.cell? ⟨b,o,sp⟩=w.cell? ⟨b,o,sp⟩:=λ{b o sp} c=>by simp only[aiu,r.low b c]
 exact⟨(cell h.Xo).trans h.o,(cell h.Xr).trans h.r,(cell h.Xc).trans h.s,(cell h.Xc).trans h.W,(cell h.Xc).trans h.I,(show w₁.cell? (A.sa.add A.k)=w.cell? (A.sa.add A.k) by simp only[aiu];rw[sG,r.low _ h.Xs]).trans h.vk,r.live h.live,r.pay h.pay,h.Xo,h.Xr,h.Xc,h.Xs,h.hk,h.hs⟩
def lU{d:Nat}{v:AS}(h:a.tmps[d]?=an v):a.eval (.tmp d)=v:=by show a.tmps.getD d undef=v;rw[Array.getD_eq_getD_getElem?,h];rfl
def kx{d:Nat}{v:AS}(op:Op)(ho:∃o,di[i]?=an o/\o.op=op/\o.guard=ns/\o.dst=an d:=by exact⟨_,rfl,rfl,rfl,rfl⟩)
  (hr:∀o:ajq,o.op=op->(aie a.eval o).run Tryz.prog w=.ok (.value v) w:=by(intro o e;unfold execOp;simp only[e];simp[go_sem,vW, *]))
  (hl:∀o:ajq,o.op=op->∀e∈listed Tryz.prog bW.fn a o w,e.sync=Ba/\e.write=Ba/\∃c,(c=A.o\/c=A.cb\/c=A.rb\/c=A.sa.block)/\bQ c e.loc:=by(intro o b e he;have hm:=mem_listed he;unfold execOp at hm;simp only[b] at hm;simp[go_sem, *] at hm<;>(subst hm;first|exact⟨rfl,rfl,_,by simp,.inl ⟨_,rfl,rfl⟩⟩|exact⟨rfl,rfl,(A.sa.add A.k).block,by rw[sG];simp,.inl ⟨_,rfl,rfl⟩⟩))):
  ∃o,di[i]?=an o/\ahW o (yielded di a.tmps)=AT/\(aie a.eval o).run Tryz.prog w=.ok (.value v) w/\o.dst=an d/\∀e∈listed Tryz.prog bW.fn a o w,e.sync=Ba/\e.write=Ba/\∃c,(c=A.o\/c=A.cb\/c=A.rb\/c=A.sa.block)/\bQ c e.loc:=by
 exact KJ
def aef(h:WK A N0 X w)(h0:a.tmps[1]?=an (.pointer (an ⟨A.cb,A.co,ns⟩)))(f:a.tmps[2]?=an (.pointer (an ⟨A.rb,0,ns⟩)))(g:a.tmps[3]?=an (.pointer (an ⟨A.o,0,ns⟩)))
  (hi:i<13)(b:∀j,j<i->qE i j=AT->a.tmps[dW j]?=an (vW A x t j)):
  ∃o,di[i]?=an o/\ahW o (yielded di a.tmps)=AT/\(aie a.eval o).run Tryz.prog w=.ok (.value (vW A x t i)) w/\o.dst=an (dW i)/\∀e∈listed Tryz.prog bW.fn a o w,e.sync=Ba/\e.write=Ba/\∃c,(c=A.o\/c=A.cb\/c=A.rb\/c=A.sa.block)/\bQ c e.loc:=by
 have l:=lU h0;have m:=lU f;have n:=lU g;have f1:=h.o;have f2:=h.r;have f3:=h.s;have f4:=h.W;have f5:=h.I;have f6:=h.vk;have f7:=h.hk;have f8:=h.hs;have p:(0:Int)<=(A.k:Int):=aa;have q:(A.k:Int)<(A.sn:Int):=aa
 match i,hi,b with
 |0,_,b=>exact kx (.fieldAddr 58 (.tmp 3) 1)
 |1,_,b=>have d:=(b 0 aa aj);simp only[dW,vW] at d;exact kx (.load 56 (.tmp 5))
 |2,_,b=>exact kx (.load 3 (.tmp 2))
 |3,_,b=>exact kx (.fieldAddr 25 (.tmp 1) 4)
 |4,_,b=>have d:=(b 3 aa aj);simp only[dW,vW] at d;exact kx (.load 23 (.tmp 8))
 |5,_,b=>exact kx (.load 3 (.tmp 2))
 |6,_,b=>have d:=(b 4 aa aj);simp only[dW,vW] at d;have s1:=(b 5 aa aj);simp only[dW,vW] at s1;exact kx (.indexAddr 23 (.tmp 9) (.tmp 10))
 |7,_,b=>have d:=(b 6 aa aj);simp only[dW,vW] at d;exact kx (.load 22 (.tmp 11))
 |8,_,b=>exact kx (.fieldAddr 25 (.tmp 1) 0)
 |9,_,b=>have d:=(b 8 aa aj);simp only[dW,vW] at d;exact kx (.load 3 (.tmp 13))
 |10,_,b=>have d:=(b 9 aa aj);simp only[dW,vW] at d;exact kx (.binOp .quo 3 (.tmp 14) (.const (U O 8)) 3)
 |11,_,b=>exact kx (.fieldAddr 25 (.tmp 1) 2)
 |12,_,b=>have d:=(b 11 aa aj);simp only[dW,vW] at d;exact kx (.load 4 (.tmp 16))
def aeg(f:a.tmps.size=22)(hi:14<=i/\i<18)(b:∀j,j<18->qE i j=AT->a.tmps[dW j]?=an (vW A x t j))(c:A.k<A.n):
  ∃o,di[i]?=an o/\ahW o (yielded di a.tmps)=AT/\(aie a.eval o).run Tryz.prog w=.ok (.value (vW A x t i)) w/\o.dst=an (dW i)/\listed Tryz.prog bW.fn a o w=#[]:=by
 have d:(0:Int)<=(A.k:Int):=aa;have e:(A.k:Int)<(A.n:Int):=aa
 match i,hi,b with
 |14,_,b=>obtain⟨o,ho,pl,hg,hd⟩:∃o,di[14]?=an o/\o.op=.move (.tmp 18)/\o.guard=ns/\o.dst=an 4:=⟨_,rfl,rfl,rfl,rfl⟩;have s0:=b 13 aa aj;exact Dq
 |15,_,b=>obtain⟨o,ho,pl,hg,hd⟩:∃o,di[15]?=an o/\o.op=.extract (.tmp 4) 0/\o.guard=ns/\o.dst=an 19:=⟨_,rfl,rfl,rfl,rfl⟩;have s0:=b 14 aa aj;exact Dq
 |16,_,b=>obtain⟨o,ho,pl,hg,hd⟩:∃o,di[16]?=an o/\o.op=.extract (.tmp 4) 1/\o.guard=ns/\o.dst=an 20:=⟨_,rfl,rfl,rfl,rfl⟩;have s0:=b 14 aa aj;exact Dq
 |17,_,b=>
  obtain⟨o,ho,pl,hg,hd⟩:∃o,di[17]?=an o/\o.op=.indexAddr 56 (.tmp 6) (.tmp 7)/\o.guard=ns/\o.dst=an 21:=⟨_,rfl,rfl,rfl,rfl⟩;have s0:=b 1 aa aj;have s1:=b 2 aa aj;simp only[dW,vW] at s0 s1;refine⟨o,ho,by simp[ahW,hg],?_,hd,listed_nil ?_⟩<;>
  ·unfold aie;simp only[pl];simp[go_sem,vW,s0,s1,d,e,c]
 |n+18,h,_=>omega
def WN{N n:Nat}{w:rl}(g:PayAt N n w)(v:AS):AsideCell N n j w (w.setCell ⟨N,j,ns⟩ v):=by
 have c:=ajQ w ⟨N,j,ns⟩ v;obtain⟨arr,h1,h⟩:=g
 have f:(w.setCell ⟨N,j,ns⟩ v).heap[N]?=an (.cells (arr.setIfInBounds j v) Payload.ety):=by rw[setCell_eq_setRow w N j arr _ (0,0) _ h1,setRow_heap w N _ _ _ _ h1]
 refine⟨c.tape,c.os,c.output,c.size,λb d=>c.block b d,λ_=>⟨_,f,by simpa using h⟩,λk e=>?_⟩;simp[aiu,f,h1,ahT (Ne.symm e)]
def adf{N n:Nat}{w:rl}(b:PayAt N n w)(c:j<n)(v:AS):Has N j v (w.setCell ⟨N,j,ns⟩ v):=by
 obtain⟨arr,h1,d⟩:=b
 have e:(w.setCell ⟨N,j,ns⟩ v).heap[N]?=an (.cells (arr.setIfInBounds j v) Payload.ety):=by rw[setCell_eq_setRow w N j arr _ (0,0) _ h1,setRow_heap w N _ _ _ _ h1]
 simp[Has,aiu,e,d,c]
def ae3:(Tryz.prog.funcs[bW.fn]?).any (·.norace)=Ba:=aF
def run_set(b:a.tmps[21]?=an (.pointer (an ⟨A.C,A.k,ns⟩)))(c:a.tmps[19]?=an x)(f:PayAt A.C A.n w)(g:A.k<A.n)(h:x=.slice sx lx cx):
  ∃o,di[18]?=an o/\ahW o (yielded di a.tmps)=AT/\(aie a.eval o).run Tryz.prog w=.ok .skip (w.setCell ⟨A.C,A.k,ns⟩ x)/\o.dst=ns/\listed Tryz.prog bW.fn a o w=#[⟨.cell ⟨A.C,A.k,ns⟩,AT,Ba⟩]:=by
 subst h;obtain⟨o,l,d,p,hd⟩:∃o,di[18]?=an o/\o.op=.store 68 (.tmp 21) (.tmp 19)/\o.guard=ns/\o.dst=ns:=⟨_,rfl,rfl,rfl,rfl⟩
 obtain⟨u,hc,e⟩:∃u,w.cell? ⟨A.C,A.k,ns⟩=an u/\w.frozen? ⟨A.C,A.k,ns⟩=Ba:=by obtain⟨arr,h1,q⟩:=f;exact⟨arr[A.k]'aa,by simp[aiu,h1,q,g],by simp[World.frozen?,h1]⟩
 refine⟨o,l,by simp[ahW,p],?_,hd,?_⟩
 ·unfold aie;simp only[d];simp[go_sem,stored,hc,e,b,c]
 ·have he:(aie a.eval o).events Tryz.prog w #[]=#[⟨.cell ⟨A.C,A.k,ns⟩,AT,Ba⟩]:=by unfold aie;simp only[d];have es:∀(ad:aic)(m:Mode),(store ad (.slice sx lx cx) m).events Tryz.prog w #[]=storedEv Tryz.prog w #[] ad (.slice sx lx cx) m:=λad m=>events_store Tryz.prog w #[] ad _ m rfl;simp[go_sem,storedEv,hc,e,b,c,es]
  unfold listed;rw[he,seen_eq ae3 au]
end
def mG(A:nV):Deferred:={target:=.fn (.func 51) #[.pointer (an ⟨A.Wg,0,ns⟩),.pointer (an ⟨A.cb,A.co,ns⟩),.pointer (an ⟨A.rb,0,ns⟩),.pointer (an ⟨A.o,0,ns⟩)],args:=#[]}
def kN(A:nV):Array AS:=#[.pointer (an ⟨A.Wg,0,ns⟩),.pointer (an ⟨A.cb,A.co,ns⟩),.pointer (an ⟨A.rb,0,ns⟩),.pointer (an ⟨A.o,0,ns⟩)]++aif 18 undef
def Z5(A:nV)(w:rl):aiq Tryz.prog Ba (born Tryz.prog (mG A)) w=.go (G (bW.at ⟨kN A,[]⟩ [.code wA]) [bot]) w #[]:=by simp[born,mG,aiq,unwind,callDeferred,invoke,callFunc,func51,Tryz.f51,seen,GStep.after,G,Frame.enter,Frame.at,bW,baseD,bot,wA,kN]
def Z7(T:Array AS):QuitsD Tryz.prog 2 0 (G {bW.at ⟨T,[]⟩ [] with mode:=.returning} [bot]):=by
 refine QuitsD.ctl (g':=G bot []) rfl (λw=>?_) ?_
 ·simp[G,aiq,unwind,doReturn,results,Frame.at,bW,baseD,bot,func51,Tryz.f51,seen,GStep.after,goexitEntry]
 refine QuitsD.ctl (g':={G bot [] with status:=.finished}) rfl (λw=>?_) ⟨rfl,rfl⟩;rfl
def agi:∀(i:Nat) o,di[i]?=an o->∀e∈o.after,ajA .any e=AT->e.on<i:=by have h:(aij di.size).all (λi=>(di[i]?).all λo=>o.after.all λe=>!ajA .any e||decide (e.on<i))=AT:=aj;exact LZ
def mixed:Tryz.prog.follows .mixedOrders=AT:=aF
section
variable(A:nV)(N0:Nat)(Sh:Loc->Prop)(X:Nat->Prop)
def adg(g:BE)(w:rl):Prop:=
 g.status=.running/\∃(b:ahY)(B:List ahY),aiq Tryz.prog Ba g w=.go (G (Frame.enter Tryz.prog 53 #[A.vk,U O (IntKind.i64.wrap (A.W.tdiv 8)),.bool A.I] .normal) (b::B)) w #[]/\
  ∀sx lx cx t w₁,RP N0 X 84 A.Wg A.C A.n 0 A.k w w₁->∃m,ajg Tryz.prog Ba (RP N0 X 84 A.Wg A.C A.n 0 A.k) (GP N0 Sh X A.C A.n 0 A.k) (AtR0 Tryz.prog 84 A.Wg A.C A.n 0 (0+A.k+1) (.slice sx lx cx)) m (G (b.finish (.tuple #[.slice sx lx cx,.bool t])) B) w₁
structure eR(x:AS)(t:Bool)(called:Bool)(L:Array Bool)(a:Act)(w:rl):Prop where
 ds:a.defers=[dcall 52 #[.pointer (an ⟨A.Wg,0,ns⟩)]]
 size:a.tmps.size=22
 s1:a.tmps[1]?=an (.pointer (an ⟨A.cb,A.co,ns⟩))
 s2:a.tmps[2]?=an (.pointer (an ⟨A.rb,0,ns⟩))
 s3:a.tmps[3]?=an (.pointer (an ⟨A.o,0,ns⟩))
 val:∀i,i<18->L.getD i Ba=AT->a.tmps[dW i]?=an (vW A x t i)
 no:called=Ba->∀i,13<=i->L.getD i Ba=Ba
 yes:called=AT->L.getD 13 Ba=AT
 pre:L.getD 18 Ba=Ba->WK A N0 X w
 post:L.getD 18 Ba=AT->(∀i,i<18->i≠16->L.getD i Ba=AT)/\aiT 84 A.Wg w/\Has A.C A.k x w
end
section
variable{A:nV}{N0:Nat}{Sh:Loc->Prop}{X:Nat->Prop}{x:AS}{t called:Bool}{L:Array Bool}{a:Act}{w w₁:rl}{i:Nat}
def RK{i:Nat}(hi:i<18)(b:j<18)(h:dW i=dW j):i=j:=by have:∀i:Fin 18,∀j:Fin 18,dW i.1=dW j.1->i=j:=aw;exact congrArg Fin.val (this ⟨i,hi⟩ ⟨j,b⟩ h)
def aeh{i:Nat}(hi:i<18):4<=dW i/\dW i<22:=by have:∀i:Fin 18,4<=dW i.1/\dW i.1<22:=aw;exact this ⟨i,hi⟩
def eR.rely(h:eR A N0 X x t called L a w)(r:RP N0 X 84 A.Wg A.C A.n 0 A.k w w₁):eR A N0 X x t called L a w₁:=
 ⟨h.ds,h.size,h.s1,h.s2,h.s3,h.val,h.no,h.yes,λe=>(h.pre e).rely r,λe=>⟨(h.post e).1,r.live (h.post e).2.1,by have:=r.cell;rw[Nat.zero_add] at this;exact this.trans (h.post e).2.2⟩⟩
def oT{L:Array Bool}{i:Nat}(b:L.size=19)(hi:i<19):(L.setIfInBounds i AT).getD j Ba=if j=i then AT else L.getD j Ba:=by
 by_cases e:j=i
 ·simp_all
 ·rw[if_neg e,getD_set_ne Ba (Ne.symm e)]
def eR.put(h:eR A N0 X x t called L a w)(d:L.size=19)(hi:i<18)(hc:called=Ba->i<13){o:ajq}(hd:o.dst=an (dW i))(l:L.getD 18 Ba=AT->i=16):eR A N0 X x t called (L.setIfInBounds i AT) (a.put o.dst (vW A x t i)) w:=by
 have p:=aeh hi;have e:(a.put o.dst (vW A x t i)).tmps=a.tmps.setIfInBounds (dW i) (vW A x t i):=by rw[hd];rfl
 have ne:∀j,j≠dW i->(a.put o.dst (vW A x t i)).tmps[j]?=a.tmps[j]?:=λj c=>by rw[e,ahT (Ne.symm c)]
 have f:(L.setIfInBounds i AT).getD 18 Ba=L.getD 18 Ba:=by rw[oT d (by omega),if_neg (by omega)]
 refine⟨by rw[hd];exact h.ds,by rw[e];simpa using h.size,(ne 1 aa).trans h.s1,(ne 2 aa).trans h.s2,(ne 3 aa).trans h.s3,λj c g=>?_,λb j c=>?_,λb=>?_,λb=>h.pre (by rw[<-f];exact b),λb=>?_⟩
 ·rw[oT d aa] at g;by_cases k:j=i
  ·subst k;rw[e,aiv (by rw[h.size];omega)]
  ·rw[if_neg k] at g;rw[ne _ λx=>k (RK c hi x)];exact h.val j c g
 ·have:=hc b;rw[oT d aa,if_neg aa];exact h.no b j c
 ·rw[oT d aa];split
  ·rfl
  ·exact h.yes b
 ·rw[f] at b;obtain⟨h1,m,n⟩:=h.post b;refine⟨λj c q=>?_,m,n⟩;rw[oT d aa];split
  ·rfl
  ·simp_all
def mF(w:rl):GP N0 Sh X A.C A.n 0 A.k w w #[]:=⟨AsideCell.refl _ _ _ w,λe he=>by simp at he⟩
def adh:LetsDraw (GP N0 Sh X A.C A.n 0 A.k):=λw=>⟨⟨rfl,rfl,rfl,rfl,λ_ _=>rfl,id,λ_ _=>rfl⟩,λe he=>by simp at he⟩
def eR.step(h:eR A N0 X x t called L a w)(F:L.size=di.size)(hr:i∈aib .any di L)(T:i≠13)(J:∀c,(c=A.o\/c=A.cb\/c=A.rb\/c=A.sa.block)->∀l,bQ c l->¬Sh l)(z:A.k<A.n)(p:A.C≠A.Wg)(V:x=.slice sx lx cx):
  ∃o v w',di[i]?=an o/\ahW o (yielded di a.tmps)=AT/\((aie a.eval o).run Tryz.prog w=.ok (.value v) w'\/((aie a.eval o).run Tryz.prog w=.ok .skip w'/\v=undef))/\
   GP N0 Sh X A.C A.n 0 A.k w w' (listed Tryz.prog bW.fn a o w)/\eR A N0 X x t called (L.setIfInBounds i AT) (a.put o.dst v) w':=by
 rw[pV] at F;obtain⟨B,o',K,_⟩:=mem_ready.1 hr;have hi:i<19:=by have:=(bU.1 K).1;rwa[pV] at this
 have g:∀j,j<18->qE i j=AT->a.tmps[dW j]?=an (vW A x t j):=λj m D=>h.val j m (sT hr D)
 have q:L.getD i Ba=Ba:=by have f:i<L.size:=aa;simp[ajC,f] at B⊢;exact B
 have b:L.getD 18 Ba=AT->i=16:=λe=>by
  rcases cZ i 18 with f|M
  ·by_cases G:i=16
   ·exact G
   ·have:=(h.post e).1 i f G;rw[this] at q;cases q
  ·have:i=18:=by omega
   subst this;rw[e] at q;cases q
 rcases cZ i 13 with f|M
 ·have y:=h.pre (by
   cases e:L.getD 18 Ba with
   |false=>rfl
   |true=>have:=b e;omega)
  obtain⟨o,H,hw,d,hd,r⟩:=aef (x:=x) (t:=t) y h.s1 h.s2 h.s3 f λj m D=>g j aa D;refine⟨o,_,w,H,hw,.inl d,⟨AsideCell.refl _ _ _ w,λe he=>?_⟩,h.put F aa (λ_=>f) hd b⟩;obtain⟨W,Z,c,hc,I⟩:=r e he;refine⟨W,.inr ⟨⟨J c hc _ I,c,?_,I⟩,Z⟩⟩;rcases hc with rfl|rfl|rfl|rfl
  ·exact y.Xo
  ·exact y.Xc
  ·exact y.Xr
  ·exact y.Xs
 ·have E:called=AT:=by
   cases ec:called with
   |true=>rfl
   |false=>
    exfalso;have N:=h.no ec
    have s:∀j,13<=j->qE i j=AT->False:=λj m D=>by have:=sT hr D;rw[N j m] at this;cases this
    rcases(show i=14\/i=15\/i=16\/i=17\/i=18 by omega) with rfl|rfl|rfl|rfl|rfl
    ·exact s 13 aa aj
    ·exact s 14 aa aj
    ·exact s 14 aa aj
    ·exact s 13 aa aj
    ·exact s 13 aa aj
  rcases cZ i 18 with f|P
  ·have hk:14<=i/\i<18:=by omega
   obtain⟨o,H,hw,d,hd,r⟩:=aeg (i:=i) (w:=w) h.size hk g z;exact⟨o,_,w,H,hw,.inl d,by rw[r];exact mF w,h.put F aa (λe=>by rw[E] at e;cases e) hd b⟩
  ·have Q:i=18:=by omega
   subst Q;have y:=h.pre q;obtain⟨o,H,hw,d,hd,r⟩:=run_set (g 17 aa aj) (g 15 aa aj) y.pay z V;have R:=WN (j:=A.k) y.pay x;refine⟨o,undef,_,H,hw,.inr ⟨d,rfl⟩,⟨by rw[Nat.zero_add];exact R,λe he=>?_⟩,?_⟩
   ·rw[r,Array.mem_singleton] at he;subst he;exact⟨rfl,.inl (by rw[Nat.zero_add])⟩
   ·have e:(a.put o.dst undef)=a:=by rw[hd];rfl
    rw[e];have u:∀j,j≠18->(L.setIfInBounds 18 AT).getD j Ba=L.getD j Ba:=λj m=>by rw[oT F aa,if_neg m]
    have D:∀j,j<18->j≠16->L.getD j Ba=AT:=λj m p=>by have all:(aij 18).all (λj=>j==16||qE 18 j)=AT:=aj;have S:=gW.1 all j (fM.2 m);simp only[Bool.or_eq_true,beq_iff_eq] at S;exact sT hr (S.resolve_left p)
    refine⟨h.ds,h.size,h.s1,h.s2,h.s3,λj m B=>h.val j m (by rw[u j (by omega)] at B;exact B),λe=>(by rw[E] at e;cases e),λ_=>(by rw[u 13 (by omega)];exact h.yes E),λe=>?_,λ_=>⟨λj m p=>(by rw[u j (by omega)];exact D j m p),?_,adf y.pay z x⟩⟩
    ·rw[oT F aa,if_pos rfl] at e;cases e
    ·obtain⟨st,sm,B⟩:=y.live;exact⟨st,sm,B.of_block (R.block _ λe=>p e.symm)⟩
def aei{x b:AS}{t c:Bool}(h:j<13):vW A x t j=vW A b c j:=by
 match j,h with
 |0,_|1,_|2,_|3,_|4,_|5,_|6,_|7,_|8,_|9,_|10,_|11,_|12,_=>rfl
def adi:∃b o,TA=.region 0 b Ba/\b.size=1/\b[0]?=an o/\o.op=.defer {callee:=.value (.func 52),args:=#[.tmp 0],argTypes:=#[84]}/\o.guard=ns/\o.dst=ns:=⟨_,_,rfl,rfl,rfl,rfl,rfl,rfl⟩
def QP:∃o,di[13]?=an o/\o.op=.call {callee:=.value (.func 53),args:=#[.tmp 12,.tmp 15,.tmp 17],argTypes:=#[22,3,4]}/\o.guard=ns/\o.dst=an 18:=⟨_,rfl,rfl,rfl,rfl⟩
def vQ:bW.kind≠.early:=baseD_kind _
def Gv:(Tryz.f53.name== "runtime.NumGoroutine")=Ba:=aF
theorem Z8(q:∀c,(c=A.o\/c=A.cb\/c=A.rb\/c=A.sa.block)->∀l,bQ c l->¬Sh l)(s:A.k<A.n)(u:A.C≠A.Wg){rest:List Nat}(B:kY .any di L rest)(h:eR A N0 X (.slice sx lx cx) t AT L a w):
  ∃m,ajg Tryz.prog Ba (RP N0 X 84 A.Wg A.C A.n 0 A.k) (GP N0 Sh X A.C A.n 0 A.k) (AtR0 Tryz.prog 84 A.Wg A.C A.n 0 (0+A.k+1) (.slice sx lx cx)) m (G (bW.at a [.inRegion di rest]) [bot]) w:=by
 refine⟨_,EH (N:=26) vQ (λw=>RP.refl w) (eR A N0 X (.slice sx lx cx) t AT) (λi=>i=13) (λL a w w₁ h r=>h.rely r) rfl (λL i rest a w hc h1 p E g=>?_) (λL i a w hc h1 p g=>g.step h1 p hc q s u rfl) (λL a w h1 p g=>?_) rest L a w B h⟩
 ·subst hc;have y:=g.yes rfl;obtain⟨v,_⟩:=mem_ready.1 p;have e:13<L.size:=eW;simp[ajC,e] at y v;rw[y] at v;cases v
 ·obtain⟨_,f,hh⟩:=g.post (by have:=p 18 (by rw[pV];omega);have e:18<L.size:=by{rw[h1,pV];omega};simp[ajC,e] at this⊢;exact this);refine jy rfl λw₁ r=>?_;rw[Kx];refine⟨mF w₁,?_⟩;replace f:=r.live f;replace hh:Has A.C A.k (.slice sx lx cx) w₁:=CN;refine jy rfl λd r=>?_;rw[stepG_end];refine⟨mF d,?_⟩;replace f:=r.live f;replace hh:Has A.C A.k (.slice sx lx cx) d:=CN;refine jy rfl λb r=>?_;rw[stepG_unwind_enter g.ds func52 (nm_done Tryz.link) rfl];refine⟨mF b,?_⟩;replace f:=r.live f;replace hh:Has A.C A.k (.slice sx lx cx) b:=CN;have D:=@Wg.ae2 Tryz.link _ A.Wg Tryz.prog Tryz.we A.C A.n 0 (0+A.k+1) (.slice sx lx cx) {bW.at ⟨a.tmps,[]⟩ [] with mode:=.returning} [bot] 2 (RP N0 X 84 A.Wg A.C A.n 0 A.k) (λw z r=>r.rw) (λw=>RP.refl w) rfl (Z7 _);have:=D b ⟨f,by rw[show 0+A.k+1-1=A.k by omega];exact hh⟩;exact Wg.qj (λw z es h=>by obtain⟨rfl,rfl⟩:=h;exact mF z) (λ_ _ x=>x) (λ_ _ x=>x) this
def ae4(E:∀c,(c=A.o\/c=A.cb\/c=A.rb\/c=A.sa.block)->∀l,bQ c l->¬Sh l)(F:A.k<A.n)(G:A.C≠A.Wg)(q:WK A N0 X w):
  ∃m,ajg Tryz.prog Ba (RP N0 X 84 A.Wg A.C A.n 0 A.k) (GP N0 Sh X A.C A.n 0 A.k) (adg A N0 Sh X) m (born Tryz.prog (mG A)) w:=by
 refine⟨(di.size+0+1)+1+4,jy rfl λw₁ r=>?_⟩;replace q:=q.rely r;rw[Z5,abD];refine⟨mF w₁,?_⟩;refine jy rfl λH r=>?_;replace q:=q.rely r;rw[stepG_seq];refine⟨mF H,?_⟩;obtain⟨ops,o,e1,e2,e3,e4,e5,e6⟩:=adi;rw[e1];refine jy rfl λJ r=>?_;replace q:=q.rely r;rw[stepG_region,e2];refine⟨mF J,?_⟩;refine jy rfl λK r=>?_;replace q:=q.rely r;clear r;rw[show aij 1=[0] from rfl,stepG_defer e3 (by simp[ahW,e5]) vQ e4];refine⟨mF K,?_⟩;refine jy rfl λM r=>?_;replace q:=q.rely r;clear r;rw[Kx];refine⟨mF M,?_⟩;have Q:(Act.put ⟨(⟨kN A,[]⟩:Act).tmps,dcall 52 ((#[.tmp 0]:Array aiD).map (⟨kN A,[]⟩:Act).eval)::(⟨kN A,[]⟩:Act).defers⟩ o.dst undef)=⟨kN A,[dcall 52 #[.pointer (an ⟨A.Wg,0,ns⟩)]]⟩:=by rw[e6];simp[Act.put,Act.eval,kN]
 rw[Q];refine OG vQ adh agi mixed λg r rest hlen ht=>?_;replace q:=(q.rely r).rely (⟨λ_ _=>rfl,id,id,rfl⟩:RP N0 X 84 A.Wg A.C A.n 0 A.k g {g with drawn:=g.drawn+1});clear r
 have h0:∀i d,(aif di.size Ba).getD i d=AT->di.size<=i:=λi d h=>by
  rcases cZ i di.size with p|y
  ·simp[ajC,p] at h
  ·exact y
 have R:∀i,(aif di.size Ba).getD i Ba=Ba:=λi=>by
  rcases cZ i di.size with p|y
  ·simp[ajC,p]
  ·simp[ajC,Nat.not_lt.2 y]
 have v:eR A N0 X (.slice ns 0 0) Ba Ba (aif di.size Ba) ⟨kN A,[dcall 52 #[.pointer (an ⟨A.Wg,0,ns⟩)]]⟩ {g with drawn:=g.drawn+1}:=
  ⟨rfl,by simp[kN],by simp[kN],by simp[kN],by simp[kN],λi hi h=>(by rw[R i] at h;cases h),λ_ i _=>R i,λe=>bG,λ_=>q,λe=>(by rw[R 18] at e;cases e)⟩
 refine Goes.mono (EH (N:=0) vQ (λw=>RP.refl w) (eR A N0 X (.slice ns 0 0) Ba Ba) (λi=>i=13) (λL a w w₁ h r=>h.rely r) rfl (λL i rest a w hc h1 z h3 v=>?_) (λL i a w hc h1 z v=>v.step h1 z hc E F G rfl) (λL a w h1 z v=>?_) rest _ _ _ ht v) aa
 ·
  subst hc;refine⟨rfl,bW.at a [.inRegion di (13::rest)],[bot],?_,λsx lx cx t w₁ r=>?_⟩
  ·obtain⟨o,S,B,hg,hd⟩:=QP;have v0:=v.val 7 aa (sT z aj);have v1:=v.val 10 aa (sT z aj);have v2:=v.val 12 aa (sT z aj);have:=stepG_enter (P:=Tryz.prog) (main:=Ba) (k:=[]) (cs:=[bot]) (b:=bW) (rest:=rest) S (a:=a) yG vQ (run_call_body (P:=Tryz.prog) (w:=w) B func53 Gv aC);have el:listed Tryz.prog bW.fn a o w=#[]:=by unfold listed;rw[events_call_body B func53 Gv (by rfl)];exact seen_none _ _
   rw[el] at this
   have ea:(#[.tmp 12,.tmp 15,.tmp 17]:Array aiD).map a.eval=#[A.vk,U O (IntKind.i64.wrap (A.W.tdiv 8)),.bool A.I]:=by have q0:=lU v0;have q1:=lU v1;have q2:=lU v2;simp only[dW,vW] at q0 q1 q2;simp[q0,q1,q2]
   rw[ea] at this;exact this
  ·rw[Frame.finish_at];obtain⟨o,S,B,hg,hd⟩:=QP;have ed:(di[13]?).bind (·.dst)=an 18:=by rw[S];exact hd
   rw[ed];rw[pV] at h1;refine Z8 (t:=t) E F G h3 ?_;have f:=v.rely r;have T:=f.no rfl;have s:∀j,(L.setIfInBounds 13 AT).getD j Ba=if j=13 then AT else L.getD j Ba:=λj=>oT h1 aa
   refine⟨f.ds,by simpa[Act.put] using f.size,?_,?_,?_,λj hj u=>?_,λe=>bG,λ_=>(by rw[s];rfl),λ_=>f.pre (T 18 aa),λe=>?_⟩
   ·show(a.tmps.setIfInBounds 18 _)[1]?=_;rw[ahT aa];exact f.s1
   ·show(a.tmps.setIfInBounds 18 _)[2]?=_;rw[ahT aa];exact f.s2
   ·show(a.tmps.setIfInBounds 18 _)[3]?=_;rw[ahT aa];exact f.s3
   ·rw[s] at u;show(a.tmps.setIfInBounds 18 _)[dW j]?=_;by_cases V:j=13
    ·subst V;show(a.tmps.setIfInBounds 18 _)[18]?=_;rw[aiv (by rw[f.size];omega)];rfl
    ·rw[if_neg V] at u
     have p:j<13:=by
      rcases cZ j 13 with h|h
      ·exact h
      ·rw[T j h] at u;cases u
     have D:(18:Nat)≠dW j:=λx=>V (RK hj (show 13<18 by omega) x.symm);rw[ahT D];rw[f.val j hj u];congr 1;exact aei p
   ·rw[s,if_neg aa,T 18 aa] at e;cases e
 ·
  have:=z 13 (by rw[pV];omega);have Z:=v.no rfl 13 aa;have p:13<L.size:=by rw[h1,pV];omega
  simp[ajC,p] at this Z;rw[this] at Z;cases Z
end
end
end Go.Proofs.Q0.Open
namespace Go.Proofs.Q0.aM
section
open Go.Conc
open Go.ConcN (WgLive PayAt)
open Go.ConcR (KK WgAt stA smA rd wr mk Payload)
open Wg (RM DM mq oe IS tr)
def OH(M:Nat->Prop)(w:rl):grow M w w=M:=by funext c;exact propext ⟨λh=>h.elim id λ⟨a,b⟩=>absurd b (pP.2 a),.inl⟩
section
variable{P2:OF}[Payload]{N1:Nat}{ty:TypeId}{Wg C n:Nat}{Child:Nat->(Nat->Prop)->BE->rl->Prop}{Fin:Nat->(Nat->Prop)->BE->rl->Prop}
 {j d:Nat}{p:Bool}{M F:Nat->Prop}{g:BE}{w w₁:rl}
theorem bu.G7(hr:g.status=.running)(h:∀w₁,RS N1 M ty Wg C n w w₁->∃g' w' es,aiq P2 AT g w₁=.go g' w' es/\G5 M F C Wg w₁ w' es/\bu P2 N1 ty Wg C n Child Fin j p d (grow M w₁ w') (grow F w₁ w') g' w'):bu P2 N1 ty Wg C n Child Fin j p d M F g w:=
 .own hr (λw₁ r=>let⟨g',w',es,h1,c,_⟩:=h w₁ r;⟨g',w',es,h1,c⟩) λw₁ g' w' es r e=>by grind
def bu.still(hr:g.status=.running)(h:∀w₁,RS N1 M ty Wg C n w w₁->∃g' es,aiq P2 AT g w₁=.go g' w₁ es/\(∀e∈es,e.sync=Ba/\e.write=Ba/\∃c,bQ c e.loc/\M c/\c≠C/\c≠Wg)/\bu P2 N1 ty Wg C n Child Fin j p d M F g' w₁):bu P2 N1 ty Wg C n Child Fin j p d M F g w:=
 .G7 hr λw₁ r=>by obtain⟨g',es,h1,f,l⟩:=h w₁ r;refine⟨g',w₁,es,h1,⟨ay _,λ_ _ _=>rfl,.refl _,λe he=>?_⟩,by rw[OH,OH];exact l⟩;obtain⟨m,q,c,s,t⟩:=f e he;exact⟨m,c,s,.inr ⟨q,t⟩⟩
def bu.calm(hr:g.status=.running){g':BE}(c:∀w,aiq P2 AT g w=.go g' w #[])(h:∀w₁,RS N1 M ty Wg C n w w₁->bu P2 N1 ty Wg C n Child Fin j p d M F g' w₁):bu P2 N1 ty Wg C n Child Fin j p d M F g w:=
 .still hr λw₁ r=>⟨g',#[],c w₁,au,h w₁ r⟩
def bu.rely(h:bu P2 N1 ty Wg C n Child Fin j p d M F g w)(r:RS N1 M ty Wg C n w w₁):bu P2 N1 ty Wg C n Child Fin j p d M F g w₁:=by
 have e:∀{c:rl},RS N1 M ty Wg C n w₁ c->RS N1 M ty Wg C n w c:=λk=>r.trans k;cases h with
 |fin h=>exact .fin λc k=>h c (e k)
 |own h1 f l=>exact .own h1 (λc k=>f c (e k)) λc g' w' es k=>l c g' w' es (e k)
 |fL h1 f l=>exact .fL h1 (λc k=>f c (e k)) λc g' w' es k=>l c g' w' es (e k)
 |kd h1 f l=>exact .kd h1 (λc k=>f c (e k)) λc g' w' es k=>l c g' w' es (e k)
 |ke h1 f l=>exact .ke h1 (λc k=>f c (e k)) λc g' w' es k=>l c g' w' es (e k)
 |add h1 f l=>exact .add h1 (λc k=>f c (e k)) λc g' w' es v k=>l c g' w' es v (e k)
 |go h0 h1 f l=>exact .go h0 h1 (λc k=>f c (e k)) λc g' ch w' es k=>l c g' ch w' es (e k)
section
variable{b:ahY}{a:Act}{k:List Item}{cs:List ahY}{ops:Array ajq}{i:Nat}{rest:List Nat}{o:ajq}{v:AS}
def bu.op(e:b.kind≠.early)(f:ops[i]?=an o)(hg:o.guard=ns)(c:∀w,(aie a.eval o).run P2 w=.ok (.value v) w)(g:∀w,(aie a.eval o).events P2 w #[]=#[])
  (h:∀w₁,RS N1 M ty Wg C n w w₁->bu P2 N1 ty Wg C n Child Fin j p d M F (G (b.at (a.put o.dst v) (.inRegion ops rest::k)) cs) w₁):bu P2 N1 ty Wg C n Child Fin j p d M F (G (b.at a (.inRegion ops (i::rest)::k)) cs) w:=
 .calm rfl (λw=>by rw[stepG_value f yG e (c w),listed_nil (g w)]) h
def bu.region(h:∀w₁,RS N1 M ty Wg C n w w₁->bu P2 N1 ty Wg C n Child Fin j p d M F (G (b.at a (.inRegion ops (aij ops.size)::k)) cs) w₁){id:Nat}:bu P2 N1 ty Wg C n Child Fin j p d M F (G (b.at a (.code (.region id ops Ba)::k)) cs) w:=.calm rfl (λ_=>stepG_region) h
def bu.seq{x y:ajd}(h:∀w₁,RS N1 M ty Wg C n w w₁->bu P2 N1 ty Wg C n Child Fin j p d M F (G (b.at a (.code x::.code y::k)) cs) w₁):bu P2 N1 ty Wg C n Child Fin j p d M F (G (b.at a (.code (.seq x y)::k)) cs) w:=.calm rfl (λ_=>stepG_seq) h
def bu.cond{x y:ajd}{c:aiD}{t:Bool}(hc:a.eval c=.bool t)(h:∀w₁,RS N1 M ty Wg C n w w₁->bu P2 N1 ty Wg C n Child Fin j p d M F (G (b.at a (.code (if t then x else y)::k)) cs) w₁):bu P2 N1 ty Wg C n Child Fin j p d M F (G (b.at a (.code (.cond c x y)::k)) cs) w:=.calm rfl (λ_=>stepG_cond hc) h
def bu.call{f:FuncId}{fn:Func}{c:ajd}{args:Array aiD}{m:Array TypeId}(q:b.kind≠.early)(s:ops[i]?=an o)(hg:o.guard=ns)(g:o.op=.call {callee:=.value (.func f),args,argTypes:=m})
  (r:P2.funcs[f]?=an fn)(e:(fn.name== "runtime.NumGoroutine")=Ba)(t:fn.body=an c)
  (h:∀w₁,RS N1 M ty Wg C n w w₁->bu P2 N1 ty Wg C n Child Fin j p d M F (G ((base f).at {tmps:=args.map a.eval++aif (fn.ntmps-(args.map a.eval).size) undef,defers:=[]} [.code c]) (b.at a (.inRegion ops (i::rest)::k)::cs)) w₁):bu P2 N1 ty Wg C n Child Fin j p d M F (G (b.at a (.inRegion ops (i::rest)::k)) cs) w:=
 .calm rfl (λw=>by
  have l:fn.body.isNone=Ba:=eN;rw[stepG_enter s yG q (run_call_body g r e l),enter_at _ r t];have:listed P2 b.fn a o w=#[]:=by unfold listed;rw[events_call_body g r e l];exact seen_none P2 _
  rw[this]) h
def bu.add1{c:ahY}{m:Nat}(hcr:(G c cs).status=.running)(hg:ajg P2 AT (RM ty Wg) (DM Wg) (mq P2 ty Wg (IS P2 ty Wg (oe P2 ty Wg (tr c cs)))) m g w)(T:aiT ty Wg w)(V:C≠Wg)(hN:N1<=Wg)
  (h:∀w₁,aiT ty Wg w₁->RS N1 M ty Wg C n w w₁->bu P2 N1 ty Wg C n Child Fin j AT 0 M F (G c cs) w₁):bu P2 N1 ty Wg C n Child Fin j Ba 0 M F g w:=by
 have H:∀(w₁:rl)(x:Int),aiT ty Wg (w₁.setCell (stA Wg) (.int .u64 x))->RS N1 M ty Wg C n w₁ (w₁.setCell (stA Wg) (.int .u64 x)):=λw₁ x T=>by
  have hA:=ajQ w₁ (stA Wg) (.int .u64 x);have hb:∀c,c≠Wg->(w₁.setCell (stA Wg) (.int .u64 x)).heap[c]?=w₁.heap[c]?:=λc hc=>hA.block c hc;refine⟨nf hA.size.symm,λc hc=>hb c ?_,λ_=>T,λ⟨arr,h1,A⟩=>⟨arr,(hb C V).trans h1,A⟩⟩;rcases hc with hc|⟨_,_,hc⟩
  ·omega
  ·exact hc
 refine bu.AF m g w hg T λg u I d B=>.kd (d u (.refl u)).1 (λw₁ r=>?_) (λw₁ g' w' es r J=>?_)
 ·obtain⟨_,g',h1,_⟩:=d w₁ r;exact⟨g',h1⟩
 obtain⟨_,g2,h1,K,A⟩:=d w₁ r;rw[J] at h1;cases h1;refine bu.AF K g' w₁ A (r.live B) λg y L d W=>.add (d y (.refl y)).1 (λf p v X hw=>?_) (λf g' w' es v p X hw J=>?_)
 ·obtain⟨_,s⟩:=d f p;obtain⟨g',h1,_⟩:=s v X hw;exact⟨g',h1⟩
 obtain⟨_,s⟩:=d f p;obtain⟨g2,h1,N,A⟩:=s v X hw;rw[J] at h1;cases h1;have P:aiT ty Wg (f.setCell (stA Wg) (.int .u64 ((v+1)*KK))):=⟨_,_,hw.setSt _⟩;have Z:=H f _ P;refine bu.AF N g' _ A P λg z Q d D=>.ke (d z (.refl z)).1 (λq l=>?_) (λq g' w' es l J=>?_)
 ·obtain⟨_,g',h1,_⟩:=d q l;exact⟨g',h1⟩
 obtain⟨_,g2,h1,R,A⟩:=d q l;rw[J] at h1;cases h1;refine bu.AF R g' q A (l.live D) λg t S d E=>?_;have e:=d t (.refl t);subst e;exact h t E (I.trans (r.trans (L.trans (p.trans (Z.trans (Q.trans (l.trans S)))))))
end
end
end
end Go.Proofs.Q0.aM
namespace Go.Proofs.Q0.Open
variable{v:AS}{d:Nat}
section
open Go.Conc Go.ConcN Go.RowKit Go.Conc.Lib Go.ConcR.Gen Go.ConcN.Gen aM
open Go.ConcR (KK wgBlock WgAt stA smA rd wr mk Payload Aside2 DC0 ofEvent_cell)
def abE:iv=.seq (.region 3 fe AT) (.seq (.region 4 GQ Ba) (.seq tt (.seq (.region 11 gN Ba) dA))):=aF
def abF:tt=.seq (.region 5 GR Ba) (.block 0 (.loop jA)):=aF
def EJ:jA=.seq (.region 6 Bm Ba) (.seq (.cond (.tmp 23) .skip (.exit 0)) (.seq (.block 1 (.seq (.region 7 tz Ba) (.seq (.region 8 qH Ba) (.region 9 oX Ba)))) (.region 10 qt Ba))):=aF
structure Main where
 o:Nat
 cb:Nat
 co:Nat
 Wg:Nat
 C:Nat
 n:Nat
 W:Int
 I:Bool
 sa:aic
 sn:Nat
 sc:Nat
 jP:Nat->AS
 oO:Obj
def Main.kZ(A:Main)(i b:Nat):nV:=⟨A.o,A.cb,A.co,b,A.Wg,A.C,A.n,i,A.W,A.I,A.sa,A.sn,A.sc,A.jP i⟩
structure MK(A:Main)(N0:Nat)(M:Nat->Prop)(w:rl):Prop where
 lt:∀c,M c->c<w.heap.size
 oF:w.heap[A.o]?=an A.oO
 o:w.cell? ⟨A.o,5,ns⟩=an (.slice (an ⟨A.C,0,ns⟩) A.n A.n)
 s:w.cell? ⟨A.cb,A.co+4,ns⟩=an (.slice (an A.sa) A.sn A.sc)
 W:w.cell? ⟨A.cb,A.co,ns⟩=an (U O A.W)
 I:w.cell? ⟨A.cb,A.co+2,ns⟩=an (.bool A.I)
 vk:∀i,i<A.n->w.cell? (A.sa.add i)=an (A.jP i)
 live:aiT 84 A.Wg w
 pay:PayAt A.C A.n w
structure MS(A:Main)(N0:Nat):Prop where
 cb:A.cb<N0
 sa:A.sa.block<N0
 hs:A.n<=A.sn
 hn:A.n<2147483647
 oC:A.o≠A.C
 oW:A.o≠A.Wg
 CW:A.C≠A.Wg
structure MI(A:Main)(N0:Nat)(M:Nat->Prop):Prop where
 o:M A.o
 C:M A.C
 Wg:M A.Wg
 ge:∀c,M c->N0<=c
def kept(d:Nat):Bool:=decide (d<4)||(decide (6<d)&&decide (d<13))||decide (28<d)
def Sz(Z a:Act):Prop:=a.tmps.size=Z.tmps.size/\41<=Z.tmps.size
def Sz.lt{Z a:Act}(h:Sz Z a){d:Nat}(hd:d<41):d<a.tmps.size:=by have:=h.1;have:=h.2;omega
def Sz.put{Z a:Act}(h:Sz Z a){d:Option Nat}:Sz Z (a.put d v):=by cases d with|none=>exact h|some d=>exact⟨by show(a.tmps.setIfInBounds d v).size=_;simpa using h.1,h.2⟩
structure SF(Z:Act)(F:List (Nat×AS))(a:Act):Prop where
 z:Sz Z a
 d:a.defers=Z.defers
 k:∀e,kept e=AT->a.tmps[e]?=Z.tmps[e]?
 f:∀e v,F.lookup e=an v->a.tmps[e]?=an v
def xI(A:Main)(i:Nat):List (Nat×AS):=[(1,.pointer (an ⟨A.cb,A.co,ns⟩)),(4,.pointer (an ⟨A.o,0,ns⟩)),(5,.pointer (an ⟨A.Wg,0,ns⟩)),(21,U O A.n),(22,U O i)]
section
variable{A:Main}{N0 i:Nat}{M:Nat->Prop}{w w₁:rl}{a:Act}
def MK.rely(h:MK A N0 M w)(S:MS A N0)(I:MI A N0 M)(r:RS N0 M 84 A.Wg A.C A.n w w₁):MK A N0 M w₁:=by
 have cell:∀{b o:Nat}{sp:Option Nat},(b<N0\/(M b/\b≠A.C/\b≠A.Wg))->w₁.cell? ⟨b,o,sp⟩=w.cell? ⟨b,o,sp⟩:=λ{b o sp} e=>by simp only[aiu,r.bK b e]
 refine⟨λc hc=>cC (h.lt c hc) r.size,(r.bK _ (.inr ⟨I.o,S.oC,S.oW⟩)).trans h.oF,(cell (.inr ⟨I.o,S.oC,S.oW⟩)).trans h.o,(cell (.inl S.cb)).trans h.s,(cell (.inl S.cb)).trans h.W,(cell (.inl S.cb)).trans h.I,λi hi=>?_,r.live h.live,r.pay h.pay⟩;rw[<-h.vk i hi];simp only[aiu];rw[sG,r.bK _ (.inl S.sa)]
def vP(h:d<a.tmps.size):(a.put (an d) v).tmps[d]?=an v:=by show(a.tmps.setIfInBounds d v)[d]?=_;rw[aiv h]
def nG{e:Nat}(h:e≠d):(a.put (an d) v).tmps[e]?=a.tmps[e]?:=by show(a.tmps.setIfInBounds d v)[e]?=_;rw[ahT (Ne.symm h)]
section
variable{Z:Act}{F:List (Nat×AS)}{i:Nat}
def SF.put(h:SF Z F a)(hd:(!kept d&&decide (d<41))=AT):SF Z ((d,v)::F) (a.put (an d) v):=by
 simp only[Bool.and_eq_true,Bool.not_eq_true',decide_eq_true_eq] at hd;refine⟨h.z.put,h.d,λe he=>(nG λx=>?_).trans (h.k e he),λe u hu=>?_⟩
 ·simp_all
 ·exact KN
def SF.sub(h:SF Z F a)(b:List (Nat×AS))(hF:∀p∈b,F.lookup p.1=an p.2:=by repeat(first|exact List.forall_mem_nil _|refine List.forall_mem_cons.2 ⟨rfl,?_⟩)):SF Z b a:=
 {h with f:=λe v c=>h.f e v (by
  induction b with
  |nil=>cases c
  |cons p b g=>
   rw[List.lookup_cons] at c;split at c
   ·simp_all
   ·exact g (λq hq=>hF q (.tail _ hq)) c)}
def SF.add{e:Nat}{v:AS}(h:SF Z F a)(b:a.tmps[e]?=an v):SF Z ((e,v)::F) a:=
 {h with f:=λc u hu=>(by
   rw[List.lookup_cons] at hu;split at hu
   ·simp_all
   ·exact h.f _ _ hu)}
def SF.tm(h:SF Z F a)(hi:(F.lookup i).isSome=AT):a.tmps[i]?=F.lookup i:=by obtain⟨v,b⟩:=pN.1 hi;rw[h.f _ _ b,b]
def SF.ev(h:SF Z F a)(hi:(F.lookup i).isSome=AT):a.eval (.tmp i)=(F.lookup i).getD undef:=by exact KP
end
end
end
end Go.Proofs.Q0.Open
