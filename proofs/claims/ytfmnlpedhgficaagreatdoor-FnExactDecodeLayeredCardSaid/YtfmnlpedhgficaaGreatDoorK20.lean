import Derived.Test.YtfmnlpedhgficaaGreatDoorK19
import Derived.Conc.CompanyDraw
import Derived.Laws.BitsLemmas
set_option maxRecDepth 100000
set_option maxHeartbeats 8000000
set_option linter.all false
open Go.Value renaming int->U,slice->Y,bool->a5,agg->a9,pointer->bi,tuple->ci,iface->em
open Go.IntKind renaming i64->O
open Go.Obj renaming cells->ac
open Go.Ending renaming returned->be
open Array renaming getD->akS,getElem?_setIfInBounds_ne->ajp,getElem?_setIfInBounds_self_of_lt->ajN,replicate->ajD
open Bool renaming false->Bz,true->AT
open Go renaming Addr->ajF,Code->akA,Frame->ajs,Goroutine->BE,Oper->akG,Operand->ajR,Program->NO,Value->so,World->AS,execOp->ajA,stepG->ajM
open Go.Conc renaming Goes->akz,aside_setCell->alh,stepG_region_end->Kx
open Go.ConcN renaming WgLive->akp
open Go.Region renaming binds->akQ,ready->ajw,wanted->ajr
open Go.World renaming cell?->ajQ
open List renaming range->ajv
open Option renaming getD_some->ajG,none->ns,some->an
namespace Go.Proofs
abbrev jL:=@Go.Conc.Goes.step
def ME{p:Prop}(h:p:=by rw[ho,Option.any_some,Array.any_eq_true'] at hn;obtain⟨e,he,hb⟩:=hn;simp only[Bool.and_eq_true,beq_iff_eq] at hb;rw[<-hb.1];exact qQ e he hb.2):p:=h
def LA{p:Prop}(h:p:=by obtain⟨o,ho,e,hg,hd⟩:=ho;exact⟨o,ho,by simp[Region.wanted,hg],hr o e,hd,hl o e⟩):p:=h
def DI{p:Prop}(h:p:=by
  simp only[dW,vW] at s0;refine⟨o,ho,by simp[Region.wanted,hg],?_,hd,listed_nil ?_⟩<;>
  ·unfold execOp;simp only[pl];simp[go_sem,vW,s0]):p:=h
def MF{p:Prop}(h:p:=by intro i o ho e he hb;have hi:=(bE.1 ho).1;have h1:=hU.1 h i (fR.2 hi);rw[ho,Option.all_some,Array.all_eq_true_iff_forall_mem] at h1;have h2:=h1 e he;rw[hb] at h2;simpa using h2):p:=h
def C6{p:Prop}(h:p:=by have:=r.cell;rw[Nat.zero_add] at this;exact this.trans hh):p:=h
def yZ{p:Prop}(h:p:=by simp[Region.wanted,hg]):p:=h
def LB{p:Prop}(h:p:=by
  rw[List.lookup_cons] at hu;split at hu
  ·next e1=>rw[beq_iff_eq.1 e1,<-hu];exact wB (h.z.lt hd.2)
  ·next e1=>exact(nR (beq_eq_false_iff_ne.1 e1)).trans (h.f _ _ hu)):p:=h
def LC{p:Prop}(h:p:=by obtain⟨v,hv⟩:=pO.1 hi;rw[mo (h.f _ _ hv),hv];rfl):p:=h
end Go.Proofs
namespace Go.Proofs.Q0.aL
section
open Go.Conc
section
variable{P:NO}{main:Bool}{R:AS->AS->Prop}{D:AS->AS->Array Event->Prop}{Stop:BE->AS->Prop}{b:ajs}{ops:Array akG}{md:Region.Mode}{k:List Item}{cs:List ajs}{N:Nat}
def Fc(g:b.kind≠.early)(y:∀w,R w w)(Inv:Array Bool->Act->AS->Prop)(c:Nat->Prop)(d:∀L a w w₁,Inv L a w->R w w₁->Inv L a w₁)(q:(G b cs).status=.running)
  (e:∀L i rest a w,c i->L.size=ops.size->i∈ajw md ops L->lE md ops (L.setIfInBounds i AT) rest->Inv L a w->Stop (G (b.at a (.inRegion ops (i::rest)::k)) cs) w)
  (f:∀L i a w,¬c i->L.size=ops.size->i∈ajw md ops L->Inv L a w->∃o v w',ops[i]?=an o/\ajr o (yielded ops a.tmps)=AT/\((ajA a.eval o).run P w=.ok (.value v) w'\/((ajA a.eval o).run P w=.ok .skip w'/\v=undef))/\
   D w w' (listed P b.fn a o w)/\Inv (L.setIfInBounds i AT) (a.put o.dst v) w')
  (j:∀L a w,L.size=ops.size->(∀i,i<ops.size->L.getD i AT=AT)->Inv L a w->akz P main R D Stop N (G (b.at a (.inRegion ops []::k)) cs) w):
  ∀(rest:List Nat)(L:Array Bool)(a:Act)(w:AS),lE md ops L rest->Inv L a w->akz P main R D Stop (rest.length+N) (G (b.at a (.inRegion ops rest::k)) cs) w:=by
 intro rest
 induction rest with
 |nil=>intro L a w n h;cases n with|nil h1 m=>simpa using j L a w h1 m h
 |cons i rest s=>
  intro L a w n h;cases n with
  |cons h1 m p=>
   by_cases hc:c i
   ·exact fc λw₁ r=>e L i rest a w₁ hc h1 m p (d _ _ _ _ h r)
   ·rw[show(i::rest).length+N=(rest.length+N)+1 by simp;omega];refine jL rfl λw₁ r=>?_;obtain⟨o,v,w',t,hw,l,u,x⟩:=f L i a w₁ hc h1 m (d _ _ _ _ h r);rcases l with l|⟨l,rfl⟩
    ·rw[stepG_value t hw g l];exact⟨u,s _ _ _ p x⟩
    ·rw[stepG_none t hw g l];exact⟨u,s _ _ _ p x⟩
def Pu(d:b.kind≠.early)(hd:LetsDraw D)(c:∀(i:Nat) o,ops[i]?=an o->∀e∈o.after,akQ .any e=AT->e.on<i)(hm:P.follows .mixedOrders=AT){id n:Nat}{a:Act}{w:AS}
  (h:∀w₁,R w w₁->∀rest,rest.length<=ops.size->lE .any ops (ajD ops.size Bz) rest->akz P main R D Stop n (G (b.at a (.inRegion ops rest::k)) cs) {w₁ with drawn:=w₁.drawn+1}):
  akz P main R D Stop (n+1) (G (b.at a (.code (.region id ops AT)::k)) cs) w:=
 jL rfl λw₁ r=>by
  rw[stepG_region_draw];refine⟨hd _,?_⟩;have e:∀t,Region.schedule (P.follows .mixedOrders) ops t=Region.linearise .any ops t:=λt=>by rw[hm];rfl
  rw[e];exact h w₁ r _ (Za (MD c)) (MD c)
end
end
end Go.Proofs.Q0.aL
namespace Go.Proofs.Q0.Wg
section
open Go.Conc Go.ConcN Go.ConcN.Gen Go.RowKit Go.Conc.Lib Go.ConcR.Gen
open Go.ConcR (KK wgBlock WgAt stA smA rd wr mk Payload Aside2 DC0)
variable{L:WgLink}
section
variable{P:NO}{main:Bool}{R R':AS->AS->Prop}{D D':AS->AS->Array Event->Prop}{Stop wP:BE->AS->Prop}
theorem meet(p:∀a b c,R a b->R b c->R a c)(i:∀w w',R' w w'->R w w')(q:∀g w,Stop g w->∃g' e,ajM P main g w=.go g' w #[e])(j:∀w,R' w w):∀{n:Nat}{g:BE}{w:AS}{m:Nat},akz P main R' DC0 wP n g w->akz P main R D Stop m g w->
  akz P main R' DC0 (λg w=>wP g w/\∃m,akz P main R D Stop m g w) n g w:=by
 intro n
 induction n with
 |zero=>exactλh k w₁ h₁=>⟨h w₁ h₁,_,jK p k (i _ _ h₁)⟩
 |succ n t=>
  intro g w m h k;rcases h with h|⟨u,h⟩
  ·exact .inl λw₁ h₁=>⟨h w₁ h₁,_,jK p k (i _ _ h₁)⟩
  ·refine .inr ⟨u,λw₁ h₁=>?_⟩;have f:=h w₁ h₁;have l:=jK p k (i _ _ h₁);cases o:ajM P main g w₁ with
   |go g' w' es=>
    rw[o] at f;refine⟨f.1,?_⟩
    have d:∀{x:Prop},Stop g w₁->x:=λ{x} r=>by obtain⟨v,e,he⟩:=q g w₁ r;rw[o] at he;rw[f.1.2] at he;exact absurd he aj
    cases m with
    |zero=>exact d (l w₁ (i _ _ (j w₁)))
    |succ m=>
     rcases l with l|⟨_,l⟩
     ·simp_all
     ·have s:=l w₁ (i _ _ (j w₁));rw[o] at s;exact t f.2 s.2
   |_=>rw[o] at f;exact f.elim
theorem aa7(b:∀w,R w w):∀{n:Nat}{g:BE}{w:AS},akz P main R DC0 Stop n g w->∃g',Stop g' w:=by
 intro n
 induction n with
 |zero=>exactλ{g w} h=>⟨g,h w (b w)⟩
 |succ n d=>
  intro g w h;rcases h with h|⟨f,h⟩
  ·exact⟨g,h w (b w)⟩
  ·have a:=h w (b w);cases c:ajM P main g w with
   |go g' i es=>rw[c] at a;obtain⟨⟨rfl,_⟩,e⟩:=a;exact d e
   |_=>rw[c] at a;exact a.elim
end
section
variable[Payload]{Wg:Nat}{b₀:ajs}{a₀:Act}{ops₀:Array akG}{i₀:Nat}{rest₀:List Nat}{k₀:List Item}{cs:List ajs}
theorem aes{P:NO}(H:WgLib P L):
  ∃b a d c:BE,(∀w,akp L.tWg Wg w->akz P Bz (RM L.tWg Wg) DC0 (λg w=>g=b/\akp L.tWg Wg w) 20
   (G ((base L.add).at ⟨#[.pointer (an ⟨Wg,0,ns⟩),U O (-1),undef,undef,undef,undef,undef,undef,undef,undef,undef,undef,undef,undef,undef,undef,undef,undef,undef,undef,undef,undef,undef,undef,undef,undef,undef,undef,undef,undef,undef,undef,undef,undef,undef,undef,undef,undef,undef,undef,undef,undef,undef,undef,undef,undef,undef,undef,undef,undef,undef,undef,undef,undef,undef,undef,undef,undef,undef,undef,undef,undef,undef,undef,undef,undef,undef,undef,undef,undef,undef,undef,undef,undef,undef,undef,undef,undef,undef,undef,undef,undef,undef,undef,undef,undef,undef,undef,undef,undef,undef,undef,undef,undef,undef,undef,undef,undef,undef,undef,undef,undef,undef,undef,undef,undef,undef,undef,undef,undef,undef,undef,undef,undef,undef,undef,undef],[]⟩ [.code (body_add L)]) (b₀.at a₀ (.inRegion ops₀ (i₀::rest₀)::k₀)::cs)) w)/\
   b.status=.running/\(∀w,ajM P Bz b w=.go a w #[mk (.releaseMerge (stA Wg))])/\(∀w,akp L.tWg Wg w->akz P Bz (RM L.tWg Wg) DC0 (λg w=>g=d/\akp L.tWg Wg w) 10 a w)/\∀w,ajM P Bz d w=.go c w #[mk .disable]:=by
 simp only[body_add,addFn,ajG];apply Exists.intro;apply Exists.intro;apply Exists.intro;apply Exists.intro;refine⟨λw hF=>?_,?_,λw=>?_,λw hF=>?_,λw=>?_⟩
 ·u_c stepG_seq rm hF
  u_cond true rm hF
  u_c stepG_seq rm hF;u_c stepG_seq rm hF
  u_reg rm hF
  u_op rm hF;u_op rm hF;u_c Kx rm hF
  u_cond true rm hF
  u_reg rm hF
  u_op rm hF
  u_conv H.underlying_tWgP H.room_tWg (WgLive.cell0 hF).choose_spec rm hF
  exact fc (λw₁ h₁=>⟨rfl,rm hF h₁⟩)
 ·rfl
 ·exact stepG_markAt .releaseMerge aj rfl rfl gh rfl H.f_relMerge (x_relMerge_n L) (x_relMerge_b L) (x_relMerge_x L) (x_relMerge_f L) (by simp[Act.eval,stA])
 ·walk_nrm
  u_c Kx rm hF;u_c stepG_seq rm hF
  u_reg rm hF
  exact fc (λw₁ h₁=>⟨rfl,rm hF h₁⟩)
 ·exact stepG_mark0 .disable aj rfl rfl gh rfl H.f_disable (x_disable_n L) (x_disable_b L) (x_disable_x L) (x_disable_f L)
theorem acN{P:NO}(H:WgLib P L){c:ajs}{cs:List ajs}:
  ∃d a e b:BE,(∀w,akp L.tWg Wg w->akz P Bz (RM L.tWg Wg) DC0 (λg w=>g=d/\akp L.tWg Wg w) 23 (G ((baseD L.done).at ⟨#[.pointer (an ⟨Wg,0,ns⟩),undef,undef,undef],[]⟩ [.code (body_done L)]) (c::cs)) w)/\
   d.status=.running/\(∀w,ajM P Bz d w=.go a w #[mk (.releaseMerge (stA Wg))])/\(∀w,akp L.tWg Wg w->akz P Bz (RM L.tWg Wg) DC0 (λg w=>g=e/\akp L.tWg Wg w) 10 a w)/\∀w,ajM P Bz e w=.go b w #[mk .disable]:=by
 have f:=@aes L _ Wg;simp only[body_done,body_add,doneFn,addFn,ajG] at f⊢;obtain⟨d,a,e,b,h1,h,i,j,k⟩:=f H;refine⟨d,a,e,b,λw hF=>?_,h,i,j,k⟩
 u_reg rm hF
 u_op rm hF
 u_in rm hF
 refine goes_call rfl rfl gh rfl H.f_add (nm_add L) rfl ⟨by u_nil,?_⟩
 walk_nrmf addFn
 exact h1 _ hF
theorem ags{P:NO}(H:WgLib P L){C n Low k:Nat}{val:so}{c:ajs}{cs:List ajs}{y:Nat}{R:AS->AS->Prop}(p:∀w w',R w w'->RW L.tWg Wg C n Low (k-1) w w')(q:∀w,R w w)
  (r:c.mode=.returning)(z:QuitsD P y 0 (G c cs))(w:AS)(hK:akp L.tWg Wg w/\Has C (k-1) val w):
  akz P Bz R DC0 (AtR0 P L.tWg Wg C n Low k val) 23 (G ((baseD L.done).at ⟨#[.pointer (an ⟨Wg,0,ns⟩),undef,undef,undef],[]⟩ [.code (body_done L)]) (c::cs)) w:=by
 obtain⟨I,s,J,A,h1,K,B,E,t⟩:=acN (Wg:=Wg) (c:=c) (cs:=cs) H;have F:=doneN (P:=P) H (Own:=λ_ _=>False) (Rd:=λ_ _=>False) (n:=n) (Low:=Low) r z w hK;have f:∀w w',R w w'->RM L.tWg Wg w w':=λw w' h=>(p w w' h).live;have u:∀a b c,RW L.tWg Wg C n Low (k-1) a b->RW L.tWg Wg C n Low (k-1) b c->RW L.tWg Wg C n Low (k-1) a c:=λ_ _ _ a b=>a.trans b;have i:∀g w,AtR0 P L.tWg Wg C n Low k val g w->∃j e,ajM P Bz g w=.go j w #[e]:=λg w⟨_,_,j,h,_⟩=>⟨j,_,h⟩;refine ql (λ_ _ _ x=>x) (λg w h=>?_) (λ_ _ x=>x) (meet u p i q (ql (λ_ _ _ x=>x) (λ_ _ x=>x) f (h1 w hK.1)) F);obtain⟨⟨rfl,hF⟩,m,hm⟩:=h
 have cont:∀w,akp L.tWg Wg w->∀m,akz P Bz (RW L.tWg Wg C n Low (k-1)) (DWs Wg (λ_ _=>False) (λ_ _=>False) C n k) (AtR0 P L.tWg Wg C n Low k val) m s w->False:=λw hF m hm=>by
  obtain⟨j,⟨rfl,_⟩,v,l⟩:=aa7 q (meet u p i q (ql (λ_ _ _ x=>x) (λ_ _ x=>x) f (E w hF)) hm)
  have o:∀w,¬AtR0 P L.tWg Wg C n Low k val j w:=λw⟨_,_,M,d,_⟩=>by rw[t] at d;exact absurd d (by simp[mk])
  cases v with
  |zero=>exact o w (l w (.refl w))
  |succ v=>
   rcases l with d|⟨_,d⟩
   ·exact o w (d w (.refl w))
   ·have:=d w (.refl w);rw[t] at this;exact(this.1.2 (mk .disable) aj).2.1 rfl
 cases m with
 |zero=>exact hm w (.refl w)
 |succ m=>
  rcases hm with d|⟨_,d⟩
  ·simp_all
  ·have:=d w (.refl w);rw[B] at this;exact(cont w hF m this.2).elim
end
end
end Go.Proofs.Q0.Wg
namespace Go.Proofs.Q0.Open
open Go.Proofs.Tryz
variable{i j lx cx:Nat}{sx:Option ajF}
section
open Go.Conc Go.ConcN Go.RowKit Go.Conc.Lib Go.ConcR.Gen Go.ConcN.Gen aL
open Go.ConcR (KK wgBlock WgAt stA smA rd wr mk Payload Aside2 DC0 ofEvent_cell)
instance:Payload:=⟨63⟩
def bW:ajs:=baseD 73
noncomputable def bot:ajs:={(default:ajs) with fn:=Tryz.prog.funcs.size,defers:=[],mode:=.panicking [goexitEntry]}
noncomputable def wS:akA:=Tryz.f73.body.getD .skip
noncomputable def dh:Array akG:=match wS with|.seq _ (.region _ b _)=>b|_=>#[]
noncomputable def Uv:akA:=match wS with|.seq a _=>a|_=>.skip
def acO:wS=.seq Uv (.region 1 dh AT):=aE
def pW:dh.size=19:=aE
def dW(i:Nat):Nat:=match i with|0=>5|1=>6|2=>7|3=>8|4=>9|5=>10|6=>11|7=>12|8=>13|9=>14|10=>15|11=>16|12=>17|13=>18|14=>4|15=>19|16=>20|17=>21|_=>0
noncomputable def qF(i j:Nat):Bool:=(dh[i]?).any λo=>o.after.any λe=>e.on==j&&akQ .any e
def ta{L:Array Bool}(h:i∈ajw .any dh L)(hn:qF i j=AT):L.getD j Bz=AT:=by obtain⟨_,o,ho,qQ⟩:=mem_ready.1 h;unfold qF at hn;exact ME
structure ou where
 o:Nat
 cb:Nat
 co:Nat
 rb:Nat
 Wg:Nat
 C:Nat
 n:Nat
 k:Nat
 W:Int
 I:Bool
 sa:ajF
 sn:Nat
 sc:Nat
 vk:so
def vW(A:ou)(x:so)(t:Bool)(i:Nat):so:=match i with
 |0=>.pointer (an ⟨A.o,5,ns⟩)|1=>.slice (an ⟨A.C,0,ns⟩) A.n A.n|2=>U O A.k|3=>.pointer (an ⟨A.cb,A.co+4,ns⟩)|4=>.slice (an A.sa) A.sn A.sc|5=>U O A.k
 |6=>.pointer (an (A.sa.add A.k))|7=>A.vk|8=>.pointer (an ⟨A.cb,A.co,ns⟩)|9=>U O A.W|10=>U O (IntKind.i64.wrap (A.W.tdiv 8))|11=>.pointer (an ⟨A.cb,A.co+2,ns⟩)|12=>.bool A.I
 |13=>.tuple #[x,.bool t]|14=>.tuple #[x,.bool t]|15=>x|16=>.bool t|17=>.pointer (an ⟨A.C,A.k,ns⟩)|_=>undef
structure WK(A:ou)(N0:Nat)(X:Nat->Prop)(w:AS):Prop where
 o:w.cell? ⟨A.o,5,ns⟩=an (.slice (an ⟨A.C,0,ns⟩) A.n A.n)
 r:w.cell? ⟨A.rb,0,ns⟩=an (U O A.k)
 s:w.cell? ⟨A.cb,A.co+4,ns⟩=an (.slice (an A.sa) A.sn A.sc)
 W:w.cell? ⟨A.cb,A.co,ns⟩=an (U O A.W)
 I:w.cell? ⟨A.cb,A.co+2,ns⟩=an (.bool A.I)
 vk:w.cell? (A.sa.add A.k)=an A.vk
 live:akp 115 A.Wg w
 pay:PayAt A.C A.n w
 Xo:A.o<N0\/X A.o
 Xr:A.rb<N0\/X A.rb
 Xc:A.cb<N0\/X A.cb
 Xs:A.sa.block<N0\/X A.sa.block
 hk:A.k<A.n
 hs:A.k<A.sn
section
variable{A:ou}{N0:Nat}{X:Nat->Prop}{Sh:Loc->Prop}{w w₁:AS}{x:so}{t:Bool}{a:Act}{off:Nat}
def nG(a:ajF)(n:Nat):(a.add n).block=a.block:=by unfold Addr.add;split<;>rfl
def WK.rely(h:WK A N0 X w)(r:RP N0 X 115 A.Wg A.C A.n 0 A.k w w₁):WK A N0 X w₁:=by
 have cell:∀{b o:Nat}{sp:Option Nat},(b<N0\/X b)->w₁.cell? ⟨b,o,sp⟩=w.cell? ⟨b,o,sp⟩:=λ{b o sp} c=>by simp only[ajQ,r.low b c]
 exact⟨(cell h.Xo).trans h.o,(cell h.Xr).trans h.r,(cell h.Xc).trans h.s,(cell h.Xc).trans h.W,(cell h.Xc).trans h.I,(show w₁.cell? (A.sa.add A.k)=w.cell? (A.sa.add A.k) by simp only[ajQ];rw[nG,r.low _ h.Xs]).trans h.vk,r.live h.live,r.pay h.pay,h.Xo,h.Xr,h.Xc,h.Xs,h.hk,h.hs⟩
def mo{d:Nat}{v:so}(h:a.tmps[d]?=an v):a.eval (.tmp d)=v:=by show a.tmps.getD d undef=v;rw[Array.getD_eq_getD_getElem?,h];rfl
def kQ{d:Nat}{v:so}(op:Op)(ho:∃o,dh[i]?=an o/\o.op=op/\o.guard=ns/\o.dst=an d:=by exact⟨_,rfl,rfl,rfl,rfl⟩)
  (hr:∀o:akG,o.op=op->(ajA a.eval o).run Tryz.prog w=.ok (.value v) w:=by(intro o e;unfold execOp;simp only[e];simp[go_sem,vW, *]))
  (hl:∀o:akG,o.op=op->∀e∈listed Tryz.prog bW.fn a o w,e.sync=Bz/\e.write=Bz/\∃c,(c=A.o\/c=A.cb\/c=A.rb\/c=A.sa.block)/\bI c e.loc:=by(intro o b e he;have hm:=mem_listed he;unfold execOp at hm;simp only[b] at hm;simp[go_sem, *] at hm<;>(subst hm;first|exact⟨rfl,rfl,_,by simp,.inl ⟨_,rfl,rfl⟩⟩|exact⟨rfl,rfl,(A.sa.add A.k).block,by rw[nG];simp,.inl ⟨_,rfl,rfl⟩⟩))):
  ∃o,dh[i]?=an o/\ajr o (yielded dh a.tmps)=AT/\(ajA a.eval o).run Tryz.prog w=.ok (.value v) w/\o.dst=an d/\∀e∈listed Tryz.prog bW.fn a o w,e.sync=Bz/\e.write=Bz/\∃c,(c=A.o\/c=A.cb\/c=A.rb\/c=A.sa.block)/\bI c e.loc:=by
 exact LA
def afz(h:WK A N0 X w)(h0:a.tmps[1]?=an (.pointer (an ⟨A.cb,A.co,ns⟩)))(f:a.tmps[2]?=an (.pointer (an ⟨A.rb,0,ns⟩)))(g:a.tmps[3]?=an (.pointer (an ⟨A.o,0,ns⟩)))
  (hi:i<13)(b:∀j,j<i->qF i j=AT->a.tmps[dW j]?=an (vW A x t j)):
  ∃o,dh[i]?=an o/\ajr o (yielded dh a.tmps)=AT/\(ajA a.eval o).run Tryz.prog w=.ok (.value (vW A x t i)) w/\o.dst=an (dW i)/\∀e∈listed Tryz.prog bW.fn a o w,e.sync=Bz/\e.write=Bz/\∃c,(c=A.o\/c=A.cb\/c=A.rb\/c=A.sa.block)/\bI c e.loc:=by
 have l:=mo h0;have m:=mo f;have n:=mo g;have f1:=h.o;have f2:=h.r;have f3:=h.s;have f4:=h.W;have f5:=h.I;have f6:=h.vk;have f7:=h.hk;have f8:=h.hs;have p:(0:Int)<=(A.k:Int):=aa;have q:(A.k:Int)<(A.sn:Int):=aa
 match i,hi,b with
 |0,_,b=>exact kQ (.fieldAddr 80 (.tmp 3) 1)
 |1,_,b=>have d:=(b 0 aa ah);simp only[dW,vW] at d;exact kQ (.load 78 (.tmp 5))
 |2,_,b=>exact kQ (.load 3 (.tmp 2))
 |3,_,b=>exact kQ (.fieldAddr 44 (.tmp 1) 4)
 |4,_,b=>have d:=(b 3 aa ah);simp only[dW,vW] at d;exact kQ (.load 34 (.tmp 8))
 |5,_,b=>exact kQ (.load 3 (.tmp 2))
 |6,_,b=>have d:=(b 4 aa ah);simp only[dW,vW] at d;have s1:=(b 5 aa ah);simp only[dW,vW] at s1;exact kQ (.indexAddr 34 (.tmp 9) (.tmp 10))
 |7,_,b=>have d:=(b 6 aa ah);simp only[dW,vW] at d;exact kQ (.load 62 (.tmp 11))
 |8,_,b=>exact kQ (.fieldAddr 44 (.tmp 1) 0)
 |9,_,b=>have d:=(b 8 aa ah);simp only[dW,vW] at d;exact kQ (.load 3 (.tmp 13))
 |10,_,b=>have d:=(b 9 aa ah);simp only[dW,vW] at d;exact kQ (.binOp .quo 3 (.tmp 14) (.const (U O 8)) 3)
 |11,_,b=>exact kQ (.fieldAddr 44 (.tmp 1) 2)
 |12,_,b=>have d:=(b 11 aa ah);simp only[dW,vW] at d;exact kQ (.load 4 (.tmp 16))
def afA(f:a.tmps.size=22)(hi:14<=i/\i<18)(b:∀j,j<18->qF i j=AT->a.tmps[dW j]?=an (vW A x t j))(c:A.k<A.n):
  ∃o,dh[i]?=an o/\ajr o (yielded dh a.tmps)=AT/\(ajA a.eval o).run Tryz.prog w=.ok (.value (vW A x t i)) w/\o.dst=an (dW i)/\listed Tryz.prog bW.fn a o w=#[]:=by
 have d:(0:Int)<=(A.k:Int):=aa;have e:(A.k:Int)<(A.n:Int):=aa
 match i,hi,b with
 |14,_,b=>obtain⟨o,ho,pl,hg,hd⟩:∃o,dh[14]?=an o/\o.op=.move (.tmp 18)/\o.guard=ns/\o.dst=an 4:=⟨_,rfl,rfl,rfl,rfl⟩;have s0:=b 13 aa ah;exact DI
 |15,_,b=>obtain⟨o,ho,pl,hg,hd⟩:∃o,dh[15]?=an o/\o.op=.extract (.tmp 4) 0/\o.guard=ns/\o.dst=an 19:=⟨_,rfl,rfl,rfl,rfl⟩;have s0:=b 14 aa ah;exact DI
 |16,_,b=>obtain⟨o,ho,pl,hg,hd⟩:∃o,dh[16]?=an o/\o.op=.extract (.tmp 4) 1/\o.guard=ns/\o.dst=an 20:=⟨_,rfl,rfl,rfl,rfl⟩;have s0:=b 14 aa ah;exact DI
 |17,_,b=>
  obtain⟨o,ho,pl,hg,hd⟩:∃o,dh[17]?=an o/\o.op=.indexAddr 78 (.tmp 6) (.tmp 7)/\o.guard=ns/\o.dst=an 21:=⟨_,rfl,rfl,rfl,rfl⟩;have s0:=b 1 aa ah;have s1:=b 2 aa ah;simp only[dW,vW] at s0 s1;refine⟨o,ho,by simp[ajr,hg],?_,hd,listed_nil ?_⟩<;>
  ·unfold ajA;simp only[pl];simp[go_sem,vW,s0,s1,d,e,c]
 |n+18,h,_=>omega
def XS{N n:Nat}{w:AS}(g:PayAt N n w)(v:so):AsideCell N n j w (w.setCell ⟨N,j,ns⟩ v):=by
 have c:=alh w ⟨N,j,ns⟩ v;obtain⟨arr,h1,h⟩:=g
 have f:(w.setCell ⟨N,j,ns⟩ v).heap[N]?=an (.cells (arr.setIfInBounds j v) Payload.ety):=by rw[setCell_eq_setRow w N j arr _ (0,0) _ h1,setRow_heap w N _ _ _ _ h1]
 refine⟨c.tape,c.os,c.output,c.size,λb d=>c.block b d,λ_=>⟨_,f,by simpa using h⟩,λk e=>?_⟩;simp[ajQ,f,h1,ajp (Ne.symm e)]
def aet{N n:Nat}{w:AS}(b:PayAt N n w)(c:j<n)(v:so):Has N j v (w.setCell ⟨N,j,ns⟩ v):=by
 obtain⟨arr,h1,d⟩:=b
 have e:(w.setCell ⟨N,j,ns⟩ v).heap[N]?=an (.cells (arr.setIfInBounds j v) Payload.ety):=by rw[setCell_eq_setRow w N j arr _ (0,0) _ h1,setRow_heap w N _ _ _ _ h1]
 simp[Has,ajQ,e,d,c]
def agt:(Tryz.prog.funcs[bW.fn]?).any (·.norace)=Bz:=aE
def run_set(b:a.tmps[21]?=an (.pointer (an ⟨A.C,A.k,ns⟩)))(c:a.tmps[19]?=an x)(f:PayAt A.C A.n w)(g:A.k<A.n)(h:x=.slice sx lx cx):
  ∃o,dh[18]?=an o/\ajr o (yielded dh a.tmps)=AT/\(ajA a.eval o).run Tryz.prog w=.ok .skip (w.setCell ⟨A.C,A.k,ns⟩ x)/\o.dst=ns/\listed Tryz.prog bW.fn a o w=#[⟨.cell ⟨A.C,A.k,ns⟩,AT,Bz⟩]:=by
 subst h;obtain⟨o,l,d,p,hd⟩:∃o,dh[18]?=an o/\o.op=.store 63 (.tmp 21) (.tmp 19)/\o.guard=ns/\o.dst=ns:=⟨_,rfl,rfl,rfl,rfl⟩
 obtain⟨u,hc,e⟩:∃u,w.cell? ⟨A.C,A.k,ns⟩=an u/\w.frozen? ⟨A.C,A.k,ns⟩=Bz:=by obtain⟨arr,h1,q⟩:=f;exact⟨arr[A.k]'aa,by simp[ajQ,h1,q,g],by simp[World.frozen?,h1]⟩
 refine⟨o,l,by simp[ajr,p],?_,hd,?_⟩
 ·unfold ajA;simp only[d];simp[go_sem,stored,hc,e,b,c]
 ·have he:(ajA a.eval o).events Tryz.prog w #[]=#[⟨.cell ⟨A.C,A.k,ns⟩,AT,Bz⟩]:=by unfold ajA;simp only[d];have es:∀(ad:ajF)(m:Mode),(store ad (.slice sx lx cx) m).events Tryz.prog w #[]=storedEv Tryz.prog w #[] ad (.slice sx lx cx) m:=λad m=>events_store Tryz.prog w #[] ad _ m rfl;simp[go_sem,storedEv,hc,e,b,c,es]
  unfold listed;rw[he,seen_eq agt aj]
end
def mW(A:ou):Deferred:={target:=.fn (.func 73) #[.pointer (an ⟨A.Wg,0,ns⟩),.pointer (an ⟨A.cb,A.co,ns⟩),.pointer (an ⟨A.rb,0,ns⟩),.pointer (an ⟨A.o,0,ns⟩)],args:=#[]}
def lf(A:ou):Array so:=#[.pointer (an ⟨A.Wg,0,ns⟩),.pointer (an ⟨A.cb,A.co,ns⟩),.pointer (an ⟨A.rb,0,ns⟩),.pointer (an ⟨A.o,0,ns⟩)]++ajD 18 undef
def aa8(A:ou)(w:AS):ajM Tryz.prog Bz (born Tryz.prog (mW A)) w=.go (G (bW.at ⟨lf A,[]⟩ [.code wS]) [bot]) w #[]:=by simp[born,mW,ajM,unwind,callDeferred,invoke,callFunc,func73,Tryz.f73,seen,GStep.after,G,Frame.enter,Frame.at,bW,baseD,bot,wS,lf]
def aa9(T:Array so):QuitsD Tryz.prog 2 0 (G {bW.at ⟨T,[]⟩ [] with mode:=.returning} [bot]):=by
 refine QuitsD.ctl (g':=G bot []) rfl (λw=>?_) ?_
 ·simp[G,ajM,unwind,doReturn,results,Frame.at,bW,baseD,bot,func73,Tryz.f73,seen,GStep.after,goexitEntry]
 refine QuitsD.ctl (g':={G bot [] with status:=.finished}) rfl (λw=>?_) ⟨rfl,rfl⟩;rfl
def ahO:∀(i:Nat) o,dh[i]?=an o->∀e∈o.after,akQ .any e=AT->e.on<i:=by have h:(ajv dh.size).all (λi=>(dh[i]?).all λo=>o.after.all λe=>!akQ .any e||decide (e.on<i))=AT:=ah;exact MF
def mixed:Tryz.prog.follows .mixedOrders=AT:=aE
section
variable(A:ou)(N0:Nat)(Sh:Loc->Prop)(X:Nat->Prop)
def aeu(g:BE)(w:AS):Prop:=
 g.status=.running/\∃(b:ajs)(B:List ajs),ajM Tryz.prog Bz g w=.go (G (Frame.enter Tryz.prog 75 #[A.vk,U O (IntKind.i64.wrap (A.W.tdiv 8)),.bool A.I] .normal) (b::B)) w #[]/\
  ∀sx lx cx t w₁,RP N0 X 115 A.Wg A.C A.n 0 A.k w w₁->∃m,akz Tryz.prog Bz (RP N0 X 115 A.Wg A.C A.n 0 A.k) (GP N0 Sh X A.C A.n 0 A.k) (AtR0 Tryz.prog 115 A.Wg A.C A.n 0 (0+A.k+1) (.slice sx lx cx)) m (G (b.finish (.tuple #[.slice sx lx cx,.bool t])) B) w₁
structure eU(x:so)(t:Bool)(called:Bool)(L:Array Bool)(a:Act)(w:AS):Prop where
 ds:a.defers=[dcall 74 #[.pointer (an ⟨A.Wg,0,ns⟩)]]
 size:a.tmps.size=22
 s1:a.tmps[1]?=an (.pointer (an ⟨A.cb,A.co,ns⟩))
 s2:a.tmps[2]?=an (.pointer (an ⟨A.rb,0,ns⟩))
 s3:a.tmps[3]?=an (.pointer (an ⟨A.o,0,ns⟩))
 val:∀i,i<18->L.getD i Bz=AT->a.tmps[dW i]?=an (vW A x t i)
 no:called=Bz->∀i,13<=i->L.getD i Bz=Bz
 yes:called=AT->L.getD 13 Bz=AT
 pre:L.getD 18 Bz=Bz->WK A N0 X w
 post:L.getD 18 Bz=AT->(∀i,i<18->i≠16->L.getD i Bz=AT)/\akp 115 A.Wg w/\Has A.C A.k x w
end
section
variable{A:ou}{N0:Nat}{Sh:Loc->Prop}{X:Nat->Prop}{x:so}{t called:Bool}{L:Array Bool}{a:Act}{w w₁:AS}{i:Nat}
def SI{i:Nat}(hi:i<18)(b:j<18)(h:dW i=dW j):i=j:=by have:∀i:Fin 18,∀j:Fin 18,dW i.1=dW j.1->i=j:=al;exact congrArg Fin.val (this ⟨i,hi⟩ ⟨j,b⟩ h)
def afB{i:Nat}(hi:i<18):4<=dW i/\dW i<22:=by have:∀i:Fin 18,4<=dW i.1/\dW i.1<22:=al;exact this ⟨i,hi⟩
def eU.rely(h:eU A N0 X x t called L a w)(r:RP N0 X 115 A.Wg A.C A.n 0 A.k w w₁):eU A N0 X x t called L a w₁:=
 ⟨h.ds,h.size,h.s1,h.s2,h.s3,h.val,h.no,h.yes,λe=>(h.pre e).rely r,λe=>⟨(h.post e).1,r.live (h.post e).2.1,by have:=r.cell;rw[Nat.zero_add] at this;exact this.trans (h.post e).2.2⟩⟩
def pg{L:Array Bool}{i:Nat}(b:L.size=19)(hi:i<19):(L.setIfInBounds i AT).getD j Bz=if j=i then AT else L.getD j Bz:=by
 by_cases e:j=i
 ·simp_all
 ·rw[if_neg e,getD_set_ne Bz (Ne.symm e)]
def eU.put(h:eU A N0 X x t called L a w)(d:L.size=19)(hi:i<18)(hc:called=Bz->i<13){o:akG}(hd:o.dst=an (dW i))(l:L.getD 18 Bz=AT->i=16):eU A N0 X x t called (L.setIfInBounds i AT) (a.put o.dst (vW A x t i)) w:=by
 have p:=afB hi;have e:(a.put o.dst (vW A x t i)).tmps=a.tmps.setIfInBounds (dW i) (vW A x t i):=by rw[hd];rfl
 have ne:∀j,j≠dW i->(a.put o.dst (vW A x t i)).tmps[j]?=a.tmps[j]?:=λj c=>by rw[e,ajp (Ne.symm c)]
 have f:(L.setIfInBounds i AT).getD 18 Bz=L.getD 18 Bz:=by rw[pg d (by omega),if_neg (by omega)]
 refine⟨by rw[hd];exact h.ds,by rw[e];simpa using h.size,(ne 1 aa).trans h.s1,(ne 2 aa).trans h.s2,(ne 3 aa).trans h.s3,λj c g=>?_,λb j c=>?_,λb=>?_,λb=>h.pre (by rw[<-f];exact b),λb=>?_⟩
 ·rw[pg d aa] at g;by_cases k:j=i
  ·subst k;rw[e,ajN (by rw[h.size];omega)]
  ·rw[if_neg k] at g;rw[ne _ λx=>k (SI c hi x)];exact h.val j c g
 ·have:=hc b;rw[pg d aa,if_neg aa];exact h.no b j c
 ·rw[pg d aa];split
  ·rfl
  ·exact h.yes b
 ·rw[f] at b;obtain⟨h1,m,n⟩:=h.post b;refine⟨λj c q=>?_,m,n⟩;rw[pg d aa];split
  ·rfl
  ·simp_all
def mV(w:AS):GP N0 Sh X A.C A.n 0 A.k w w #[]:=⟨AsideCell.refl _ _ _ w,λe he=>by simp at he⟩
def aev:LetsDraw (GP N0 Sh X A.C A.n 0 A.k):=λw=>⟨⟨rfl,rfl,rfl,rfl,λ_ _=>rfl,id,λ_ _=>rfl⟩,λe he=>by simp at he⟩
def eU.step(h:eU A N0 X x t called L a w)(F:L.size=dh.size)(hr:i∈ajw .any dh L)(T:i≠13)(J:∀c,(c=A.o\/c=A.cb\/c=A.rb\/c=A.sa.block)->∀l,bI c l->¬Sh l)(z:A.k<A.n)(p:A.C≠A.Wg)(V:x=.slice sx lx cx):
  ∃o v w',dh[i]?=an o/\ajr o (yielded dh a.tmps)=AT/\((ajA a.eval o).run Tryz.prog w=.ok (.value v) w'\/((ajA a.eval o).run Tryz.prog w=.ok .skip w'/\v=undef))/\
   GP N0 Sh X A.C A.n 0 A.k w w' (listed Tryz.prog bW.fn a o w)/\eU A N0 X x t called (L.setIfInBounds i AT) (a.put o.dst v) w':=by
 rw[pW] at F;obtain⟨B,o',K,_⟩:=mem_ready.1 hr;have hi:i<19:=by have:=(bE.1 K).1;rwa[pW] at this
 have g:∀j,j<18->qF i j=AT->a.tmps[dW j]?=an (vW A x t j):=λj m D=>h.val j m (ta hr D)
 have q:L.getD i Bz=Bz:=by have f:i<L.size:=aa;simp[akS,f] at B⊢;exact B
 have b:L.getD 18 Bz=AT->i=16:=λe=>by
  rcases dg i 18 with f|M
  ·by_cases G:i=16
   ·exact G
   ·have:=(h.post e).1 i f G;rw[this] at q;cases q
  ·have:i=18:=by omega
   subst this;rw[e] at q;cases q
 rcases dg i 13 with f|M
 ·have y:=h.pre (by
   cases e:L.getD 18 Bz with
   |false=>rfl
   |true=>have:=b e;omega)
  obtain⟨o,H,hw,d,hd,r⟩:=afz (x:=x) (t:=t) y h.s1 h.s2 h.s3 f λj m D=>g j aa D;refine⟨o,_,w,H,hw,.inl d,⟨AsideCell.refl _ _ _ w,λe he=>?_⟩,h.put F aa (λ_=>f) hd b⟩;obtain⟨W,Z,c,hc,I⟩:=r e he;refine⟨W,.inr ⟨⟨J c hc _ I,c,?_,I⟩,Z⟩⟩;rcases hc with rfl|rfl|rfl|rfl
  ·exact y.Xo
  ·exact y.Xc
  ·exact y.Xr
  ·exact y.Xs
 ·have E:called=AT:=by
   cases ec:called with
   |true=>rfl
   |false=>
    exfalso;have N:=h.no ec
    have s:∀j,13<=j->qF i j=AT->False:=λj m D=>by have:=ta hr D;rw[N j m] at this;cases this
    rcases(show i=14\/i=15\/i=16\/i=17\/i=18 by omega) with rfl|rfl|rfl|rfl|rfl
    ·exact s 13 aa ah
    ·exact s 14 aa ah
    ·exact s 14 aa ah
    ·exact s 13 aa ah
    ·exact s 13 aa ah
  rcases dg i 18 with f|P
  ·have hk:14<=i/\i<18:=by omega
   obtain⟨o,H,hw,d,hd,r⟩:=afA (i:=i) (w:=w) h.size hk g z;exact⟨o,_,w,H,hw,.inl d,by rw[r];exact mV w,h.put F aa (λe=>by rw[E] at e;cases e) hd b⟩
  ·have Q:i=18:=by omega
   subst Q;have y:=h.pre q;obtain⟨o,H,hw,d,hd,r⟩:=run_set (g 17 aa ah) (g 15 aa ah) y.pay z V;have R:=XS (j:=A.k) y.pay x;refine⟨o,undef,_,H,hw,.inr ⟨d,rfl⟩,⟨by rw[Nat.zero_add];exact R,λe he=>?_⟩,?_⟩
   ·rw[r,Array.mem_singleton] at he;subst he;exact⟨rfl,.inl (by rw[Nat.zero_add])⟩
   ·have e:(a.put o.dst undef)=a:=by rw[hd];rfl
    rw[e];have u:∀j,j≠18->(L.setIfInBounds 18 AT).getD j Bz=L.getD j Bz:=λj m=>by rw[pg F aa,if_neg m]
    have D:∀j,j<18->j≠16->L.getD j Bz=AT:=λj m p=>by have all:(ajv 18).all (λj=>j==16||qF 18 j)=AT:=ah;have S:=hU.1 all j (fR.2 m);simp only[Bool.or_eq_true,beq_iff_eq] at S;exact ta hr (S.resolve_left p)
    refine⟨h.ds,h.size,h.s1,h.s2,h.s3,λj m B=>h.val j m (by rw[u j (by omega)] at B;exact B),λe=>(by rw[E] at e;cases e),λ_=>(by rw[u 13 (by omega)];exact h.yes E),λe=>?_,λ_=>⟨λj m p=>(by rw[u j (by omega)];exact D j m p),?_,aet y.pay z x⟩⟩
    ·rw[pg F aa,if_pos rfl] at e;cases e
    ·obtain⟨st,sm,B⟩:=y.live;exact⟨st,sm,B.of_block (R.block _ λe=>p e.symm)⟩
def afC{x b:so}{t c:Bool}(h:j<13):vW A x t j=vW A b c j:=by
 match j,h with
 |0,_|1,_|2,_|3,_|4,_|5,_|6,_|7,_|8,_|9,_|10,_|11,_|12,_=>rfl
def aew:∃b o,Uv=.region 0 b Bz/\b.size=1/\b[0]?=an o/\o.op=.defer {callee:=.value (.func 74),args:=#[.tmp 0],argTypes:=#[115]}/\o.guard=ns/\o.dst=ns:=⟨_,_,rfl,rfl,rfl,rfl,rfl,rfl⟩
def RN:∃o,dh[13]?=an o/\o.op=.call {callee:=.value (.func 75),args:=#[.tmp 12,.tmp 15,.tmp 17],argTypes:=#[62,3,4]}/\o.guard=ns/\o.dst=an 18:=⟨_,rfl,rfl,rfl,rfl⟩
def wC:bW.kind≠.early:=baseD_kind _
def G5:(Tryz.f75.name== "runtime.NumGoroutine")=Bz:=aE
theorem aba(q:∀c,(c=A.o\/c=A.cb\/c=A.rb\/c=A.sa.block)->∀l,bI c l->¬Sh l)(s:A.k<A.n)(u:A.C≠A.Wg){rest:List Nat}(B:lE .any dh L rest)(h:eU A N0 X (.slice sx lx cx) t AT L a w):
  ∃m,akz Tryz.prog Bz (RP N0 X 115 A.Wg A.C A.n 0 A.k) (GP N0 Sh X A.C A.n 0 A.k) (AtR0 Tryz.prog 115 A.Wg A.C A.n 0 (0+A.k+1) (.slice sx lx cx)) m (G (bW.at a [.inRegion dh rest]) [bot]) w:=by
 refine⟨_,Fc (N:=26) wC (λw=>RP.refl w) (eU A N0 X (.slice sx lx cx) t AT) (λi=>i=13) (λL a w w₁ h r=>h.rely r) rfl (λL i rest a w hc h1 p E g=>?_) (λL i a w hc h1 p g=>g.step h1 p hc q s u rfl) (λL a w h1 p g=>?_) rest L a w B h⟩
 ·subst hc;have y:=g.yes rfl;obtain⟨v,_⟩:=mem_ready.1 p;have e:13<L.size:=fu;simp[akS,e] at y v;rw[y] at v;cases v
 ·obtain⟨_,f,hh⟩:=g.post (by have:=p 18 (by rw[pW];omega);have e:18<L.size:=by{rw[h1,pW];omega};simp[akS,e] at this⊢;exact this);refine jL rfl λw₁ r=>?_;rw[Kx];refine⟨mV w₁,?_⟩;replace f:=r.live f;replace hh:Has A.C A.k (.slice sx lx cx) w₁:=C6;refine jL rfl λd r=>?_;rw[stepG_end];refine⟨mV d,?_⟩;replace f:=r.live f;replace hh:Has A.C A.k (.slice sx lx cx) d:=C6;refine jL rfl λb r=>?_;rw[stepG_unwind_enter g.ds func74 (nm_done Tryz.link) rfl];refine⟨mV b,?_⟩;replace f:=r.live f;replace hh:Has A.C A.k (.slice sx lx cx) b:=C6;have D:=@Wg.ags Tryz.link _ A.Wg Tryz.prog Tryz.wN A.C A.n 0 (0+A.k+1) (.slice sx lx cx) {bW.at ⟨a.tmps,[]⟩ [] with mode:=.returning} [bot] 2 (RP N0 X 115 A.Wg A.C A.n 0 A.k) (λw z r=>r.rw) (λw=>RP.refl w) rfl (aa9 _);have:=D b ⟨f,by rw[show 0+A.k+1-1=A.k by omega];exact hh⟩;exact Wg.ql (λw z es h=>by obtain⟨rfl,rfl⟩:=h;exact mV z) (λ_ _ x=>x) (λ_ _ x=>x) this
def agu(E:∀c,(c=A.o\/c=A.cb\/c=A.rb\/c=A.sa.block)->∀l,bI c l->¬Sh l)(F:A.k<A.n)(G:A.C≠A.Wg)(q:WK A N0 X w):
  ∃m,akz Tryz.prog Bz (RP N0 X 115 A.Wg A.C A.n 0 A.k) (GP N0 Sh X A.C A.n 0 A.k) (aeu A N0 Sh X) m (born Tryz.prog (mW A)) w:=by
 refine⟨(dh.size+0+1)+1+4,jL rfl λw₁ r=>?_⟩;replace q:=q.rely r;rw[aa8,acO];refine⟨mV w₁,?_⟩;refine jL rfl λH r=>?_;replace q:=q.rely r;rw[stepG_seq];refine⟨mV H,?_⟩;obtain⟨ops,o,e1,e2,e3,e4,e5,e6⟩:=aew;rw[e1];refine jL rfl λJ r=>?_;replace q:=q.rely r;rw[stepG_region,e2];refine⟨mV J,?_⟩;refine jL rfl λK r=>?_;replace q:=q.rely r;clear r;rw[show ajv 1=[0] from rfl,stepG_defer e3 (by simp[ajr,e5]) wC e4];refine⟨mV K,?_⟩;refine jL rfl λM r=>?_;replace q:=q.rely r;clear r;rw[Kx];refine⟨mV M,?_⟩;have Q:(Act.put ⟨(⟨lf A,[]⟩:Act).tmps,dcall 74 ((#[.tmp 0]:Array ajR).map (⟨lf A,[]⟩:Act).eval)::(⟨lf A,[]⟩:Act).defers⟩ o.dst undef)=⟨lf A,[dcall 74 #[.pointer (an ⟨A.Wg,0,ns⟩)]]⟩:=by rw[e6];simp[Act.put,Act.eval,lf]
 rw[Q];refine Pu wC aev ahO mixed λg r rest hlen ht=>?_;replace q:=(q.rely r).rely (⟨λ_ _=>rfl,id,id,rfl⟩:RP N0 X 115 A.Wg A.C A.n 0 A.k g {g with drawn:=g.drawn+1});clear r
 have h0:∀i d,(ajD dh.size Bz).getD i d=AT->dh.size<=i:=λi d h=>by
  rcases dg i dh.size with p|y
  ·simp[akS,p] at h
  ·exact y
 have R:∀i,(ajD dh.size Bz).getD i Bz=Bz:=λi=>by
  rcases dg i dh.size with p|y
  ·simp[akS,p]
  ·simp[akS,Nat.not_lt.2 y]
 have v:eU A N0 X (.slice ns 0 0) Bz Bz (ajD dh.size Bz) ⟨lf A,[dcall 74 #[.pointer (an ⟨A.Wg,0,ns⟩)]]⟩ {g with drawn:=g.drawn+1}:=
  ⟨rfl,by simp[lf],by simp[lf],by simp[lf],by simp[lf],λi hi h=>(by rw[R i] at h;cases h),λ_ i _=>R i,λe=>cB,λ_=>q,λe=>(by rw[R 18] at e;cases e)⟩
 refine Goes.mono (Fc (N:=0) wC (λw=>RP.refl w) (eU A N0 X (.slice ns 0 0) Bz Bz) (λi=>i=13) (λL a w w₁ h r=>h.rely r) rfl (λL i rest a w hc h1 z h3 v=>?_) (λL i a w hc h1 z v=>v.step h1 z hc E F G rfl) (λL a w h1 z v=>?_) rest _ _ _ ht v) aa
 ·
  subst hc;refine⟨rfl,bW.at a [.inRegion dh (13::rest)],[bot],?_,λsx lx cx t w₁ r=>?_⟩
  ·obtain⟨o,S,B,hg,hd⟩:=RN;have v0:=v.val 7 aa (ta z ah);have v1:=v.val 10 aa (ta z ah);have v2:=v.val 12 aa (ta z ah);have:=stepG_enter (P:=Tryz.prog) (main:=Bz) (k:=[]) (cs:=[bot]) (b:=bW) (rest:=rest) S (a:=a) yZ wC (run_call_body (P:=Tryz.prog) (w:=w) B func75 G5 aD);have el:listed Tryz.prog bW.fn a o w=#[]:=by unfold listed;rw[events_call_body B func75 G5 (by rfl)];exact seen_none _ _
   rw[el] at this
   have ea:(#[.tmp 12,.tmp 15,.tmp 17]:Array ajR).map a.eval=#[A.vk,U O (IntKind.i64.wrap (A.W.tdiv 8)),.bool A.I]:=by have q0:=mo v0;have q1:=mo v1;have q2:=mo v2;simp only[dW,vW] at q0 q1 q2;simp[q0,q1,q2]
   rw[ea] at this;exact this
  ·rw[Frame.finish_at];obtain⟨o,S,B,hg,hd⟩:=RN;have ed:(dh[13]?).bind (·.dst)=an 18:=by rw[S];exact hd
   rw[ed];rw[pW] at h1;refine aba (t:=t) E F G h3 ?_;have f:=v.rely r;have T:=f.no rfl;have s:∀j,(L.setIfInBounds 13 AT).getD j Bz=if j=13 then AT else L.getD j Bz:=λj=>pg h1 aa
   refine⟨f.ds,by simpa[Act.put] using f.size,?_,?_,?_,λj hj u=>?_,λe=>cB,λ_=>(by rw[s];rfl),λ_=>f.pre (T 18 aa),λe=>?_⟩
   ·show(a.tmps.setIfInBounds 18 _)[1]?=_;rw[ajp aa];exact f.s1
   ·show(a.tmps.setIfInBounds 18 _)[2]?=_;rw[ajp aa];exact f.s2
   ·show(a.tmps.setIfInBounds 18 _)[3]?=_;rw[ajp aa];exact f.s3
   ·rw[s] at u;show(a.tmps.setIfInBounds 18 _)[dW j]?=_;by_cases V:j=13
    ·subst V;show(a.tmps.setIfInBounds 18 _)[18]?=_;rw[ajN (by rw[f.size];omega)];rfl
    ·rw[if_neg V] at u
     have p:j<13:=by
      rcases dg j 13 with h|h
      ·exact h
      ·rw[T j h] at u;cases u
     have D:(18:Nat)≠dW j:=λx=>V (SI hj (show 13<18 by omega) x.symm);rw[ajp D];rw[f.val j hj u];congr 1;exact afC p
   ·rw[s,if_neg aa,T 18 aa] at e;cases e
 ·
  have:=z 13 (by rw[pW];omega);have Z:=v.no rfl 13 aa;have p:13<L.size:=by rw[h1,pW];omega
  simp[akS,p] at this Z;rw[this] at Z;cases Z
end
end
end Go.Proofs.Q0.Open
namespace Go.Proofs.Q0.aL
section
open Go.Conc
open Go.ConcN (WgLive PayAt)
open Go.ConcR (KK WgAt stA smA rd wr mk Payload)
open Wg (RM DM mM oE Jl tA)
def Pv(M:Nat->Prop)(w:AS):grow M w w=M:=by funext c;exact propext ⟨λh=>h.elim id λ⟨a,b⟩=>absurd b (pR.2 a),.inl⟩
section
variable{P2:NO}[Payload]{N1:Nat}{ty:TypeId}{Wg C n:Nat}{Child:Nat->(Nat->Prop)->BE->AS->Prop}{Fin:Nat->(Nat->Prop)->BE->AS->Prop}
 {j d:Nat}{p:Bool}{M F:Nat->Prop}{g:BE}{w w₁:AS}
theorem a8.Ib(hr:g.status=.running)(h:∀w₁,RS N1 M ty Wg C n w w₁->∃g' w' es,ajM P2 AT g w₁=.go g' w' es/\Ia M F C Wg w₁ w' es/\a8 P2 N1 ty Wg C n Child Fin j p d (grow M w₁ w') (grow F w₁ w') g' w'):a8 P2 N1 ty Wg C n Child Fin j p d M F g w:=
 .own hr (λw₁ r=>let⟨g',w',es,h1,c,_⟩:=h w₁ r;⟨g',w',es,h1,c⟩) λw₁ g' w' es r e=>by grind
def a8.still(hr:g.status=.running)(h:∀w₁,RS N1 M ty Wg C n w w₁->∃g' es,ajM P2 AT g w₁=.go g' w₁ es/\(∀e∈es,e.sync=Bz/\e.write=Bz/\∃c,bI c e.loc/\M c/\c≠C/\c≠Wg)/\a8 P2 N1 ty Wg C n Child Fin j p d M F g' w₁):a8 P2 N1 ty Wg C n Child Fin j p d M F g w:=
 .Ib hr λw₁ r=>by obtain⟨g',es,h1,f,l⟩:=h w₁ r;refine⟨g',w₁,es,h1,⟨av _,λ_ _ _=>rfl,.refl _,λe he=>?_⟩,by rw[Pv,Pv];exact l⟩;obtain⟨m,q,c,s,t⟩:=f e he;exact⟨m,c,s,.inr ⟨q,t⟩⟩
def a8.calm(hr:g.status=.running){g':BE}(c:∀w,ajM P2 AT g w=.go g' w #[])(h:∀w₁,RS N1 M ty Wg C n w w₁->a8 P2 N1 ty Wg C n Child Fin j p d M F g' w₁):a8 P2 N1 ty Wg C n Child Fin j p d M F g w:=
 .still hr λw₁ r=>⟨g',#[],c w₁,aj,h w₁ r⟩
def a8.rely(h:a8 P2 N1 ty Wg C n Child Fin j p d M F g w)(r:RS N1 M ty Wg C n w w₁):a8 P2 N1 ty Wg C n Child Fin j p d M F g w₁:=by
 have e:∀{c:AS},RS N1 M ty Wg C n w₁ c->RS N1 M ty Wg C n w c:=λk=>r.trans k;cases h with
 |fin h=>exact .fin λc k=>h c (e k)
 |own h1 f l=>exact .own h1 (λc k=>f c (e k)) λc g' w' es k=>l c g' w' es (e k)
 |fQ h1 f l=>exact .fQ h1 (λc k=>f c (e k)) λc g' w' es k=>l c g' w' es (e k)
 |kd h1 f l=>exact .kd h1 (λc k=>f c (e k)) λc g' w' es k=>l c g' w' es (e k)
 |ke h1 f l=>exact .ke h1 (λc k=>f c (e k)) λc g' w' es k=>l c g' w' es (e k)
 |add h1 f l=>exact .add h1 (λc k=>f c (e k)) λc g' w' es v k=>l c g' w' es v (e k)
 |go h0 h1 f l=>exact .go h0 h1 (λc k=>f c (e k)) λc g' ch w' es k=>l c g' ch w' es (e k)
section
variable{b:ajs}{a:Act}{k:List Item}{cs:List ajs}{ops:Array akG}{i:Nat}{rest:List Nat}{o:akG}{v:so}
def a8.op(e:b.kind≠.early)(f:ops[i]?=an o)(hg:o.guard=ns)(c:∀w,(ajA a.eval o).run P2 w=.ok (.value v) w)(g:∀w,(ajA a.eval o).events P2 w #[]=#[])
  (h:∀w₁,RS N1 M ty Wg C n w w₁->a8 P2 N1 ty Wg C n Child Fin j p d M F (G (b.at (a.put o.dst v) (.inRegion ops rest::k)) cs) w₁):a8 P2 N1 ty Wg C n Child Fin j p d M F (G (b.at a (.inRegion ops (i::rest)::k)) cs) w:=
 .calm rfl (λw=>by rw[stepG_value f yZ e (c w),listed_nil (g w)]) h
def a8.region(h:∀w₁,RS N1 M ty Wg C n w w₁->a8 P2 N1 ty Wg C n Child Fin j p d M F (G (b.at a (.inRegion ops (ajv ops.size)::k)) cs) w₁){id:Nat}:a8 P2 N1 ty Wg C n Child Fin j p d M F (G (b.at a (.code (.region id ops Bz)::k)) cs) w:=.calm rfl (λ_=>stepG_region) h
def a8.seq{x y:akA}(h:∀w₁,RS N1 M ty Wg C n w w₁->a8 P2 N1 ty Wg C n Child Fin j p d M F (G (b.at a (.code x::.code y::k)) cs) w₁):a8 P2 N1 ty Wg C n Child Fin j p d M F (G (b.at a (.code (.seq x y)::k)) cs) w:=.calm rfl (λ_=>stepG_seq) h
def a8.cond{x y:akA}{c:ajR}{t:Bool}(hc:a.eval c=.bool t)(h:∀w₁,RS N1 M ty Wg C n w w₁->a8 P2 N1 ty Wg C n Child Fin j p d M F (G (b.at a (.code (if t then x else y)::k)) cs) w₁):a8 P2 N1 ty Wg C n Child Fin j p d M F (G (b.at a (.code (.cond c x y)::k)) cs) w:=.calm rfl (λ_=>stepG_cond hc) h
def a8.call{f:FuncId}{fn:Func}{c:akA}{args:Array ajR}{m:Array TypeId}(q:b.kind≠.early)(s:ops[i]?=an o)(hg:o.guard=ns)(g:o.op=.call {callee:=.value (.func f),args,argTypes:=m})
  (r:P2.funcs[f]?=an fn)(e:(fn.name== "runtime.NumGoroutine")=Bz)(t:fn.body=an c)
  (h:∀w₁,RS N1 M ty Wg C n w w₁->a8 P2 N1 ty Wg C n Child Fin j p d M F (G ((base f).at {tmps:=args.map a.eval++ajD (fn.ntmps-(args.map a.eval).size) undef,defers:=[]} [.code c]) (b.at a (.inRegion ops (i::rest)::k)::cs)) w₁):a8 P2 N1 ty Wg C n Child Fin j p d M F (G (b.at a (.inRegion ops (i::rest)::k)) cs) w:=
 .calm rfl (λw=>by
  have l:fn.body.isNone=Bz:=eY;rw[stepG_enter s yZ q (run_call_body g r e l),enter_at _ r t];have:listed P2 b.fn a o w=#[]:=by unfold listed;rw[events_call_body g r e l];exact seen_none P2 _
  rw[this]) h
def a8.add1{c:ajs}{m:Nat}(hcr:(G c cs).status=.running)(hg:akz P2 AT (RM ty Wg) (DM Wg) (mM P2 ty Wg (Jl P2 ty Wg (oE P2 ty Wg (tA c cs)))) m g w)(T:akp ty Wg w)(V:C≠Wg)(hN:N1<=Wg)
  (h:∀w₁,akp ty Wg w₁->RS N1 M ty Wg C n w w₁->a8 P2 N1 ty Wg C n Child Fin j AT 0 M F (G c cs) w₁):a8 P2 N1 ty Wg C n Child Fin j Bz 0 M F g w:=by
 have H:∀(w₁:AS)(x:Int),akp ty Wg (w₁.setCell (stA Wg) (.int .u64 x))->RS N1 M ty Wg C n w₁ (w₁.setCell (stA Wg) (.int .u64 x)):=λw₁ x T=>by
  have hA:=alh w₁ (stA Wg) (.int .u64 x);have hb:∀c,c≠Wg->(w₁.setCell (stA Wg) (.int .u64 x)).heap[c]?=w₁.heap[c]?:=λc hc=>hA.block c hc;refine⟨nC hA.size.symm,λc hc=>hb c ?_,λ_=>T,λ⟨arr,h1,A⟩=>⟨arr,(hb C V).trans h1,A⟩⟩;rcases hc with hc|⟨_,_,hc⟩
  ·omega
  ·exact hc
 refine a8.Bb m g w hg T λg u I d B=>.kd (d u (.refl u)).1 (λw₁ r=>?_) (λw₁ g' w' es r J=>?_)
 ·obtain⟨_,g',h1,_⟩:=d w₁ r;exact⟨g',h1⟩
 obtain⟨_,g2,h1,K,A⟩:=d w₁ r;rw[J] at h1;cases h1;refine a8.Bb K g' w₁ A (r.live B) λg y L d W=>.add (d y (.refl y)).1 (λf p v X hw=>?_) (λf g' w' es v p X hw J=>?_)
 ·obtain⟨_,s⟩:=d f p;obtain⟨g',h1,_⟩:=s v X hw;exact⟨g',h1⟩
 obtain⟨_,s⟩:=d f p;obtain⟨g2,h1,N,A⟩:=s v X hw;rw[J] at h1;cases h1;have P:akp ty Wg (f.setCell (stA Wg) (.int .u64 ((v+1)*KK))):=⟨_,_,hw.setSt _⟩;have Z:=H f _ P;refine a8.Bb N g' _ A P λg z Q d D=>.ke (d z (.refl z)).1 (λq l=>?_) (λq g' w' es l J=>?_)
 ·obtain⟨_,g',h1,_⟩:=d q l;exact⟨g',h1⟩
 obtain⟨_,g2,h1,R,A⟩:=d q l;rw[J] at h1;cases h1;refine a8.Bb R g' q A (l.live D) λg t S d E=>?_;have e:=d t (.refl t);subst e;exact h t E (I.trans (r.trans (L.trans (p.trans (Z.trans (Q.trans (l.trans S)))))))
end
end
end
end Go.Proofs.Q0.aL
namespace Go.Proofs.Q0.Open
variable{v:so}{d:Nat}
section
open Go.Conc Go.ConcN Go.RowKit Go.Conc.Lib Go.ConcR.Gen Go.ConcN.Gen aL
open Go.ConcR (KK wgBlock WgAt stA smA rd wr mk Payload Aside2 DC0 ofEvent_cell)
def acP:iG=.seq (.region 3 fh AT) (.seq (.region 4 Ht Bz) (.seq tC (.seq (.region 11 gS Bz) dB))):=aE
def acQ:tC=.seq (.region 5 Hu Bz) (.block 0 (.loop jN)):=aE
def Fe:jN=.seq (.region 6 BI Bz) (.seq (.cond (.tmp 23) .skip (.exit 0)) (.seq (.block 1 (.seq (.region 7 tF Bz) (.seq (.region 8 qJ Bz) (.region 9 po Bz)))) (.region 10 qv Bz))):=aE
structure Main where
 o:Nat
 cb:Nat
 co:Nat
 Wg:Nat
 C:Nat
 n:Nat
 W:Int
 I:Bool
 sa:ajF
 sn:Nat
 sc:Nat
 j3:Nat->so
 oO:Obj
def Main.lF(A:Main)(i b:Nat):ou:=⟨A.o,A.cb,A.co,b,A.Wg,A.C,A.n,i,A.W,A.I,A.sa,A.sn,A.sc,A.j3 i⟩
structure MK(A:Main)(N0:Nat)(M:Nat->Prop)(w:AS):Prop where
 lt:∀c,M c->c<w.heap.size
 oF:w.heap[A.o]?=an A.oO
 o:w.cell? ⟨A.o,5,ns⟩=an (.slice (an ⟨A.C,0,ns⟩) A.n A.n)
 s:w.cell? ⟨A.cb,A.co+4,ns⟩=an (.slice (an A.sa) A.sn A.sc)
 W:w.cell? ⟨A.cb,A.co,ns⟩=an (U O A.W)
 I:w.cell? ⟨A.cb,A.co+2,ns⟩=an (.bool A.I)
 vk:∀i,i<A.n->w.cell? (A.sa.add i)=an (A.j3 i)
 live:akp 115 A.Wg w
 pay:PayAt A.C A.n w
structure MS(A:Main)(N0:Nat):Prop where
 cb:A.cb<N0
 sa:A.sa.block<N0
 hs:A.n<=A.sn
 hn:A.n<2147483647
 oC:A.o≠A.C
 oW:A.o≠A.Wg
 CW:A.C≠A.Wg
structure MI(A:Main)(N0:Nat)(M:Nat->Prop):Prop where
 o:M A.o
 C:M A.C
 Wg:M A.Wg
 ge:∀c,M c->N0<=c
def kept(d:Nat):Bool:=decide (d<4)||(decide (6<d)&&decide (d<13))||decide (28<d)
def Sz(Z a:Act):Prop:=a.tmps.size=Z.tmps.size/\41<=Z.tmps.size
def Sz.lt{Z a:Act}(h:Sz Z a){d:Nat}(hd:d<41):d<a.tmps.size:=by have:=h.1;have:=h.2;omega
def Sz.put{Z a:Act}(h:Sz Z a){d:Option Nat}:Sz Z (a.put d v):=by cases d with|none=>exact h|some d=>exact⟨by show(a.tmps.setIfInBounds d v).size=_;simpa using h.1,h.2⟩
structure SF(Z:Act)(F:List (Nat×so))(a:Act):Prop where
 z:Sz Z a
 d:a.defers=Z.defers
 k:∀e,kept e=AT->a.tmps[e]?=Z.tmps[e]?
 f:∀e v,F.lookup e=an v->a.tmps[e]?=an v
def ya(A:Main)(i:Nat):List (Nat×so):=[(1,.pointer (an ⟨A.cb,A.co,ns⟩)),(4,.pointer (an ⟨A.o,0,ns⟩)),(5,.pointer (an ⟨A.Wg,0,ns⟩)),(21,U O A.n),(22,U O i)]
section
variable{A:Main}{N0 i:Nat}{M:Nat->Prop}{w w₁:AS}{a:Act}
def MK.rely(h:MK A N0 M w)(S:MS A N0)(I:MI A N0 M)(r:RS N0 M 115 A.Wg A.C A.n w w₁):MK A N0 M w₁:=by
 have cell:∀{b o:Nat}{sp:Option Nat},(b<N0\/(M b/\b≠A.C/\b≠A.Wg))->w₁.cell? ⟨b,o,sp⟩=w.cell? ⟨b,o,sp⟩:=λ{b o sp} e=>by simp only[ajQ,r.keep b e]
 refine⟨λc hc=>bH (h.lt c hc) r.size,(r.keep _ (.inr ⟨I.o,S.oC,S.oW⟩)).trans h.oF,(cell (.inr ⟨I.o,S.oC,S.oW⟩)).trans h.o,(cell (.inl S.cb)).trans h.s,(cell (.inl S.cb)).trans h.W,(cell (.inl S.cb)).trans h.I,λi hi=>?_,r.live h.live,r.pay h.pay⟩;rw[<-h.vk i hi];simp only[ajQ];rw[nG,r.keep _ (.inl S.sa)]
def wB(h:d<a.tmps.size):(a.put (an d) v).tmps[d]?=an v:=by show(a.tmps.setIfInBounds d v)[d]?=_;rw[ajN h]
def nR{e:Nat}(h:e≠d):(a.put (an d) v).tmps[e]?=a.tmps[e]?:=by show(a.tmps.setIfInBounds d v)[e]?=_;rw[ajp (Ne.symm h)]
section
variable{Z:Act}{F:List (Nat×so)}{i:Nat}
def SF.put(h:SF Z F a)(hd:(!kept d&&decide (d<41))=AT):SF Z ((d,v)::F) (a.put (an d) v):=by
 simp only[Bool.and_eq_true,Bool.not_eq_true',decide_eq_true_eq] at hd;refine⟨h.z.put,h.d,λe he=>(nR λx=>?_).trans (h.k e he),λe u hu=>?_⟩
 ·simp_all
 ·exact LB
def SF.sub(h:SF Z F a)(b:List (Nat×so))(hF:∀p∈b,F.lookup p.1=an p.2:=by repeat(first|exact List.forall_mem_nil _|refine List.forall_mem_cons.2 ⟨rfl,?_⟩)):SF Z b a:=
 {h with f:=λe v c=>h.f e v (by
  induction b with
  |nil=>cases c
  |cons p b g=>
   rw[List.lookup_cons] at c;split at c
   ·simp_all
   ·exact g (λq hq=>hF q (.tail _ hq)) c)}
def SF.add{e:Nat}{v:so}(h:SF Z F a)(b:a.tmps[e]?=an v):SF Z ((e,v)::F) a:=
 {h with f:=λc u hu=>(by
   rw[List.lookup_cons] at hu;split at hu
   ·simp_all
   ·exact h.f _ _ hu)}
def SF.tm(h:SF Z F a)(hi:(F.lookup i).isSome=AT):a.tmps[i]?=F.lookup i:=by obtain⟨v,b⟩:=pO.1 hi;rw[h.f _ _ b,b]
def SF.ev(h:SF Z F a)(hi:(F.lookup i).isSome=AT):a.eval (.tmp i)=(F.lookup i).getD undef:=by exact LC
end
end
end
end Go.Proofs.Q0.Open
