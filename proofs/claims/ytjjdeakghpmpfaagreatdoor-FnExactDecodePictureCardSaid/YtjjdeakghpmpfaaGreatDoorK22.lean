import Derived.Test.YtjjdeakghpmpfaaGreatDoorK21
import Derived.Conc.CompanyDraw
import Derived.Laws.BitsLemmas
set_option maxRecDepth 100000
set_option maxHeartbeats 8000000
set_option linter.all false
open Go.Value renaming int->U,slice->Y,bool->a9,agg->a5,pointer->ci,tuple->dl,iface->em
open Go.IntKind renaming i64->O
open Go.Obj renaming cells->ac
open Go.Ending renaming returned->be
open Array renaming getD->aka,getElem?_setIfInBounds_ne->ahM,getElem?_setIfInBounds_self_of_lt->aiT,replicate->aiD
open Go renaming Addr->aiI,Code->ajP,Frame->aiH,Goroutine->so,Oper->aku,Operand->ajd,Program->Kx,Value->rl,World->ns,execOp->ait,stepG->aiO
open Go.Conc renaming Goes->ajD,aside_setCell->akp,stepG_region_end->AT
open Go.ConcN renaming WgLive->ajt
open Go.Region renaming binds->ajX,ready->aiz,wanted->aiu
open Go.World renaming cell?->aiW
open List renaming range->aiB
namespace Go.Proofs
abbrev je:=@Go.Conc.Goes.step
def Me{p:Prop}(h:p:=by rw[ho,Option.any_some,Array.any_eq_true'] at hn;obtain⟨e,he,hb⟩:=hn;simp only[Bool.and_eq_true,beq_iff_eq] at hb;rw[<-hb.1];exact qm e he hb.2):p:=h
def Lb{p:Prop}(h:p:=by obtain⟨o,ho,e,hg,hd⟩:=ho;exact⟨o,ho,by simp[Region.wanted,hg],hr o e,hd,hl o e⟩):p:=h
def Db{p:Prop}(h:p:=by
  simp only[dW,vW] at s0;refine⟨o,ho,by simp[Region.wanted,hg],?_,hd,listed_nil ?_⟩<;>
  ·unfold execOp;simp only[mp];simp[go_sem,vW,s0]):p:=h
def Mf{p:Prop}(h:p:=by intro i o ho e he hb;have hi:=(bF.1 ho).1;have h1:=gY.1 h i (fz.2 hi);rw[ho,Option.all_some,Array.all_eq_true_iff_forall_mem] at h1;have h2:=h1 e he;rw[hb] at h2;simpa using h2):p:=h
def Cl{p:Prop}(h:p:=by have:=r.cell;rw[Nat.zero_add] at this;exact this.trans hh):p:=h
def xY{p:Prop}(h:p:=by simp[Region.wanted,hg]):p:=h
def Lc{p:Prop}(h:p:=by
  rw[List.lookup_cons] at hu;split at hu
  ·next e1=>rw[beq_iff_eq.1 e1,<-hu];exact vh (h.z.lt hd.2)
  ·next e1=>exact(m7 (beq_eq_false_iff_ne.1 e1)).trans (h.f _ _ hu)):p:=h
def Ld{p:Prop}(h:p:=by obtain⟨v,hv⟩:=pe.1 hi;rw[lD (h.f _ _ hv),hv];rfl):p:=h
end Go.Proofs
namespace Go.Proofs.Q0.aI
section
open Go.Conc
section
variable{P:Kx}{main:Bool}{R:ns->ns->Prop}{D:ns->ns->Array Event->Prop}{Stop:so->ns->Prop}{b:aiH}{ops:Array aku}{md:Region.Mode}{k:List Item}{cs:List aiH}{N:Nat}
def Er(g:b.kind≠.early)(y:∀w,R w w)(Inv:Array Bool->Act->ns->Prop)(c:Nat->Prop)(d:∀L a w w₁,Inv L a w->R w w₁->Inv L a w₁)(q:(G b cs).status=.running)
  (e:∀L i rest a w,c i->L.size=ops.size->i∈aiz md ops L->kG md ops (L.setIfInBounds i true) rest->Inv L a w->Stop (G (b.at a (.inRegion ops (i::rest)::k)) cs) w)
  (f:∀L i a w,¬c i->L.size=ops.size->i∈aiz md ops L->Inv L a w->∃o v w',ops[i]?=some o/\aiu o (yielded ops a.tmps)=true/\((ait a.eval o).run P w=.ok (.value v) w'\/((ait a.eval o).run P w=.ok .skip w'/\v=undef))/\
   D w w' (listed P b.fn a o w)/\Inv (L.setIfInBounds i true) (a.put o.dst v) w')
  (j:∀L a w,L.size=ops.size->(∀i,i<ops.size->L.getD i true=true)->Inv L a w->ajD P main R D Stop N (G (b.at a (.inRegion ops []::k)) cs) w):
  ∀(rest:List Nat)(L:Array Bool)(a:Act)(w:ns),kG md ops L rest->Inv L a w->ajD P main R D Stop (rest.length+N) (G (b.at a (.inRegion ops rest::k)) cs) w:=by
 intro rest
 induction rest with
 |nil=>intro L a w n h;cases n with|nil h1 m=>simpa using j L a w h1 m h
 |cons i rest s=>
  intro L a w n h;cases n with
  |cons h1 m p=>
   by_cases hc:c i
   ·exact eR λw₁ r=>e L i rest a w₁ hc h1 m p (d _ _ _ _ h r)
   ·rw[show(i::rest).length+N=(rest.length+N)+1 by simp;omega];refine je rfl λw₁ r=>?_;obtain⟨o,v,w',t,hw,l,u,x⟩:=f L i a w₁ hc h1 m (d _ _ _ _ h r);rcases l with l|⟨l,rfl⟩
    ·rw[stepG_value t hw g l];exact⟨u,s _ _ _ p x⟩
    ·rw[stepG_none t hw g l];exact⟨u,s _ _ _ p x⟩
def OX(d:b.kind≠.early)(hd:LetsDraw D)(c:∀(i:Nat) o,ops[i]?=some o->∀e∈o.after,ajX .any e=true->e.on<i)(hm:P.follows .mixedOrders=true){id n:Nat}{a:Act}{w:ns}
  (h:∀w₁,R w w₁->∀rest,rest.length<=ops.size->kG .any ops (aiD ops.size false) rest->ajD P main R D Stop n (G (b.at a (.inRegion ops rest::k)) cs) {w₁ with drawn:=w₁.drawn+1}):
  ajD P main R D Stop (n+1) (G (b.at a (.code (.region id ops true)::k)) cs) w:=
 je rfl λw₁ r=>by
  rw[stepG_region_draw];refine⟨hd _,?_⟩;have e:∀t,Region.schedule (P.follows .mixedOrders) ops t=Region.linearise .any ops t:=λt=>by rw[hm];rfl
  rw[e];exact h w₁ r _ (Ym (Md c)) (Md c)
end
end
end Go.Proofs.Q0.aI
namespace Go.Proofs.Q0.Wg
section
open Go.Conc Go.ConcN Go.ConcN.Gen Go.RowKit Go.Conc.Lib Go.ConcR.Gen
open Go.ConcR (KK wgBlock WgAt stA smA rd wr mk Payload Aside2 DC0)
variable{L:WgLink}
section
variable{P:Kx}{main:Bool}{R R':ns->ns->Prop}{D D':ns->ns->Array Event->Prop}{Stop vw:so->ns->Prop}
theorem meet(p:∀a b c,R a b->R b c->R a c)(i:∀w w',R' w w'->R w w')(q:∀g w,Stop g w->∃g' e,aiO P main g w=.go g' w #[e])(j:∀w,R' w w):∀{n:Nat}{g:so}{w:ns}{m:Nat},ajD P main R' DC0 vw n g w->ajD P main R D Stop m g w->
  ajD P main R' DC0 (λg w=>vw g w/\∃m,ajD P main R D Stop m g w) n g w:=by
 intro n
 induction n with
 |zero=>exactλh k w₁ h₁=>⟨h w₁ h₁,_,jd p k (i _ _ h₁)⟩
 |succ n t=>
  intro g w m h k;rcases h with h|⟨u,h⟩
  ·exact .inl λw₁ h₁=>⟨h w₁ h₁,_,jd p k (i _ _ h₁)⟩
  ·refine .inr ⟨u,λw₁ h₁=>?_⟩;have f:=h w₁ h₁;have l:=jd p k (i _ _ h₁);cases o:aiO P main g w₁ with
   |go g' w' es=>
    rw[o] at f;refine⟨f.1,?_⟩
    have d:∀{x:Prop},Stop g w₁->x:=λ{x} r=>by obtain⟨v,e,he⟩:=q g w₁ r;rw[o] at he;rw[f.1.2] at he;exact absurd he aj
    cases m with
    |zero=>exact d (l w₁ (i _ _ (j w₁)))
    |succ m=>
     rcases l with l|⟨_,l⟩
     ·simp_all
     ·have s:=l w₁ (i _ _ (j w₁));rw[o] at s;exact t f.2 s.2
   |_=>rw[o] at f;exact f.elim
theorem aaq(b:∀w,R w w):∀{n:Nat}{g:so}{w:ns},ajD P main R DC0 Stop n g w->∃g',Stop g' w:=by
 intro n
 induction n with
 |zero=>exactλ{g w} h=>⟨g,h w (b w)⟩
 |succ n d=>
  intro g w h;rcases h with h|⟨f,h⟩
  ·exact⟨g,h w (b w)⟩
  ·have a:=h w (b w);cases c:aiO P main g w with
   |go g' i es=>rw[c] at a;obtain⟨⟨rfl,_⟩,e⟩:=a;exact d e
   |_=>rw[c] at a;exact a.elim
end
section
variable[Payload]{Wg:Nat}{b₀:aiH}{a₀:Act}{ops₀:Array aku}{i₀:Nat}{rest₀:List Nat}{k₀:List Item}{cs:List aiH}
theorem adJ{P:Kx}(H:WgLib P L):
  ∃b a d c:so,(∀w,ajt L.tWg Wg w->ajD P false (RM L.tWg Wg) DC0 (λg w=>g=b/\ajt L.tWg Wg w) 20
   (G ((base L.add).at ⟨#[.pointer (some ⟨Wg,0,none⟩),U O (-1),undef,undef,undef,undef,undef,undef,undef,undef,undef,undef,undef,undef,undef,undef,undef,undef,undef,undef,undef,undef,undef,undef,undef,undef,undef,undef,undef,undef,undef,undef,undef,undef,undef,undef,undef,undef,undef,undef,undef,undef,undef,undef,undef,undef,undef,undef,undef,undef,undef,undef,undef,undef,undef,undef,undef,undef,undef,undef,undef,undef,undef,undef,undef,undef,undef,undef,undef,undef,undef,undef,undef,undef,undef,undef,undef,undef,undef,undef,undef,undef,undef,undef,undef,undef,undef,undef,undef,undef,undef,undef,undef,undef,undef,undef,undef,undef,undef,undef,undef,undef,undef,undef,undef,undef,undef,undef,undef,undef,undef,undef,undef,undef,undef,undef,undef],[]⟩ [.code (body_add L)]) (b₀.at a₀ (.inRegion ops₀ (i₀::rest₀)::k₀)::cs)) w)/\
   b.status=.running/\(∀w,aiO P false b w=.go a w #[mk (.releaseMerge (stA Wg))])/\(∀w,ajt L.tWg Wg w->ajD P false (RM L.tWg Wg) DC0 (λg w=>g=d/\ajt L.tWg Wg w) 10 a w)/\∀w,aiO P false d w=.go c w #[mk .disable]:=by
 simp only[body_add,addFn,Option.getD_some];apply Exists.intro;apply Exists.intro;apply Exists.intro;apply Exists.intro;refine⟨λw hF=>?_,?_,λw=>?_,λw hF=>?_,λw=>?_⟩
 ·u_c stepG_seq rm hF
  u_cond true rm hF
  u_c stepG_seq rm hF;u_c stepG_seq rm hF
  u_reg rm hF
  u_op rm hF;u_op rm hF;u_c AT rm hF
  u_cond true rm hF
  u_reg rm hF
  u_op rm hF
  u_conv H.underlying_tWgP H.room_tWg (WgLive.cell0 hF).choose_spec rm hF
  exact eR (λw₁ h₁=>⟨rfl,rm hF h₁⟩)
 ·rfl
 ·exact stepG_markAt .releaseMerge aj rfl rfl fM rfl H.f_relMerge (x_relMerge_n L) (x_relMerge_b L) (x_relMerge_x L) (x_relMerge_f L) (by simp[Act.eval,stA])
 ·walk_nrm
  u_c AT rm hF;u_c stepG_seq rm hF
  u_reg rm hF
  exact eR (λw₁ h₁=>⟨rfl,rm hF h₁⟩)
 ·exact stepG_mark0 .disable aj rfl rfl fM rfl H.f_disable (x_disable_n L) (x_disable_b L) (x_disable_x L) (x_disable_f L)
theorem ab5{P:Kx}(H:WgLib P L){c:aiH}{cs:List aiH}:
  ∃d a e b:so,(∀w,ajt L.tWg Wg w->ajD P false (RM L.tWg Wg) DC0 (λg w=>g=d/\ajt L.tWg Wg w) 23 (G ((baseD L.done).at ⟨#[.pointer (some ⟨Wg,0,none⟩),undef,undef,undef],[]⟩ [.code (body_done L)]) (c::cs)) w)/\
   d.status=.running/\(∀w,aiO P false d w=.go a w #[mk (.releaseMerge (stA Wg))])/\(∀w,ajt L.tWg Wg w->ajD P false (RM L.tWg Wg) DC0 (λg w=>g=e/\ajt L.tWg Wg w) 10 a w)/\∀w,aiO P false e w=.go b w #[mk .disable]:=by
 have f:=@adJ L _ Wg;simp only[body_done,body_add,doneFn,addFn,Option.getD_some] at f⊢;obtain⟨d,a,e,b,h1,h,i,j,k⟩:=f H;refine⟨d,a,e,b,λw hF=>?_,h,i,j,k⟩
 u_reg rm hF
 u_op rm hF
 u_in rm hF
 refine goes_call rfl rfl fM rfl H.f_add (nm_add L) rfl ⟨by u_nil,?_⟩
 walk_nrmf addFn
 exact h1 _ hF
theorem afJ{P:Kx}(H:WgLib P L){C n Low k:Nat}{val:rl}{c:aiH}{cs:List aiH}{y:Nat}{R:ns->ns->Prop}(p:∀w w',R w w'->RW L.tWg Wg C n Low (k-1) w w')(q:∀w,R w w)
  (r:c.mode=.returning)(z:QuitsD P y 0 (G c cs))(w:ns)(hK:ajt L.tWg Wg w/\Has C (k-1) val w):
  ajD P false R DC0 (AtR0 P L.tWg Wg C n Low k val) 23 (G ((baseD L.done).at ⟨#[.pointer (some ⟨Wg,0,none⟩),undef,undef,undef],[]⟩ [.code (body_done L)]) (c::cs)) w:=by
 obtain⟨I,s,J,A,h1,K,B,E,t⟩:=ab5 (Wg:=Wg) (c:=c) (cs:=cs) H;have F:=doneN (P:=P) H (Own:=λ_ _=>False) (Rd:=λ_ _=>False) (n:=n) (Low:=Low) r z w hK;have f:∀w w',R w w'->RM L.tWg Wg w w':=λw w' h=>(p w w' h).live;have u:∀a b c,RW L.tWg Wg C n Low (k-1) a b->RW L.tWg Wg C n Low (k-1) b c->RW L.tWg Wg C n Low (k-1) a c:=λ_ _ _ a b=>a.trans b;have i:∀g w,AtR0 P L.tWg Wg C n Low k val g w->∃j e,aiO P false g w=.go j w #[e]:=λg w⟨_,_,j,h,_⟩=>⟨j,_,h⟩;refine pI (λ_ _ _ x=>x) (λg w h=>?_) (λ_ _ x=>x) (meet u p i q (pI (λ_ _ _ x=>x) (λ_ _ x=>x) f (h1 w hK.1)) F);obtain⟨⟨rfl,hF⟩,m,hm⟩:=h
 have cont:∀w,ajt L.tWg Wg w->∀m,ajD P false (RW L.tWg Wg C n Low (k-1)) (DWs Wg (λ_ _=>False) (λ_ _=>False) C n k) (AtR0 P L.tWg Wg C n Low k val) m s w->False:=λw hF m hm=>by
  obtain⟨j,⟨rfl,_⟩,v,l⟩:=aaq q (meet u p i q (pI (λ_ _ _ x=>x) (λ_ _ x=>x) f (E w hF)) hm)
  have o:∀w,¬AtR0 P L.tWg Wg C n Low k val j w:=λw⟨_,_,M,d,_⟩=>by rw[t] at d;exact absurd d (by simp[mk])
  cases v with
  |zero=>exact o w (l w (.refl w))
  |succ v=>
   rcases l with d|⟨_,d⟩
   ·exact o w (d w (.refl w))
   ·have:=d w (.refl w);rw[t] at this;exact(this.1.2 (mk .disable) aj).2.1 rfl
 cases m with
 |zero=>exact hm w (.refl w)
 |succ m=>
  rcases hm with d|⟨_,d⟩
  ·simp_all
  ·have:=d w (.refl w);rw[B] at this;exact(cont w hF m this.2).elim
end
end
end Go.Proofs.Q0.Wg
namespace Go.Proofs.Q0.Open
open Go.Proofs.Tryz
variable{i j lx cx:Nat}{sx:Option aiI}
section
open Go.Conc Go.ConcN Go.RowKit Go.Conc.Lib Go.ConcR.Gen Go.ConcN.Gen aI
open Go.ConcR (KK wgBlock WgAt stA smA rd wr mk Payload Aside2 DC0 ofEvent_cell)
instance:Payload:=⟨53⟩
def bW:aiH:=baseD 62
noncomputable def bot:aiH:={(default:aiH) with fn:=Tryz.prog.funcs.size,defers:=[],mode:=.panicking [goexitEntry]}
noncomputable def vC:ajP:=Tryz.f62.body.getD .skip
noncomputable def cY:Array aku:=match vC with|.seq _ (.region _ b _)=>b|_=>#[]
noncomputable def TQ:ajP:=match vC with|.seq a _=>a|_=>.skip
def ab6:vC=.seq TQ (.region 1 cY true):=aC
def pw:cY.size=19:=aC
def dW(i:Nat):Nat:=match i with|0=>5|1=>6|2=>7|3=>8|4=>9|5=>10|6=>11|7=>12|8=>13|9=>14|10=>15|11=>16|12=>17|13=>18|14=>4|15=>19|16=>20|17=>21|_=>0
noncomputable def pY(i j:Nat):Bool:=(cY[i]?).any λo=>o.after.any λe=>e.on==j&&ajX .any e
def sd{L:Array Bool}(h:i∈aiz .any cY L)(hn:pY i j=true):L.getD j false=true:=by obtain⟨_,o,ho,qm⟩:=mem_ready.1 h;unfold pY at hn;exact Me
structure ny where
 o:Nat
 cb:Nat
 co:Nat
 rb:Nat
 Wg:Nat
 C:Nat
 n:Nat
 k:Nat
 W:Int
 I:Bool
 sa:aiI
 sn:Nat
 sc:Nat
 vk:rl
def vW(A:ny)(x:rl)(t:Bool)(i:Nat):rl:=match i with
 |0=>.pointer (some ⟨A.o,5,none⟩)|1=>.slice (some ⟨A.C,0,none⟩) A.n A.n|2=>U O A.k|3=>.pointer (some ⟨A.cb,A.co+4,none⟩)|4=>.slice (some A.sa) A.sn A.sc|5=>U O A.k
 |6=>.pointer (some (A.sa.add A.k))|7=>A.vk|8=>.pointer (some ⟨A.cb,A.co,none⟩)|9=>U O A.W|10=>U O (IntKind.i64.wrap (A.W.tdiv 8))|11=>.pointer (some ⟨A.cb,A.co+2,none⟩)|12=>.bool A.I
 |13=>.tuple #[x,.bool t]|14=>.tuple #[x,.bool t]|15=>x|16=>.bool t|17=>.pointer (some ⟨A.C,A.k,none⟩)|_=>undef
structure WK(A:ny)(N0:Nat)(X:Nat->Prop)(w:ns):Prop where
 o:w.cell? ⟨A.o,5,none⟩=some (.slice (some ⟨A.C,0,none⟩) A.n A.n)
 r:w.cell? ⟨A.rb,0,none⟩=some (U O A.k)
 s:w.cell? ⟨A.cb,A.co+4,none⟩=some (.slice (some A.sa) A.sn A.sc)
 W:w.cell? ⟨A.cb,A.co,none⟩=some (U O A.W)
 I:w.cell? ⟨A.cb,A.co+2,none⟩=some (.bool A.I)
 vk:w.cell? (A.sa.add A.k)=some A.vk
 live:ajt 104 A.Wg w
 pay:PayAt A.C A.n w
 Xo:A.o<N0\/X A.o
 Xr:A.rb<N0\/X A.rb
 Xc:A.cb<N0\/X A.cb
 Xs:A.sa.block<N0\/X A.sa.block
 hk:A.k<A.n
 hs:A.k<A.sn
section
variable{A:ny}{N0:Nat}{X:Nat->Prop}{Sh:Loc->Prop}{w w₁:ns}{x:rl}{t:Bool}{a:Act}{off:Nat}
def rO(a:aiI)(n:Nat):(a.add n).block=a.block:=by unfold Addr.add;split<;>rfl
def WK.rely(h:WK A N0 X w)(r:RP N0 X 104 A.Wg A.C A.n 0 A.k w w₁):WK A N0 X w₁:=by
 have cell:∀{b o:Nat}{sp:Option Nat},(b<N0\/X b)->w₁.cell? ⟨b,o,sp⟩=w.cell? ⟨b,o,sp⟩:=λ{b o sp} c=>by simp only[aiW,r.low b c]
 exact⟨(cell h.Xo).trans h.o,(cell h.Xr).trans h.r,(cell h.Xc).trans h.s,(cell h.Xc).trans h.W,(cell h.Xc).trans h.I,(show w₁.cell? (A.sa.add A.k)=w.cell? (A.sa.add A.k) by simp only[aiW];rw[rO,r.low _ h.Xs]).trans h.vk,r.live h.live,r.pay h.pay,h.Xo,h.Xr,h.Xc,h.Xs,h.hk,h.hs⟩
def lD{d:Nat}{v:rl}(h:a.tmps[d]?=some v):a.eval (.tmp d)=v:=by show a.tmps.getD d undef=v;rw[Array.getD_eq_getD_getElem?,h];rfl
def j5{d:Nat}{v:rl}(op:Op)(ho:∃o,cY[i]?=some o/\o.op=op/\o.guard=none/\o.dst=some d:=by exact⟨_,rfl,rfl,rfl,rfl⟩)
  (hr:∀o:aku,o.op=op->(ait a.eval o).run Tryz.prog w=.ok (.value v) w:=by(intro o e;unfold execOp;simp only[e];simp[go_sem,vW, *]))
  (hl:∀o:aku,o.op=op->∀e∈listed Tryz.prog bW.fn a o w,e.sync=false/\e.write=false/\∃c,(c=A.o\/c=A.cb\/c=A.rb\/c=A.sa.block)/\bG c e.loc:=by(intro o b e he;have hm:=mem_listed he;unfold execOp at hm;simp only[b] at hm;simp[go_sem, *] at hm<;>(subst hm;first|exact⟨rfl,rfl,_,by simp,.inl ⟨_,rfl,rfl⟩⟩|exact⟨rfl,rfl,(A.sa.add A.k).block,by rw[rO];simp,.inl ⟨_,rfl,rfl⟩⟩))):
  ∃o,cY[i]?=some o/\aiu o (yielded cY a.tmps)=true/\(ait a.eval o).run Tryz.prog w=.ok (.value v) w/\o.dst=some d/\∀e∈listed Tryz.prog bW.fn a o w,e.sync=false/\e.write=false/\∃c,(c=A.o\/c=A.cb\/c=A.rb\/c=A.sa.block)/\bG c e.loc:=by
 exact Lb
def aeQ(h:WK A N0 X w)(h0:a.tmps[1]?=some (.pointer (some ⟨A.cb,A.co,none⟩)))(f:a.tmps[2]?=some (.pointer (some ⟨A.rb,0,none⟩)))(g:a.tmps[3]?=some (.pointer (some ⟨A.o,0,none⟩)))
  (hi:i<13)(b:∀j,j<i->pY i j=true->a.tmps[dW j]?=some (vW A x t j)):
  ∃o,cY[i]?=some o/\aiu o (yielded cY a.tmps)=true/\(ait a.eval o).run Tryz.prog w=.ok (.value (vW A x t i)) w/\o.dst=some (dW i)/\∀e∈listed Tryz.prog bW.fn a o w,e.sync=false/\e.write=false/\∃c,(c=A.o\/c=A.cb\/c=A.rb\/c=A.sa.block)/\bG c e.loc:=by
 have l:=lD h0;have m:=lD f;have n:=lD g;have f1:=h.o;have f2:=h.r;have f3:=h.s;have f4:=h.W;have f5:=h.I;have f6:=h.vk;have f7:=h.hk;have f8:=h.hs;have p:(0:Int)<=(A.k:Int):=aa;have q:(A.k:Int)<(A.sn:Int):=aa
 match i,hi,b with
 |0,_,b=>exact j5 (.fieldAddr 66 (.tmp 3) 1)
 |1,_,b=>have d:=(b 0 aa ai);simp only[dW,vW] at d;exact j5 (.load 64 (.tmp 5))
 |2,_,b=>exact j5 (.load 3 (.tmp 2))
 |3,_,b=>exact j5 (.fieldAddr 33 (.tmp 1) 4)
 |4,_,b=>have d:=(b 3 aa ai);simp only[dW,vW] at d;exact j5 (.load 22 (.tmp 8))
 |5,_,b=>exact j5 (.load 3 (.tmp 2))
 |6,_,b=>have d:=(b 4 aa ai);simp only[dW,vW] at d;have s1:=(b 5 aa ai);simp only[dW,vW] at s1;exact j5 (.indexAddr 22 (.tmp 9) (.tmp 10))
 |7,_,b=>have d:=(b 6 aa ai);simp only[dW,vW] at d;exact j5 (.load 52 (.tmp 11))
 |8,_,b=>exact j5 (.fieldAddr 33 (.tmp 1) 0)
 |9,_,b=>have d:=(b 8 aa ai);simp only[dW,vW] at d;exact j5 (.load 3 (.tmp 13))
 |10,_,b=>have d:=(b 9 aa ai);simp only[dW,vW] at d;exact j5 (.binOp .quo 3 (.tmp 14) (.const (U O 8)) 3)
 |11,_,b=>exact j5 (.fieldAddr 33 (.tmp 1) 2)
 |12,_,b=>have d:=(b 11 aa ai);simp only[dW,vW] at d;exact j5 (.load 4 (.tmp 16))
def aeR(f:a.tmps.size=22)(hi:14<=i/\i<18)(b:∀j,j<18->pY i j=true->a.tmps[dW j]?=some (vW A x t j))(c:A.k<A.n):
  ∃o,cY[i]?=some o/\aiu o (yielded cY a.tmps)=true/\(ait a.eval o).run Tryz.prog w=.ok (.value (vW A x t i)) w/\o.dst=some (dW i)/\listed Tryz.prog bW.fn a o w=#[]:=by
 have d:(0:Int)<=(A.k:Int):=aa;have e:(A.k:Int)<(A.n:Int):=aa
 match i,hi,b with
 |14,_,b=>obtain⟨o,ho,mp,hg,hd⟩:∃o,cY[14]?=some o/\o.op=.move (.tmp 18)/\o.guard=none/\o.dst=some 4:=⟨_,rfl,rfl,rfl,rfl⟩;have s0:=b 13 aa ai;exact Db
 |15,_,b=>obtain⟨o,ho,mp,hg,hd⟩:∃o,cY[15]?=some o/\o.op=.extract (.tmp 4) 0/\o.guard=none/\o.dst=some 19:=⟨_,rfl,rfl,rfl,rfl⟩;have s0:=b 14 aa ai;exact Db
 |16,_,b=>obtain⟨o,ho,mp,hg,hd⟩:∃o,cY[16]?=some o/\o.op=.extract (.tmp 4) 1/\o.guard=none/\o.dst=some 20:=⟨_,rfl,rfl,rfl,rfl⟩;have s0:=b 14 aa ai;exact Db
 |17,_,b=>
  obtain⟨o,ho,mp,hg,hd⟩:∃o,cY[17]?=some o/\o.op=.indexAddr 64 (.tmp 6) (.tmp 7)/\o.guard=none/\o.dst=some 21:=⟨_,rfl,rfl,rfl,rfl⟩;have s0:=b 1 aa ai;have s1:=b 2 aa ai;simp only[dW,vW] at s0 s1;refine⟨o,ho,by simp[aiu,hg],?_,hd,listed_nil ?_⟩<;>
  ·unfold ait;simp only[mp];simp[go_sem,vW,s0,s1,d,e,c]
 |n+18,h,_=>omega
def W8{N n:Nat}{w:ns}(g:PayAt N n w)(v:rl):AsideCell N n j w (w.setCell ⟨N,j,none⟩ v):=by
 have c:=akp w ⟨N,j,none⟩ v;obtain⟨arr,h1,h⟩:=g
 have f:(w.setCell ⟨N,j,none⟩ v).heap[N]?=some (.cells (arr.setIfInBounds j v) Payload.ety):=by rw[setCell_eq_setRow w N j arr _ (0,0) _ h1,setRow_heap w N _ _ _ _ h1]
 refine⟨c.tape,c.os,c.output,c.size,λb d=>c.block b d,λ_=>⟨_,f,by simpa using h⟩,λk e=>?_⟩;simp[aiW,f,h1,ahM (Ne.symm e)]
def adK{N n:Nat}{w:ns}(b:PayAt N n w)(c:j<n)(v:rl):Has N j v (w.setCell ⟨N,j,none⟩ v):=by
 obtain⟨arr,h1,d⟩:=b
 have e:(w.setCell ⟨N,j,none⟩ v).heap[N]?=some (.cells (arr.setIfInBounds j v) Payload.ety):=by rw[setCell_eq_setRow w N j arr _ (0,0) _ h1,setRow_heap w N _ _ _ _ h1]
 simp[Has,aiW,e,d,c]
def afK:(Tryz.prog.funcs[bW.fn]?).any (·.norace)=false:=aC
def run_set(b:a.tmps[21]?=some (.pointer (some ⟨A.C,A.k,none⟩)))(c:a.tmps[19]?=some x)(f:PayAt A.C A.n w)(g:A.k<A.n)(h:x=.slice sx lx cx):
  ∃o,cY[18]?=some o/\aiu o (yielded cY a.tmps)=true/\(ait a.eval o).run Tryz.prog w=.ok .skip (w.setCell ⟨A.C,A.k,none⟩ x)/\o.dst=none/\listed Tryz.prog bW.fn a o w=#[⟨.cell ⟨A.C,A.k,none⟩,true,false⟩]:=by
 subst h;obtain⟨o,l,d,p,hd⟩:∃o,cY[18]?=some o/\o.op=.store 53 (.tmp 21) (.tmp 19)/\o.guard=none/\o.dst=none:=⟨_,rfl,rfl,rfl,rfl⟩
 obtain⟨u,hc,e⟩:∃u,w.cell? ⟨A.C,A.k,none⟩=some u/\w.frozen? ⟨A.C,A.k,none⟩=false:=by obtain⟨arr,h1,q⟩:=f;exact⟨arr[A.k]'aa,by simp[aiW,h1,q,g],by simp[World.frozen?,h1]⟩
 refine⟨o,l,by simp[aiu,p],?_,hd,?_⟩
 ·unfold ait;simp only[d];simp[go_sem,stored,hc,e,b,c]
 ·have he:(ait a.eval o).events Tryz.prog w #[]=#[⟨.cell ⟨A.C,A.k,none⟩,true,false⟩]:=by unfold ait;simp only[d];have es:∀(ad:aiI)(m:Mode),(store ad (.slice sx lx cx) m).events Tryz.prog w #[]=storedEv Tryz.prog w #[] ad (.slice sx lx cx) m:=λad m=>events_store Tryz.prog w #[] ad _ m rfl;simp[go_sem,storedEv,hc,e,b,c,es]
  unfold listed;rw[he,seen_eq afK aj]
end
def ma(A:ny):Deferred:={target:=.fn (.func 62) #[.pointer (some ⟨A.Wg,0,none⟩),.pointer (some ⟨A.cb,A.co,none⟩),.pointer (some ⟨A.rb,0,none⟩),.pointer (some ⟨A.o,0,none⟩)],args:=#[]}
def kr(A:ny):Array rl:=#[.pointer (some ⟨A.Wg,0,none⟩),.pointer (some ⟨A.cb,A.co,none⟩),.pointer (some ⟨A.rb,0,none⟩),.pointer (some ⟨A.o,0,none⟩)]++aiD 18 undef
def aar(A:ny)(w:ns):aiO Tryz.prog false (born Tryz.prog (ma A)) w=.go (G (bW.at ⟨kr A,[]⟩ [.code vC]) [bot]) w #[]:=by simp[born,ma,aiO,unwind,callDeferred,invoke,callFunc,func62,Tryz.f62,seen,GStep.after,G,Frame.enter,Frame.at,bW,baseD,bot,vC,kr]
def aas(T:Array rl):QuitsD Tryz.prog 2 0 (G {bW.at ⟨T,[]⟩ [] with mode:=.returning} [bot]):=by
 refine QuitsD.ctl (g':=G bot []) rfl (λw=>?_) ?_
 ·simp[G,aiO,unwind,doReturn,results,Frame.at,bW,baseD,bot,func62,Tryz.f62,seen,GStep.after,goexitEntry]
 refine QuitsD.ctl (g':={G bot [] with status:=.finished}) rfl (λw=>?_) ⟨rfl,rfl⟩;rfl
def agW:∀(i:Nat) o,cY[i]?=some o->∀e∈o.after,ajX .any e=true->e.on<i:=by have h:(aiB cY.size).all (λi=>(cY[i]?).all λo=>o.after.all λe=>!ajX .any e||decide (e.on<i))=true:=ai;exact Mf
def mixed:Tryz.prog.follows .mixedOrders=true:=aC
section
variable(A:ny)(N0:Nat)(Sh:Loc->Prop)(X:Nat->Prop)
def adL(g:so)(w:ns):Prop:=
 g.status=.running/\∃(b:aiH)(B:List aiH),aiO Tryz.prog false g w=.go (G (Frame.enter Tryz.prog 64 #[A.vk,U O (IntKind.i64.wrap (A.W.tdiv 8)),.bool A.I] .normal) (b::B)) w #[]/\
  ∀sx lx cx t w₁,RP N0 X 104 A.Wg A.C A.n 0 A.k w w₁->∃m,ajD Tryz.prog false (RP N0 X 104 A.Wg A.C A.n 0 A.k) (GP N0 Sh X A.C A.n 0 A.k) (AtR0 Tryz.prog 104 A.Wg A.C A.n 0 (0+A.k+1) (.slice sx lx cx)) m (G (b.finish (.tuple #[.slice sx lx cx,.bool t])) B) w₁
structure eM(x:rl)(t:Bool)(called:Bool)(L:Array Bool)(a:Act)(w:ns):Prop where
 ds:a.defers=[dcall 63 #[.pointer (some ⟨A.Wg,0,none⟩)]]
 size:a.tmps.size=22
 s1:a.tmps[1]?=some (.pointer (some ⟨A.cb,A.co,none⟩))
 s2:a.tmps[2]?=some (.pointer (some ⟨A.rb,0,none⟩))
 s3:a.tmps[3]?=some (.pointer (some ⟨A.o,0,none⟩))
 val:∀i,i<18->L.getD i false=true->a.tmps[dW i]?=some (vW A x t i)
 no:called=false->∀i,13<=i->L.getD i false=false
 yes:called=true->L.getD 13 false=true
 pre:L.getD 18 false=false->WK A N0 X w
 post:L.getD 18 false=true->(∀i,i<18->i≠16->L.getD i false=true)/\ajt 104 A.Wg w/\Has A.C A.k x w
end
section
variable{A:ny}{N0:Nat}{Sh:Loc->Prop}{X:Nat->Prop}{x:rl}{t called:Bool}{L:Array Bool}{a:Act}{w w₁:ns}{i:Nat}
def R8{i:Nat}(hi:i<18)(b:j<18)(h:dW i=dW j):i=j:=by have:∀i:Fin 18,∀j:Fin 18,dW i.1=dW j.1->i=j:=aq;exact congrArg Fin.val (this ⟨i,hi⟩ ⟨j,b⟩ h)
def aeS{i:Nat}(hi:i<18):4<=dW i/\dW i<22:=by have:∀i:Fin 18,4<=dW i.1/\dW i.1<22:=aq;exact this ⟨i,hi⟩
def eM.rely(h:eM A N0 X x t called L a w)(r:RP N0 X 104 A.Wg A.C A.n 0 A.k w w₁):eM A N0 X x t called L a w₁:=
 ⟨h.ds,h.size,h.s1,h.s2,h.s3,h.val,h.no,h.yes,λe=>(h.pre e).rely r,λe=>⟨(h.post e).1,r.live (h.post e).2.1,by have:=r.cell;rw[Nat.zero_add] at this;exact this.trans (h.post e).2.2⟩⟩
def ot{L:Array Bool}{i:Nat}(b:L.size=19)(hi:i<19):(L.setIfInBounds i true).getD j false=if j=i then true else L.getD j false:=by
 by_cases e:j=i
 ·simp_all
 ·rw[if_neg e,getD_set_ne false (Ne.symm e)]
def eM.put(h:eM A N0 X x t called L a w)(d:L.size=19)(hi:i<18)(hc:called=false->i<13){o:aku}(hd:o.dst=some (dW i))(l:L.getD 18 false=true->i=16):eM A N0 X x t called (L.setIfInBounds i true) (a.put o.dst (vW A x t i)) w:=by
 have p:=aeS hi;have e:(a.put o.dst (vW A x t i)).tmps=a.tmps.setIfInBounds (dW i) (vW A x t i):=by rw[hd];rfl
 have ne:∀j,j≠dW i->(a.put o.dst (vW A x t i)).tmps[j]?=a.tmps[j]?:=λj c=>by rw[e,ahM (Ne.symm c)]
 have f:(L.setIfInBounds i true).getD 18 false=L.getD 18 false:=by rw[ot d (by omega),if_neg (by omega)]
 refine⟨by rw[hd];exact h.ds,by rw[e];simpa using h.size,(ne 1 aa).trans h.s1,(ne 2 aa).trans h.s2,(ne 3 aa).trans h.s3,λj c g=>?_,λb j c=>?_,λb=>?_,λb=>h.pre (by rw[<-f];exact b),λb=>?_⟩
 ·rw[ot d aa] at g;by_cases k:j=i
  ·subst k;rw[e,aiT (by rw[h.size];omega)]
  ·rw[if_neg k] at g;rw[ne _ λx=>k (R8 c hi x)];exact h.val j c g
 ·have:=hc b;rw[ot d aa,if_neg aa];exact h.no b j c
 ·rw[ot d aa];split
  ·rfl
  ·exact h.yes b
 ·rw[f] at b;obtain⟨h1,m,n⟩:=h.post b;refine⟨λj c q=>?_,m,n⟩;rw[ot d aa];split
  ·rfl
  ·simp_all
def l9(w:ns):GP N0 Sh X A.C A.n 0 A.k w w #[]:=⟨AsideCell.refl _ _ _ w,λe he=>by simp at he⟩
def adM:LetsDraw (GP N0 Sh X A.C A.n 0 A.k):=λw=>⟨⟨rfl,rfl,rfl,rfl,λ_ _=>rfl,id,λ_ _=>rfl⟩,λe he=>by simp at he⟩
def eM.step(h:eM A N0 X x t called L a w)(F:L.size=cY.size)(hr:i∈aiz .any cY L)(T:i≠13)(J:∀c,(c=A.o\/c=A.cb\/c=A.rb\/c=A.sa.block)->∀l,bG c l->¬Sh l)(z:A.k<A.n)(p:A.C≠A.Wg)(V:x=.slice sx lx cx):
  ∃o v w',cY[i]?=some o/\aiu o (yielded cY a.tmps)=true/\((ait a.eval o).run Tryz.prog w=.ok (.value v) w'\/((ait a.eval o).run Tryz.prog w=.ok .skip w'/\v=undef))/\
   GP N0 Sh X A.C A.n 0 A.k w w' (listed Tryz.prog bW.fn a o w)/\eM A N0 X x t called (L.setIfInBounds i true) (a.put o.dst v) w':=by
 rw[pw] at F;obtain⟨B,o',K,_⟩:=mem_ready.1 hr;have hi:i<19:=by have:=(bF.1 K).1;rwa[pw] at this
 have g:∀j,j<18->pY i j=true->a.tmps[dW j]?=some (vW A x t j):=λj m D=>h.val j m (sd hr D)
 have q:L.getD i false=false:=by have f:i<L.size:=aa;simp[aka,f] at B⊢;exact B
 have b:L.getD 18 false=true->i=16:=λe=>by
  rcases de i 18 with f|M
  ·by_cases G:i=16
   ·exact G
   ·have:=(h.post e).1 i f G;rw[this] at q;cases q
  ·have:i=18:=by omega
   subst this;rw[e] at q;cases q
 rcases de i 13 with f|M
 ·have y:=h.pre (by
   cases e:L.getD 18 false with
   |false=>rfl
   |true=>have:=b e;omega)
  obtain⟨o,H,hw,d,hd,r⟩:=aeQ (x:=x) (t:=t) y h.s1 h.s2 h.s3 f λj m D=>g j aa D;refine⟨o,_,w,H,hw,.inl d,⟨AsideCell.refl _ _ _ w,λe he=>?_⟩,h.put F aa (λ_=>f) hd b⟩;obtain⟨W,Z,c,hc,I⟩:=r e he;refine⟨W,.inr ⟨⟨J c hc _ I,c,?_,I⟩,Z⟩⟩;rcases hc with rfl|rfl|rfl|rfl
  ·exact y.Xo
  ·exact y.Xc
  ·exact y.Xr
  ·exact y.Xs
 ·have E:called=true:=by
   cases ec:called with
   |true=>rfl
   |false=>
    exfalso;have N:=h.no ec
    have s:∀j,13<=j->pY i j=true->False:=λj m D=>by have:=sd hr D;rw[N j m] at this;cases this
    rcases(show i=14\/i=15\/i=16\/i=17\/i=18 by omega) with rfl|rfl|rfl|rfl|rfl
    ·exact s 13 aa ai
    ·exact s 14 aa ai
    ·exact s 14 aa ai
    ·exact s 13 aa ai
    ·exact s 13 aa ai
  rcases de i 18 with f|P
  ·have hk:14<=i/\i<18:=by omega
   obtain⟨o,H,hw,d,hd,r⟩:=aeR (i:=i) (w:=w) h.size hk g z;exact⟨o,_,w,H,hw,.inl d,by rw[r];exact l9 w,h.put F aa (λe=>by rw[E] at e;cases e) hd b⟩
  ·have Q:i=18:=by omega
   subst Q;have y:=h.pre q;obtain⟨o,H,hw,d,hd,r⟩:=run_set (g 17 aa ai) (g 15 aa ai) y.pay z V;have R:=W8 (j:=A.k) y.pay x;refine⟨o,undef,_,H,hw,.inr ⟨d,rfl⟩,⟨by rw[Nat.zero_add];exact R,λe he=>?_⟩,?_⟩
   ·rw[r,Array.mem_singleton] at he;subst he;exact⟨rfl,.inl (by rw[Nat.zero_add])⟩
   ·have e:(a.put o.dst undef)=a:=by rw[hd];rfl
    rw[e];have u:∀j,j≠18->(L.setIfInBounds 18 true).getD j false=L.getD j false:=λj m=>by rw[ot F aa,if_neg m]
    have D:∀j,j<18->j≠16->L.getD j false=true:=λj m p=>by have all:(aiB 18).all (λj=>j==16||pY 18 j)=true:=ai;have S:=gY.1 all j (fz.2 m);simp only[Bool.or_eq_true,beq_iff_eq] at S;exact sd hr (S.resolve_left p)
    refine⟨h.ds,h.size,h.s1,h.s2,h.s3,λj m B=>h.val j m (by rw[u j (by omega)] at B;exact B),λe=>(by rw[E] at e;cases e),λ_=>(by rw[u 13 (by omega)];exact h.yes E),λe=>?_,λ_=>⟨λj m p=>(by rw[u j (by omega)];exact D j m p),?_,adK y.pay z x⟩⟩
    ·rw[ot F aa,if_pos rfl] at e;cases e
    ·obtain⟨st,sm,B⟩:=y.live;exact⟨st,sm,B.of_block (R.block _ λe=>p e.symm)⟩
def aeT{x x':rl}{t b:Bool}(h:j<13):vW A x t j=vW A x' b j:=by
 match j,h with
 |0,_|1,_|2,_|3,_|4,_|5,_|6,_|7,_|8,_|9,_|10,_|11,_|12,_=>rfl
def adN:∃b o,TQ=.region 0 b false/\b.size=1/\b[0]?=some o/\o.op=.defer {callee:=.value (.func 63),args:=#[.tmp 0],argTypes:=#[104]}/\o.guard=none/\o.dst=none:=⟨_,_,rfl,rfl,rfl,rfl,rfl,rfl⟩
def Q9:∃o,cY[13]?=some o/\o.op=.call {callee:=.value (.func 64),args:=#[.tmp 12,.tmp 15,.tmp 17],argTypes:=#[52,3,4]}/\o.guard=none/\o.dst=some 18:=⟨_,rfl,rfl,rfl,rfl⟩
def vi:bW.kind≠.early:=baseD_kind _
def Gq:(Tryz.f64.name== "runtime.NumGoroutine")=false:=aC
theorem aat(q:∀c,(c=A.o\/c=A.cb\/c=A.rb\/c=A.sa.block)->∀l,bG c l->¬Sh l)(s:A.k<A.n)(u:A.C≠A.Wg){rest:List Nat}(B:kG .any cY L rest)(h:eM A N0 X (.slice sx lx cx) t true L a w):
  ∃m,ajD Tryz.prog false (RP N0 X 104 A.Wg A.C A.n 0 A.k) (GP N0 Sh X A.C A.n 0 A.k) (AtR0 Tryz.prog 104 A.Wg A.C A.n 0 (0+A.k+1) (.slice sx lx cx)) m (G (bW.at a [.inRegion cY rest]) [bot]) w:=by
 refine⟨_,Er (N:=26) vi (λw=>RP.refl w) (eM A N0 X (.slice sx lx cx) t true) (λi=>i=13) (λL a w w₁ h r=>h.rely r) rfl (λL i rest a w hc h1 p E g=>?_) (λL i a w hc h1 p g=>g.step h1 p hc q s u rfl) (λL a w h1 p g=>?_) rest L a w B h⟩
 ·subst hc;have y:=g.yes rfl;obtain⟨v,_⟩:=mem_ready.1 p;have e:13<L.size:=eO;simp[aka,e] at y v;rw[y] at v;cases v
 ·obtain⟨_,f,hh⟩:=g.post (by have:=p 18 (by rw[pw];omega);have e:18<L.size:=by{rw[h1,pw];omega};simp[aka,e] at this⊢;exact this);refine je rfl λw₁ r=>?_;rw[AT];refine⟨l9 w₁,?_⟩;replace f:=r.live f;replace hh:Has A.C A.k (.slice sx lx cx) w₁:=Cl;refine je rfl λd r=>?_;rw[stepG_end];refine⟨l9 d,?_⟩;replace f:=r.live f;replace hh:Has A.C A.k (.slice sx lx cx) d:=Cl;refine je rfl λb r=>?_;rw[stepG_unwind_enter g.ds func63 (nm_done Tryz.link) rfl];refine⟨l9 b,?_⟩;replace f:=r.live f;replace hh:Has A.C A.k (.slice sx lx cx) b:=Cl;have D:=@Wg.afJ Tryz.link _ A.Wg Tryz.prog Tryz.vu A.C A.n 0 (0+A.k+1) (.slice sx lx cx) {bW.at ⟨a.tmps,[]⟩ [] with mode:=.returning} [bot] 2 (RP N0 X 104 A.Wg A.C A.n 0 A.k) (λw z r=>r.rw) (λw=>RP.refl w) rfl (aas _);have:=D b ⟨f,by rw[show 0+A.k+1-1=A.k by omega];exact hh⟩;exact Wg.pI (λw z es h=>by obtain⟨rfl,rfl⟩:=h;exact l9 z) (λ_ _ x=>x) (λ_ _ x=>x) this
def afL(E:∀c,(c=A.o\/c=A.cb\/c=A.rb\/c=A.sa.block)->∀l,bG c l->¬Sh l)(F:A.k<A.n)(G:A.C≠A.Wg)(q:WK A N0 X w):
  ∃m,ajD Tryz.prog false (RP N0 X 104 A.Wg A.C A.n 0 A.k) (GP N0 Sh X A.C A.n 0 A.k) (adL A N0 Sh X) m (born Tryz.prog (ma A)) w:=by
 refine⟨(cY.size+0+1)+1+4,je rfl λw₁ r=>?_⟩;replace q:=q.rely r;rw[aar,ab6];refine⟨l9 w₁,?_⟩;refine je rfl λH r=>?_;replace q:=q.rely r;rw[stepG_seq];refine⟨l9 H,?_⟩;obtain⟨ops,o,e1,e2,e3,e4,e5,e6⟩:=adN;rw[e1];refine je rfl λJ r=>?_;replace q:=q.rely r;rw[stepG_region,e2];refine⟨l9 J,?_⟩;refine je rfl λK r=>?_;replace q:=q.rely r;clear r;rw[show aiB 1=[0] from rfl,stepG_defer e3 (by simp[aiu,e5]) vi e4];refine⟨l9 K,?_⟩;refine je rfl λM r=>?_;replace q:=q.rely r;clear r;rw[AT];refine⟨l9 M,?_⟩;have Q:(Act.put ⟨(⟨kr A,[]⟩:Act).tmps,dcall 63 ((#[.tmp 0]:Array ajd).map (⟨kr A,[]⟩:Act).eval)::(⟨kr A,[]⟩:Act).defers⟩ o.dst undef)=⟨kr A,[dcall 63 #[.pointer (some ⟨A.Wg,0,none⟩)]]⟩:=by rw[e6];simp[Act.put,Act.eval,kr]
 rw[Q];refine OX vi adM agW mixed λg r rest hlen ht=>?_;replace q:=(q.rely r).rely (⟨λ_ _=>rfl,id,id,rfl⟩:RP N0 X 104 A.Wg A.C A.n 0 A.k g {g with drawn:=g.drawn+1});clear r
 have h0:∀i d,(aiD cY.size false).getD i d=true->cY.size<=i:=λi d h=>by
  rcases de i cY.size with p|y
  ·simp[aka,p] at h
  ·exact y
 have R:∀i,(aiD cY.size false).getD i false=false:=λi=>by
  rcases de i cY.size with p|y
  ·simp[aka,p]
  ·simp[aka,Nat.not_lt.2 y]
 have v:eM A N0 X (.slice none 0 0) false false (aiD cY.size false) ⟨kr A,[dcall 63 #[.pointer (some ⟨A.Wg,0,none⟩)]]⟩ {g with drawn:=g.drawn+1}:=
  ⟨rfl,by simp[kr],by simp[kr],by simp[kr],by simp[kr],λi hi h=>(by rw[R i] at h;cases h),λ_ i _=>R i,λe=>bw,λ_=>q,λe=>(by rw[R 18] at e;cases e)⟩
 refine Goes.mono (Er (N:=0) vi (λw=>RP.refl w) (eM A N0 X (.slice none 0 0) false false) (λi=>i=13) (λL a w w₁ h r=>h.rely r) rfl (λL i rest a w hc h1 z h3 v=>?_) (λL i a w hc h1 z v=>v.step h1 z hc E F G rfl) (λL a w h1 z v=>?_) rest _ _ _ ht v) aa
 ·
  subst hc;refine⟨rfl,bW.at a [.inRegion cY (13::rest)],[bot],?_,λsx lx cx t w₁ r=>?_⟩
  ·obtain⟨o,S,B,hg,hd⟩:=Q9;have v0:=v.val 7 aa (sd z ai);have v1:=v.val 10 aa (sd z ai);have v2:=v.val 12 aa (sd z ai);have:=stepG_enter (P:=Tryz.prog) (main:=false) (k:=[]) (cs:=[bot]) (b:=bW) (rest:=rest) S (a:=a) xY vi (run_call_body (P:=Tryz.prog) (w:=w) B func64 Gq aD);have el:listed Tryz.prog bW.fn a o w=#[]:=by unfold listed;rw[events_call_body B func64 Gq (by rfl)];exact seen_none _ _
   rw[el] at this
   have ea:(#[.tmp 12,.tmp 15,.tmp 17]:Array ajd).map a.eval=#[A.vk,U O (IntKind.i64.wrap (A.W.tdiv 8)),.bool A.I]:=by have q0:=lD v0;have q1:=lD v1;have q2:=lD v2;simp only[dW,vW] at q0 q1 q2;simp[q0,q1,q2]
   rw[ea] at this;exact this
  ·rw[Frame.finish_at];obtain⟨o,S,B,hg,hd⟩:=Q9;have ed:(cY[13]?).bind (·.dst)=some 18:=by rw[S];exact hd
   rw[ed];rw[pw] at h1;refine aat (t:=t) E F G h3 ?_;have f:=v.rely r;have T:=f.no rfl;have s:∀j,(L.setIfInBounds 13 true).getD j false=if j=13 then true else L.getD j false:=λj=>ot h1 aa
   refine⟨f.ds,by simpa[Act.put] using f.size,?_,?_,?_,λj hj u=>?_,λe=>bw,λ_=>(by rw[s];rfl),λ_=>f.pre (T 18 aa),λe=>?_⟩
   ·show(a.tmps.setIfInBounds 18 _)[1]?=_;rw[ahM aa];exact f.s1
   ·show(a.tmps.setIfInBounds 18 _)[2]?=_;rw[ahM aa];exact f.s2
   ·show(a.tmps.setIfInBounds 18 _)[3]?=_;rw[ahM aa];exact f.s3
   ·rw[s] at u;show(a.tmps.setIfInBounds 18 _)[dW j]?=_;by_cases V:j=13
    ·subst V;show(a.tmps.setIfInBounds 18 _)[18]?=_;rw[aiT (by rw[f.size];omega)];rfl
    ·rw[if_neg V] at u
     have p:j<13:=by
      rcases de j 13 with h|h
      ·exact h
      ·rw[T j h] at u;cases u
     have D:(18:Nat)≠dW j:=λx=>V (R8 hj (show 13<18 by omega) x.symm);rw[ahM D];rw[f.val j hj u];congr 1;exact aeT p
   ·rw[s,if_neg aa,T 18 aa] at e;cases e
 ·
  have:=z 13 (by rw[pw];omega);have Z:=v.no rfl 13 aa;have p:13<L.size:=by rw[h1,pw];omega
  simp[aka,p] at this Z;rw[this] at Z;cases Z
end
end
end Go.Proofs.Q0.Open
namespace Go.Proofs.Q0.aI
section
open Go.Conc
open Go.ConcN (WgLive PayAt)
open Go.ConcR (KK WgAt stA smA rd wr mk Payload)
open Wg (RM DM lT nG IW sL)
def OY(M:Nat->Prop)(w:ns):grow M w w=M:=by funext c;exact propext ⟨λh=>h.elim id λ⟨a,b⟩=>absurd b (ph.2 a),.inl⟩
section
variable{P2:Kx}[Payload]{N1:Nat}{ty:TypeId}{Wg C n:Nat}{Child:Nat->(Nat->Prop)->so->ns->Prop}{Fin:Nat->(Nat->Prop)->so->ns->Prop}
 {j d:Nat}{p:Bool}{M F:Nat->Prop}{g:so}{w w₁:ns}
theorem a8.G4(hr:g.status=.running)(h:∀w₁,RS N1 M ty Wg C n w w₁->∃g' w' es,aiO P2 true g w₁=.go g' w' es/\G1 M F C Wg w₁ w' es/\a8 P2 N1 ty Wg C n Child Fin j p d (grow M w₁ w') (grow F w₁ w') g' w'):a8 P2 N1 ty Wg C n Child Fin j p d M F g w:=
 .own hr (λw₁ r=>let⟨g',w',es,h1,c,_⟩:=h w₁ r;⟨g',w',es,h1,c⟩) λw₁ g' w' es r e=>by grind
def a8.still(hr:g.status=.running)(h:∀w₁,RS N1 M ty Wg C n w w₁->∃g' es,aiO P2 true g w₁=.go g' w₁ es/\(∀e∈es,e.sync=false/\e.write=false/\∃c,bG c e.loc/\M c/\c≠C/\c≠Wg)/\a8 P2 N1 ty Wg C n Child Fin j p d M F g' w₁):a8 P2 N1 ty Wg C n Child Fin j p d M F g w:=
 .G4 hr λw₁ r=>by obtain⟨g',es,h1,f,l⟩:=h w₁ r;refine⟨g',w₁,es,h1,⟨au _,λ_ _ _=>rfl,.refl _,λe he=>?_⟩,by rw[OY,OY];exact l⟩;obtain⟨m,q,c,s,t⟩:=f e he;exact⟨m,c,s,.inr ⟨q,t⟩⟩
def a8.calm(hr:g.status=.running){g':so}(c:∀w,aiO P2 true g w=.go g' w #[])(h:∀w₁,RS N1 M ty Wg C n w w₁->a8 P2 N1 ty Wg C n Child Fin j p d M F g' w₁):a8 P2 N1 ty Wg C n Child Fin j p d M F g w:=
 .still hr λw₁ r=>⟨g',#[],c w₁,aj,h w₁ r⟩
def a8.rely(h:a8 P2 N1 ty Wg C n Child Fin j p d M F g w)(r:RS N1 M ty Wg C n w w₁):a8 P2 N1 ty Wg C n Child Fin j p d M F g w₁:=by
 have e:∀{c:ns},RS N1 M ty Wg C n w₁ c->RS N1 M ty Wg C n w c:=λk=>r.trans k;cases h with
 |fin h=>exact .fin λc k=>h c (e k)
 |own h1 f l=>exact .own h1 (λc k=>f c (e k)) λc g' w' es k=>l c g' w' es (e k)
 |fu h1 f l=>exact .fu h1 (λc k=>f c (e k)) λc g' w' es k=>l c g' w' es (e k)
 |kd h1 f l=>exact .kd h1 (λc k=>f c (e k)) λc g' w' es k=>l c g' w' es (e k)
 |ke h1 f l=>exact .ke h1 (λc k=>f c (e k)) λc g' w' es k=>l c g' w' es (e k)
 |add h1 f l=>exact .add h1 (λc k=>f c (e k)) λc g' w' es v k=>l c g' w' es v (e k)
 |go h0 h1 f l=>exact .go h0 h1 (λc k=>f c (e k)) λc g' ch w' es k=>l c g' ch w' es (e k)
section
variable{b:aiH}{a:Act}{k:List Item}{cs:List aiH}{ops:Array aku}{i:Nat}{rest:List Nat}{o:aku}{v:rl}
def a8.op(e:b.kind≠.early)(f:ops[i]?=some o)(hg:o.guard=none)(c:∀w,(ait a.eval o).run P2 w=.ok (.value v) w)(g:∀w,(ait a.eval o).events P2 w #[]=#[])
  (h:∀w₁,RS N1 M ty Wg C n w w₁->a8 P2 N1 ty Wg C n Child Fin j p d M F (G (b.at (a.put o.dst v) (.inRegion ops rest::k)) cs) w₁):a8 P2 N1 ty Wg C n Child Fin j p d M F (G (b.at a (.inRegion ops (i::rest)::k)) cs) w:=
 .calm rfl (λw=>by rw[stepG_value f xY e (c w),listed_nil (g w)]) h
def a8.region(h:∀w₁,RS N1 M ty Wg C n w w₁->a8 P2 N1 ty Wg C n Child Fin j p d M F (G (b.at a (.inRegion ops (aiB ops.size)::k)) cs) w₁){id:Nat}:a8 P2 N1 ty Wg C n Child Fin j p d M F (G (b.at a (.code (.region id ops false)::k)) cs) w:=.calm rfl (λ_=>stepG_region) h
def a8.seq{x y:ajP}(h:∀w₁,RS N1 M ty Wg C n w w₁->a8 P2 N1 ty Wg C n Child Fin j p d M F (G (b.at a (.code x::.code y::k)) cs) w₁):a8 P2 N1 ty Wg C n Child Fin j p d M F (G (b.at a (.code (.seq x y)::k)) cs) w:=.calm rfl (λ_=>stepG_seq) h
def a8.cond{x y:ajP}{c:ajd}{t:Bool}(hc:a.eval c=.bool t)(h:∀w₁,RS N1 M ty Wg C n w w₁->a8 P2 N1 ty Wg C n Child Fin j p d M F (G (b.at a (.code (if t then x else y)::k)) cs) w₁):a8 P2 N1 ty Wg C n Child Fin j p d M F (G (b.at a (.code (.cond c x y)::k)) cs) w:=.calm rfl (λ_=>stepG_cond hc) h
def a8.call{f:FuncId}{fn:Func}{c:ajP}{args:Array ajd}{m:Array TypeId}(q:b.kind≠.early)(s:ops[i]?=some o)(hg:o.guard=none)(g:o.op=.call {callee:=.value (.func f),args,argTypes:=m})
  (r:P2.funcs[f]?=some fn)(e:(fn.name== "runtime.NumGoroutine")=false)(t:fn.body=some c)
  (h:∀w₁,RS N1 M ty Wg C n w w₁->a8 P2 N1 ty Wg C n Child Fin j p d M F (G ((base f).at {tmps:=args.map a.eval++aiD (fn.ntmps-(args.map a.eval).size) undef,defers:=[]} [.code c]) (b.at a (.inRegion ops (i::rest)::k)::cs)) w₁):a8 P2 N1 ty Wg C n Child Fin j p d M F (G (b.at a (.inRegion ops (i::rest)::k)) cs) w:=
 .calm rfl (λw=>by
  have l:fn.body.isNone=false:=eg;rw[stepG_enter s xY q (run_call_body g r e l),enter_at _ r t];have:listed P2 b.fn a o w=#[]:=by unfold listed;rw[events_call_body g r e l];exact seen_none P2 _
  rw[this]) h
def a8.add1{c:aiH}{m:Nat}(hcr:(G c cs).status=.running)(hg:ajD P2 true (RM ty Wg) (DM Wg) (lT P2 ty Wg (IW P2 ty Wg (nG P2 ty Wg (sL c cs)))) m g w)(T:ajt ty Wg w)(V:C≠Wg)(hN:N1<=Wg)
  (h:∀w₁,ajt ty Wg w₁->RS N1 M ty Wg C n w w₁->a8 P2 N1 ty Wg C n Child Fin j true 0 M F (G c cs) w₁):a8 P2 N1 ty Wg C n Child Fin j false 0 M F g w:=by
 have H:∀(w₁:ns)(x:Int),ajt ty Wg (w₁.setCell (stA Wg) (.int .u64 x))->RS N1 M ty Wg C n w₁ (w₁.setCell (stA Wg) (.int .u64 x)):=λw₁ x T=>by
  have hA:=akp w₁ (stA Wg) (.int .u64 x);have hb:∀c,c≠Wg->(w₁.setCell (stA Wg) (.int .u64 x)).heap[c]?=w₁.heap[c]?:=λc hc=>hA.block c hc;refine⟨mJ hA.size.symm,λc hc=>hb c ?_,λ_=>T,λ⟨arr,h1,A⟩=>⟨arr,(hb C V).trans h1,A⟩⟩;rcases hc with hc|⟨_,_,hc⟩
  ·omega
  ·exact hc
 refine a8.Ac m g w hg T λg u I d B=>.kd (d u (.refl u)).1 (λw₁ r=>?_) (λw₁ g' w' es r J=>?_)
 ·obtain⟨_,g',h1,_⟩:=d w₁ r;exact⟨g',h1⟩
 obtain⟨_,g2,h1,K,A⟩:=d w₁ r;rw[J] at h1;cases h1;refine a8.Ac K g' w₁ A (r.live B) λg y L d W=>.add (d y (.refl y)).1 (λf p v X hw=>?_) (λf g' w' es v p X hw J=>?_)
 ·obtain⟨_,s⟩:=d f p;obtain⟨g',h1,_⟩:=s v X hw;exact⟨g',h1⟩
 obtain⟨_,s⟩:=d f p;obtain⟨g2,h1,N,A⟩:=s v X hw;rw[J] at h1;cases h1;have P:ajt ty Wg (f.setCell (stA Wg) (.int .u64 ((v+1)*KK))):=⟨_,_,hw.setSt _⟩;have Z:=H f _ P;refine a8.Ac N g' _ A P λg z Q d D=>.ke (d z (.refl z)).1 (λq l=>?_) (λq g' w' es l J=>?_)
 ·obtain⟨_,g',h1,_⟩:=d q l;exact⟨g',h1⟩
 obtain⟨_,g2,h1,R,A⟩:=d q l;rw[J] at h1;cases h1;refine a8.Ac R g' q A (l.live D) λg t S d E=>?_;have e:=d t (.refl t);subst e;exact h t E (I.trans (r.trans (L.trans (p.trans (Z.trans (Q.trans (l.trans S)))))))
end
end
end
end Go.Proofs.Q0.aI
namespace Go.Proofs.Q0.Open
variable{v:rl}{d:Nat}
section
open Go.Conc Go.ConcN Go.RowKit Go.Conc.Lib Go.ConcR.Gen Go.ConcN.Gen aI
open Go.ConcR (KK wgBlock WgAt stA smA rd wr mk Payload Aside2 DC0 ofEvent_cell)
def ab7:hZ=.seq (.region 3 eT true) (.seq (.region 4 GM false) (.seq sN (.seq (.region 11 gq false) du))):=aC
def ab8:sN=.seq (.region 5 GN false) (.block 0 (.loop jh)):=aC
def Es:jh=.seq (.region 6 AH false) (.seq (.cond (.tmp 23) .skip (.exit 0)) (.seq (.block 1 (.seq (.region 7 sR false) (.seq (.region 8 qe false) (.region 9 ow false)))) (.region 10 pQ false))):=aC
structure Main where
 o:Nat
 cb:Nat
 co:Nat
 Wg:Nat
 C:Nat
 n:Nat
 W:Int
 I:Bool
 sa:aiI
 sn:Nat
 sc:Nat
 jA:Nat->rl
 oO:Obj
def Main.kH(A:Main)(i b:Nat):ny:=⟨A.o,A.cb,A.co,b,A.Wg,A.C,A.n,i,A.W,A.I,A.sa,A.sn,A.sc,A.jA i⟩
structure MK(A:Main)(N0:Nat)(M:Nat->Prop)(w:ns):Prop where
 lt:∀c,M c->c<w.heap.size
 oF:w.heap[A.o]?=some A.oO
 o:w.cell? ⟨A.o,5,none⟩=some (.slice (some ⟨A.C,0,none⟩) A.n A.n)
 s:w.cell? ⟨A.cb,A.co+4,none⟩=some (.slice (some A.sa) A.sn A.sc)
 W:w.cell? ⟨A.cb,A.co,none⟩=some (U O A.W)
 I:w.cell? ⟨A.cb,A.co+2,none⟩=some (.bool A.I)
 vk:∀i,i<A.n->w.cell? (A.sa.add i)=some (A.jA i)
 live:ajt 104 A.Wg w
 pay:PayAt A.C A.n w
structure MS(A:Main)(N0:Nat):Prop where
 cb:A.cb<N0
 sa:A.sa.block<N0
 hs:A.n<=A.sn
 hn:A.n<2147483647
 oC:A.o≠A.C
 oW:A.o≠A.Wg
 CW:A.C≠A.Wg
structure MI(A:Main)(N0:Nat)(M:Nat->Prop):Prop where
 o:M A.o
 C:M A.C
 Wg:M A.Wg
 ge:∀c,M c->N0<=c
def kept(d:Nat):Bool:=decide (d<4)||(decide (6<d)&&decide (d<13))||decide (28<d)
def Sz(Z a:Act):Prop:=a.tmps.size=Z.tmps.size/\41<=Z.tmps.size
def Sz.lt{Z a:Act}(h:Sz Z a){d:Nat}(hd:d<41):d<a.tmps.size:=by have:=h.1;have:=h.2;omega
def Sz.put{Z a:Act}(h:Sz Z a){d:Option Nat}:Sz Z (a.put d v):=by cases d with|none=>exact h|some d=>exact⟨by show(a.tmps.setIfInBounds d v).size=_;simpa using h.1,h.2⟩
structure SF(Z:Act)(F:List (Nat×rl))(a:Act):Prop where
 z:Sz Z a
 d:a.defers=Z.defers
 k:∀e,kept e=true->a.tmps[e]?=Z.tmps[e]?
 f:∀e v,F.lookup e=some v->a.tmps[e]?=some v
def xd(A:Main)(i:Nat):List (Nat×rl):=[(1,.pointer (some ⟨A.cb,A.co,none⟩)),(4,.pointer (some ⟨A.o,0,none⟩)),(5,.pointer (some ⟨A.Wg,0,none⟩)),(21,U O A.n),(22,U O i)]
section
variable{A:Main}{N0 i:Nat}{M:Nat->Prop}{w w₁:ns}{a:Act}
def MK.rely(h:MK A N0 M w)(S:MS A N0)(I:MI A N0 M)(r:RS N0 M 104 A.Wg A.C A.n w w₁):MK A N0 M w₁:=by
 have cell:∀{b o:Nat}{sp:Option Nat},(b<N0\/(M b/\b≠A.C/\b≠A.Wg))->w₁.cell? ⟨b,o,sp⟩=w.cell? ⟨b,o,sp⟩:=λ{b o sp} e=>by simp only[aiW,r.cM b e]
 refine⟨λc hc=>cG (h.lt c hc) r.size,(r.cM _ (.inr ⟨I.o,S.oC,S.oW⟩)).trans h.oF,(cell (.inr ⟨I.o,S.oC,S.oW⟩)).trans h.o,(cell (.inl S.cb)).trans h.s,(cell (.inl S.cb)).trans h.W,(cell (.inl S.cb)).trans h.I,λi hi=>?_,r.live h.live,r.pay h.pay⟩;rw[<-h.vk i hi];simp only[aiW];rw[rO,r.cM _ (.inl S.sa)]
def vh(h:d<a.tmps.size):(a.put (some d) v).tmps[d]?=some v:=by show(a.tmps.setIfInBounds d v)[d]?=_;rw[aiT h]
def m7{e:Nat}(h:e≠d):(a.put (some d) v).tmps[e]?=a.tmps[e]?:=by show(a.tmps.setIfInBounds d v)[e]?=_;rw[ahM (Ne.symm h)]
section
variable{Z:Act}{F:List (Nat×rl)}{i:Nat}
def SF.put(h:SF Z F a)(hd:(!kept d&&decide (d<41))=true):SF Z ((d,v)::F) (a.put (some d) v):=by
 simp only[Bool.and_eq_true,Bool.not_eq_true',decide_eq_true_eq] at hd;refine⟨h.z.put,h.d,λe he=>(m7 λx=>?_).trans (h.k e he),λe u hu=>?_⟩
 ·simp_all
 ·exact Lc
def SF.sub(h:SF Z F a)(b:List (Nat×rl))(hF:∀p∈b,F.lookup p.1=some p.2:=by repeat(first|exact List.forall_mem_nil _|refine List.forall_mem_cons.2 ⟨rfl,?_⟩)):SF Z b a:=
 {h with f:=λe v c=>h.f e v (by
  induction b with
  |nil=>cases c
  |cons p b g=>
   rw[List.lookup_cons] at c;split at c
   ·simp_all
   ·exact g (λq hq=>hF q (.tail _ hq)) c)}
def SF.add{e:Nat}{v:rl}(h:SF Z F a)(b:a.tmps[e]?=some v):SF Z ((e,v)::F) a:=
 {h with f:=λc u hu=>(by
   rw[List.lookup_cons] at hu;split at hu
   ·simp_all
   ·exact h.f _ _ hu)}
def SF.tm(h:SF Z F a)(hi:(F.lookup i).isSome=true):a.tmps[i]?=F.lookup i:=by obtain⟨v,b⟩:=pe.1 hi;rw[h.f _ _ b,b]
def SF.ev(h:SF Z F a)(hi:(F.lookup i).isSome=true):a.eval (.tmp i)=(F.lookup i).getD undef:=by exact Ld
end
end
end
end Go.Proofs.Q0.Open
