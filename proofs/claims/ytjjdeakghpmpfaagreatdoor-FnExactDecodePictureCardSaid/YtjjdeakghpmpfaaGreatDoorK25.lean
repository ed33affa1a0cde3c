import Derived.Test.YtjjdeakghpmpfaaGreatDoorK24
set_option maxRecDepth 100000
set_option maxHeartbeats 8000000
set_option linter.all false
open Go.Value renaming int->U,slice->Y,bool->a9,agg->a5,pointer->ci,tuple->dl,iface->em
open Go.IntKind renaming i64->O
open Go.Obj renaming cells->ac
open Go.Ending renaming returned->be
open And renaming intro->TO
open Array renaming getElem?_eq_getElem->aiN,getElem?_setIfInBounds_ne->ahM,getElem?_setIfInBounds_self_of_lt->aiT,replicate_succ->akH,replicate_zero->akI
open Go renaming Addr->aiI,Calls->UL,Goroutine->so,Value->rl,World->ns,bodyPost_ret->aiA,execOp->ait
open Go.Conc renaming stepG_region_end->AT
open Go.Instr renaming field->ajR,loadAt->ajF
open Go.IntKind renaming i64->AS
open Go.World renaming cell?->aiW,size_alloc->BE
open List renaming append_toArray->akZ,cons_append->ajn,getElem?_eq_getElem->aiX,length_cons->aiS,length_nil->akc,lookup->ajz,nil_append->ajM,replicate->an,replicate_succ->akl
open Nat renaming reduceAdd->ajp,sub_self->ajN
namespace Go.Proofs
def Lj{p:Prop}(h:p:=by
  congr 1;apply Array.ext
  ·simp[h2]
  ·intro j h3 h4
   match j with
   |0=>rfl
   |1=>rfl
   |j+2=>omega):p:=h
def iq{p:Prop}(h:p:=by simp[Value.oneCell']):p:=h
def Cz{p:Prop}(h:p:=by simp[results,Tryz.results40,go_sem,afP,bz]):p:=h
abbrev yJ:=@Go.World.block_lt_of_cell?
end Go.Proofs
namespace Go.Proofs.Q0.Open
open Go.Proofs.Tryz
variable{wc:ns}
section
open Go.Conc Go.RowKit aI
variable[aE]
section
variable{Q:so->Array Obj->Prop}{b:Frame}{Z a:Act}{k:List Item}{cs:List Frame}{wg:ns}{B:cV}{x0:so×ns}
def aaB{t:TypeId}(c:∀w,(isAgg t).run Gz.prog w=.ok false w){w:ns}{p:aiI}{x:rl}(h:w.cell? p=some x):(ajF t (.pointer (some p))).run Gz.prog w=.ok x w:=by
 have e:(ajF t (.pointer (some p))).run Gz.prog w=(load p).run Gz.prog w:=by show(isAgg t>>=λq=>if q=true then _ else load p).run Gz.prog w=_;rw[Sem.run_bind,c];rfl
 rw[e];simp[h]
def acg:∃o,wh[2]?=some o/\o.op=.call {callee:=.value (.func 64),args:=#[.tmp 27,.tmp 21,.tmp 24],argTypes:=#[52,3,4]}/\o.guard=none/\o.dst=some 28:=⟨_,rfl,rfl,rfl,rfl⟩
structure LR(K:aF)(i7:Ren)(N0 nc:Nat)(tI:Nat->Ren)(vm:Nat->rl)(hM:Array Obj)(i:Nat)(u:Nat->rl)(ψ:Ren)(h:Array Obj):Prop where
 rel:HR K ψ h hM
 le:Ren.le i7 ψ
 j6:∀b c,ψ b=some c->i7 b=some c\/(N0+2<=b/\∃k a,k<i/\nc<=a/\tI k a=some c)
 val:∀k,k<i->VR ψ (u k) (Gs (vm k))
structure Sd(J:ag)(Kc:aF)(i7:Ren)(B:cV)(vg:Nat->rl)(wc:ns)(tI:Nat->Ren)(y:Nat->so×ns)(v vm:Nat->rl)(hM:Array Obj)(n1:Nat):Prop where
 Vm:∀k,k<B.sn->Vj J Gz.prog Kc i7 (tI k) 64 #[vg k,U O (AS.wrap (B.W.tdiv 8)),.bool B.I] wc (y k) (v k) (vm k) hM n1
 apart:∀k k',k<B.sn->k'<B.sn->k≠k'->∀a a' c,wc.heap.size<=a->wc.heap.size<=a'->tI k a=some c->tI k' a'≠some c
 lt:∀b c,i7 b=some c->c<n1
 own:∀k,k<B.sn->∀a c,wc.heap.size<=a->tI k a=some c->n1<=c
 shape:∀k,k<B.sn->∃s l c t,vm k=.tuple #[.slice s l c,.bool t]
def afQ{J:ag}(hJI:ag.Le J aE.toag){K Kc:aF}(hB:@cJ (ag.exact J Gz.prog.funcs) Gz.prog)(hC:@dc (ag.exact J Gz.prog.funcs) Gz.prog)(rt:@bZ (ag.exact J Gz.prog.funcs) Gz.prog)(hG:Kc.G=Gz.prog.globals.size)(hF:@dn (ag.exact J Gz.prog.funcs) Gz.prog Kc)
  {i7:Ren}{vg:Nat->rl}{M:Nat->Ren}{y:Nat->so×ns}{v vm:Nat->rl}{hM:Array Obj}{n1:Nat}(hR:Sd J Kc i7 B vg wc M y v vm hM n1)(I5:wc.heap.size=wg.heap.size)
  (U4:Kc.G=K.G)(hGn:K.G<=wc.heap.size)(hf:J.ok 64)(V:∀k,k<B.sn->@ax (ag.exact J Gz.prog.funcs) (Ren.fE i7) #[vg k,U O (AS.wrap (B.W.tdiv 8)),.bool B.I] #[vg k,U O (AS.wrap (B.W.tdiv 8)),.bool B.I])
  (X:∀h:Array Obj,wg.heap.size<=h.size->(∀b,b<wg.heap.size->h[b]?=wg.heap[b]?)->@HR (ag.exact J Gz.prog.funcs) Kc (Ren.fE i7) wc.heap h)(hv:@ep (ag.exact J Gz.prog.funcs) (Ren.fE i7))(g0:∀b,wc.heap.size<=b->¬J.cl b)(E':0<cs.length)
  (m:b.kind≠.early)(qK:B.sn<=4)(TZ:∀i,i<B.sn->wg.cell? (B.sa.add i)=some (vg i)):
  ∀r i,i+r=B.sn->∀a C ψ u,At Q b cs x0 Z (lg B wg.heap.size i) (.code gD::.inLoop gD::.inBlock 51::.code du::k) a C->LM wg.heap B u i C.heap->LR K i7 wg.heap.size wc.heap.size M vm hM i u ψ C.heap->
   ∃a' w' q u',At Q b cs x0 Z (lg B wg.heap.size B.sn) (.code du::k) a' w'/\fp Gz.prog (G (b.at a' (.code du::k)) cs,w') x0/\LM wg.heap B u' B.sn w'.heap/\LR K i7 wg.heap.size wc.heap.size M vm hM B.sn u' q w'.heap:=by
 intro r
 induction r with
 |zero=>intro i hi a C ψ u h f x;obtain rfl:i=B.sn:=aa;obtain⟨a,h⟩:=((h.to stepG_seq).rg [0]).j7 (.bool false) C m (hr:=by simp only[ait,aP];simp[go_sem,ei,h.tm,ajz,lg]);replace h:=(h.to AT).oU false;have⟨n,w⟩:=h.w.to (px λ_ e=>by cases e) (stepG_exit rfl);exact⟨a,C,ψ,u,(h.to (stepG_exit rfl)).sub _,h.n.bj n,f,x⟩
 |succ r ih=>
  intro i hi a C ψ u h f x;have g:i<B.sn:=aa;have D:(i:Int)<(B.sn:Int):=aa;obtain⟨a,h⟩:=((h.to stepG_seq).rg [0]).j7 (.bool true) C m (hr:=by simp only[ait,aP];simp[go_sem,ei,h.tm,ajz,lg,g,D]);obtain⟨a,h⟩:=((((h.to AT).oU true).to stepG_skip).rg [0,1,2,3,4,5,6,7]).j7 (.pointer (some (B.sa.add i))) C m (hr:=by simp only[ait,aP];simp[go_sem,h.tm,ajz,lg,g,D])
  have Nm:C.cell? (B.sa.add i)=some (vg i):=by
   have h0:=TZ i g
   have aT:(B.sa.add i).block<wg.heap.size:=by
    rcases de (B.sa.add i).block wg.heap.size with h|h
    ·exact h
    ·simp[aiW,Array.getElem?_eq_none h] at h0
   rw[<-h0];simp only[aiW,f.old _ aT]
  obtain⟨a,h⟩:=h.j7 (vg i) C m (hr:=by simp only[ait,aP];rw[h.ev (i:=26) rfl];show(ajF 52 (.pointer (some (B.sa.add i)))>>=λv=>pure (Next.value v)).run Gz.prog _=_;rw[Sem.run_bind,aaB (λw=>(Gz.Rt _ _).trans (isAgg52 w)) Nm];rfl);obtain⟨o,ho,mp,xe,hd⟩:=acg;obtain⟨hn,hW⟩:=h.w.to (px λ_ e=>by cases e) (stepG_enter ho Cn m (run_call_body mp (Gz.l8 func64 aq) Gq aD));have ea:(#[.tmp 27,.tmp 21,.tmp 24]:Array Operand).map a.eval=#[vg i,U O (AS.wrap (B.W.tdiv 8)),.bool B.I]:=by simp;exact⟨h.ev rfl,h.ev rfl,h.ev rfl⟩
  rw[ea] at hW hn
  obtain⟨q,vx,N,hx,S,afR,E,Tv,p,afS⟩:=Yo (b0:=b.at a (.inRegion wh (2::[3,4,5,6,7])::.inLoop gD::.inBlock 51::.code du::k)) (B0:=cs) hJI hB hC rt hG hF (hR.Vm i g) U4 hGn hf (V i g) (X _ (by have:=f.size;omega) f.old) hv
   x.rel x.le (by rw[I5];have:=f.size;omega) (λb d hbd a ha oX=>by
    rcases x.j6 b d hbd with h|⟨_,F,a',Vn,V',h⟩
    ·have h1:=hR.lt _ _ h;have h2:=hR.own i g a d ha oX;omega
    ·exact hR.apart F i aa g aa a' a d V' ha h oX) g0 E'
  replace hW:=hW.S3 hx;have hN:fq _ _ _:=.inr (fp.trans hx (h.n.bj hn));rw[Frame.finish_at,ho,show(some o).bind (·.dst)=some 28 from hd] at hW hN;obtain⟨s,l,c,t,Vo⟩:=hR.shape i g
  obtain⟨us,IJ,P⟩:∃us,vx=.tuple #[us,.bool t]/\@VR aE.toag q us (.slice s l c):=by
   rw[Vo] at E;cases E with
   |@tuple xs _ hs hx=>
    have h2:xs.size=2:=hs;have e0:=hx 0 xs[0] (.slice s l c) (eE aa) rfl;have e1:=hx 1 xs[1] (.bool t) (eE aa) rfl;refine⟨xs[0],?_,e0⟩
    have e2:xs[1]=.bool t:=by generalize xs[1]=z at e1;cases e1 with|bool=>rfl|aX _ h=>exact absurd rfl (h.2.2 _)
    rw[<-e2];exact Lj
   |aX _ h=>exact absurd rfl (h.2.1 _)
  subst IJ;obtain⟨a,h⟩:=h.put (d:=28) aq hW hN;obtain⟨a,h⟩:=h.j7 us N m (hr:=by simp only[ait,aP];simp[go_sem,h.tm,ajz]);obtain⟨a,h⟩:=h.j7 (.pointer (some ⟨wg.heap.size,i,none⟩)) N m (hr:=by simp only[ait,aP];simp[go_sem,h.tm,ajz,lg,g,D]);obtain⟨vs,IX,afT,H⟩:=f.row;have I6:N.heap[wg.heap.size]?=some (.cells vs 53):=(p _ (by have:=f.size;omega)).trans afT
  have I7:N.cell? ⟨wg.heap.size,i,none⟩=some (.slice none 0 0):=by simp only[aiW,I6];have:=H i g;rw[if_neg aa] at this;exact this
  have N':N.frozen? ⟨wg.heap.size,i,none⟩=false:=by simp[World.frozen?,I6]
  obtain⟨R,Vp⟩:∃R,R=N.setCell ⟨wg.heap.size,i,none⟩ us:=⟨_,rfl⟩;have A:R.heap=N.heap.setIfInBounds wg.heap.size (.cells (vs.setIfInBounds i us) 53):=by rw[Vp];exact nQ I6 rfl
  have ahH:(∀xs,us≠.agg xs)/\∀xs,us≠.tuple xs:=⟨λxs e=>(by subst e;cases P),λxs e=>(by subst e;cases P)⟩
  replace h:=h.nil R m (hr:=by rw[Vp];simp only[ait,aP];cases P<;>first|(simp[go_sem,stored,I7,N',h.tm,ajz];done)|(simp[go_sem,stored,I7,N',h.tm,ajz];simp[store,Sem.run,I7,N']))
  have hw:AS.wrap ((i:Int)+1)=(i:Int)+1:=xZ;obtain⟨a,h⟩:=h.j7 (U O ((i:Int)+1)) R m (hr:=by simp only[ait,aP];simp[go_sem,ei,h.tm,ajz,lg,hw]);obtain⟨a,h⟩:=h.j7 (U O ((i:Int)+1)) R m (hr:=by simp only[ait,aP];simp[go_sem,h.tm,ajz]);have agB:R.heap.size=N.heap.size:=by rw[A];simp
  have L:∀c,c≠wg.heap.size->R.heap[c]?=N.heap[c]?:=λc hc=>by rw[A,ahM (Ne.symm hc)]
  have wt:=f.size
  have T:∀b c,q b=some c->i7 b=some c\/(wg.heap.size+2<=b/\∃k a,k<i+1/\wc.heap.size<=a/\M k a=some c):=λb c J'=>by
   rcases afS b c J' with h|⟨h1,a2,h2,h3⟩
   ·rcases x.j6 b c h with h|⟨h1,F,a',Vn,h2,h3⟩
    ·exact .inl h
    ·exact .inr ⟨h1,F,a',aa,h2,h3⟩
   ·exact .inr ⟨aa,i,a2,aa,h2,h3⟩
  have hnC:∀c,q wg.heap.size≠some c:=λc hc=>by
   rcases T _ c hc with h|⟨h,_⟩
   ·have:=(hR.Vm i g).Vk _ _ h;omega
   ·omega
  refine ih (i+1) aa a R q (λj=>if j=i then us else u j) (((h.to AT).to stepG_inLoop).sub _) ⟨aa,λc hc=>?_,⟨vs.setIfInBounds i us,by simpa using IX,?_,λj hj=>?_⟩,?_⟩ ⟨?_,Ren.le_trans x.le S,T,λF Vn=>?_⟩
  ·rw[L c aa,p c aa,f.old c hc]
  ·rw[A,aiT aa]
  ·by_cases e:j=i
   ·subst e;rw[aiT aa,if_pos aa,if_pos rfl]
   ·rw[ahM (Ne.symm e),H j hj,if_neg e];by_cases h1:j<i
    ·rw[if_pos h1,if_pos aa]
    ·rw[if_neg h1,if_neg aa]
  ·rw[L _ aa,p _ aa];exact f.box
  ·exact@HR.Sc aE.toag _ _ _ _ _ afR aa λb c J'=>L b (λe=>by subst e;exact hnC c J')
  ·by_cases e:F=i
   ·subst e;show@VR aE.toag q (if F=F then us else u F) _;rw[if_pos rfl,Vo];exact P
   ·show@VR aE.toag q (if F=i then us else u F) _;rw[if_neg e];exact@VR.mono aE.toag _ _ _ _ (x.val F aa) S
end
end
section
open Go.Conc Go.ConcN Go.RowKit aI
open Go.ConcR (Payload)
variable[aE]
def BS(w:ns)(a:aiI):Prop:=∃o,w.heap[a.block]?=some o/\(∀x y,o≠.view x y)/\∀cs t f,o≠.cells cs t f
structure Se(w:ns)(v:rl)(a1 a2:aiI):Prop where
 data:∃p m c,v=.slice p m c/\(m:Int)<9223372036854775808/\((p=none/\m=0)\/∃pa,p=some pa/\∀j,j<m->∃x,w.cell? (pa.add j)=some (.int .u8 x))/\m<=c/\(c:Int)<9223372036854775808
 e1:w.cell? ⟨0,0,none⟩=some (.iface 233 (.pointer (some a1)))
 e2:w.cell? ⟨1,0,none⟩=some (.iface 233 (.pointer (some a2)))
 c1:BS w a1
 c2:BS w a2
def vE:Prop:=∀(w:ns)(v:rl)(d e:aiI)(many:Int)(ap:Bool),Se w v d e->UL Gz.prog 64 #[v,U O many,.bool ap] w λ|be v,_=>(∃s l c t,v=.tuple #[.slice s l c,.bool t])|_,_=>False
structure Env where
 J:ag
 le:ag.Le J aE.toag
 gl:∀g,J.gl g->aE.toag.gl g
 fs:J.fs=Tryz.prog.funcs
 Sf:∀c c',¬J.dH c c'
 dec:J.ok 64
 Sg:@cJ J Gz.prog
 cd:@dc J Gz.prog
 zero:@bZ J Gz.prog
 fns:∀K:aF,K.G=Gz.prog.globals.size->@dn J Gz.prog K
 adY:@cJ (ag.exact J Gz.prog.funcs) Gz.prog
 cdX:@dc (ag.exact J Gz.prog.funcs) Gz.prog
 afU:@bZ (ag.exact J Gz.prog.funcs) Gz.prog
 iW:∀K:aF,K.G=Gz.prog.globals.size->@dn (ag.exact J Gz.prog.funcs) Gz.prog K
 g1:aE.toag.gl 0
 g2:aE.toag.gl 1
 Tc:@bZ aE.toag Gz.prog
 np:@nu aE.toag Gz.prog
 rest:@ee aE.toag Gz.prog 40 du
def Env.two(E:Env):@Program.two E.J Gz.prog=Tryz.prog:=by unfold Program.two;rw[E.fs];rfl
def aeW:∀r∈Tryz.f64.results,∃t,r=.tmp t:=aj
def aeX:Gz.prog.inits.idxOf? 64=none:=by have h:Tryz.prog.inits.idxOf? 64=none:=aj;exact h
def Eu{wg:ns}{a:aiI}{v:rl}(h:wg.cell? a=some v){X:Nat->Bool}(d:X a.block=false)(hc:wc.heap=kj X wg.heap):wc.cell? a=some v:=by
 unfold aiW at h⊢;rw[hc];cases c:wg.heap[a.block]? with
 |none=>rw[c] at h;cases h
 |some o=>rw[c] at h;cases o with|cells cs t f=>rw[adE d c];exact h|_=>cases h
def Re{K:aF}{φ:Ren}{h h':Array Obj}(q:HR K φ h h'){a:aiI}(g:∃c,φ a.block=some c)(m:K.tok a.block){X:Nat->Bool}(hc:wc.heap=kj X h):BS wc a:=by obtain⟨c,g⟩:=g;obtain⟨o,u,h1,v,r⟩:=q.obj _ _ g;have d:∀{p:Obj},gh (X a.block) o=p->(∀x y,p≠.view x y)->(∀cs t f,p≠.cells cs t f)->BS wc a:=λe i j=>⟨_,by rw[hc,uE,h1];exact congrArg some e,i,j⟩;cases r with|own _ n=>exact absurd m n|shut _ _ n=>exact absurd m n|token s p=>exact d rfl (λ_ _ e=>by cases e) (λ_ _ _ e=>by cases e)|blank s p=>exact d rfl (λ_ _ e=>by cases e) (λ_ _ _ e=>by cases e)|num l=>exact d rfl (λ_ _ e=>by cases e) (λ_ _ _ e=>by cases e)
def aeY{E:Env}(ag2:vE){K:aF}(f9:K.strict=true)(hG:K.G=Gz.prog.globals.size)(g0:∀b,E.J.cl b<->K.tok b)
  {Q:so->Array Obj->Prop}{B:List Frame}{Sh:Loc->Prop}{gs:Array so}{a g:so}{w wg:ns}{sl:Option (Nat×Nat)}{t:Trace}{q:Nat->Nat}{φ:Ren}
  (hA:@sI aE.toag g)(hW:bE Gz.prog Q g wg)(hD:@dE aE.toag Gz.prog K B φ g wg a w)(hF:dO Tryz.prog Sh gs w t q)(ha:gs[0]?=some a)(Vq:kF Sh φ):
  ∃N JT a' w' pu t' q' ψ g' tC oR,runNT Tryz.prog N (crowd gs w sl) t=(.next (crowd JT w' pu),t')/\JT[0]?=some a'/\dO Tryz.prog oR JT w' t' q'/\kF oR ψ/\
   bE Gz.prog Q g' tC/\fp Gz.prog (g',tC) (g,wg)/\@dE aE.toag Gz.prog K B ψ g' tC a' w'/\Ren.le φ ψ/\iK w w'/\w.heap.size<=w'.heap.size/\(∀c,c<w.heap.size->w'.heap[c]?=w.heap[c]?)/\(∀b c,ψ b=some c->φ b=some c\/w.heap.size<=c)/\wg.heap.size<=tC.heap.size:=by
 have Gu:=E.two;obtain⟨F⟩:=adS hD hA;obtain⟨b,Z,Z',k,k',cs,cs',hg,V',WF,Gv,tJ,afV,ag3,Gt,afW,hH,hv,ag4⟩:=F;subst hg;subst V';have oV:b.kind≠.early:=by rw[Gv];intro h;cases h
 have hz:Sz Z Z:=⟨rfl,by have:=tJ.tl 40 ((aE.BR 40).2 ⟨.inl rfl,aq⟩);omega⟩;have Vr:Sz Z' Z':=⟨rfl,by rw[<-tJ.size];exact hz.2⟩;have hv1:@VR aE.toag φ (Z.eval (.tmp 1)) (Z'.eval (.tmp 1)):=@cN.getD aE.toag _ _ _ _ tJ 1 ((aE.BR 1).2 ⟨.inl rfl,aq⟩);obtain⟨ca,z',W,H,Qq,I,sa,n,c,a1,e1,e2,qR,mt,qK,⟨r1,r2,xf,xg⟩,BI⟩:=adU hG oV hH hz hv1 hv E.g1 E.g2 E.Tc E.np hW;obtain⟨y,hy1,BC⟩:=qR.rS;obtain⟨Td,a2,hA2⟩:=adV hG oV hH qK BC n 0 aa a1 (((BI.to stepG_seq).to stepG_block).to stepG_loop);obtain⟨xk,rfl,_⟩:=Td 0 (au _) aa;obtain⟨tK,rfl,xh⟩:∃tK,y=.slice (some tK) n c/\AR φ xk tK:=by cases BC with|slice _ _ h=>exact⟨_,rfl,h⟩|empty=>omega
 obtain⟨vg,T4⟩:∃vg:Nat->rl,vg=λi=>(wg.cell? (xk.add i)).getD undef:=⟨_,rfl⟩;obtain⟨jA,G7⟩:∃jA:Nat->rl,jA=λi=>(w.cell? (tK.add i)).getD undef:=⟨_,rfl⟩
 have Vs:∀i,i<n->∃p m cc,wg.cell? (xk.add i)=some (.slice p m cc)/\vg i=.slice p m cc/\(m:Int)<9223372036854775808/\((p=none/\m=0)\/∃pa,p=some pa/\∀j,j<m->∃x,wg.cell? (pa.add j)=some (.int .u8 x))/\m<=cc/\(cc:Int)<9223372036854775808:=λi hi=>by obtain⟨s,e,p,m,cc,h1,h2⟩:=Td i (dC _) hi;cases e;exact⟨p,m,cc,h1,by rw[T4];simp[h1],h2⟩
 have Vt:∀i,i<n->wg.cell? (xk.add i)=some (vg i):=λi hi=>by obtain⟨p,m,cc,h1,h2,_⟩:=Vs i hi;rw[h1,h2]
 have Vu:∀i,i<n->w.cell? (tK.add i)=some (jA i)/\@VR aE.toag φ (vg i) (jA i):=λi hi=>by obtain⟨yv,h1,h2,_⟩:=@HR.cell aE.toag K φ wg w hH _ _ (xh.add i) _ (Vt i hi);exact⟨by rw[G7];simp[h1],by rw[G7];simp[h1,h2]⟩
 clear T4 G7;have eqv:ag.j4 aE.toag E.J:=E.le.toj4.symm
 let X:Nat->Bool:=λ_=>false
 let S:aI.Start:={φ,h0:=kj X wg.heap,h1:=w.heap,K:=aI.qj X wg.heap K.G,os:=w.os,out:=w.output}
 have vT:S.h0.size=wg.heap.size:=yH;have hrel:@HR E.J S.K φ S.h0 w.heap:=HR.afF X eqv hH f9
 have G8:@pH E.J S:=@pH.mk E.J S hrel (λb hb=>by
   rw[vT] at hb;by_cases ht:om X wg.heap b
   ·exact .inr ht
   ·exact .inl ⟨hb,ht⟩) (λb hb=>by
   rw[vT] at hb;exact⟨λh=>absurd h.1 (ph.2 hb),λh=>absurd (P4 h) (ph.2 hb)⟩) rfl
 let wc:ns:={wg with heap:=S.h0}
 have tL:S.K.G=Gz.prog.globals.size:=hG;have I8:∀i,i<n->@VR E.J φ (vg i) (jA i):=λi hi=>VR.inst eqv (Vu i hi).2;have Gw:@ep E.J φ:=λg hg=>hv g (E.gl g hg)
 have hdp:∀i,i<n->∀T d,Se (wc.on T d) (vg i) r1 r2:=λi hi T d=>by obtain⟨p,m,cc,h1,h2,h3,h4,h5⟩:=Vs i hi;refine⟨⟨p,m,cc,h2,h3,h4.imp_right λ⟨pa,e,h⟩=>⟨pa,e,λj hj=>?_⟩,h5⟩,Eu xf.cell (X:=X) rfl rfl,Eu xg.cell (X:=X) rfl rfl,Re hH xf.j6 ((g0 _).1 ((E.le.cl _).2 xf.cl)) (X:=X) rfl,Re hH xg.j6 ((g0 _).1 ((E.le.cl _).2 xg.cl)) (X:=X) rfl⟩;obtain⟨x,A⟩:=h j hj;exact⟨x,Eu A (X:=X) rfl rfl⟩
 let BM:cV:={cb:=z'.block,co:=z'.off,W,H,I,Q:=Qq,sa:=tK,sn:=n,sc:=c}
 let BG:cV:={cb:=ca.block,co:=ca.off,W,H,I,Q:=Qq,sa:=xk,sn:=n,sc:=c}
 let R:Nat->rl->Array Obj->Prop:=λ_ v _=>∃s l c t,v=.tuple #[.slice s l c,.bool t]
 have Si:∀{v v':rl}{χ:Ren},(∃s l c t,v=.tuple #[.slice s l c,.bool t])->@VR E.J χ v v'->∃s l c t,v'=.tuple #[.slice s l c,.bool t]:=by
  rintro v v' χ⟨s,l,c,t,rfl⟩ h;cases h with
  |@tuple _ ys hs A=>
   have h2:ys.size=2:=hs.symm;have q0:=A 0 (.slice s l c) ys[0] rfl (eE aa);have q1:=A 1 (.bool t) ys[1] rfl (eE aa)
   have e0:∃s' l' c',ys[0]=.slice s' l' c':=by generalize ys[0]=z at q0;cases q0 with|dk=>exact⟨_,_,_,rfl⟩|slice=>exact⟨_,_,_,rfl⟩|empty=>exact⟨_,_,_,rfl⟩
   have e1:ys[1]=.bool t:=by generalize ys[1]=z at q1;cases q1;rfl
   obtain⟨s',l',c',e0⟩:=e0;refine⟨s',l',c',t,?_⟩;rw[<-e0,<-e1];exact Lj
 have hJ:@jR E.J Gz.prog S (AX Gz.prog BM.sn vg wc BM.W BM.I R) BM.sn:=
  @jR.mk E.J Gz.prog S _ _ (λi hi=>@Mu E.J Gz.prog S.K E.Sg E.cd E.zero tL (E.fns S.K tL) E.Sf 64 Tryz.f64 (Gz.l8 func64 aq) aeW aeX E.dec _ _ wc φ w.heap
    (@G5 E.J φ _ _ _ _ _ _ (I8 i hi) (@VR.int E.J φ _ _) (@VR.bool E.J φ _)) hrel Gw (R i) λT _=>(ag2 _ _ _ _ _ _ (hdp i hi T wc.drawn)).mono λe w' he=>by cases e<;>exact he)
   (λ_ _=>rfl) Gw E.dec (λi _ v h χ v' oT hr=>Si oT hr)
 have Nm:∀{ad:aiI}{v:rl},w.cell? ad=some v->ad=⟨ad.block,ad.off,none⟩:=λ{ad v} h=>by have:=aaw h;obtain⟨b,o,s⟩:=ad;simp only at this;rw[this]
 have I9:=Nm qR.rW
 have qo:∀m,z'.add m=⟨z'.block,z'.off+m,none⟩:=λm=>by rw[I9];simp[Addr.add]
 have ag5:pZ BM w:=⟨by rw[<-I9];exact qR.rW,by rw[<-qo];exact qR.rH,by rw[<-qo];exact qR.rI,by rw[<-qo];exact qR.rQ,by rw[<-qo];exact hy1⟩
 have pl:Z'.tmps[1]?=some (.pointer (some ⟨BM.cb,BM.co,none⟩)):=by
  show Z'.tmps[1]?=some (.pointer (some ⟨z'.block,z'.off,none⟩));rw[<-I9];have aT:1<Z'.tmps.size:=by have:=Vr.2;omega
  have h2:Z'.tmps.getD 1 undef=.pointer (some z'):=e2;rw[Array.getD_eq_getD_getElem?,aiN aT] at h2;rw[aiN aT];exact congrArg some h2
 obtain⟨N1,qQ,w1,I2,t1,q1,C,o,Wg,M,D,am,Te,ag6,UV,ag7⟩:=@aeV E.J Gz.prog S gs w sl t q Sh BM jA vg wc R b Z' k' (cs'++B) Gu G8 (by rw[Gu];exact hF) rfl ⟨rfl,rfl⟩ Vq E.Sg E.cd E.zero tL (E.fns S.K tL) E.Sf ag5 (show n<=1000 by omega) (λi hi=>(Vu i hi).1) I8
  ⟨_,qR.ar.block⟩ ⟨_,xh.block⟩ hJ oV WF Vr pl ha
 rw[Gu] at Te UV;obtain⟨ads,afX,afY,as4,ane,L,afZ,ag8,P,Gx,aio⟩:=ag7;obtain⟨a3,w3,hL3,Ha⟩:=afN (B:=BG) oV qK hA2
 obtain⟨vk,AY⟩:∃vk:Nat->rl,∀i,i<n->@VR E.J (D i).φ (vk i) (D i).val/\R i (vk i) (D i).x.2.heap/\iV Gz.prog (λu _=>u=vk i) (D i).x.1 (D i).x.2.heap:=by
  have h:∀i,∃v:rl,i<n->@VR E.J (D i).φ v (D i).val/\R i v (D i).x.2.heap/\iV Gz.prog (λu _=>u=v) (D i).x.1 (D i).x.2.heap:=λi=>by
   by_cases hi:i<n
   ·obtain⟨⟨_,_,v,h1,h2,h3⟩,_⟩:=Gx i hi;exact⟨v,λ_=>⟨h1,h2,h3⟩⟩
   ·exact⟨undef,λh=>absurd h hi⟩
  exact⟨λi=>(h i).choose,λi hi=>(h i).choose_spec hi⟩
 have Ja:Sd E.J S.K φ BG vg wc (λi=>(D i).φ) (λi=>(D i).x) vk (λi=>(D i).val) w1.heap w.heap.size:=by
  refine⟨λi hi=>?_,λi i' hi kw ip a a' c ha V' h1 h2=>?_,λb c J'=>(@HR.lt E.J _ _ _ _ hrel _ _ J').2,λi hi a c ha hc=>?_,λi hi=>Si (AY i hi).2.1 (AY i hi).1⟩
  ·obtain⟨⟨h1,h2,_⟩,_⟩:=Gx i hi;refine⟨λb hb=>@pH.old E.J S G8 b hb,λb hb=>@pH.new E.J S G8 b hb,rfl,λb c J'=>(@HR.lt E.J _ _ _ _ hrel _ _ J').1,h1,h2,(AY i hi).2.2,⟨_,@jR.ql E.J _ _ _ _ hJ i hi⟩,@Mem.rel E.J _ _ _ _ _ _ P i hi,(AY i hi).1,(@Mem.le E.J _ _ _ _ _ _ P) i hi,(@Mem.fresh E.J _ _ _ _ _ _ P) i hi⟩
  ·exact@Mem.apart E.J _ _ _ _ _ _ P i i' hi kw ip c ⟨a,ha,h1⟩ ⟨a',V',h2⟩
  ·exact(@Mem.kZ E.J _ _ _ _ _ _ P i c hi ⟨a,ha,hc⟩).1
 have ag9:0<(cs++[c0 Gz.prog]).length:=aj;have T5:w.heap.size<=w1.heap.size:=(@Mem.size E.J _ _ _ _ _ _ P);have af0:@HR aE.toag K φ w3.heap w1.heap:=@HR.Sc aE.toag _ _ _ _ _ (@HR.still aE.toag _ _ _ _ _ hH T5 λb c J'=>(@Mem.old E.J _ _ _ _ _ _ P) c (@HR.lt aE.toag _ _ _ _ hH _ _ J').2) (by have:=Ha.size;omega) λb c J'=>Ha.old b (@HR.lt aE.toag _ _ _ _ hH _ _ J').1
 obtain⟨a4,w4,ψ,u,tM,hP4,Hb,qp⟩:=afQ (B:=BG) (K:=K) (Kc:=S.K) E.le E.adY E.cdX E.afU tL (E.iW S.K tL) (i7:=φ) (vg:=vg) (wc:=wc) Ja vT rfl (by rw[show wc.heap.size=wg.heap.size from vT];exact(@HR.fJ aE.toag _ _ _ _ hH).1) E.dec
  (λi hi=>ax.id (@G5 E.J φ _ _ _ _ _ _ (I8 i hi) (@VR.int E.J φ _ _) (@VR.bool E.J φ _))) (λh h1 h2=>HR.RZ X Gz.prog.funcs eqv hH f9 (λb=>(g0 b).1) h1 h2) (λg hg=>Ren.zo (Gw g hg))
  (λb hb hc=>by
   have:=(@HR.below aE.toag _ _ _ _ hH b (.inr ((g0 b).1 hc))).1;have h2:wg.heap.size<=b:=by rw[<-vT];exact hb
   omega) ag9 oV qK Vt n 0 (by show 0+n=n;omega) a3 w3 φ (λ_=>undef) hL3 Ha ⟨af0,Ren.le_refl _,λb c h=>.inl h,λk hk=>absurd hk (gG _)⟩
 obtain⟨arr,Vv,xj⟩:=ag8;obtain⟨vs,G0,TP,aha⟩:=Hb.row;have P':K.G<=wg.heap.size/\K.G<=w.heap.size:=@HR.fJ aE.toag _ _ _ _ hH
 have Gy:∀m,M m->∀x,ψ x≠some m:=λm hm x A=>by
  have h1:=(@Mem.mlt E.J _ _ _ _ _ _ P m hm).1;rcases qp.j6 x m A with h|⟨_,i,a,hi,ha,h⟩
  ·have h2:m<w.heap.size:=(@HR.lt aE.toag _ _ _ _ hH _ _ h).2;have h3:w.heap.size<=m:=h1;omega
  ·exact@Mem.main E.J _ _ _ _ _ _ P i hi m ⟨a,ha,h⟩ hm
 have AZ:∀j,j<2->ψ (wg.heap.size+j)=none:=λj hj=>by
  cases e:ψ (wg.heap.size+j) with
  |none=>rfl
  |some c=>
   rcases qp.j6 _ c e with h|⟨h,_⟩
   ·have:=(@HR.lt aE.toag _ _ _ _ hH _ _ h).1;omega
   ·omega
 have A0:∀j,¬K.ro (wg.heap.size+j)/\¬K.tok (wg.heap.size+j):=λj=>⟨λh=>by have:=(@HR.below aE.toag _ _ _ _ hH _ (.inl h)).1;omega,λh=>by have:=(@HR.below aE.toag _ _ _ _ hH _ (.inr h)).1;omega⟩;have qs:∀m,M m->w.heap.size<=m:=λm hm=>(@Mem.mlt E.J _ _ _ _ _ _ P m hm).1
 have af1:@ax aE.toag ψ vs arr:=by
  refine@ax.mk aE.toag ψ _ _ (G0.trans xj.symm) λj x y A V=>?_;have hj:j<n:=by have:=(bF.1 A).1;rw[G0] at this;exact this
  rw[aha j hj,if_pos (show j<BG.sn from hj)] at A;cases A;have hh:w1.cell? ⟨C,j,none⟩=some (Gs (D j).val):=(Gx j hj).2;have:w1.cell? ⟨C,j,none⟩=arr[j]?:=by simp[aiW,Vv]
  rw[this,V] at hh;cases hh;exact qp.val j hj
 obtain⟨l1,R1⟩:=@HR.link aE.toag K ψ _ _ qp.rel wg.heap.size C _ _ TP Vv (AZ 0 aa) (Gy C L.1) (A0 0).1 (A0 0).2 (λ_=>rfl) (by have:=qs C L.1;have:=P'.1;have:=P'.2;omega)
  (@OR.cells aE.toag _ _ _ _ _ (@ax.mono aE.toag _ _ _ _ af1 λx y A=>by show(if x=wg.heap.size then some C else ψ x)=some y;rw[if_neg λe=>by subst e;rw[show ψ wg.heap.size=none from AZ 0 aa] at A;cases A];exact A))
 have AE:∀x y,(ψ.add wg.heap.size C) x=some y->(x=wg.heap.size/\y=C)\/ψ x=some y:=λx y A=>by
  by_cases e:x=wg.heap.size
  ·subst e;rw[Ren.add_same] at A;cases A;exact .inl ⟨rfl,rfl⟩
  ·have:(ψ.add wg.heap.size C) x=ψ x:=if_neg e;rw[this] at A;exact .inr A
 have T6:Ren.le φ (ψ.add wg.heap.size C):=Ren.le_trans qp.le l1
 have af2:@ax aE.toag (ψ.add wg.heap.size C) (BG.full wg.heap.size) (BM.full C):=by
  refine@ax.mk aE.toag _ _ _ rfl λi x y A V=>?_
  match i,A,V with
  |0,A,V=>simp[cV.full,BG,BM] at A V;subst A;subst V;exact@VR.int aE.toag _ _ _
  |1,A,V=>simp[cV.full,BG,BM] at A V;subst A;subst V;exact@VR.int aE.toag _ _ _
  |2,A,V=>simp[cV.full,BG,BM] at A V;subst A;subst V;exact@VR.bool aE.toag _ _
  |3,A,V=>simp[cV.full,BG,BM] at A V;subst A;subst V;exact@VR.int aE.toag _ _ _
  |4,A,V=>simp[cV.full,BG,BM] at A V;subst A;subst V;exact@VR.slice aE.toag _ _ _ _ _ (xh.mono T6)
  |5,A,V=>simp[cV.full,BG,BM] at A V;subst A;subst V;exact@VR.slice aE.toag _ _ _ _ _ ⟨Ren.add_same _ _ _,rfl,rfl⟩
  |i+6,A,_=>simp[cV.full] at A
 have Jb:=ane
 obtain⟨l2,R2⟩:=@HR.link aE.toag K (ψ.add wg.heap.size C) _ _ R1 (wg.heap.size+1) o _ _ Hb.box afZ (by
   cases e:(ψ.add wg.heap.size C) (wg.heap.size+1) with
   |none=>rfl
   |some c=>
    rcases AE _ c e with⟨h,_⟩|h
    ·omega
    ·rw[AZ 1 aa] at h;cases h) (λx A=>by
   rcases AE x o A with⟨_,h⟩|h
   ·exact Jb.1 h
   ·exact Gy o L.2.1 x h) (A0 1).1 (A0 1).2 (λ_=>rfl) (by have:=qs o L.2.1;have:=P'.1;have:=P'.2;omega)
  (@OR.cells aE.toag _ _ _ _ _ (@ax.mono aE.toag _ _ _ _ af2 (λx y A=>by
   show(if x=wg.heap.size+1 then some o else(ψ.add wg.heap.size C) x)=some y
   rw[if_neg (λe=>by
    subst e;rcases AE _ y A with⟨h,_⟩|h
    ·omega
    ·rw[AZ 1 aa] at h;cases h)]
   exact A)))
 obtain⟨ω,Jc⟩:∃ω,ω=(ψ.add wg.heap.size C).add (wg.heap.size+1) o:=⟨_,rfl⟩;rw[<-Jc] at l2 R2;have ta:Ren.le φ ω:=Ren.le_trans T6 l2;have T7:ω (wg.heap.size+1)=some o:=by rw[Jc];exact Ren.add_same _ _ _
 have F3:∀x y,ω x=some y->y=o\/y=C\/ψ x=some y:=λx y A=>by
  by_cases e:x=wg.heap.size+1
  ·subst e;rw[T7] at A;cases A;exact .inl rfl
  ·have:ω x=(ψ.add wg.heap.size C) x:=by rw[Jc];exact if_neg e
   rw[this] at A;rcases AE x y A with⟨_,h⟩|h
   ·exact .inr (.inl h)
   ·exact .inr (.inr h)
 have af3:Goes Tryz.prog true RA (DA (I0 Sh Wg) w1.heap.size) (λg oI=>g=G (b.at am (.code du::k')) (cs'++B)/\∃d,oI=w1.at d) 1 (G (b.at am (.inRegion gq []::.code du::k')) (cs'++B)) w1:=by refine je rfl λw₁ r=>?_;obtain⟨d,rfl⟩:=r;rw[AT];refine⟨FA,?_⟩;exact eR λaib⟨d4,e⟩=>by subst e;exact⟨rfl,d4,rfl⟩
 obtain⟨N2,xa,a2',BT,xc,t2,q2,af4,_,ahb,hF2,⟨rfl,d,rfl⟩,_,_⟩:=Nn (by rintro g w⟨rfl,_⟩;rfl) _ _ qQ _ w1 I2 t1 q1 (au _) af3 UV ag6 UV.low;refine⟨N1+N2,xa,_,_,xc,t2,q2,ω,_,w4,I0 Sh Wg,by rw[runNT_add,Te];exact af4,ahb,hF2,λx y BU l hl=>?_,tM.w,hP4,?_,ta,aio,T5,λc hc=>(@Mem.old E.J _ _ _ _ _ _ P) c hc,λx y BU=>?_,by have:=Hb.size;omega⟩
 ·
  have aic:=qs Wg L.2.2
  have aT:∀m,w.heap.size<=m->bG m l->¬Sh l:=λm hm hl hs=>by obtain⟨ad,rfl,oX⟩:=hF.shl l hs;have:=bG.inj hl (.inl ⟨_,rfl,rfl⟩);omega
  have hyW:y≠Wg:=by
   rcases F3 x y BU with rfl|rfl|h
   ·exact Jb.2.1
   ·exact Jb.2.2
   ·intro e;subst e;exact Gy _ L.2.2 x h
  rintro(hs|⟨ad,rfl,oX⟩)
  ·rcases F3 x y BU with rfl|rfl|h
   ·exact aT _ (qs _ L.2.1) hl hs
   ·exact aT _ (qs _ L.1) hl hs
   ·rcases qp.j6 x y h with h|⟨_,i,a',hi,V',h⟩
    ·exact Vq x y h l hl hs
    ·exact aT y (Ja.own i hi a' y V' h) hl hs
  ·have:=bG.inj hl (.inl ⟨_,rfl,rfl⟩);exact hyW (this.trans oX)
 ·have S2:@ee aE.toag Gz.prog b.fn du:=by rw[WF];exact E.rest
  refine⟨b.at a4 (.code du::k),b.at am (.code du::k'),cs,cs',rfl,rfl,?_,@dp.mono aE.toag _ _ _ _ _ Gt ta,R2,λg hg=>ta _ _ (hv g hg),ag4.congr rfl⟩
  refine@bV.mk aE.toag _ _ _ _ rfl ?_ (@eK.cons aE.toag _ _ _ _ _ _ _ _ (@jz.code aE.toag _ _ _ _ _ _ (@gW.same aE.toag _ _ _ _ S2)) (by
    show@eK aE.toag Gz.prog ω b.fn true k k';rw[WF];exact@eK.mono aE.toag _ _ _ _ _ _ _ afV ta)) (by
    show iZ ω a4.defers am.defers;rw[tM.d,ads];exact ag3.mono ta) .run ⟨Gv,Gv⟩ .none (by
    show@ox aE.toag b.fn;rw[WF];exact afW)
  show@cN aE.toag ω (aE.toag.lv b.fn) a4.tmps am.tmps;rw[WF];have cC:a4.tmps.size=am.tmps.size:=by rw[tM.z.1,afY.1,tJ.size]
  refine@cN.mk aE.toag _ _ _ _ cC (λi x y hi A V=>?_) (λi hi=>by rw[tM.z.1];exact tJ.tl i hi);obtain⟨hk,aid⟩:=(aE.BR i).1 hi;rcases hk with hk|rfl
  ·rw[tM.k i hk] at A;rw[afX i hk] at V;exact@VR.mono aE.toag _ _ _ _ (@cN.at_ aE.toag _ _ _ _ tJ i x y hi A V) ta
  ·rw[tM.f 4 _ rfl] at A;rw[as4] at V;cases A;cases V;exact@VR.ptr aE.toag _ _ _ ⟨T7,rfl,rfl⟩
 ·rcases F3 x y BU with rfl|rfl|h
  ·exact .inr (qs _ L.2.1)
  ·exact .inr (qs _ L.1)
  ·rcases qp.j6 x y h with h|⟨_,i,a',hi,V',h⟩
   ·exact .inl h
   ·exact .inr (Ja.own i hi a' y V' h)
end
end Go.Proofs.Q0.Open
namespace Go.Proofs.Q0
open Go.Proofs.Tryz
variable{w:ns}{n B cnt:Nat}{W H:Int}{R:Option (List Int)}
section
open Go.RowKit
def gn(n:Int):Prop:=8<=n/\n<=32/\n%8=0
instance(n:Int):Decidable (gn n):=by unfold gn;infer_instance
def No{n:Int}{t:Bool}(h:Hid (decide (gn n)=t)):
  UL Gz.prog 69 #[U O n] w λe w'=>e=be (a9 t)/\w=w':=by
 obtain rfl:=h.out;unfold gn;exact LK
def Zq{v:Int}{k:Nat}(h:k<n):(an k v++an (n-k) 0).set k v=an (k+1) v++an (n-(k+1)) 0:=by rw[List.set_append_right _ _ aj,List.length_replicate,ajN,show n-k=(n-(k+1))+1 by omega,akl,List.set_cons_zero,List.replicate_succ',List.append_assoc];rfl
def Zr(V:Int)(w:ns)(A:Hid (gn W))(C:Hid (gn H))(D:Hid (0<=V/\V<=255))(M:W*H=n)(E:n<=1024):
  UL Gz.prog 67 #[U O W,U O H,U O V] w λe w'=>∃v,e=be (a5 #[U O W,U O H,v])/\Own w' w.heap.size v n (an n V)/\Q w w':=by
 have F:=af (decide_eq_true A.out);have G:=af (decide_eq_true C.out);have I:=af (decide_eq_true D.out);have x:=ak.new w 30 #[U O 0,U O 0,Y none 0 0];have y:Q w (w.alloc (ac #[U O 0,U O 0,Y none 0 0] 30)):=aR;go_enter Gz.gf func67,ntmps67;go_wp2;refine(No F).mono ?_;rintro e w'⟨rfl,rfl⟩;go_wp2;refine(No G).mono ?_;rintro e w'⟨rfl,rfl⟩;go_wp2;refine(Ml _ I).mono ?_;rintro e w'⟨rfl,rfl⟩;go_wp2_with(at_make;refine Wv rfl rfl (w.alloc (ac #[U O 0,U O 0,Y none 0 0] 30)) n rfl rfl rfl rfl aa (Q.refl _) ?_;intro j f q1 s1);rw[BE] at f s1;have z:=x.q q1;have c:=y.trans q1;have J:=f.block.2;have l:=f.alloc (ac #[U O W,U O H,Y (some ⟨w.heap.size+1,0,none⟩) n n] 30);have o:=c.alloc (ac #[U O W,U O H,Y (some ⟨w.heap.size+1,0,none⟩) n n] 30);have r:=z.alloc (ac #[U O W,U O H,Y (some ⟨w.heap.size+1,0,none⟩) n n] 30);have d2:=ak.new j 30 #[U O W,U O H,Y (some ⟨w.heap.size+1,0,none⟩) n n];clear x y f q1 s1 z c;generalize j.heap.size=m at J d2⊢;generalize j.alloc (ac #[U O W,U O H,Y (some ⟨w.heap.size+1,0,none⟩) n n] 30)=N at l o r d2⊢;go_loopw[33] (λi wr=>∃k:Nat,k<=n/\i=U O k/\Q w wr/\ak wr w.heap.size 30 #[U O 0,U O 0,Y none 0 0]/\ak wr m 30 #[U O W,U O H,Y (some ⟨w.heap.size+1,0,none⟩) n n]/\Own wr (w.heap.size+1) (Y (some ⟨w.heap.size+1,0,none⟩) n n) n (an k V++an (n-k) 0)) (λi _=>n-(intOf i).toNat)
 case atStart=>exact⟨0,dC _,rfl,o,r,d2,by simpa using l⟩
 case round=>
  obtain⟨k,P,rfl,hq,g,hd,b⟩:=hrel;clear o r d2 l;by_cases d:k<n
  ·have K:=hd.cell;have f1:=b.free k;have S:=b.at k d;have a:=af (b.set k V);have s:=af (g.aN (p:=⟨w.heap.size+1,k,none⟩) (show w.heap.size≠w.heap.size+1 by omega) (U O V));have t:=af (hd.aN (p:=⟨w.heap.size+1,k,none⟩) (show m≠w.heap.size+1 by omega) (U O V));have u:=af (hq.set (p:=⟨w.heap.size+1,k,none⟩) (Nat.le_succ _) (U O V));clear hq g hd b;go_wp2;go_roundw;case rel=>exact⟨k+1,aa,aH,u.out,s.out,t.out,by have h:=a.out;rw[Zq d] at h;exact h⟩
   case measure=>exact bg
  ·have K:=hd.cell;have L:=g.cell;have f2:=g.free;have:k=n:=aa;subst this;have a:=af b;clear b;go_wp2;refine aiA (v:=a5 #[U O W,U O H,Y (some ⟨w.heap.size+1,0,none⟩) k k]) (by simp[results,results67,go_sem,L]) rfl ⟨_,rfl,?_,aR⟩;have h:=a.out;simp only[ajN,List.replicate_zero,List.append_nil] at h;exact(((h.aN (p:=⟨w.heap.size,0,none⟩) (Nat.lt_succ_self _) _).aN (p:=⟨w.heap.size,1,none⟩) (Nat.lt_succ_self _) _).aN (p:=⟨w.heap.size,2,none⟩) (Nat.lt_succ_self _) _).mono (Nat.le_succ _)
end
section
open Go.RowKit Go.WideShapes Go.ChangeShapes Go.Proofs.Q0.Open
def ng(B cnt:Nat)(w:ns)(R:Option (List Int))(v:rl):Prop:=match R with
 |some L=>∃gl cl,v=Y (some ⟨gl,0,none⟩) cnt cl/\az 85 71 w B (Y (some ⟨gl,0,none⟩) cnt cl) cnt L
 |none=>v=Y none 0 0
def ng.q{w':ns}{v:rl}(h:ng B cnt w R v)(q:Q w w'):ng B cnt w' R v:=by cases R with|none=>exact h|some L=>obtain⟨gl,cl,e,o⟩:=h;exact⟨gl,cl,e,o.q q⟩
def ng.aN{v:rl}(h:ng B cnt w R v){p:aiI}(a:∀s,v.ownBlock=some s->s≠p.block)(u:rl):ng B cnt (w.setCell p u) R v:=by cases R with|none=>exact h|some L=>obtain⟨gl,cl,rfl,o⟩:=h;exact⟨gl,cl,rfl,o.1,ownsRow_setCell_other o.2 (λe=>a _ e rfl) u⟩
def Zs(xs:List Int):(strOfNums xs).size=xs.length:=by simp[strOfNums,ByteArray.size]
def Sj(v:rl)(w:ns):(Instr.typeAssert (em 233 v) 143 233 false).run Gz.prog w=.ok v w:=aC
def ahc(a b c d e:rl)(w:ns):(ajR 33 (a5 #[a,b,c,d,e]) 0).run Gz.prog w=.ok a w:=aC
def ahd(a b c d e:rl)(w:ns):(ajR 33 (a5 #[a,b,c,d,e]) 1).run Gz.prog w=.ok b w:=aC
def ahe(a b c d e:rl)(w:ns):(ajR 33 (a5 #[a,b,c,d,e]) 2).run Gz.prog w=.ok c w:=aC
def ahf(a b c d e:rl)(w:ns):(ajR 33 (a5 #[a,b,c,d,e]) 3).run Gz.prog w=.ok d w:=aC
def ahg(a b c d e:rl)(w:ns):(ajR 33 (a5 #[a,b,c,d,e]) 4).run Gz.prog w=.ok e w:=aC
def ahh(w:ns):(binOp .eql 53 (Y none 0 0) (Y none 0 0)).run Gz.prog w=.ok (a9 true) w:=aC
def ahi(g:aiI)(n c:Nat)(w:ns):(binOp .eql 53 (Y (some g) n c) (Y none 0 0)).run Gz.prog w=.ok (a9 false) w:=aC
def XJ{w':ns}{e:Ending}(h:EZ R cnt w e w')(hc:1<=cnt)(d:B<=w.heap.size):∃A m c t,e=be (dl #[Y A m c,a9 t])/\ng B cnt w' R (Y A m c)/\(∀s,(Value.slice A m c).ownBlock=some s->w.heap.size<=s)/\Q w w':=by
 obtain⟨h1,b⟩:=h;cases R with
 |none=>exact⟨none,0,0,false,h1,rfl,λs a=>(by cases a),b⟩
 |some L=>obtain⟨v,f,o⟩:=h1;obtain⟨gl,cl,rfl⟩:=o.fS aa;exact⟨_,_,_,_,f,⟨gl,cl,rfl,o.mono d⟩,λs a=>o.below s a,b⟩
def afP:Gz.f40.results=Tryz.f40.results:=rfl
def adZ(I:Bool){q:Int}(A:Option aiI)(c:Nat)(w:ns)(d:ie W H q n=false):
  UL Gz.prog 40 #[a5 (#[U O W,U O H,a9 I,U O q,Y A n c]:Array rl)] w λe w'=>e=be (dl #[a5 (#[U O 0,U O 0,a9 false,U O 0,Y none 0 0,Y none 0 0]:Array rl),a9 false])/\Q w w':=by
 have a:Q w ((w.alloc (ac (#[U O W,U O H,a9 I,U O q,Y A n c]:Array rl) 33)).alloc (ac (#[U O 0,U O 0,a9 false,U O 0,Y none 0 0,Y none 0 0]:Array rl) 66)):=aR;have i:=(ak.new w 33 (#[U O W,U O H,a9 I,U O q,Y A n c]:Array rl)).alloc (ac (#[U O 0,U O 0,a9 false,U O 0,Y none 0 0,Y none 0 0]:Array rl) 66);have b:=ak.new (w.alloc (ac (#[U O W,U O H,a9 I,U O q,Y A n c]:Array rl) 33)) 66 (#[U O 0,U O 0,a9 false,U O 0,Y none 0 0,Y none 0 0]:Array rl);rw[BE] at b;have T:=af λz=>Nv W H I q A n c z;rw[d] at T;refine calls_of_wp Gz.func40 rfl ?_;rw[show Gz.f40.ntmps=41 by kernel_rfl];simp only[List.size_toArray,aiS,akc,ajp,Nat.reduceSub,akH,akI,List.push_toArray,akZ,ajM,ajn];unfold lh iL du hZ ld;dsimp only[Tryz.f40,Option.getD_some,Code.sl,Code.sr,gA,gB,gD,gM,Bg,Hv,Hw,wh,aP,ei];go_wp2;refine(T.out _).mono ?_;rintro e j⟨rfl,q1⟩;have f:=b.q q1;replace a:=a.trans q1;go_wp2_with(refine fw (cs':=(#[U O 0,U O 0,a9 false,U O 0,Y none 0 0,Y none 0 0]:Array rl)) rfl _ _ _ rfl rfl _ rfl rfl f rfl iq ai ?_;intro l g h m);have bz:=g.cell;exact aiA (v:=dl #[a5 (#[U O 0,U O 0,a9 false,U O 0,Y none 0 0,Y none 0 0]:Array rl),a9 false]) Cz rfl ⟨rfl,a.grown h λk e=>by have:=aL e;omega⟩
def nT{q:Int}(h:ie W H q n=true):gn W/\gn H/\(0<=q/\q<=15)/\(n:Int)=H/8:=by unfold ie dL at h;simp only[Bool.and_eq_true,decide_eq_true_eq] at h;exact⟨h.1,h.2.1,h.2.2.1,h.2.2.2⟩
def ad0:(Gz.prog.info? 53).map (λi=>(i.zero,i.size,i.bytes))=some (some (Y none 0 0),1,24):=aC
def ach(I:Bool){q:Int}{A:Option aiI}(c:Nat){ls:List (List Int)}{a1 a2:aiI}(F:ie W H q n=true)(hx:dz w B A ls)(hB:B<=w.heap.size)(hn:ls.length=n)(he:gx w a1 a2 B)(k1:dx w a1)(k2:dx w a2)(tA:W/8=(cnt:Int)):
  UL Gz.prog 40 #[a5 (#[U O W,U O H,a9 I,U O q,Y A n c]:Array rl)] w λe w'=>Q w w'/\((∃a,e=be (dl #[a5 (#[U O W,U O H,a9 I,U O q,Y A n c,Y (some ⟨a,0,none⟩) n n]:Array rl),a9 true])/\(∀i,i<n->∃L gl cl,eW (aU ls i) cnt I=some L/\w'.cell? ⟨a,i,none⟩=some (Y (some ⟨gl,0,none⟩) cnt cl)/\az 85 71 w' w.heap.size (Y (some ⟨gl,0,none⟩) cnt cl) cnt L))\/
   (e=be (dl #[a5 (#[U O 0,U O 0,a9 false,U O 0,Y none 0 0,Y none 0 0]:Array rl),a9 false])/\∃i,i<n/\eW (aU ls i) cnt I=none)):=by
 have x:Q w ((w.alloc (ac (#[U O W,U O H,a9 I,U O q,Y A n c]:Array rl) 33)).alloc (ac (#[U O 0,U O 0,a9 false,U O 0,Y none 0 0,Y none 0 0]:Array rl) 66)):=aR;have bc:=(ak.new w 33 (#[U O W,U O H,a9 I,U O q,Y A n c]:Array rl)).alloc (ac (#[U O 0,U O 0,a9 false,U O 0,Y none 0 0,Y none 0 0]:Array rl) 66);have br:=ak.new (w.alloc (ac (#[U O W,U O H,a9 I,U O q,Y A n c]:Array rl) 33)) 66 (#[U O 0,U O 0,a9 false,U O 0,Y none 0 0,Y none 0 0]:Array rl);rw[BE] at br;have T:=af λz=>Nv W H I q A n c z;rw[F] at T;obtain⟨⟨w1,w2,w3⟩,⟨h1,h2,h3⟩,⟨q1,q2⟩,xl⟩:=nT F;have qK:n<=4:=aa;have mt:1<=n:=aa;have aie:(0:Int)<(n:Int):=aa;have aif:(n:Int)<5:=aa;have ahj:1<=cnt/\cnt<=4:=aa;obtain⟨b,o,rfl,hb,hc⟩:=hx aa;have HC:=af hc;have HN:=af hn;have I5:AS.wrap (cnt:Int)=(cnt:Int):=aB _ ⟨aa,aa⟩;have HNH:=af xl;have HE:=af he;have K1:=af k1;have K2:=af k2;have t0:=ahc;have t1:=ahd;have t2:=ahe;have t3:=ahf;have t4:=ahg;have Vw:=λw=>Sj (ci (some a1)) w;have te2:=λw=>Sj (ci (some a2)) w;clear F hx hc hn xl he k1 k2;refine calls_of_wp Gz.func40 rfl ?_;rw[show Gz.f40.ntmps=41 by kernel_rfl];simp only[List.size_toArray,aiS,akc,ajp,Nat.reduceSub,akH,akI,List.push_toArray,akZ,ajM,ajn];unfold lh iL du hZ ld;dsimp only[Tryz.f40,Option.getD_some,Code.sl,Code.sr,gA,gB,gD,gM,Bg,Hv,Hw,wh,aP,ei];go_wp2;refine(T.out _).mono ?_;rintro e Y'⟨rfl,qa⟩;have N:=br.q qa;have X:=bc.q qa;replace x:=x.trans qa;have E1:=HE.out.q x hB;have e1:Y'.cell? ⟨0,0,none⟩=some (em 233 (ci (some a1))):=E1.e1;have e2:Y'.cell? ⟨1,0,none⟩=some (em 233 (ci (some a2))):=E1.e2;have cc:=X.cell;have HT:=af (TO X (TO N (TO x Vw)));clear bc br qa T E1;go_wp2;clear Vw te2 e1 e2 cc X N x t0 t1 t2 t3 t4;go_loopw[22] (λi wr=>∃k:Nat,k<=n/\i=U O k/\wr=Y') (λi _=>n-(intOf i).toNat)
 case atStart=>exact⟨0,aa,rfl,rfl⟩
 case round=>
  obtain⟨k,hk,rfl,rfl⟩:=hrel;obtain⟨X,N,x,_⟩:=HT.out;by_cases aT:k<n
  ·have ka:(k:Int)<n:=by omega
   obtain⟨A',c',J,K,Z,Pi⟩:=HC.out k (by rw[HN.out];exact aT);have sc:=(x.cell b (o+k) aa).trans J;have cv:=nZ (c:=c') (K.q x hB) rfl;have cC:=Zs (aU ls k);generalize(aU ls k).length=m at sc cv cC Z;generalize strOfNums (aU ls k)=s at cv cC;unfold maxLen at Pi;have hm1:(m:Int)<=9223372036854775807:=aa;have aih:(c':Int)<=9223372036854775807:=aa;have hmc:(m:Int)<=(c':Int):=aa;clear X N x J K;go_wp2;go_roundw;case rel=>exact⟨k+1,aa,aH,trivial⟩
   case measure=>exact bg
  ·have j':k=n:=by omega
   subst j';obtain⟨i0,hi,rt,hz1,hz2⟩:=info_parts ad0;have Hi:=af hi;clear hi;have Hz0:=af rt;clear rt;have Hz1:=af hz1;clear hz1;have BD:=af hz2;clear hz2;have HQ:=af (TO X (TO N x));clear X N x;go_wp2_with(at_make;refine wpList_make_full _ rfl (.tmp 16) (.tmp 16) 64 rfl wr.heap.size 53 i0 (Y none 0 0) 1 (Gz.gu underlying64) Hi.out Hz0.out Hz1.out .i64 .i64 k k k rfl rfl rfl rfl xL jC (au _) ?_;intro G T8 y);have Ia:=y.size;have ho:G.ownsRow wr.heap.size 53 1 (Y (some ⟨wr.heap.size,0,none⟩) k k) k (an k (Y none 0 0)):=by simpa[Value.cells,toList_madeCells_one] using T8
   have Jd:Q wr G:=Q.jf y;have pl:wr.heap.size<G.heap.size:=(ho.lt _ rfl).2;obtain⟨X,N,x⟩:=HQ.out;have Ir:=x.size;have wL:=N.lt;generalize ahk:wr.heap.size=a at ho pl Ir wL⊢
   have K0:Hid (([]:List rl).length=0/\Q w (G.alloc (ac (#[U O W,U O H,a9 I,U O q,Y (some ⟨b,o,none⟩) k c,Y (some ⟨a,0,none⟩) k k]:Array rl) 66))/\a<(G.alloc (ac (#[U O W,U O H,a9 I,U O q,Y (some ⟨b,o,none⟩) k c,Y (some ⟨a,0,none⟩) k k]:Array rl) 66)).heap.size/\(G.alloc (ac (#[U O W,U O H,a9 I,U O q,Y (some ⟨b,o,none⟩) k c,Y (some ⟨a,0,none⟩) k k]:Array rl) 66)).ownsRow a 53 1 (Y (some ⟨a,0,none⟩) k k) k ([]++an (k-0) (Y none 0 0))/\
     ak (G.alloc (ac (#[U O W,U O H,a9 I,U O q,Y (some ⟨b,o,none⟩) k c,Y (some ⟨a,0,none⟩) k k]:Array rl) 66)) G.heap.size 66 (#[U O W,U O H,a9 I,U O q,Y (some ⟨b,o,none⟩) k c,Y (some ⟨a,0,none⟩) k k]:Array rl)/\ak (G.alloc (ac (#[U O W,U O H,a9 I,U O q,Y (some ⟨b,o,none⟩) k c,Y (some ⟨a,0,none⟩) k k]:Array rl) 66)) (w.heap.size+1) 66 (#[U O 0,U O 0,a9 false,U O 0,Y none 0 0,Y none 0 0]:Array rl)):=
    ⟨rfl,(x.trans Jd).alloc _,by rw[BE];omega,by simpa using ho.alloc _,ak.new G _ _,(N.q Jd).alloc _⟩
   generalize BV:G.heap.size=p0 at K0 pl⊢;generalize G.alloc (ac (#[U O W,U O H,a9 I,U O q,Y (some ⟨b,o,none⟩) k c,Y (some ⟨a,0,none⟩) k k]:Array rl) 66)=w6 at K0⊢;clear T8 y ho Jd X N x Ia HQ HT ahk BV
   go_loopw[22] (λi wx=>∃(j:Nat)(d:List rl),j<=k/\i=U O j/\Hid (d.length=j/\Q w wx/\a<wx.heap.size/\wx.ownsRow a 53 1 (Y (some ⟨a,0,none⟩) k k) k (d++an (k-j) (Y none 0 0))/\
     ak wx p0 66 (#[U O W,U O H,a9 I,U O q,Y (some ⟨b,o,none⟩) k c,Y (some ⟨a,0,none⟩) k k]:Array rl)/\ak wx (w.heap.size+1) 66 (#[U O 0,U O 0,a9 false,U O 0,Y none 0 0,Y none 0 0]:Array rl)/\(∀i,i<j->ng w.heap.size cnt wx (eW (aU ls i) cnt I) (d[i]?.getD undef))/\(∀i s,i<j->(d[i]?.getD undef).ownBlock=some s->s≠a))) (λi _=>k-(intOf i).toNat)
   case atStart=>exact⟨0,[],dC _,rfl,K0.out.1,K0.out.2.1,K0.out.2.2.1,K0.out.2.2.2.1,K0.out.2.2.2.2.1,K0.out.2.2.2.2.2,λ_ h=>absurd h aa,λ_ _ h=>absurd h aa⟩
   case round=>
    obtain⟨j,d,hj,rfl,hK⟩:=hrel;obtain⟨g,f,P,r,E,D,C,y8⟩:=hK.out;clear hK K0;by_cases gc:j<k
    ·have tu:(j:Int)<k:=by omega
     obtain⟨A',c',J,K,Z,Pi⟩:=HC.out j im;have sc:=(f.cell b (o+j) aa).trans J;have wC:=f.size;have T:=af (MJ c' cnt I (K.q f hB) rfl ⟨Z,Pi⟩ aa (HE.out.q f hB) (K1.out.q f) (K2.out.q f));have KK:=af (TO g (TO f (TO P (TO r (TO E (TO D (TO C y8)))))));clear g f P r E D C y8 J K Z Pi;go_wp2;refine T.out.mono ?_;intro e S hd;rw[Int.toNat_natCast] at hd;obtain⟨Ar,mr,cr,t,rfl,BO,tt,V⟩:=XJ (B:=w.heap.size) hd ahj.1 wC;obtain⟨g,f,P,r,E,D,C,y8⟩:=KK.out;obtain⟨u,hu⟩:∃u,u=Value.slice Ar mr cr:=⟨_,rfl⟩;rw[<-hu] at BO tt;have BW:=r.kept (w':=S) (row:=none) ⟨V.os,V.tape,V.output,V.size,λk hk _=>V.block k hk⟩ (Ej _)
     have Nm:S.cell? ⟨a,j,none⟩=some (Y none 0 0):=by rw[BW.cellAt j aa,List.getElem?_append_right aa,g,ajN,show k-j=(k-(j+1))+1 by omega,akl];rfl
     have ii:=BW.frozenAt j;have z4:=(BW.stored j u).1;rw[PS g gc u] at z4;have Fm:∀s,u.ownBlock=some s->s≠a:=λs F=>by have:=tt s F;omega
     have ahl:(S.setCell ⟨a,j,none⟩ u).heap.size=S.heap.size:=tZ
     have KZ:Hid ((d++[u]).length=j+1/\Q w (S.setCell ⟨a,j,none⟩ u)/\a<(S.setCell ⟨a,j,none⟩ u).heap.size/\(S.setCell ⟨a,j,none⟩ u).ownsRow a 53 1 (Y (some ⟨a,0,none⟩) k k) k ((d++[u])++an (k-(j+1)) (Y none 0 0))/\
       ak (S.setCell ⟨a,j,none⟩ u) p0 66 (#[U O W,U O H,a9 I,U O q,Y (some ⟨b,o,none⟩) k c,Y (some ⟨a,0,none⟩) k k]:Array rl)/\ak (S.setCell ⟨a,j,none⟩ u) (w.heap.size+1) 66 (#[U O 0,U O 0,a9 false,U O 0,Y none 0 0,Y none 0 0]:Array rl)/\(∀i,i<j+1->ng w.heap.size cnt (S.setCell ⟨a,j,none⟩ u) (eW (aU ls i) cnt I) ((d++[u])[i]?.getD undef))/\(∀i s,i<j+1->((d++[u])[i]?.getD undef).ownBlock=some s->s≠a)):=by
      refine⟨by simp[g],(f.trans V).set (by show w.heap.size<=a;omega) _,by have:=V.size;omega,z4,(E.q V).aN (p:=⟨a,j,none⟩) (by show p0≠a;omega) _,(D.q V).aN (p:=⟨a,j,none⟩) (by show w.heap.size+1≠a;omega) _,λi hi=>?_,λi s hi F=>?_⟩
      ·by_cases h:i<j
       ·rw[rJ d u i aa];exact((C i h).q V).aN (λs F=>y8 i s h F) u
       ·obtain rfl:i=d.length:=by omega
        rw[uQ];subst g;exact BO.aN Fm u
      ·by_cases h:i<j
       ·rw[rJ d u i aa] at F;exact y8 i s h F
       ·obtain rfl:i=d.length:=by omega
        rw[uQ] at F;exact Fm s F
     rw[hu] at KZ;clear KK g f P r E D C y8 z4 BW Fm T hu BO tt ahl hd;go_wp2;go_roundw;case rel=>exact⟨j+1,d++[_],aa,aH,KZ.out⟩
     case measure=>exact bg
    ·have ahm:j=k:=by omega
     subst ahm;rw[ajN,List.replicate_zero,List.append_nil] at r;have pc:=E.cell;have KK:=af (TO g (TO f (TO P (TO r (TO E (TO D C))))));clear g f P r E D C y8;obtain⟨wo,rfl⟩:∃wo:ns,wo=wr:=⟨_,rfl⟩;go_wp2;go_loopw[32] (λv wx=>∃i:Nat,i<=j/\v=U O i/\wo=wx/\Hid (∀l,l<i->∃L,eW (aU ls l) cnt I=some L)) (λv _=>j-(intOf v).toNat)
     case atStart=>exact⟨0,aa,rfl,rfl,λl h=>absurd h aa⟩
     case round=>
      obtain⟨i,hi,rfl,rfl,Je⟩:=hrel;obtain⟨g,f,P,r,E,D,C⟩:=KK.out;by_cases Vx:i<j
      ·have hii:(i:Int)<j:=by omega
       have M:=C i Vx;have Jf:=r.cellAt i aa
       have Jg:d[i]?=some (d[i]?.getD undef):=by have:i<d.length:=aa;rw[aiX this];rfl
       rw[Jg] at Jf;cases hR:eW (aU ls i) cnt I with
       |none=>rw[hR] at M;rw[show d[i]?.getD undef=Y none 0 0 from M] at Jf;have en:=ahh;have HR:=af hR;clear g P r E C M Jg hR Je KK;go_wp2_with(refine fw (cs':=(#[U O 0,U O 0,a9 false,U O 0,Y none 0 0,Y none 0 0]:Array rl)) rfl _ _ _ rfl rfl _ rfl rfl D rfl iq ai ?_;intro w9 b9 g9 s9);have bz:=b9.cell;exact aiA (v:=dl #[a5 (#[U O 0,U O 0,a9 false,U O 0,Y none 0 0,Y none 0 0]:Array rl),a9 false]) Cz rfl ⟨f.grown g9 (λk e=>by have:=aL e;omega),.inr ⟨rfl,i,Vx,HR.out⟩⟩
       |some L=>
        rw[hR] at M;obtain⟨gl,cl,hv,_⟩:=M;rw[hv] at Jf;have en:=ahi;have HR:=af hR;clear g f P r E D C Jg hR hv;go_wp2;go_roundw
        case rel=>
         refine⟨i+1,aa,aH,trivial,λl hl=>?_⟩;by_cases h:l<i
         ·exact Je.out l h
         ·obtain rfl:l=i:=by omega
          exact⟨L,HR.out⟩
        case measure=>exact bg
      ·have ahn:i=j:=by omega
       subst ahn;have pc:=E.cell;have YY:=af (TO g (TO f (TO r (TO D C))));have we:=D.lt;clear g f P r E C KK;go_wp2_with(refine fw (cs':=(#[U O W,U O H,a9 I,U O q,Y (some ⟨b,o,none⟩) i c,Y (some ⟨a,0,none⟩) i i]:Array rl)) rfl _ _ _ rfl rfl _ rfl rfl D rfl iq ai ?_;intro w9 b9 g9 s9);have bz:=b9.cell;obtain⟨g,f,r,_,C⟩:=YY.out;have q9:=f.grown g9 (λk e=>by have:=aL e;omega);refine aiA (v:=dl #[a5 (#[U O W,U O H,a9 I,U O q,Y (some ⟨b,o,none⟩) i c,Y (some ⟨a,0,none⟩) i i]:Array rl),a9 true]) Cz rfl ⟨q9,.inl ⟨a,rfl,λl hl=>?_⟩⟩;obtain⟨L,hL⟩:=Je.out l hl;have Jh:=C l hl;rw[hL] at Jh;obtain⟨gl,cl,hv,ol⟩:=Jh;have g0:=r.cellAt l aa
       have hvl:d[l]?=some (d[l]?.getD undef):=by have:l<d.length:=aa;rw[aiX this];rfl
       rw[hvl,hv] at g0;have x9:av [w.heap.size+1] wo w9:=av.dQ g9;have hgo:=(yJ wo _ g0);refine⟨L,gl,cl,hL,(mR x9 hgo aA).trans g0,ol.Aw x9 λjj hjj hm=>?_⟩;simp only[List.mem_singleton] at hm;subst hm;exact ol.FR D aq hjj
end
section
open Go.RowKit
def qB(q:Int):Bool:=decide (0<=q/\q<=15)
end
section
open Go.RowKit
def rB(base a:Int):Bool:=qB base&&decide (0<=a/\a<=base)
def aeZ(h:Tb w){p:aiI}(b:p.block≠2)(u:rl):Tb (w.setCell p u):=⟨by simpa[World.setCell] using h.pos,λq hq=>(nN (a:=⟨2,q,none⟩) (iI w p u 2 (kS b))).trans (h.at_ q hq)⟩
def cn:List Int:=an 16 0
def Rf{f:Nat->Int}{M:Int}(h:∀k,k<16-> -M<=f k/\f k<=M):aS (a6 f 16) M=true:=by unfold aS a6;rw[List.all_eq_true];intro y a;obtain⟨k,b,rfl⟩:=nS.1 a;exact decide_eq_true (h k (by simpa using b))
end
end Go.Proofs.Q0
