import Derived.Test.YtfmnlpedhgficaaGreatDoorK22
set_option maxRecDepth 100000
set_option maxHeartbeats 8000000
set_option linter.all false
open Go.Value renaming int->U,slice->Y,bool->a5,agg->a9,pointer->bi,tuple->ci,iface->em
open Go.IntKind renaming i64->O
open Go.Obj renaming cells->ac
open Go.Ending renaming returned->be
open And renaming intro->Vn
open Array renaming getElem?_eq_getElem->ajB,getElem?_setIfInBounds_ne->ajp,getElem?_setIfInBounds_self_of_lt->ajN,replicate_succ->alw,replicate_zero->alx
open Bool renaming false->Bz,true->AT
open Go renaming Addr->ajF,Calls->aiK,Goroutine->BE,Value->so,World->AS,bodyPost_ret->ajz,execOp->ajA
open Go.Conc renaming stepG_region_end->Kx
open Go.Instr renaming field->akI,loadAt->akB
open Go.IntKind renaming i64->EV
open Go.World renaming cell?->ajQ,size_alloc->OF
open List renaming append_toArray->alM,cons_append->akf,getElem?_eq_getElem->ajK,length_cons->ajE,length_nil->akU,lookup->akw,nil_append->akH,replicate->rl,replicate_succ->akg
open Nat renaming reduceAdd->akl,sub_self->akF
open Option renaming getD_some->ajG,none->ns,some->an
namespace Go.Proofs
def LJ{p:Prop}(h:p:=by
  congr 1;apply Array.ext
  ·simp[h2]
  ·intro j h3 h4
   match j with
   |0=>rfl
   |1=>rfl
   |j+2=>omega):p:=h
def fH{p:Prop}(h:p:=by simp[Value.oneCell']):p:=h
def Di{p:Prop}(h:p:=by simp[results,Tryz.results53,go_sem,agy,bz]):p:=h
abbrev zw:=@Go.World.block_lt_of_cell?
end Go.Proofs
namespace Go.Proofs.Q0.Open
open Go.Proofs.Tryz
variable{wc:AS}
section
open Go.Conc Go.RowKit aL
variable[aC]
section
variable{Q:BE->Array Obj->Prop}{b:Frame}{Z a:Act}{k:List Item}{cs:List Frame}{wg:AS}{B:dc}{x0:BE×AS}
def abi{t:TypeId}(c:∀w,(isAgg t).run Gz.prog w=.ok Bz w){w:AS}{p:ajF}{x:so}(h:w.cell? p=an x):(akB t (.pointer (an p))).run Gz.prog w=.ok x w:=by
 have e:(akB t (.pointer (an p))).run Gz.prog w=(load p).run Gz.prog w:=by show(isAgg t>>=λq=>if q=AT then _ else load p).run Gz.prog w=_;rw[Sem.run_bind,c];rfl
 rw[e];simp[h]
def acX:∃o,xq[2]?=an o/\o.op=.call {callee:=.value (.func 75),args:=#[.tmp 27,.tmp 21,.tmp 24],argTypes:=#[62,3,4]}/\o.guard=ns/\o.dst=an 28:=⟨_,rfl,rfl,rfl,rfl⟩
structure LR(K:aH)(i7:Ren)(N0 nc:Nat)(uE:Nat->Ren)(vm:Nat->so)(hM:Array Obj)(i:Nat)(u:Nat->so)(ψ:Ren)(h:Array Obj):Prop where
 rel:HR K ψ h hM
 le:Ren.le i7 ψ
 kR:∀b c,ψ b=an c->i7 b=an c\/(N0+2<=b/\∃k a,k<i/\nc<=a/\uE k a=an c)
 val:∀k,k<i->VR ψ (u k) (G8 (vm k))
structure SN(J:ag)(Kc:aH)(i7:Ren)(B:dc)(vg:Nat->so)(wc:AS)(uE:Nat->Ren)(y:Nat->BE×AS)(v vm:Nat->so)(hM:Array Obj)(n1:Nat):Prop where
 V1:∀k,k<B.sn->VX J Gz.prog Kc i7 (uE k) 75 #[vg k,U O (EV.wrap (B.W.tdiv 8)),.bool B.I] wc (y k) (v k) (vm k) hM n1
 apart:∀k k',k<B.sn->k'<B.sn->k≠k'->∀a a' c,wc.heap.size<=a->wc.heap.size<=a'->uE k a=an c->uE k' a'≠an c
 lt:∀b c,i7 b=an c->c<n1
 own:∀k,k<B.sn->∀a c,wc.heap.size<=a->uE k a=an c->n1<=c
 shape:∀k,k<B.sn->∃s l c t,vm k=.tuple #[.slice s l c,.bool t]
def agz{J:ag}(hJI:ag.Le J aC.toag){K Kc:aH}(hB:@dA (ag.exact J Gz.prog.funcs) Gz.prog)(hC:@ee (ag.exact J Gz.prog.funcs) Gz.prog)(mt:@cO (ag.exact J Gz.prog.funcs) Gz.prog)(hG:Kc.G=Gz.prog.globals.size)(hF:@dY (ag.exact J Gz.prog.funcs) Gz.prog Kc)
  {i7:Ren}{vg:Nat->so}{M:Nat->Ren}{y:Nat->BE×AS}{v vm:Nat->so}{hM:Array Obj}{n1:Nat}(hR:SN J Kc i7 B vg wc M y v vm hM n1)(Jt:wc.heap.size=wg.heap.size)
  (Ji:Kc.G=K.G)(hGn:K.G<=wc.heap.size)(hf:J.ok 75)(V:∀k,k<B.sn->@aw (ag.exact J Gz.prog.funcs) (Ren.gF i7) #[vg k,U O (EV.wrap (B.W.tdiv 8)),.bool B.I] #[vg k,U O (EV.wrap (B.W.tdiv 8)),.bool B.I])
  (X:∀h:Array Obj,wg.heap.size<=h.size->(∀b,b<wg.heap.size->h[b]?=wg.heap[b]?)->@HR (ag.exact J Gz.prog.funcs) Kc (Ren.gF i7) wc.heap h)(hv:@gE (ag.exact J Gz.prog.funcs) (Ren.gF i7))(ii:∀b,wc.heap.size<=b->¬J.cl b)(gt:0<cs.length)
  (m:b.kind≠.early)(rz:B.sn<=4)(UD:∀i,i<B.sn->wg.cell? (B.sa.add i)=an (vg i)):
  ∀r i,i+r=B.sn->∀a C ψ u,At Q b cs x0 Z (lg B wg.heap.size i) (.code gD::.inLoop gD::.inBlock 51::.code dB::k) a C->LM wg.heap B u i C.heap->LR K i7 wg.heap.size wc.heap.size M vm hM i u ψ C.heap->
   ∃a' w' q u',At Q b cs x0 Z (lg B wg.heap.size B.sn) (.code dB::k) a' w'/\fO Gz.prog (G (b.at a' (.code dB::k)) cs,w') x0/\LM wg.heap B u' B.sn w'.heap/\LR K i7 wg.heap.size wc.heap.size M vm hM B.sn u' q w'.heap:=by
 intro r
 induction r with
 |zero=>intro i hi a C ψ u h f x;obtain rfl:i=B.sn:=aa;obtain⟨a,h⟩:=((h.to stepG_seq).rg [0]).kS (.bool Bz) C m (hr:=by simp only[ajA,aP];simp[go_sem,ey,h.tm,akw,lg]);replace h:=(h.to Kx).pG Bz;have⟨n,w⟩:=h.w.to (pX λ_ e=>by cases e) (stepG_exit rfl);exact⟨a,C,ψ,u,(h.to (stepG_exit rfl)).sub _,h.n.bj n,f,x⟩
 |succ r ih=>
  intro i hi a C ψ u h f x;have g:i<B.sn:=aa;have D:(i:Int)<(B.sn:Int):=aa;obtain⟨a,h⟩:=((h.to stepG_seq).rg [0]).kS (.bool AT) C m (hr:=by simp only[ajA,aP];simp[go_sem,ey,h.tm,akw,lg,g,D]);obtain⟨a,h⟩:=((((h.to Kx).pG AT).to stepG_skip).rg [0,1,2,3,4,5,6,7]).kS (.pointer (an (B.sa.add i))) C m (hr:=by simp only[ajA,aP];simp[go_sem,h.tm,akw,lg,g,D])
  have wM:C.cell? (B.sa.add i)=an (vg i):=by
   have h0:=UD i g
   have aV:(B.sa.add i).block<wg.heap.size:=by
    rcases dg (B.sa.add i).block wg.heap.size with h|h
    ·exact h
    ·simp[ajQ,Array.getElem?_eq_none h] at h0
   rw[<-h0];simp only[ajQ,f.old _ aV]
  obtain⟨a,h⟩:=h.kS (vg i) C m (hr:=by simp only[ajA,aP];rw[h.ev (i:=26) rfl];show(akB 62 (.pointer (an (B.sa.add i)))>>=λv=>pure (Next.value v)).run Gz.prog _=_;rw[Sem.run_bind,abi (λw=>(Gz.Sf _ _).trans (isAgg62 w)) wM];rfl);obtain⟨o,ho,pl,Jo,hd⟩:=acX;obtain⟨hn,hW⟩:=h.w.to (pX λ_ e=>by cases e) (stepG_enter ho C7 m (run_call_body pl (Gz.mU func75 al) G5 aD));have ea:(#[.tmp 27,.tmp 21,.tmp 24]:Array Operand).map a.eval=#[vg i,U O (EV.wrap (B.W.tdiv 8)),.bool B.I]:=by simp;exact⟨h.ev rfl,h.ev rfl,h.ev rfl⟩
  rw[ea] at hW hn
  obtain⟨q,vx,N,hx,S,agA,E,ai9,p,agB⟩:=Zc (b0:=b.at a (.inRegion xq (2::[3,4,5,6,7])::.inLoop gD::.inBlock 51::.code dB::k)) (B0:=cs) hJI hB hC mt hG hF (hR.V1 i g) Ji hGn hf (V i g) (X _ (by have:=f.size;omega) f.old) hv
   x.rel x.le (by rw[Jt];have:=f.size;omega) (λb d hbd a ha pI=>by
    rcases x.kR b d hbd with h|⟨_,F,a',V2,RT,h⟩
    ·have h1:=hR.lt _ _ h;have h2:=hR.own i g a d ha pI;omega
    ·exact hR.apart F i aa g aa a' a d RT ha h pI) ii gt
  replace hW:=hW.TH hx;have hN:fP _ _ _:=.inr (fO.trans hx (h.n.bj hn));rw[Frame.finish_at,ho,show(an o).bind (·.dst)=an 28 from hd] at hW hN;obtain⟨s,l,c,t,V3⟩:=hR.shape i g
  obtain⟨us,Jc,P⟩:∃us,vx=.tuple #[us,.bool t]/\@VR aC.toag q us (.slice s l c):=by
   rw[V3] at E;cases E with
   |@tuple xs _ hs hx=>
    have h2:xs.size=2:=hs;have e0:=hx 0 xs[0] (.slice s l c) (eQ aa) rfl;have e1:=hx 1 xs[1] (.bool t) (eQ aa) rfl;refine⟨xs[0],?_,e0⟩
    have e2:xs[1]=.bool t:=by generalize xs[1]=z at e1;cases e1 with|bool=>rfl|aW _ h=>exact absurd rfl (h.2.2 _)
    rw[<-e2];exact LJ
   |aW _ h=>exact absurd rfl (h.2.1 _)
  subst Jc;obtain⟨a,h⟩:=h.put (d:=28) al hW hN;obtain⟨a,h⟩:=h.kS us N m (hr:=by simp only[ajA,aP];simp[go_sem,h.tm,akw]);obtain⟨a,h⟩:=h.kS (.pointer (an ⟨wg.heap.size,i,ns⟩)) N m (hr:=by simp only[ajA,aP];simp[go_sem,h.tm,akw,lg,g,D]);obtain⟨vs,Jm,agC,H⟩:=f.row;have Ju:N.heap[wg.heap.size]?=an (.cells vs 63):=(p _ (by have:=f.size;omega)).trans agC
  have Jv:N.cell? ⟨wg.heap.size,i,ns⟩=an (.slice ns 0 0):=by simp only[ajQ,Ju];have:=H i g;rw[if_neg aa] at this;exact this
  have CC:N.frozen? ⟨wg.heap.size,i,ns⟩=Bz:=by simp[World.frozen?,Ju]
  obtain⟨R,V4⟩:∃R,R=N.setCell ⟨wg.heap.size,i,ns⟩ us:=⟨_,rfl⟩;have A:R.heap=N.heap.setIfInBounds wg.heap.size (.cells (vs.setIfInBounds i us) 63):=by rw[V4];exact Eb Ju rfl
  have aiG:(∀xs,us≠.agg xs)/\∀xs,us≠.tuple xs:=⟨λxs e=>(by subst e;cases P),λxs e=>(by subst e;cases P)⟩
  replace h:=h.nil R m (hr:=by rw[V4];simp only[ajA,aP];cases P<;>first|(simp[go_sem,stored,Jv,CC,h.tm,akw];done)|(simp[go_sem,stored,Jv,CC,h.tm,akw];simp[store,Sem.run,Jv,CC]))
  have hw:EV.wrap ((i:Int)+1)=(i:Int)+1:=za;obtain⟨a,h⟩:=h.kS (U O ((i:Int)+1)) R m (hr:=by simp only[ajA,aP];simp[go_sem,ey,h.tm,akw,lg,hw]);obtain⟨a,h⟩:=h.kS (U O ((i:Int)+1)) R m (hr:=by simp only[ajA,aP];simp[go_sem,h.tm,akw]);have ahq:R.heap.size=N.heap.size:=by rw[A];simp
  have L:∀c,c≠wg.heap.size->R.heap[c]?=N.heap[c]?:=λc hc=>by rw[A,ajp (Ne.symm hc)]
  have G':=f.size
  have T:∀b c,q b=an c->i7 b=an c\/(wg.heap.size+2<=b/\∃k a,k<i+1/\wc.heap.size<=a/\M k a=an c):=λb c JT=>by
   rcases agB b c JT with h|⟨h1,a2,h2,h3⟩
   ·rcases x.kR b c h with h|⟨h1,F,a',V2,h2,h3⟩
    ·exact .inl h
    ·exact .inr ⟨h1,F,a',aa,h2,h3⟩
   ·exact .inr ⟨aa,i,a2,aa,h2,h3⟩
  have hnC:∀c,q wg.heap.size≠an c:=λc hc=>by
   rcases T _ c hc with h|⟨h,_⟩
   ·have:=(hR.V1 i g).VY _ _ h;omega
   ·omega
  refine ih (i+1) aa a R q (λj=>if j=i then us else u j) (((h.to Kx).to stepG_inLoop).sub _) ⟨aa,λc hc=>?_,⟨vs.setIfInBounds i us,by simpa using Jm,?_,λj hj=>?_⟩,?_⟩ ⟨?_,Ren.le_trans x.le S,T,λF V2=>?_⟩
  ·rw[L c aa,p c aa,f.old c hc]
  ·rw[A,ajN aa]
  ·by_cases e:j=i
   ·subst e;rw[ajN aa,if_pos aa,if_pos rfl]
   ·rw[ajp (Ne.symm e),H j hj,if_neg e];by_cases h1:j<i
    ·rw[if_pos h1,if_pos aa]
    ·rw[if_neg h1,if_neg aa]
  ·rw[L _ aa,p _ aa];exact f.box
  ·exact@HR.SM aC.toag _ _ _ _ _ agA aa λb c JT=>L b (λe=>by subst e;exact hnC c JT)
  ·by_cases e:F=i
   ·subst e;show@VR aC.toag q (if F=F then us else u F) _;rw[if_pos rfl,V3];exact P
   ·show@VR aC.toag q (if F=i then us else u F) _;rw[if_neg e];exact@VR.mono aC.toag _ _ _ _ (x.val F aa) S
end
end
section
open Go.Conc Go.ConcN Go.RowKit aL
open Go.ConcR (Payload)
variable[aC]
def CH(w:AS)(a:ajF):Prop:=∃o,w.heap[a.block]?=an o/\(∀x y,o≠.view x y)/\∀cs t f,o≠.cells cs t f
structure SO(w:AS)(v:so)(a1 a2:ajF):Prop where
 data:∃p m c,v=.slice p m c/\(m:Int)<9223372036854775808/\((p=ns/\m=0)\/∃pa,p=an pa/\∀j,j<m->∃x,w.cell? (pa.add j)=an (.int .u8 x))/\m<=c/\(c:Int)<9223372036854775808
 e1:w.cell? ⟨2,0,ns⟩=an (.iface 240 (.pointer (an a1)))
 e2:w.cell? ⟨3,0,ns⟩=an (.iface 240 (.pointer (an a2)))
 c1:CH w a1
 c2:CH w a2
def wU:Prop:=∀(w:AS)(v:so)(d e:ajF)(many:Int)(ap:Bool),SO w v d e->aiK Gz.prog 75 #[v,U O many,.bool ap] w λ|be v,_=>(∃s l c t,v=.tuple #[.slice s l c,.bool t])|_,_=>False
structure Env where
 J:ag
 le:ag.Le J aC.toag
 gl:∀g,J.gl g->aC.toag.gl g
 fs:J.fs=Tryz.prog.funcs
 SP:∀c c',¬J.dM c c'
 dec:J.ok 75
 SQ:@dA J Gz.prog
 cd:@ee J Gz.prog
 zero:@cO J Gz.prog
 fns:∀K:aH,K.G=Gz.prog.globals.size->@dY J Gz.prog K
 aeH:@dA (ag.exact J Gz.prog.funcs) Gz.prog
 cdX:@ee (ag.exact J Gz.prog.funcs) Gz.prog
 agD:@cO (ag.exact J Gz.prog.funcs) Gz.prog
 jx:∀K:aH,K.G=Gz.prog.globals.size->@dY (ag.exact J Gz.prog.funcs) Gz.prog K
 g1:aC.toag.gl 2
 g2:aC.toag.gl 3
 TS:@cO aC.toag Gz.prog
 np:@oq aC.toag Gz.prog
 rest:@eF aC.toag Gz.prog 53 dB
def Env.two(E:Env):@Program.two E.J Gz.prog=Tryz.prog:=by unfold Program.two;rw[E.fs];rfl
def afF:∀r∈Tryz.f75.results,∃t,r=.tmp t:=aj
def afG:Gz.prog.inits.idxOf? 75=ns:=by have h:Tryz.prog.inits.idxOf? 75=ns:=aj;exact h
def Fg{wg:AS}{a:ajF}{v:so}(h:wg.cell? a=an v){X:Nat->Bool}(d:X a.block=Bz)(hc:wc.heap=ki X wg.heap):wc.cell? a=an v:=by
 unfold ajQ at h⊢;rw[hc];cases c:wg.heap[a.block]? with
 |none=>rw[c] at h;cases h
 |some o=>rw[c] at h;cases o with|cells cs t f=>rw[aen d c];exact h|_=>cases h
def RV{K:aH}{φ:Ren}{h q:Array Obj}(r:HR K φ h q){a:ajF}(g:∃c,φ a.block=an c)(m:K.tok a.block){X:Nat->Bool}(hc:wc.heap=ki X h):CH wc a:=by obtain⟨c,g⟩:=g;obtain⟨o,v,h1,w,u⟩:=r.obj _ _ g;have d:∀{p:Obj},iE (X a.block) o=p->(∀x y,p≠.view x y)->(∀cs t f,p≠.cells cs t f)->CH wc a:=λe i j=>⟨_,by rw[hc,vF,h1];exact congrArg an e,i,j⟩;cases u with|own _ n=>exact absurd m n|shut _ _ n=>exact absurd m n|token s p=>exact d rfl (λ_ _ e=>by cases e) (λ_ _ _ e=>by cases e)|blank s p=>exact d rfl (λ_ _ e=>by cases e) (λ_ _ _ e=>by cases e)|num l=>exact d rfl (λ_ _ e=>by cases e) (λ_ _ _ e=>by cases e)
def afH{E:Env}(ahU:wU){K:aH}(hG:K.G=Gz.prog.globals.size)(ii:∀b,E.J.cl b<->K.tok b)
  {Q:BE->Array Obj->Prop}{B:List Frame}{Sh:Loc->Prop}{gs:Array BE}{a g:BE}{w wg:AS}{sl:Option (Nat×Nat)}{t:Trace}{q:Nat->Nat}{φ:Ren}
  (hA:@tu aC.toag g)(hW:bG Gz.prog Q g wg)(hD:@dK aC.toag Gz.prog K B φ g wg a w)(hF:dT Tryz.prog Sh gs w t q)(ha:gs[0]?=an a)(V5:lD Sh φ):
  ∃N IR a' w' qr t' q' ψ g' ux pD,runNT Tryz.prog N (crowd gs w sl) t=(.next (crowd IR w' qr),t')/\IR[0]?=an a'/\dT Tryz.prog pD IR w' t' q'/\lD pD ψ/\
   bG Gz.prog Q g' ux/\fO Gz.prog (g',ux) (g,wg)/\@dK aC.toag Gz.prog K B ψ g' ux a' w'/\Ren.le φ ψ/\jl w w'/\w.heap.size<=w'.heap.size/\(∀c,c<w.heap.size->w'.heap[c]?=w.heap[c]?)/\(∀b c,ψ b=an c->φ b=an c\/w.heap.size<=c)/\wg.heap.size<=ux.heap.size:=by
 have Hb:=E.two;obtain⟨F⟩:=aeB hD hA;obtain⟨b,Z,Z',k,k',cs,cs',hg,RT,ST,Hc,uF,agE,ahV,Ha,agF,hH,hv,jp⟩:=F;subst hg;subst RT;have pH:b.kind≠.early:=by rw[Hc];intro h;cases h
 have hz:Sz Z Z:=⟨rfl,by have:=uF.uw 40 ((aC.CB 40).2 ⟨.inl rfl,al⟩);omega⟩;have V6:Sz Z' Z':=⟨rfl,by rw[<-uF.size];exact hz.2⟩;have Jw:@VR aC.toag φ (Z.eval (.tmp 1)) (Z'.eval (.tmp 1)):=@cT.getD aC.toag _ _ _ _ uF 1 ((aC.CB 1).2 ⟨.inl rfl,al⟩);obtain⟨ca,AC,W,H,Qq,I,sa,n,c,a1,e1,e2,rK,S',rz,⟨r1,r2,yb,yc⟩,Ct⟩:=aeD hG pH hH hz Jw hv E.g1 E.g2 E.TS E.np hW;obtain⟨y,hy1,Cr⟩:=rK.rS;obtain⟨TU,a2,hA2⟩:=aeE hG pH hH rz Cr n 0 aa a1 (((Ct.to stepG_seq).to stepG_block).to stepG_loop);obtain⟨yf,rfl,_⟩:=TU 0 (av _) aa;obtain⟨uG,rfl,yd⟩:∃uG,y=.slice (an uG) n c/\AR φ yf uG:=by cases Cr with|slice _ _ h=>exact⟨_,rfl,h⟩|empty=>omega
 obtain⟨vg,UE⟩:∃vg:Nat->so,vg=λi=>(wg.cell? (yf.add i)).getD undef:=⟨_,rfl⟩;obtain⟨j3,Ie⟩:∃j3:Nat->so,j3=λi=>(w.cell? (uG.add i)).getD undef:=⟨_,rfl⟩
 have V7:∀i,i<n->∃p m cc,wg.cell? (yf.add i)=an (.slice p m cc)/\vg i=.slice p m cc/\(m:Int)<9223372036854775808/\((p=ns/\m=0)\/∃pa,p=an pa/\∀j,j<m->∃x,wg.cell? (pa.add j)=an (.int .u8 x))/\m<=cc/\(cc:Int)<9223372036854775808:=λi hi=>by obtain⟨s,e,p,m,cc,h1,h2⟩:=TU i (dk _) hi;cases e;exact⟨p,m,cc,h1,by rw[UE];simp[h1],h2⟩
 have V8:∀i,i<n->wg.cell? (yf.add i)=an (vg i):=λi hi=>by obtain⟨p,m,cc,h1,h2,_⟩:=V7 i hi;rw[h1,h2]
 have V9:∀i,i<n->w.cell? (uG.add i)=an (j3 i)/\@VR aC.toag φ (vg i) (j3 i):=λi hi=>by obtain⟨yv,h1,h2,_⟩:=@HR.cell aC.toag K φ wg w hH _ _ (yd.add i) _ (V8 i hi);exact⟨by rw[Ie];simp[h1],by rw[Ie];simp[h1,h2]⟩
 clear UE Ie;have eqv:ag.kP aC.toag E.J:=E.le.tokP.symm
 let X:Nat->Bool:=λ_=>Bz
 let S:aL.cJ:={φ,h0:=ki X wg.heap,h1:=w.heap,K:=aL.kJ X wg.heap K.G,os:=w.os,out:=w.output}
 have xj:S.h0.size=wg.heap.size:=sj;have hrel:@HR E.J S.K φ S.h0 w.heap:=HR.ago X eqv hH
 have Ig:@qk E.J S:=@qk.mk E.J S hrel (λb hb=>by
   rw[xj] at hb;by_cases ht:nY X wg.heap b
   ·exact .inr ht
   ·exact .inl ⟨hb,ht⟩) (λb hb=>by
   rw[xj] at hb;exact⟨λh=>absurd h.1 (pR.2 hb),λh=>absurd (Qs h) (pR.2 hb)⟩)
 let wc:AS:={wg with heap:=S.h0}
 have uH:S.K.G=Gz.prog.globals.size:=hG;have Jy:∀i,i<n->@VR E.J φ (vg i) (j3 i):=λi hi=>VR.inst eqv (V9 i hi).2;have Hd:@gE E.J φ:=λg hg=>hv g (E.gl g hg)
 have hdp:∀i,i<n->∀T d,SO (wc.on T d) (vg i) r1 r2:=λi hi T d=>by obtain⟨p,m,cc,h1,h2,h3,h4,h5⟩:=V7 i hi;refine⟨⟨p,m,cc,h2,h3,h4.imp_right λ⟨pa,e,h⟩=>⟨pa,e,λj hj=>?_⟩,h5⟩,Fg yb.cell (X:=X) rfl rfl,Fg yc.cell (X:=X) rfl rfl,RV hH yb.kR ((ii _).1 ((E.le.cl _).2 yb.cl)) (X:=X) rfl,RV hH yc.kR ((ii _).1 ((E.le.cl _).2 yc.cl)) (X:=X) rfl⟩;obtain⟨x,A⟩:=h j hj;exact⟨x,Fg A (X:=X) rfl rfl⟩
 let BM:dc:={cb:=AC.block,co:=AC.off,W,H,I,Q:=Qq,sa:=uG,sn:=n,sc:=c}
 let BG:dc:={cb:=ca.block,co:=ca.off,W,H,I,Q:=Qq,sa:=yf,sn:=n,sc:=c}
 let R:Nat->so->Array Obj->Prop:=λ_ v _=>∃s l c t,v=.tuple #[.slice s l c,.bool t]
 have SS:∀{v v':so}{χ:Ren},(∃s l c t,v=.tuple #[.slice s l c,.bool t])->@VR E.J χ v v'->∃s l c t,v'=.tuple #[.slice s l c,.bool t]:=by
  rintro v v' χ⟨s,l,c,t,rfl⟩ h;cases h with
  |@tuple _ ys hs A=>
   have h2:ys.size=2:=hs.symm;have q0:=A 0 (.slice s l c) ys[0] rfl (eQ aa);have q1:=A 1 (.bool t) ys[1] rfl (eQ aa)
   have e0:∃s' l' c',ys[0]=.slice s' l' c':=by generalize ys[0]=z at q0;cases q0 with|dV=>exact⟨_,_,_,rfl⟩|slice=>exact⟨_,_,_,rfl⟩|empty=>exact⟨_,_,_,rfl⟩
   have e1:ys[1]=.bool t:=by generalize ys[1]=z at q1;cases q1;rfl
   obtain⟨s',l',c',e0⟩:=e0;refine⟨s',l',c',t,?_⟩;rw[<-e0,<-e1];exact LJ
 have hJ:@kC E.J Gz.prog S (BX Gz.prog BM.sn vg wc BM.W BM.I R) BM.sn:=
  @kC.mk E.J Gz.prog S _ _ (λi hi=>@MX E.J Gz.prog S.K E.SQ E.cd E.zero uH (E.fns S.K uH) E.SP 75 Tryz.f75 (Gz.mU func75 al) afF afG E.dec _ _ wc φ w.heap
    (@Ic E.J φ _ _ _ _ _ _ (Jy i hi) (@VR.int E.J φ _ _) (@VR.bool E.J φ _)) hrel Hd (R i) λT _=>(ahU _ _ _ _ _ _ (hdp i hi T wc.drawn)).mono λe w' he=>by cases e<;>exact he)
   (λ_ _=>rfl) Hd E.dec (λi _ v h χ v' pF hr=>SS pF hr)
 have wM:∀{ad:ajF}{v:so},w.cell? ad=an v->ad=⟨ad.block,ad.off,ns⟩:=λ{ad v} h=>by have:=abd h;obtain⟨b,o,s⟩:=ad;simp only at this;rw[this]
 have Jz:=wM rK.rW
 have qT:∀m,AC.add m=⟨AC.block,AC.off+m,ns⟩:=λm=>by rw[Jz];simp[Addr.add]
 have ahW:qG BM w:=⟨by rw[<-Jz];exact rK.rW,by rw[<-qT];exact rK.rH,by rw[<-qT];exact rK.rI,by rw[<-qT];exact rK.rQ,by rw[<-qT];exact hy1⟩
 have pm:Z'.tmps[1]?=an (.pointer (an ⟨BM.cb,BM.co,ns⟩)):=by
  show Z'.tmps[1]?=an (.pointer (an ⟨AC.block,AC.off,ns⟩));rw[<-Jz];have aV:1<Z'.tmps.size:=by have:=V6.2;omega
  have h2:Z'.tmps.getD 1 undef=.pointer (an AC):=e2;rw[Array.getD_eq_getD_getElem?,ajB aV] at h2;rw[ajB aV];exact congrArg an h2
 obtain⟨N1,uC,w1,VZ,t1,q1,C,o,Wg,M,D,am,TV,ahX,P',ahY⟩:=@afE E.J Gz.prog S gs w sl t q Sh BM j3 vg wc R b Z' k' (cs'++B) Hb Ig (by rw[Hb];exact hF) rfl ⟨rfl,rfl⟩ V5 E.SQ E.cd E.zero uH (E.fns S.K uH) E.SP ahW (show n<=1000 by omega) (λi hi=>(V9 i hi).1) Jy
  ⟨_,rK.ar.block⟩ ⟨_,yd.block⟩ hJ pH ST V6 pm ha
 rw[Hb] at TV P';obtain⟨ads,agG,agH,as4,ane,L,agI,ahZ,P,Hf,aio⟩:=ahY;obtain⟨a3,w3,hL3,Ih⟩:=agw (B:=BG) pH rz hA2
 obtain⟨vk,BY⟩:∃vk:Nat->so,∀i,i<n->@VR E.J (D i).φ (vk i) (D i).val/\R i (vk i) (D i).x.2.heap/\jw Gz.prog (λu _=>u=vk i) (D i).x.1 (D i).x.2.heap:=by
  have h:∀i,∃v:so,i<n->@VR E.J (D i).φ v (D i).val/\R i v (D i).x.2.heap/\jw Gz.prog (λu _=>u=v) (D i).x.1 (D i).x.2.heap:=λi=>by
   by_cases hi:i<n
   ·obtain⟨⟨_,_,v,h1,h2,h3⟩,_⟩:=Hf i hi;exact⟨v,λ_=>⟨h1,h2,h3⟩⟩
   ·exact⟨undef,λh=>absurd h hi⟩
  exact⟨λi=>(h i).choose,λi hi=>(h i).choose_spec hi⟩
 have JA:SN E.J S.K φ BG vg wc (λi=>(D i).φ) (λi=>(D i).x) vk (λi=>(D i).val) w1.heap w.heap.size:=by
  refine⟨λi hi=>?_,λi i' hi kw g0 a a' c ha RT h1 h2=>?_,λb c JT=>(@HR.lt E.J _ _ _ _ hrel _ _ JT).2,λi hi a c ha hc=>?_,λi hi=>SS (BY i hi).2.1 (BY i hi).1⟩
  ·obtain⟨⟨h1,h2,_⟩,_⟩:=Hf i hi;refine⟨λb hb=>@qk.old E.J S Ig b hb,λb hb=>@qk.new E.J S Ig b hb,λb c JT=>(@HR.lt E.J _ _ _ _ hrel _ _ JT).1,h1,h2,(BY i hi).2.2,⟨_,@kC.qP E.J _ _ _ _ hJ i hi⟩,@Mem.rel E.J _ _ _ _ _ _ P i hi,(BY i hi).1,(@Mem.le E.J _ _ _ _ _ _ P) i hi,(@Mem.fresh E.J _ _ _ _ _ _ P) i hi⟩
  ·exact@Mem.apart E.J _ _ _ _ _ _ P i i' hi kw g0 c ⟨a,ha,h1⟩ ⟨a',RT,h2⟩
  ·exact(@Mem.l6 E.J _ _ _ _ _ _ P i c hi ⟨a,ha,hc⟩).1
 have ah0:0<(cs++[c0 Gz.prog]).length:=aj;have UF:w.heap.size<=w1.heap.size:=(@Mem.size E.J _ _ _ _ _ _ P);have agJ:@HR aC.toag K φ w3.heap w1.heap:=@HR.SM aC.toag _ _ _ _ _ (@HR.still aC.toag _ _ _ _ _ hH UF λb c JT=>(@Mem.old E.J _ _ _ _ _ _ P) c (@HR.lt aC.toag _ _ _ _ hH _ _ JT).2) (by have:=Ih.size;omega) λb c JT=>Ih.old b (@HR.lt aC.toag _ _ _ _ hH _ _ JT).1
 obtain⟨a4,w4,ψ,u,uI,hP4,Ii,qU⟩:=agz (B:=BG) (K:=K) (Kc:=S.K) E.le E.aeH E.cdX E.agD uH (E.jx S.K uH) (i7:=φ) (vg:=vg) (wc:=wc) JA xj rfl (by rw[show wc.heap.size=wg.heap.size from xj];exact(@HR.fZ aC.toag _ _ _ _ hH).1) E.dec
  (λi hi=>aw.id (@Ic E.J φ _ _ _ _ _ _ (Jy i hi) (@VR.int E.J φ _ _) (@VR.bool E.J φ _))) (λh h1 h2=>HR.Sy X Gz.prog.funcs eqv hH h1 h2) (λg hg=>Ren.zX (Hd g hg))
  (λb hb hc=>by
   have:=@HR.below aC.toag _ _ _ _ hH b (.inr ((ii b).1 hc));have h2:wg.heap.size<=b:=by rw[<-xj];exact hb
   omega) ah0 pH rz V8 n 0 (by show 0+n=n;omega) a3 w3 φ (λ_=>undef) hL3 Ih ⟨agJ,Ren.le_refl _,λb c h=>.inl h,λk hk=>absurd hk (ib _)⟩
 obtain⟨arr,Wa,ye⟩:=ahZ;obtain⟨vs,H9,Uu,ah1⟩:=Ii.row;have PA:K.G<=wg.heap.size/\K.G<=w.heap.size:=@HR.fZ aC.toag _ _ _ _ hH
 have Hg:∀m,M m->∀x,ψ x≠an m:=λm hm x A=>by
  have h1:=(@Mem.mlt E.J _ _ _ _ _ _ P m hm).1;rcases qU.kR x m A with h|⟨_,i,a,hi,ha,h⟩
  ·have h2:m<w.heap.size:=(@HR.lt aC.toag _ _ _ _ hH _ _ h).2;have h3:w.heap.size<=m:=h1;omega
  ·exact@Mem.main E.J _ _ _ _ _ _ P i hi m ⟨a,ha,h⟩ hm
 have BZ:∀j,j<2->ψ (wg.heap.size+j)=ns:=λj hj=>by
  cases e:ψ (wg.heap.size+j) with
  |none=>rfl
  |some c=>
   rcases qU.kR _ c e with h|⟨h,_⟩
   ·have:=(@HR.lt aC.toag _ _ _ _ hH _ _ h).1;omega
   ·omega
 have IM:∀j,¬aC.toag.cl (wg.heap.size+j):=λj h=>by have:=(@HR.cl aC.toag _ _ _ _ hH _ h).1;omega
 have B2:∀j,¬K.ro (wg.heap.size+j)/\¬K.tok (wg.heap.size+j):=λj=>⟨λh=>by have:=@HR.below aC.toag _ _ _ _ hH _ (.inl h);omega,λh=>by have:=@HR.below aC.toag _ _ _ _ hH _ (.inr h);omega⟩;have qV:∀m,M m->w.heap.size<=m:=λm hm=>(@Mem.mlt E.J _ _ _ _ _ _ P m hm).1
 have agK:@aw aC.toag ψ vs arr:=by
  refine@aw.mk aC.toag ψ _ _ (H9.trans ye.symm) λj x y A V=>?_;have hj:j<n:=by have:=(bE.1 A).1;rw[H9] at this;exact this
  rw[ah1 j hj,if_pos (show j<BG.sn from hj)] at A;cases A;have hh:w1.cell? ⟨C,j,ns⟩=an (G8 (D j).val):=(Hf j hj).2;have:w1.cell? ⟨C,j,ns⟩=arr[j]?:=by simp[ajQ,Wa]
  rw[this,V] at hh;cases hh;exact qU.val j hj
 obtain⟨l1,R1⟩:=@HR.link aC.toag K ψ _ _ qU.rel wg.heap.size C _ _ Uu Wa (BZ 0 aa) (Hg C L.1) (B2 0).1 (B2 0).2 rfl (by have:=qV C L.1;have:=PA.1;have:=PA.2;omega) (IM 0)
  (@OR.cells aC.toag _ _ _ _ _ (@aw.mono aC.toag _ _ _ _ agK λx y A=>by show(if x=wg.heap.size then an C else ψ x)=an y;rw[if_neg λe=>by subst e;rw[show ψ wg.heap.size=ns from BZ 0 aa] at A;cases A];exact A))
 have BC:∀x y,(ψ.add wg.heap.size C) x=an y->(x=wg.heap.size/\y=C)\/ψ x=an y:=λx y A=>by
  by_cases e:x=wg.heap.size
  ·subst e;rw[Ren.add_same] at A;cases A;exact .inl ⟨rfl,rfl⟩
  ·have:(ψ.add wg.heap.size C) x=ψ x:=if_neg e;rw[this] at A;exact .inr A
 have UG:Ren.le φ (ψ.add wg.heap.size C):=Ren.le_trans qU.le l1
 have agL:@aw aC.toag (ψ.add wg.heap.size C) (BG.full wg.heap.size) (BM.full C):=by
  refine@aw.mk aC.toag _ _ _ rfl λi x y A V=>?_
  match i,A,V with
  |0,A,V=>simp[dc.full,BG,BM] at A V;subst A;subst V;exact@VR.int aC.toag _ _ _
  |1,A,V=>simp[dc.full,BG,BM] at A V;subst A;subst V;exact@VR.int aC.toag _ _ _
  |2,A,V=>simp[dc.full,BG,BM] at A V;subst A;subst V;exact@VR.bool aC.toag _ _
  |3,A,V=>simp[dc.full,BG,BM] at A V;subst A;subst V;exact@VR.int aC.toag _ _ _
  |4,A,V=>simp[dc.full,BG,BM] at A V;subst A;subst V;exact@VR.slice aC.toag _ _ _ _ _ (yd.mono UG)
  |5,A,V=>simp[dc.full,BG,BM] at A V;subst A;subst V;exact@VR.slice aC.toag _ _ _ _ _ ⟨Ren.add_same _ _ _,rfl,rfl⟩
  |i+6,A,_=>simp[dc.full] at A
 have JB:=ane
 obtain⟨l2,R2⟩:=@HR.link aC.toag K (ψ.add wg.heap.size C) _ _ R1 (wg.heap.size+1) o _ _ Ii.box agI (by
   cases e:(ψ.add wg.heap.size C) (wg.heap.size+1) with
   |none=>rfl
   |some c=>
    rcases BC _ c e with⟨h,_⟩|h
    ·omega
    ·rw[BZ 1 aa] at h;cases h) (λx A=>by
   rcases BC x o A with⟨_,h⟩|h
   ·exact JB.1 h
   ·exact Hg o L.2.1 x h) (B2 1).1 (B2 1).2 rfl (by have:=qV o L.2.1;have:=PA.1;have:=PA.2;omega) (IM 1)
  (@OR.cells aC.toag _ _ _ _ _ (@aw.mono aC.toag _ _ _ _ agL (λx y A=>by
   show(if x=wg.heap.size+1 then an o else(ψ.add wg.heap.size C) x)=an y
   rw[if_neg (λe=>by
    subst e;rcases BC _ y A with⟨h,_⟩|h
    ·omega
    ·rw[BZ 1 aa] at h;cases h)]
   exact A)))
 obtain⟨ω,JC⟩:∃ω,ω=(ψ.add wg.heap.size C).add (wg.heap.size+1) o:=⟨_,rfl⟩;rw[<-JC] at l2 R2;have tN:Ren.le φ ω:=Ren.le_trans UG l2;have UH:ω (wg.heap.size+1)=an o:=by rw[JC];exact Ren.add_same _ _ _
 have GD:∀x y,ω x=an y->y=o\/y=C\/ψ x=an y:=λx y A=>by
  by_cases e:x=wg.heap.size+1
  ·subst e;rw[UH] at A;cases A;exact .inl rfl
  ·have:ω x=(ψ.add wg.heap.size C) x:=by rw[JC];exact if_neg e
   rw[this] at A;rcases BC x y A with⟨_,h⟩|h
   ·exact .inr (.inl h)
   ·exact .inr (.inr h)
 have agM:Goes Tryz.prog AT RA (DA (Jq Sh Wg) w1.heap.size) (λg WF=>g=G (b.at am (.code dB::k')) (cs'++B)/\∃d,WF=w1.at d) 1 (G (b.at am (.inRegion gS []::.code dB::k')) (cs'++B)) w1:=by refine jL rfl λw₁ r=>?_;obtain⟨d,rfl⟩:=r;rw[Kx];refine⟨Ge,?_⟩;exact fc λaja⟨d4,e⟩=>by subst e;exact⟨rfl,d4,rfl⟩
 obtain⟨N2,xZ,a2',DP,x7,t2,q2,agN,_,ah2,hF2,⟨rfl,d,rfl⟩,_,_⟩:=NU (by rintro g w⟨rfl,_⟩;rfl) _ _ uC _ w1 VZ t1 q1 (av _) agM P' ahX P'.low;refine⟨N1+N2,xZ,_,_,x7,t2,q2,ω,_,w4,Jq Sh Wg,by rw[runNT_add,TV];exact agN,ah2,hF2,λx y CI l hl=>?_,uI.w,hP4,?_,tN,aio,UF,λc hc=>(@Mem.old E.J _ _ _ _ _ _ P) c hc,λx y CI=>?_,by have:=Ii.size;omega⟩
 ·
  have ajb:=qV Wg L.2.2
  have aV:∀m,w.heap.size<=m->bI m l->¬Sh l:=λm hm hl hs=>by obtain⟨ad,rfl,pI⟩:=hF.shl l hs;have:=bI.inj hl (.inl ⟨_,rfl,rfl⟩);omega
  have hyW:y≠Wg:=by
   rcases GD x y CI with rfl|rfl|h
   ·exact JB.2.1
   ·exact JB.2.2
   ·intro e;subst e;exact Hg _ L.2.2 x h
  rintro(hs|⟨ad,rfl,pI⟩)
  ·rcases GD x y CI with rfl|rfl|h
   ·exact aV _ (qV _ L.2.1) hl hs
   ·exact aV _ (qV _ L.1) hl hs
   ·rcases qU.kR x y h with h|⟨_,i,a',hi,RT,h⟩
    ·exact V5 x y h l hl hs
    ·exact aV y (JA.own i hi a' y RT h) hl hs
  ·have:=bI.inj hl (.inl ⟨_,rfl,rfl⟩);exact hyW (this.trans pI)
 ·have agO:@eF aC.toag Gz.prog b.fn dB:=by rw[ST];exact E.rest
  refine⟨b.at a4 (.code dB::k),b.at am (.code dB::k'),cs,cs',rfl,rfl,?_,@iM.mono aC.toag _ _ _ _ _ Ha tN,R2,λg hg=>tN _ _ (hv g hg),jp.congr rfl⟩
  refine@eX.mk aC.toag _ _ _ _ rfl ?_ (@gW.cons aC.toag _ _ _ _ _ _ _ _ (@kO.code aC.toag _ _ _ _ _ _ (@iz.same aC.toag _ _ _ _ agO)) (by
    show@gW aC.toag Gz.prog ω b.fn AT k k';rw[ST];exact@gW.mono aC.toag _ _ _ _ _ _ _ agE tN)) (by
    show jB ω a4.defers am.defers;rw[uI.d,ads];exact ahV.mono tN) .run ⟨Hc,Hc⟩ .none (by
    show@pv aC.toag b.fn;rw[ST];exact agF)
  show@cT aC.toag ω (aC.toag.lv b.fn) a4.tmps am.tmps;rw[ST];have cM:a4.tmps.size=am.tmps.size:=by rw[uI.z.1,agH.1,uF.size]
  refine@cT.mk aC.toag _ _ _ _ cM (λi x y hi A V=>?_) (λi hi=>by rw[uI.z.1];exact uF.uw i hi);obtain⟨hk,ajc⟩:=(aC.CB i).1 hi;rcases hk with hk|rfl
  ·rw[uI.k i hk] at A;rw[agG i hk] at V;exact@VR.mono aC.toag _ _ _ _ (@cT.at_ aC.toag _ _ _ _ uF i x y hi A V) tN
  ·rw[uI.f 4 _ rfl] at A;rw[as4] at V;cases A;cases V;exact@VR.ptr aC.toag _ _ _ ⟨UH,rfl,rfl⟩
 ·rcases GD x y CI with rfl|rfl|h
  ·exact .inr (qV _ L.2.1)
  ·exact .inr (qV _ L.1)
  ·rcases qU.kR x y h with h|⟨_,i,a',hi,RT,h⟩
   ·exact .inl h
   ·exact .inr (JA.own i hi a' y RT h)
end
end Go.Proofs.Q0.Open
namespace Go.Proofs.Q0
open Go.Proofs.Tryz
variable{w:AS}{n B cnt:Nat}{W H:Int}{R:Option (List Int)}
section
open Go.RowKit
def gR(n:Int):Prop:=8<=n/\n<=32/\n%8=0
instance(n:Int):Decidable (gR n):=by unfold gR;infer_instance
def NV{n:Int}{t:Bool}(h:Hid (decide (gR n)=t)):
  aiK Gz.prog 80 #[U O n] w λe w'=>e=be (a5 t)/\w=w':=by
 obtain rfl:=h.out;unfold gR;exact Kn
def Z5{v:Int}{k:Nat}(h:k<n):(rl k v++rl (n-k) 0).set k v=rl (k+1) v++rl (n-(k+1)) 0:=by rw[List.set_append_right _ _ aj,List.length_replicate,akF,show n-k=(n-(k+1))+1 by omega,akg,List.set_cons_zero,List.replicate_succ',List.append_assoc];rfl
def Z7(V:Int)(w:AS)(A:Hid (gR W))(C:Hid (gR H))(D:Hid (0<=V/\V<=255))(M:W*H=n)(E:n<=1024):
  aiK Gz.prog 78 #[U O W,U O H,U O V] w λe w'=>∃v,e=be (a9 #[U O W,U O H,v])/\Own w' w.heap.size v n (rl n V)/\Q w w':=by
 have F:=af (decide_eq_true A.out);have G:=af (decide_eq_true C.out);have I:=af (decide_eq_true D.out);have x:=ak.new w 40 #[U O 0,U O 0,Y ns 0 0];have y:Q w (w.alloc (ac #[U O 0,U O 0,Y ns 0 0] 40)):=aU;go_enter Gz.gf func78,ntmps78;go_wp2;refine(NV F).mono ?_;rintro e w'⟨rfl,rfl⟩;go_wp2;refine(NV G).mono ?_;rintro e w'⟨rfl,rfl⟩;go_wp2;refine(MN _ I).mono ?_;rintro e w'⟨rfl,rfl⟩;go_wp2_with(at_make;refine Xk rfl rfl (w.alloc (ac #[U O 0,U O 0,Y ns 0 0] 40)) n rfl rfl rfl rfl aa (Q.refl _) ?_;intro j f q1 s1);rw[OF] at f s1;have z:=x.q q1;have c:=y.trans q1;have J:=f.block.2;have l:=f.alloc (ac #[U O W,U O H,Y (an ⟨w.heap.size+1,0,ns⟩) n n] 40);have o:=c.alloc (ac #[U O W,U O H,Y (an ⟨w.heap.size+1,0,ns⟩) n n] 40);have r:=z.alloc (ac #[U O W,U O H,Y (an ⟨w.heap.size+1,0,ns⟩) n n] 40);have d2:=ak.new j 40 #[U O W,U O H,Y (an ⟨w.heap.size+1,0,ns⟩) n n];clear x y f q1 s1 z c;generalize j.heap.size=m at J d2⊢;generalize j.alloc (ac #[U O W,U O H,Y (an ⟨w.heap.size+1,0,ns⟩) n n] 40)=N at l o r d2⊢;go_loopw[33] (λi wr=>∃k:Nat,k<=n/\i=U O k/\Q w wr/\ak wr w.heap.size 40 #[U O 0,U O 0,Y ns 0 0]/\ak wr m 40 #[U O W,U O H,Y (an ⟨w.heap.size+1,0,ns⟩) n n]/\Own wr (w.heap.size+1) (Y (an ⟨w.heap.size+1,0,ns⟩) n n) n (rl k V++rl (n-k) 0)) (λi _=>n-(intOf i).toNat)
 case atStart=>exact⟨0,dk _,rfl,o,r,d2,by simpa using l⟩
 case round=>
  obtain⟨k,P,rfl,hq,g,hd,b⟩:=hrel;clear o r d2 l;by_cases d:k<n
  ·have K:=hd.cell;have f1:=b.free k;have S:=b.at k d;have a:=af (b.set k V);have s:=af (g.aN (p:=⟨w.heap.size+1,k,ns⟩) (show w.heap.size≠w.heap.size+1 by omega) (U O V));have t:=af (hd.aN (p:=⟨w.heap.size+1,k,ns⟩) (show m≠w.heap.size+1 by omega) (U O V));have u:=af (hq.set (p:=⟨w.heap.size+1,k,ns⟩) (Nat.le_succ _) (U O V));clear hq g hd b;go_wp2;go_roundw;case rel=>exact⟨k+1,aa,aF,u.out,s.out,t.out,by have h:=a.out;rw[Z5 d] at h;exact h⟩
   case measure=>exact aT
  ·have K:=hd.cell;have L:=g.cell;have f2:=g.free;have:k=n:=aa;subst this;have a:=af b;clear b;go_wp2;refine ajz (v:=a9 #[U O W,U O H,Y (an ⟨w.heap.size+1,0,ns⟩) k k]) (by simp[results,results78,go_sem,L]) rfl ⟨_,rfl,?_,aU⟩;have h:=a.out;simp only[akF,List.replicate_zero,List.append_nil] at h;exact(((h.aN (p:=⟨w.heap.size,0,ns⟩) (Nat.lt_succ_self _) _).aN (p:=⟨w.heap.size,1,ns⟩) (Nat.lt_succ_self _) _).aN (p:=⟨w.heap.size,2,ns⟩) (Nat.lt_succ_self _) _).mono (Nat.le_succ _)
end
section
open Go.RowKit Go.WideShapes Go.ChangeShapes Go.Proofs.Q0.Open
def nZ(B cnt:Nat)(w:AS)(R:Option (List Int))(v:so):Prop:=match R with
 |some L=>∃gl cl,v=Y (an ⟨gl,0,ns⟩) cnt cl/\ay 97 71 w B (Y (an ⟨gl,0,ns⟩) cnt cl) cnt L
 |none=>v=Y ns 0 0
def nZ.q{w':AS}{v:so}(h:nZ B cnt w R v)(q:Q w w'):nZ B cnt w' R v:=by cases R with|none=>exact h|some L=>obtain⟨gl,cl,e,o⟩:=h;exact⟨gl,cl,e,o.q q⟩
def nZ.aN{v:so}(h:nZ B cnt w R v){p:ajF}(a:∀s,v.ownBlock=an s->s≠p.block)(u:so):nZ B cnt (w.setCell p u) R v:=by cases R with|none=>exact h|some L=>obtain⟨gl,cl,rfl,o⟩:=h;exact⟨gl,cl,rfl,o.1,ownsRow_setCell_other o.2 (λe=>a _ e rfl) u⟩
def Z8(xs:List Int):(strOfNums xs).size=xs.length:=by simp[strOfNums,ByteArray.size]
def SU(v:so)(w:AS):(Instr.typeAssert (em 240 v) 153 240 Bz).run Gz.prog w=.ok v w:=aE
def ah3(a b c d e:so)(w:AS):(akI 44 (a9 #[a,b,c,d,e]) 0).run Gz.prog w=.ok a w:=aE
def ah4(a b c d e:so)(w:AS):(akI 44 (a9 #[a,b,c,d,e]) 1).run Gz.prog w=.ok b w:=aE
def ah5(a b c d e:so)(w:AS):(akI 44 (a9 #[a,b,c,d,e]) 2).run Gz.prog w=.ok c w:=aE
def ah6(a b c d e:so)(w:AS):(akI 44 (a9 #[a,b,c,d,e]) 3).run Gz.prog w=.ok d w:=aE
def ah7(a b c d e:so)(w:AS):(akI 44 (a9 #[a,b,c,d,e]) 4).run Gz.prog w=.ok e w:=aE
def ah8(w:AS):(binOp .eql 63 (Y ns 0 0) (Y ns 0 0)).run Gz.prog w=.ok (a5 AT) w:=aE
def ah9(g:ajF)(n c:Nat)(w:AS):(binOp .eql 63 (Y (an g) n c) (Y ns 0 0)).run Gz.prog w=.ok (a5 Bz) w:=aE
def Yu{w':AS}{e:Ending}(h:FE R cnt w e w')(hc:1<=cnt)(d:B<=w.heap.size):∃A m c t,e=be (ci #[Y A m c,a5 t])/\nZ B cnt w' R (Y A m c)/\(∀s,(Value.slice A m c).ownBlock=an s->w.heap.size<=s)/\Q w w':=by
 obtain⟨h1,b⟩:=h;cases R with
 |none=>exact⟨ns,0,0,Bz,h1,rfl,λs a=>(by cases a),b⟩
 |some L=>obtain⟨v,f,o⟩:=h1;obtain⟨gl,cl,rfl⟩:=o.gC aa;exact⟨_,_,_,_,f,⟨gl,cl,rfl,o.mono d⟩,λs a=>o.below s a,b⟩
def agy:Gz.f53.results=Tryz.f53.results:=rfl
def aeI(I:Bool){q:Int}(A:Option ajF)(c:Nat)(w:AS)(d:iK W H q n=Bz):
  aiK Gz.prog 53 #[a9 (#[U O W,U O H,a5 I,U O q,Y A n c]:Array so)] w λe w'=>e=be (ci #[a9 (#[U O 0,U O 0,a5 Bz,U O 0,Y ns 0 0,Y ns 0 0]:Array so),a5 Bz])/\Q w w':=by
 have a:Q w ((w.alloc (ac (#[U O W,U O H,a5 I,U O q,Y A n c]:Array so) 44)).alloc (ac (#[U O 0,U O 0,a5 Bz,U O 0,Y ns 0 0,Y ns 0 0]:Array so) 80)):=aU;have i:=(ak.new w 44 (#[U O W,U O H,a5 I,U O q,Y A n c]:Array so)).alloc (ac (#[U O 0,U O 0,a5 Bz,U O 0,Y ns 0 0,Y ns 0 0]:Array so) 80);have b:=ak.new (w.alloc (ac (#[U O W,U O H,a5 I,U O q,Y A n c]:Array so) 44)) 80 (#[U O 0,U O 0,a5 Bz,U O 0,Y ns 0 0,Y ns 0 0]:Array so);rw[OF] at b;have T:=af λz=>N4 W H I q A n c z;rw[d] at T;refine calls_of_wp Gz.func53 rfl ?_;rw[show Gz.f53.ntmps=41 by kernel_rfl];simp only[List.size_toArray,ajE,akU,akl,Nat.reduceSub,alw,alx,List.push_toArray,alM,akH,akf];unfold l8 jm dB iG l7;dsimp only[Tryz.f53,ajG,Code.sl,Code.sr,gA,gB,gD,gM,Cb,Iy,Iz,xq,aP,ey];go_wp2;refine(T.out _).mono ?_;rintro e j⟨rfl,q1⟩;have f:=b.q q1;replace a:=a.trans q1;go_wp2_with(refine eP (cs':=(#[U O 0,U O 0,a5 Bz,U O 0,Y ns 0 0,Y ns 0 0]:Array so)) rfl _ _ _ rfl rfl _ rfl rfl f rfl fH ah ?_;intro l g h m);have bz:=g.cell;exact ajz (v:=ci #[a9 (#[U O 0,U O 0,a5 Bz,U O 0,Y ns 0 0,Y ns 0 0]:Array so),a5 Bz]) Di rfl ⟨rfl,a.grown h λk e=>by have:=aJ e;omega⟩
def oT{q:Int}(h:iK W H q n=AT):gR W/\gR H/\(0<=q/\q<=15)/\(n:Int)=H/8:=by unfold iK dO at h;simp only[Bool.and_eq_true,decide_eq_true_eq] at h;exact⟨h.1,h.2.1,h.2.2.1,h.2.2.2⟩
def aeJ:(Gz.prog.info? 63).map (λi=>(i.zero,i.size,i.bytes))=an (an (Y ns 0 0),1,24):=aE
def acY(I:Bool){q:Int}{A:Option ajF}(c:Nat){ls:List (List Int)}{a1 a2:ajF}(F:iK W H q n=AT)(hx:dH w B A ls)(hB:B<=w.heap.size)(hn:ls.length=n)(he:gw w a1 a2 B)(k1:dz w a1)(k2:dz w a2)(uk:W/8=(cnt:Int)):
  aiK Gz.prog 53 #[a9 (#[U O W,U O H,a5 I,U O q,Y A n c]:Array so)] w λe w'=>Q w w'/\((∃a,e=be (ci #[a9 (#[U O W,U O H,a5 I,U O q,Y A n c,Y (an ⟨a,0,ns⟩) n n]:Array so),a5 AT])/\(∀i,i<n->∃L gl cl,fj (aR ls i) cnt I=an L/\w'.cell? ⟨a,i,ns⟩=an (Y (an ⟨gl,0,ns⟩) cnt cl)/\ay 97 71 w' w.heap.size (Y (an ⟨gl,0,ns⟩) cnt cl) cnt L))\/
   (e=be (ci #[a9 (#[U O 0,U O 0,a5 Bz,U O 0,Y ns 0 0,Y ns 0 0]:Array so),a5 Bz])/\∃i,i<n/\fj (aR ls i) cnt I=ns)):=by
 have x:Q w ((w.alloc (ac (#[U O W,U O H,a5 I,U O q,Y A n c]:Array so) 44)).alloc (ac (#[U O 0,U O 0,a5 Bz,U O 0,Y ns 0 0,Y ns 0 0]:Array so) 80)):=aU;have bc:=(ak.new w 44 (#[U O W,U O H,a5 I,U O q,Y A n c]:Array so)).alloc (ac (#[U O 0,U O 0,a5 Bz,U O 0,Y ns 0 0,Y ns 0 0]:Array so) 80);have br:=ak.new (w.alloc (ac (#[U O W,U O H,a5 I,U O q,Y A n c]:Array so) 44)) 80 (#[U O 0,U O 0,a5 Bz,U O 0,Y ns 0 0,Y ns 0 0]:Array so);rw[OF] at br;have T:=af λz=>N4 W H I q A n c z;rw[F] at T;obtain⟨⟨w1,w2,w3⟩,⟨h1,h2,h3⟩,⟨q1,q2⟩,yg⟩:=oT F;have rz:n<=4:=aa;have S':1<=n:=aa;have ajd:(0:Int)<(n:Int):=aa;have aje:(n:Int)<5:=aa;have aia:1<=cnt/\cnt<=4:=aa;obtain⟨b,o,rfl,hb,hc⟩:=hx aa;have HC:=af hc;have HN:=af hn;have Jt:EV.wrap (cnt:Int)=(cnt:Int):=aB _ ⟨aa,aa⟩;have HNH:=af yg;have HE:=af he;have K1:=af k1;have K2:=af k2;have t0:=ah3;have t1:=ah4;have t2:=ah5;have t3:=ah6;have t4:=ah7;have Wb:=λw=>SU (bi (an a1)) w;have te2:=λw=>SU (bi (an a2)) w;clear F hx hc hn yg he k1 k2;refine calls_of_wp Gz.func53 rfl ?_;rw[show Gz.f53.ntmps=41 by kernel_rfl];simp only[List.size_toArray,ajE,akU,akl,Nat.reduceSub,alw,alx,List.push_toArray,alM,akH,akf];unfold l8 jm dB iG l7;dsimp only[Tryz.f53,ajG,Code.sl,Code.sr,gA,gB,gD,gM,Cb,Iy,Iz,xq,aP,ey];go_wp2;refine(T.out _).mono ?_;rintro e tY⟨rfl,qa⟩;have N:=br.q qa;have X:=bc.q qa;replace x:=x.trans qa;have E1:=HE.out.q x hB;have e1:tY.cell? ⟨2,0,ns⟩=an (em 240 (bi (an a1))):=E1.e1;have e2:tY.cell? ⟨3,0,ns⟩=an (em 240 (bi (an a2))):=E1.e2;have cc:=X.cell;have HT:=af (Vn X (Vn N (Vn x Wb)));clear bc br qa T E1;go_wp2;clear Wb te2 e1 e2 cc X N x t0 t1 t2 t3 t4;go_loopw[22] (λi wr=>∃k:Nat,k<=n/\i=U O k/\wr=tY) (λi _=>n-(intOf i).toNat)
 case atStart=>exact⟨0,aa,rfl,rfl⟩
 case round=>
  obtain⟨k,hk,rfl,rfl⟩:=hrel;obtain⟨X,N,x,_⟩:=HT.out;by_cases aV:k<n
  ·have i6:(k:Int)<n:=by omega
   obtain⟨A',c',J,K,Z,NE⟩:=HC.out k (by rw[HN.out];exact aV);have sc:=(x.cell b (o+k) aa).trans J;have cv:=oY (c:=c') (K.q x hB) rfl;have cM:=Z8 (aR ls k);generalize(aR ls k).length=m at sc cv cM Z;generalize strOfNums (aR ls k)=s at cv cM;unfold maxLen at NE;have hm1:(m:Int)<=9223372036854775807:=aa;have ajf:(c':Int)<=9223372036854775807:=aa;have hmc:(m:Int)<=(c':Int):=aa;clear X N x J K;go_wp2;go_roundw;case rel=>exact⟨k+1,aa,aF,trivial⟩
   case measure=>exact aT
  ·have jn:k=n:=by omega
   subst jn;obtain⟨i0,hi,mt,hz1,hz2⟩:=info_parts aeJ;have Hi:=af hi;clear hi;have JD:=af mt;clear mt;have JE:=af hz1;clear hz1;have xK:=af hz2;clear hz2;have HQ:=af (Vn X (Vn N x));clear X N x;go_wp2_with(at_make;refine wpList_make_full _ rfl (.tmp 16) (.tmp 16) 78 rfl wr.heap.size 63 i0 (Y ns 0 0) 1 (Gz.gu underlying78) Hi.out JD.out JE.out .i64 .i64 k k k rfl rfl rfl rfl uW kT (av _) ?_;intro G UI y);have IF:=y.size;have ho:G.ownsRow wr.heap.size 63 1 (Y (an ⟨wr.heap.size,0,ns⟩) k k) k (rl k (Y ns 0 0)):=by simpa[Value.cells,toList_madeCells_one] using UI
   have JF:Q wr G:=Q.iS y;have pm:wr.heap.size<G.heap.size:=(ho.lt _ rfl).2;obtain⟨X,N,x⟩:=HQ.out;have hsw:=x.size;have xG:=N.lt;generalize aib:wr.heap.size=a at ho pm hsw xG⊢
   have K0:Hid (([]:List so).length=0/\Q w (G.alloc (ac (#[U O W,U O H,a5 I,U O q,Y (an ⟨b,o,ns⟩) k c,Y (an ⟨a,0,ns⟩) k k]:Array so) 80))/\a<(G.alloc (ac (#[U O W,U O H,a5 I,U O q,Y (an ⟨b,o,ns⟩) k c,Y (an ⟨a,0,ns⟩) k k]:Array so) 80)).heap.size/\(G.alloc (ac (#[U O W,U O H,a5 I,U O q,Y (an ⟨b,o,ns⟩) k c,Y (an ⟨a,0,ns⟩) k k]:Array so) 80)).ownsRow a 63 1 (Y (an ⟨a,0,ns⟩) k k) k ([]++rl (k-0) (Y ns 0 0))/\
     ak (G.alloc (ac (#[U O W,U O H,a5 I,U O q,Y (an ⟨b,o,ns⟩) k c,Y (an ⟨a,0,ns⟩) k k]:Array so) 80)) G.heap.size 80 (#[U O W,U O H,a5 I,U O q,Y (an ⟨b,o,ns⟩) k c,Y (an ⟨a,0,ns⟩) k k]:Array so)/\ak (G.alloc (ac (#[U O W,U O H,a5 I,U O q,Y (an ⟨b,o,ns⟩) k c,Y (an ⟨a,0,ns⟩) k k]:Array so) 80)) (w.heap.size+1) 80 (#[U O 0,U O 0,a5 Bz,U O 0,Y ns 0 0,Y ns 0 0]:Array so)):=
    ⟨rfl,(x.trans JF).alloc _,by rw[OF];omega,by simpa using ho.alloc _,ak.new G _ _,(N.q JF).alloc _⟩
   generalize CJ:G.heap.size=p0 at K0 pm⊢;generalize G.alloc (ac (#[U O W,U O H,a5 I,U O q,Y (an ⟨b,o,ns⟩) k c,Y (an ⟨a,0,ns⟩) k k]:Array so) 80)=w6 at K0⊢;clear UI y ho JF X N x IF HQ HT aib CJ
   go_loopw[22] (λi wx=>∃(j:Nat)(d:List so),j<=k/\i=U O j/\Hid (d.length=j/\Q w wx/\a<wx.heap.size/\wx.ownsRow a 63 1 (Y (an ⟨a,0,ns⟩) k k) k (d++rl (k-j) (Y ns 0 0))/\
     ak wx p0 80 (#[U O W,U O H,a5 I,U O q,Y (an ⟨b,o,ns⟩) k c,Y (an ⟨a,0,ns⟩) k k]:Array so)/\ak wx (w.heap.size+1) 80 (#[U O 0,U O 0,a5 Bz,U O 0,Y ns 0 0,Y ns 0 0]:Array so)/\(∀i,i<j->nZ w.heap.size cnt wx (fj (aR ls i) cnt I) (d[i]?.getD undef))/\(∀i s,i<j->(d[i]?.getD undef).ownBlock=an s->s≠a))) (λi _=>k-(intOf i).toNat)
   case atStart=>exact⟨0,[],dk _,rfl,K0.out.1,K0.out.2.1,K0.out.2.2.1,K0.out.2.2.2.1,K0.out.2.2.2.2.1,K0.out.2.2.2.2.2,λ_ h=>absurd h aa,λ_ _ h=>absurd h aa⟩
   case round=>
    obtain⟨j,d,hj,rfl,hK⟩:=hrel;obtain⟨g,f,P,r,E,D,C,y8⟩:=hK.out;clear hK K0;by_cases gc:j<k
    ·have tZ:(j:Int)<k:=by omega
     obtain⟨A',c',J,K,Z,NE⟩:=HC.out j eD;have sc:=(f.cell b (o+j) aa).trans J;have Wc:=f.size;have T:=af (Nk c' cnt I (K.q f hB) rfl ⟨Z,NE⟩ aa (HE.out.q f hB) (K1.out.q f) (K2.out.q f));have KK:=af (Vn g (Vn f (Vn P (Vn r (Vn E (Vn D (Vn C y8)))))));clear g f P r E D C y8 J K Z NE;go_wp2;refine T.out.mono ?_;intro e S hd;rw[Int.toNat_natCast] at hd;obtain⟨Ar,mr,cr,t,rfl,Cx,ug,V⟩:=Yu (B:=w.heap.size) hd aia.1 Wc;obtain⟨g,f,P,r,E,D,C,y8⟩:=KK.out;obtain⟨u,hu⟩:∃u,u=Value.slice Ar mr cr:=⟨_,rfl⟩;rw[<-hu] at Cx ug;have CK:=r.kept (w':=S) (row:=ns) ⟨V.os,V.tape,V.output,V.size,λk hk _=>V.block k hk⟩ (E5 _)
     have wM:S.cell? ⟨a,j,ns⟩=an (Y ns 0 0):=by rw[CK.cellAt j aa,List.getElem?_append_right aa,g,akF,show k-j=(k-(j+1))+1 by omega,akg];rfl
     have d9:=CK.frozenAt j;have z4:=(CK.stored j u).1;rw[Qk g gc u] at z4;have Fk:∀s,u.ownBlock=an s->s≠a:=λs F=>by have:=ug s F;omega
     have aic:(S.setCell ⟨a,j,ns⟩ u).heap.size=S.heap.size:=uU
     have KZ:Hid ((d++[u]).length=j+1/\Q w (S.setCell ⟨a,j,ns⟩ u)/\a<(S.setCell ⟨a,j,ns⟩ u).heap.size/\(S.setCell ⟨a,j,ns⟩ u).ownsRow a 63 1 (Y (an ⟨a,0,ns⟩) k k) k ((d++[u])++rl (k-(j+1)) (Y ns 0 0))/\
       ak (S.setCell ⟨a,j,ns⟩ u) p0 80 (#[U O W,U O H,a5 I,U O q,Y (an ⟨b,o,ns⟩) k c,Y (an ⟨a,0,ns⟩) k k]:Array so)/\ak (S.setCell ⟨a,j,ns⟩ u) (w.heap.size+1) 80 (#[U O 0,U O 0,a5 Bz,U O 0,Y ns 0 0,Y ns 0 0]:Array so)/\(∀i,i<j+1->nZ w.heap.size cnt (S.setCell ⟨a,j,ns⟩ u) (fj (aR ls i) cnt I) ((d++[u])[i]?.getD undef))/\(∀i s,i<j+1->((d++[u])[i]?.getD undef).ownBlock=an s->s≠a)):=by
      refine⟨by simp[g],(f.trans V).set (by show w.heap.size<=a;omega) _,by have:=V.size;omega,z4,(E.q V).aN (p:=⟨a,j,ns⟩) (by show p0≠a;omega) _,(D.q V).aN (p:=⟨a,j,ns⟩) (by show w.heap.size+1≠a;omega) _,λi hi=>?_,λi s hi F=>?_⟩
      ·by_cases h:i<j
       ·rw[sI d u i aa];exact((C i h).q V).aN (λs F=>y8 i s h F) u
       ·obtain rfl:i=d.length:=by omega
        rw[vQ];subst g;exact Cx.aN Fk u
      ·by_cases h:i<j
       ·rw[sI d u i aa] at F;exact y8 i s h F
       ·obtain rfl:i=d.length:=by omega
        rw[vQ] at F;exact Fk s F
     rw[hu] at KZ;clear KK g f P r E D C y8 z4 CK Fk T hu Cx ug aic hd;go_wp2;go_roundw;case rel=>exact⟨j+1,d++[_],aa,aF,KZ.out⟩
     case measure=>exact aT
    ·have aid:j=k:=by omega
     subst aid;rw[akF,List.replicate_zero,List.append_nil] at r;have pc:=E.cell;have KK:=af (Vn g (Vn f (Vn P (Vn r (Vn E (Vn D C))))));clear g f P r E D C y8;obtain⟨wo,rfl⟩:∃wo:AS,wo=wr:=⟨_,rfl⟩;go_wp2;go_loopw[32] (λv wx=>∃i:Nat,i<=j/\v=U O i/\wo=wx/\Hid (∀l,l<i->∃L,fj (aR ls l) cnt I=an L)) (λv _=>j-(intOf v).toNat)
     case atStart=>exact⟨0,aa,rfl,rfl,λl h=>absurd h aa⟩
     case round=>
      obtain⟨i,hi,rfl,rfl,JG⟩:=hrel;obtain⟨g,f,P,r,E,D,C⟩:=KK.out;by_cases Wd:i<j
      ·have hii:(i:Int)<j:=by omega
       have M:=C i Wd;have JH:=r.cellAt i aa
       have JI:d[i]?=an (d[i]?.getD undef):=by have:i<d.length:=aa;rw[ajK this];rfl
       rw[JI] at JH;cases hR:fj (aR ls i) cnt I with
       |none=>rw[hR] at M;rw[show d[i]?.getD undef=Y ns 0 0 from M] at JH;have en:=ah8;have HR:=af hR;clear g P r E C M JI hR JG KK;go_wp2_with(refine eP (cs':=(#[U O 0,U O 0,a5 Bz,U O 0,Y ns 0 0,Y ns 0 0]:Array so)) rfl _ _ _ rfl rfl _ rfl rfl D rfl fH ah ?_;intro w9 b9 g9 s9);have bz:=b9.cell;exact ajz (v:=ci #[a9 (#[U O 0,U O 0,a5 Bz,U O 0,Y ns 0 0,Y ns 0 0]:Array so),a5 Bz]) Di rfl ⟨f.grown g9 (λk e=>by have:=aJ e;omega),.inr ⟨rfl,i,Wd,HR.out⟩⟩
       |some L=>
        rw[hR] at M;obtain⟨gl,cl,hv,_⟩:=M;rw[hv] at JH;have en:=ah9;have HR:=af hR;clear g f P r E D C JI hR hv;go_wp2;go_roundw
        case rel=>
         refine⟨i+1,aa,aF,trivial,λl hl=>?_⟩;by_cases h:l<i
         ·exact JG.out l h
         ·obtain rfl:l=i:=by omega
          exact⟨L,HR.out⟩
        case measure=>exact aT
      ·have aie:i=j:=by omega
       subst aie;have pc:=E.cell;have YY:=af (Vn g (Vn f (Vn r (Vn D C))));have uv:=D.lt;clear g f P r E C KK;go_wp2_with(refine eP (cs':=(#[U O W,U O H,a5 I,U O q,Y (an ⟨b,o,ns⟩) i c,Y (an ⟨a,0,ns⟩) i i]:Array so)) rfl _ _ _ rfl rfl _ rfl rfl D rfl fH ah ?_;intro w9 b9 g9 s9);have bz:=b9.cell;obtain⟨g,f,r,_,C⟩:=YY.out;have q9:=f.grown g9 (λk e=>by have:=aJ e;omega);refine ajz (v:=ci #[a9 (#[U O W,U O H,a5 I,U O q,Y (an ⟨b,o,ns⟩) i c,Y (an ⟨a,0,ns⟩) i i]:Array so),a5 AT]) Di rfl ⟨q9,.inl ⟨a,rfl,λl hl=>?_⟩⟩;obtain⟨L,hL⟩:=JG.out l hl;have We:=C l hl;rw[hL] at We;obtain⟨gl,cl,hv,ol⟩:=We;have ii:=r.cellAt l aa
       have hvl:d[l]?=an (d[l]?.getD undef):=by have:l<d.length:=aa;rw[ajK this];rfl
       rw[hvl,hv] at ii;have x9:au [w.heap.size+1] wo w9:=au.dD g9;have hgo:=(zw wo _ ii);refine⟨L,gl,cl,hL,(nK x9 hgo aA).trans ii,ol.Bv x9 λjj hjj hm=>?_⟩;simp only[List.mem_singleton] at hm;subst hm;exact ol.Gu D al hjj
end
section
open Go.RowKit
def qB(q:Int):Bool:=decide (0<=q/\q<=15)
end
section
open Go.RowKit
def rB(base a:Int):Bool:=qB base&&decide (0<=a/\a<=base)
def afI(h:Tb w){p:ajF}(b:p.block≠4)(u:so):Tb (w.setCell p u):=⟨by simpa[World.setCell] using h.pos,λq hq=>(oM (a:=⟨4,q,ns⟩) (jh w p u 4 (jG b))).trans (h.at_ q hq)⟩
def cG:List Int:=rl 16 0
def RX{f:Nat->Int}{M:Int}(h:∀k,k<16-> -M<=f k/\f k<=M):aS (a6 f 16) M=AT:=by unfold aS a6;rw[List.all_eq_true];intro y a;obtain⟨k,b,rfl⟩:=oR.1 a;exact decide_eq_true (h k (by simpa using b))
end
end Go.Proofs.Q0
