import Derived.Test.YtnbpokndlaebbaaGreatDoorK22
set_option maxRecDepth 100000
set_option maxHeartbeats 8000000
set_option linter.all false
open Go.Value renaming int->U,slice->Y,bool->ci,agg->bi,pointer->d9,tuple->em,iface->gc
open Go.IntKind renaming i64->O
open Go.Obj renaming cells->ap
open Go.Ending renaming returned->dl
open And renaming intro->ahU
open Array renaming getElem?_eq_getElem->aik,getElem?_setIfInBounds_ne->ahT,getElem?_setIfInBounds_self_of_lt->aiv,replicate_succ->akg,replicate_zero->akh
open Bool renaming false->Ba,true->AT
open Go renaming Addr->aic,Calls->ahR,Goroutine->BE,Value->AS,World->rl,bodyPost_ret->ahX,execOp->aie
open Go.Conc renaming stepG_region_end->Kx
open Go.Instr renaming field->aji,loadAt->ajk
open Go.IntKind renaming i64->EV
open Go.World renaming cell?->aiu,size_alloc->NO
open List renaming append_toArray->akt,cons_append->aje,getElem?_eq_getElem->ajR,length_cons->ais,length_nil->ajF,lookup->aiZ,nil_append->ajr,replicate->so
open Nat renaming reduceAdd->aiP,sub_self->ajz
open Option renaming getD_some->aii,none->ns,some->an
namespace Go.Proofs
def KW{p:Prop}(h:p:=by
  congr 1;apply Array.ext
  ·simp[h2]
  ·intro j h3 h4
   match j with
   |0=>rfl
   |1=>rfl
   |j+2=>omega):p:=h
def fq{p:Prop}(h:p:=by simp[Value.oneCell']):p:=h
def CR{p:Prop}(h:p:=by simp[results,Tryz.results27,go_sem,ae8,bz]):p:=h
abbrev zj:=@Go.World.block_lt_of_cell?
end Go.Proofs
namespace Go.Proofs.Q0.Open
open Go.Proofs.Tryz
variable{wc:rl}
section
open Go.Conc Go.RowKit aM
variable[aG]
section
variable{Q:BE->Array Obj->Prop}{b:Frame}{Z a:Act}{k:List Item}{cs:List Frame}{wg:rl}{B:dh}{x0:BE×rl}
def aag{t:TypeId}(c:∀w,(isAgg t).run Gz.prog w=.ok Ba w){w:rl}{p:aic}{x:AS}(h:w.cell? p=an x):(ajk t (.pointer (an p))).run Gz.prog w=.ok x w:=by
 have e:(ajk t (.pointer (an p))).run Gz.prog w=(load p).run Gz.prog w:=by show(isAgg t>>=λq=>if q=AT then _ else load p).run Gz.prog w=_;rw[Sem.run_bind,c];rfl
 rw[e];simp[h]
def abM:∃o,wV[2]?=an o/\o.op=.call {callee:=.value (.func 53),args:=#[.tmp 27,.tmp 21,.tmp 24],argTypes:=#[22,3,4]}/\o.guard=ns/\o.dst=an 28:=⟨_,rfl,rfl,rfl,rfl⟩
structure LR(K:aI)(jn:Ren)(N0 nc:Nat)(uo:Nat->Ren)(vm:Nat->AS)(hM:Array Obj)(i:Nat)(u:Nat->AS)(ψ:Ren)(h:Array Obj):Prop where
 rel:HR K ψ h hM
 le:Ren.le jn ψ
 ky:∀b c,ψ b=an c->jn b=an c\/(N0+2<=b/\∃k a,k<i/\nc<=a/\uo k a=an c)
 val:∀k,k<i->VR ψ (u k) (Gx (vm k))
structure RU(J:ah)(Kc:aI)(jn:Ren)(B:dh)(vg:Nat->AS)(wc:rl)(uo:Nat->Ren)(y:Nat->BE×rl)(v vm:Nat->AS)(hM:Array Obj)(n1:Nat):Prop where
 Vb:∀k,k<B.sn->U8 J Gz.prog Kc jn (uo k) 53 #[vg k,U O (EV.wrap (B.W.tdiv 8)),.bool B.I] wc (y k) (v k) (vm k) hM n1
 apart:∀k k',k<B.sn->k'<B.sn->k≠k'->∀a a' c,wc.heap.size<=a->wc.heap.size<=a'->uo k a=an c->uo k' a'≠an c
 lt:∀b c,jn b=an c->c<n1
 own:∀k,k<B.sn->∀a c,wc.heap.size<=a->uo k a=an c->n1<=c
 shape:∀k,k<B.sn->∃s l c t,vm k=.tuple #[.slice s l c,.bool t]
def ae9{J:ah}(hJI:ah.Le J aG.toah){K Kc:aI}(hB:@dz (ah.exact J Gz.prog.funcs) Gz.prog)(hC:@ef (ah.exact J Gz.prog.funcs) Gz.prog)(t7:@cN (ah.exact J Gz.prog.funcs) Gz.prog)(hG:Kc.G=Gz.prog.globals.size)(hF:@dX (ah.exact J Gz.prog.funcs) Gz.prog Kc)
  {jn:Ren}{vg:Nat->AS}{M:Nat->Ren}{y:Nat->BE×rl}{v vm:Nat->AS}{hM:Array Obj}{n1:Nat}(hR:RU J Kc jn B vg wc M y v vm hM n1)(I1:wc.heap.size=wg.heap.size)
  (US:Kc.G=K.G)(hGn:K.G<=wc.heap.size)(hf:J.ok 53)(V:∀k,k<B.sn->@aB (ah.exact J Gz.prog.funcs) (Ren.fS jn) #[vg k,U O (EV.wrap (B.W.tdiv 8)),.bool B.I] #[vg k,U O (EV.wrap (B.W.tdiv 8)),.bool B.I])
  (X:∀h:Array Obj,wg.heap.size<=h.size->(∀b,b<wg.heap.size->h[b]?=wg.heap[b]?)->@HR (ah.exact J Gz.prog.funcs) Kc (Ren.fS jn) wc.heap h)(hv:@gR (ah.exact J Gz.prog.funcs) (Ren.fS jn))(i8:∀b,wc.heap.size<=b->¬J.cl b)(i7:0<cs.length)
  (m:b.kind≠.early)(ru:B.sn<=4)(TL:∀i,i<B.sn->wg.cell? (B.sa.add i)=an (vg i)):
  ∀r i,i+r=B.sn->∀a C ψ u,At Q b cs x0 Z (lg B wg.heap.size i) (.code gD::.inLoop gD::.inBlock 51::.code dA::k) a C->LM wg.heap B u i C.heap->LR K jn wg.heap.size wc.heap.size M vm hM i u ψ C.heap->
   ∃a' w' q u',At Q b cs x0 Z (lg B wg.heap.size B.sn) (.code dA::k) a' w'/\fJ Gz.prog (G (b.at a' (.code dA::k)) cs,w') x0/\LM wg.heap B u' B.sn w'.heap/\LR K jn wg.heap.size wc.heap.size M vm hM B.sn u' q w'.heap:=by
 intro r
 induction r with
 |zero=>intro i hi a C ψ u h f x;obtain rfl:i=B.sn:=aa;obtain⟨a,h⟩:=((h.to stepG_seq).rg [0]).kC (.bool Ba) C m (hr:=by simp only[aie,aR];simp[go_sem,eD,h.tm,aiZ,lg]);replace h:=(h.to Kx).pD Ba;have⟨n,w⟩:=h.w.to (pW λ_ e=>by cases e) (stepG_exit rfl);exact⟨a,C,ψ,u,(h.to (stepG_exit rfl)).sub _,h.n.bB n,f,x⟩
 |succ r ih=>
  intro i hi a C ψ u h f x;have g:i<B.sn:=aa;have D:(i:Int)<(B.sn:Int):=aa;obtain⟨a,h⟩:=((h.to stepG_seq).rg [0]).kC (.bool AT) C m (hr:=by simp only[aie,aR];simp[go_sem,eD,h.tm,aiZ,lg,g,D]);obtain⟨a,h⟩:=((((h.to Kx).pD AT).to stepG_skip).rg [0,1,2,3,4,5,6,7]).kC (.pointer (an (B.sa.add i))) C m (hr:=by simp only[aie,aR];simp[go_sem,h.tm,aiZ,lg,g,D])
  have Be:C.cell? (B.sa.add i)=an (vg i):=by
   have h0:=TL i g
   have aV:(B.sa.add i).block<wg.heap.size:=by
    rcases cZ (B.sa.add i).block wg.heap.size with h|h
    ·exact h
    ·simp[aiu,Array.getElem?_eq_none h] at h0
   rw[<-h0];simp only[aiu,f.old _ aV]
  obtain⟨a,h⟩:=h.kC (vg i) C m (hr:=by simp only[aie,aR];rw[h.ev (i:=26) rfl];show(ajk 22 (.pointer (an (B.sa.add i)))>>=λv=>pure (Next.value v)).run Gz.prog _=_;rw[Sem.run_bind,aag (λw=>(Gz.Rh _ _).trans (isAgg22 w)) Be];rfl);obtain⟨o,ho,pl,IV,hd⟩:=abM;obtain⟨hn,hW⟩:=h.w.to (pW λ_ e=>by cases e) (stepG_enter ho CO m (run_call_body pl (Gz.mE func53 aw) Gv aC));have ea:(#[.tmp 27,.tmp 21,.tmp 24]:Array Operand).map a.eval=#[vg i,U O (EV.wrap (B.W.tdiv 8)),.bool B.I]:=by simp;exact⟨h.ev rfl,h.ev rfl,h.ev rfl⟩
  rw[ea] at hW hn
  obtain⟨q,vx,N,hx,S,afa,E,ahC,p,afb⟩:=Yb (b0:=b.at a (.inRegion wV (2::[3,4,5,6,7])::.inLoop gD::.inBlock 51::.code dA::k)) (B0:=cs) hJI hB hC t7 hG hF (hR.Vb i g) US hGn hf (V i g) (X _ (by have:=f.size;omega) f.old) hv
   x.rel x.le (by rw[I1];have:=f.size;omega) (λb d hbd a ha pF=>by
    rcases x.ky b d hbd with h|⟨_,F,a',Vd,V',h⟩
    ·have h1:=hR.lt _ _ h;have h2:=hR.own i g a d ha pF;omega
    ·exact hR.apart F i aa g aa a' a d V' ha h pF) i8 i7
  replace hW:=hW.SO hx;have hN:fK _ _ _:=.inr (fJ.trans hx (h.n.bB hn));rw[Frame.finish_at,ho,show(an o).bind (·.dst)=an 28 from hd] at hW hN;obtain⟨s,l,c,t,Ve⟩:=hR.shape i g
  obtain⟨us,hus,P⟩:∃us,vx=.tuple #[us,.bool t]/\@VR aG.toah q us (.slice s l c):=by
   rw[Ve] at E;cases E with
   |@tuple xs _ hs hx=>
    have h2:xs.size=2:=hs;have e0:=hx 0 xs[0] (.slice s l c) (eO aa) rfl;have e1:=hx 1 xs[1] (.bool t) (eO aa) rfl;refine⟨xs[0],?_,e0⟩
    have e2:xs[1]=.bool t:=by generalize xs[1]=z at e1;cases e1 with|bool=>rfl|aX _ h=>exact absurd rfl (h.2.2 _)
    rw[<-e2];exact KW
   |aX _ h=>exact absurd rfl (h.2.1 _)
  subst hus;obtain⟨a,h⟩:=h.put (d:=28) aw hW hN;obtain⟨a,h⟩:=h.kC us N m (hr:=by simp only[aie,aR];simp[go_sem,h.tm,aiZ]);obtain⟨a,h⟩:=h.kC (.pointer (an ⟨wg.heap.size,i,ns⟩)) N m (hr:=by simp only[aie,aR];simp[go_sem,h.tm,aiZ,lg,g,D]);obtain⟨vs,IT,afc,H⟩:=f.row;have I2:N.heap[wg.heap.size]?=an (.cells vs 68):=(p _ (by have:=f.size;omega)).trans afc
  have I4:N.cell? ⟨wg.heap.size,i,ns⟩=an (.slice ns 0 0):=by simp only[aiu,I2];have:=H i g;rw[if_neg aa] at this;exact this
  have Cj:N.frozen? ⟨wg.heap.size,i,ns⟩=Ba:=by simp[World.frozen?,I2]
  obtain⟨R,Vf⟩:∃R,R=N.setCell ⟨wg.heap.size,i,ns⟩ us:=⟨_,rfl⟩;have A:R.heap=N.heap.setIfInBounds wg.heap.size (.cells (vs.setIfInBounds i us) 68):=by rw[Vf];exact DL I2 rfl
  have ag8:(∀xs,us≠.agg xs)/\∀xs,us≠.tuple xs:=⟨λxs e=>(by subst e;cases P),λxs e=>(by subst e;cases P)⟩
  replace h:=h.nil R m (hr:=by rw[Vf];simp only[aie,aR];cases P<;>first|(simp[go_sem,stored,I4,Cj,h.tm,aiZ];done)|(simp[go_sem,stored,I4,Cj,h.tm,aiZ];simp[store,Sem.run,I4,Cj]))
  have hw:EV.wrap ((i:Int)+1)=(i:Int)+1:=yH;obtain⟨a,h⟩:=h.kC (U O ((i:Int)+1)) R m (hr:=by simp only[aie,aR];simp[go_sem,eD,h.tm,aiZ,lg,hw]);obtain⟨a,h⟩:=h.kC (U O ((i:Int)+1)) R m (hr:=by simp only[aie,aR];simp[go_sem,h.tm,aiZ]);have afW:R.heap.size=N.heap.size:=by rw[A];simp
  have L:∀c,c≠wg.heap.size->R.heap[c]?=N.heap[c]?:=λc hc=>by rw[A,ahT (Ne.symm hc)]
  have E':=f.size
  have T:∀b c,q b=an c->jn b=an c\/(wg.heap.size+2<=b/\∃k a,k<i+1/\wc.heap.size<=a/\M k a=an c):=λb c DE=>by
   rcases afb b c DE with h|⟨h1,a2,h2,h3⟩
   ·rcases x.ky b c h with h|⟨h1,F,a',Vd,h2,h3⟩
    ·exact .inl h
    ·exact .inr ⟨h1,F,a',aa,h2,h3⟩
   ·exact .inr ⟨aa,i,a2,aa,h2,h3⟩
  have hnC:∀c,q wg.heap.size≠an c:=λc hc=>by
   rcases T _ c hc with h|⟨h,_⟩
   ·have:=(hR.Vb i g).U9 _ _ h;omega
   ·omega
  refine ih (i+1) aa a R q (λj=>if j=i then us else u j) (((h.to Kx).to stepG_inLoop).sub _) ⟨aa,λc hc=>?_,⟨vs.setIfInBounds i us,by simpa using IT,?_,λj hj=>?_⟩,?_⟩ ⟨?_,Ren.le_trans x.le S,T,λF Vd=>?_⟩
  ·rw[L c aa,p c aa,f.old c hc]
  ·rw[A,aiv aa]
  ·by_cases e:j=i
   ·subst e;rw[aiv aa,if_pos aa,if_pos rfl]
   ·rw[ahT (Ne.symm e),H j hj,if_neg e];by_cases h1:j<i
    ·rw[if_pos h1,if_pos aa]
    ·rw[if_neg h1,if_neg aa]
  ·rw[L _ aa,p _ aa];exact f.box
  ·exact@HR.RQ aG.toah _ _ _ _ _ afa aa λb c DE=>L b (λe=>by subst e;exact hnC c DE)
  ·by_cases e:F=i
   ·subst e;show@VR aG.toah q (if F=F then us else u F) _;rw[if_pos rfl,Ve];exact P
   ·show@VR aG.toah q (if F=i then us else u F) _;rw[if_neg e];exact@VR.mono aG.toah _ _ _ _ (x.val F aa) S
end
end
section
open Go.Conc Go.ConcN Go.RowKit aM
open Go.ConcR (Payload)
variable[aG]
def Ck(w:rl)(a:aic):Prop:=∃o,w.heap[a.block]?=an o/\(∀x y,o≠.view x y)/\∀cs t f,o≠.cells cs t f
structure RV(w:rl)(v:AS)(a1 a2:aic):Prop where
 data:∃p m c,v=.slice p m c/\(m:Int)<9223372036854775808/\((p=ns/\m=0)\/∃pa,p=an pa/\∀j,j<m->∃x,w.cell? (pa.add j)=an (.int .u8 x))/\m<=c/\(c:Int)<9223372036854775808
 e1:w.cell? ⟨1,0,ns⟩=an (.iface 234 (.pointer (an a1)))
 e2:w.cell? ⟨2,0,ns⟩=an (.iface 234 (.pointer (an a2)))
 c1:Ck w a1
 c2:Ck w a2
def wC:Prop:=∀(w:rl)(v:AS)(d e:aic)(many:Int)(be:Bool),RV w v d e->ahR Gz.prog 53 #[v,U O many,.bool be] w λ|dl v,_=>(∃s l c t,v=.tuple #[.slice s l c,.bool t])|_,_=>False
structure Env where
 J:ah
 le:ah.Le J aG.toah
 gl:∀g,J.gl g->aG.toah.gl g
 fs:J.fs=Tryz.prog.funcs
 RZ:∀c c',¬J.dL c c'
 dec:J.ok 53
 R0:@dz J Gz.prog
 cd:@ef J Gz.prog
 zero:@cN J Gz.prog
 fns:∀K:aI,K.G=Gz.prog.globals.size->@dX J Gz.prog K
 adu:@dz (ah.exact J Gz.prog.funcs) Gz.prog
 cdX:@ef (ah.exact J Gz.prog.funcs) Gz.prog
 afd:@cN (ah.exact J Gz.prog.funcs) Gz.prog
 jm:∀K:aI,K.G=Gz.prog.globals.size->@dX (ah.exact J Gz.prog.funcs) Gz.prog K
 g1:aG.toah.gl 1
 g2:aG.toah.gl 2
 SZ:@cN aG.toah Gz.prog
 np:@nT aG.toah Gz.prog
 rest:@eI aG.toah Gz.prog 27 dA
def Env.two(E:Env):@Program.two E.J Gz.prog=Tryz.prog:=by unfold Program.two;rw[E.fs];rfl
def ael:∀r∈Tryz.f53.results,∃t,r=.tmp t:=au
def aem:Gz.prog.inits.idxOf? 53=ns:=by have h:Tryz.prog.inits.idxOf? 53=ns:=au;exact h
def EM{wg:rl}{a:aic}{v:AS}(h:wg.cell? a=an v){X:Nat->Bool}(d:X a.block=Ba)(hc:wc.heap=kJ X wg.heap):wc.cell? a=an v:=by
 unfold aiu at h⊢;rw[hc];cases c:wg.heap[a.block]? with
 |none=>rw[c] at h;cases h
 |some o=>rw[c] at h;cases o with|cells cs t f=>rw[ac7 d c];exact h|_=>cases h
def QV{K:aI}{φ:Ren}{h h':Array Obj}(q:HR K φ h h'){a:aic}(g:∃c,φ a.block=an c)(m:K.tok a.block){X:Nat->Bool}(hc:wc.heap=kJ X h):Ck wc a:=by obtain⟨c,g⟩:=g;obtain⟨o,u,h1,v,r⟩:=q.obj _ _ g;have d:∀{p:Obj},gK (X a.block) o=p->(∀x y,p≠.view x y)->(∀cs t f,p≠.cells cs t f)->Ck wc a:=λe i j=>⟨_,by rw[hc,vi,h1];exact congrArg an e,i,j⟩;cases r with|own _ n=>exact absurd m n|shut _ _ n=>exact absurd m n|token s p=>exact d rfl (λ_ _ e=>by cases e) (λ_ _ _ e=>by cases e)|blank s p=>exact d rfl (λ_ _ e=>by cases e) (λ_ _ _ e=>by cases e)|num l=>exact d rfl (λ_ _ e=>by cases e) (λ_ _ _ e=>by cases e)
def aen{E:Env}(ago:wC){K:aI}(ii:K.strict=AT)(hG:K.G=Gz.prog.globals.size)(i8:∀b,E.J.cl b<->K.tok b)
  {Q:BE->Array Obj->Prop}{B:List Frame}{Sh:Loc->Prop}{gs:Array BE}{a g:BE}{w wg:rl}{sl:Option (Nat×Nat)}{t:Trace}{q:Nat->Nat}{φ:Ren}
  (hA:@tl aG.toah g)(hW:bO Gz.prog Q g wg)(hD:@dJ aG.toah Gz.prog K B φ g wg a w)(hF:dS Tryz.prog Sh gs w t q)(ha:gs[0]?=an a)(Vg:kX Sh φ):
  ∃N K' a' w' qr t' q' ψ g' ug pA,runNT Tryz.prog N (crowd gs w sl) t=(.next (crowd K' w' qr),t')/\K'[0]?=an a'/\dS Tryz.prog pA K' w' t' q'/\kX pA ψ/\
   bO Gz.prog Q g' ug/\fJ Gz.prog (g',ug) (g,wg)/\@dJ aG.toah Gz.prog K B ψ g' ug a' w'/\Ren.le φ ψ/\iZ w w'/\w.heap.size<=w'.heap.size/\(∀c,c<w.heap.size->w'.heap[c]?=w.heap[c]?)/\(∀b c,ψ b=an c->φ b=an c\/w.heap.size<=c)/\wg.heap.size<=ug.heap.size:=by
 have GA:=E.two;obtain⟨F⟩:=adn hD hA;obtain⟨b,Z,Z',k,k',cs,cs',hg,V',WF,GB,uq,afe,agp,Gy,aff,hH,hv,ka⟩:=F;subst hg;subst V';have pE:b.kind≠.early:=by rw[GB];intro h;cases h
 have hz:Sz Z Z:=⟨rfl,by have:=uq.tY 40 ((aG.Ci 40).2 ⟨.inl rfl,aw⟩);omega⟩;have Vh:Sz Z' Z':=⟨rfl,by rw[<-uq.size];exact hz.2⟩;have hv1:@VR aG.toah φ (Z.eval (.tmp 1)) (Z'.eval (.tmp 1)):=@cU.getD aG.toah _ _ _ _ uq 1 ((aG.Ci 1).2 ⟨.inl rfl,aw⟩);obtain⟨ca,CD,W,H,Qq,I,sa,n,c,a1,e1,e2,rJ,NE,ru,⟨r1,r2,xJ,xK⟩,Cb⟩:=adp hG pE hH hz hv1 hv E.g1 E.g2 E.SZ E.np hW;obtain⟨y,hy1,B4⟩:=rJ.rS;obtain⟨S0,a2,hA2⟩:=adq hG pE hH ru B4 n 0 aa a1 (((Cb.to stepG_seq).to stepG_block).to stepG_loop);obtain⟨xN,rfl,_⟩:=S0 0 (ay _) aa;obtain⟨ur,rfl,xL⟩:∃ur,y=.slice (an ur) n c/\AR φ xN ur:=by cases B4 with|slice _ _ h=>exact⟨_,rfl,h⟩|empty=>omega
 obtain⟨vg,TN⟩:∃vg:Nat->AS,vg=λi=>(wg.cell? (xN.add i)).getD undef:=⟨_,rfl⟩;obtain⟨jP,Ha⟩:∃jP:Nat->AS,jP=λi=>(w.cell? (ur.add i)).getD undef:=⟨_,rfl⟩
 have Vi:∀i,i<n->∃p m cc,wg.cell? (xN.add i)=an (.slice p m cc)/\vg i=.slice p m cc/\(m:Int)<9223372036854775808/\((p=ns/\m=0)\/∃pa,p=an pa/\∀j,j<m->∃x,wg.cell? (pa.add j)=an (.int .u8 x))/\m<=cc/\(cc:Int)<9223372036854775808:=λi hi=>by obtain⟨s,e,p,m,cc,h1,h2⟩:=S0 i (ez _) hi;cases e;exact⟨p,m,cc,h1,by rw[TN];simp[h1],h2⟩
 have Vj:∀i,i<n->wg.cell? (xN.add i)=an (vg i):=λi hi=>by obtain⟨p,m,cc,h1,h2,_⟩:=Vi i hi;rw[h1,h2]
 have Vk:∀i,i<n->w.cell? (ur.add i)=an (jP i)/\@VR aG.toah φ (vg i) (jP i):=λi hi=>by obtain⟨yv,h1,h2,_⟩:=@HR.cell aG.toah K φ wg w hH _ _ (xL.add i) _ (Vj i hi);exact⟨by rw[Ha];simp[h1],by rw[Ha];simp[h1,h2]⟩
 clear TN Ha;have eqv:ah.ku aG.toah E.J:=E.le.toku.symm
 let X:Nat->Bool:=λ_=>Ba
 let S:aM.cO:={φ,h0:=kJ X wg.heap,h1:=w.heap,K:=aM.qM X wg.heap K.G,os:=w.os,out:=w.output}
 have wP:S.h0.size=wg.heap.size:=zh;have hrel:@HR E.J S.K φ S.h0 w.heap:=HR.aeY X eqv hH ii
 have Hb:@qi E.J S:=@qi.mk E.J S hrel (λb hb=>by
   rw[wP] at hb;by_cases ht:oQ X wg.heap b
   ·exact .inr ht
   ·exact .inl ⟨hb,ht⟩) (λb hb=>by
   rw[wP] at hb;exact⟨λh=>absurd h.1 (pP.2 hb),λh=>absurd (PG h) (pP.2 hb)⟩) rfl
 let wc:rl:={wg with heap:=S.h0}
 have uu:S.K.G=Gz.prog.globals.size:=hG;have I5:∀i,i<n->@VR E.J φ (vg i) (jP i):=λi hi=>VR.inst eqv (Vk i hi).2;have GC:@gR E.J φ:=λg hg=>hv g (E.gl g hg)
 have hdp:∀i,i<n->∀T d,RV (wc.on T d) (vg i) r1 r2:=λi hi T d=>by obtain⟨p,m,cc,h1,h2,h3,h4,h5⟩:=Vi i hi;refine⟨⟨p,m,cc,h2,h3,h4.imp_right λ⟨pa,e,h⟩=>⟨pa,e,λj hj=>?_⟩,h5⟩,EM xJ.cell (X:=X) rfl rfl,EM xK.cell (X:=X) rfl rfl,QV hH xJ.ky ((i8 _).1 ((E.le.cl _).2 xJ.cl)) (X:=X) rfl,QV hH xK.ky ((i8 _).1 ((E.le.cl _).2 xK.cl)) (X:=X) rfl⟩;obtain⟨x,A⟩:=h j hj;exact⟨x,EM A (X:=X) rfl rfl⟩
 let BM:dh:={cb:=CD.block,co:=CD.off,W,H,I,Q:=Qq,sa:=ur,sn:=n,sc:=c}
 let BG:dh:={cb:=ca.block,co:=ca.off,W,H,I,Q:=Qq,sa:=xN,sn:=n,sc:=c}
 let R:Nat->AS->Array Obj->Prop:=λ_ v _=>∃s l c t,v=.tuple #[.slice s l c,.bool t]
 have R3:∀{v v':AS}{χ:Ren},(∃s l c t,v=.tuple #[.slice s l c,.bool t])->@VR E.J χ v v'->∃s l c t,v'=.tuple #[.slice s l c,.bool t]:=by
  rintro v v' χ⟨s,l,c,t,rfl⟩ h;cases h with
  |@tuple _ ys hs A=>
   have h2:ys.size=2:=hs.symm;have q0:=A 0 (.slice s l c) ys[0] rfl (eO aa);have q1:=A 1 (.bool t) ys[1] rfl (eO aa)
   have e0:∃s' l' c',ys[0]=.slice s' l' c':=by generalize ys[0]=z at q0;cases q0 with|dU=>exact⟨_,_,_,rfl⟩|slice=>exact⟨_,_,_,rfl⟩|empty=>exact⟨_,_,_,rfl⟩
   have e1:ys[1]=.bool t:=by generalize ys[1]=z at q1;cases q1;rfl
   obtain⟨s',l',c',e0⟩:=e0;refine⟨s',l',c',t,?_⟩;rw[<-e0,<-e1];exact KW
 have hJ:@j8 E.J Gz.prog S (Bz Gz.prog BM.sn vg wc BM.W BM.I R) BM.sn:=
  @j8.mk E.J Gz.prog S _ _ (λi hi=>@Mj E.J Gz.prog S.K E.R0 E.cd E.zero uu (E.fns S.K uu) E.RZ 53 Tryz.f53 (Gz.mE func53 aw) ael aem E.dec _ _ wc φ w.heap
    (@G8 E.J φ _ _ _ _ _ _ (I5 i hi) (@VR.int E.J φ _ _) (@VR.bool E.J φ _)) hrel GC (R i) λT _=>(ago _ _ _ _ _ _ (hdp i hi T wc.drawn)).mono λe w' he=>by cases e<;>exact he)
   (λ_ _=>rfl) GC E.dec (λi _ v h χ v' pC hr=>R3 pC hr)
 have Be:∀{ad:aic}{v:AS},w.cell? ad=an v->ad=⟨ad.block,ad.off,ns⟩:=λ{ad v} h=>by have:=aab h;obtain⟨b,o,s⟩:=ad;simp only at this;rw[this]
 have I6:=Be rJ.rW
 have qR:∀m,CD.add m=⟨CD.block,CD.off+m,ns⟩:=λm=>by rw[I6];simp[Addr.add]
 have agq:qF BM w:=⟨by rw[<-I6];exact rJ.rW,by rw[<-qR];exact rJ.rH,by rw[<-qR];exact rJ.rI,by rw[<-qR];exact rJ.rQ,by rw[<-qR];exact hy1⟩
 have pm:Z'.tmps[1]?=an (.pointer (an ⟨BM.cb,BM.co,ns⟩)):=by
  show Z'.tmps[1]?=an (.pointer (an ⟨CD.block,CD.off,ns⟩));rw[<-I6];have aV:1<Z'.tmps.size:=by have:=Vh.2;omega
  have h2:Z'.tmps.getD 1 undef=.pointer (an CD):=e2;rw[Array.getD_eq_getD_getElem?,aik aV] at h2;rw[aik aV];exact congrArg an h2
 obtain⟨N1,rG,w1,IZ,t1,q1,C,o,Wg,M,D,am,S2,agr,U',ags⟩:=@aek E.J Gz.prog S gs w sl t q Sh BM jP vg wc R b Z' k' (cs'++B) GA Hb (by rw[GA];exact hF) rfl ⟨rfl,rfl⟩ Vg E.R0 E.cd E.zero uu (E.fns S.K uu) E.RZ agq (show n<=1000 by omega) (λi hi=>(Vk i hi).1) I5
  ⟨_,rJ.ar.block⟩ ⟨_,xL.block⟩ hJ pE WF Vh pm ha
 rw[GA] at S2 U';obtain⟨ads,afg,afh,as4,ane,L,afi,agt,P,GD,aio⟩:=ags;obtain⟨a3,w3,hL3,Hc⟩:=ae6 (B:=BG) pE ru hA2
 obtain⟨vk,BA⟩:∃vk:Nat->AS,∀i,i<n->@VR E.J (D i).φ (vk i) (D i).val/\R i (vk i) (D i).x.2.heap/\jl Gz.prog (λu _=>u=vk i) (D i).x.1 (D i).x.2.heap:=by
  have h:∀i,∃v:AS,i<n->@VR E.J (D i).φ v (D i).val/\R i v (D i).x.2.heap/\jl Gz.prog (λu _=>u=v) (D i).x.1 (D i).x.2.heap:=λi=>by
   by_cases hi:i<n
   ·obtain⟨⟨_,_,v,h1,h2,h3⟩,_⟩:=GD i hi;exact⟨v,λ_=>⟨h1,h2,h3⟩⟩
   ·exact⟨undef,λh=>absurd h hi⟩
  exact⟨λi=>(h i).choose,λi hi=>(h i).choose_spec hi⟩
 have I7:RU E.J S.K φ BG vg wc (λi=>(D i).φ) (λi=>(D i).x) vk (λi=>(D i).val) w1.heap w.heap.size:=by
  refine⟨λi hi=>?_,λi i' hi hi' i6 a a' c ha V' h1 h2=>?_,λb c DE=>(@HR.lt E.J _ _ _ _ hrel _ _ DE).2,λi hi a c ha hc=>?_,λi hi=>R3 (BA i hi).2.1 (BA i hi).1⟩
  ·obtain⟨⟨h1,h2,_⟩,_⟩:=GD i hi;refine⟨λb hb=>@qi.old E.J S Hb b hb,λb hb=>@qi.new E.J S Hb b hb,rfl,λb c DE=>(@HR.lt E.J _ _ _ _ hrel _ _ DE).1,h1,h2,(BA i hi).2.2,⟨_,@j8.qO E.J _ _ _ _ hJ i hi⟩,@Mem.rel E.J _ _ _ _ _ _ P i hi,(BA i hi).1,(@Mem.le E.J _ _ _ _ _ _ P) i hi,(@Mem.fresh E.J _ _ _ _ _ _ P) i hi⟩
  ·exact@Mem.apart E.J _ _ _ _ _ _ P i i' hi hi' i6 c ⟨a,ha,h1⟩ ⟨a',V',h2⟩
  ·exact(@Mem.lJ E.J _ _ _ _ _ _ P i c hi ⟨a,ha,hc⟩).1
 have agu:0<(cs++[c0 Gz.prog]).length:=au;have TP:w.heap.size<=w1.heap.size:=(@Mem.size E.J _ _ _ _ _ _ P);have afj:@HR aG.toah K φ w3.heap w1.heap:=@HR.RQ aG.toah _ _ _ _ _ (@HR.still aG.toah _ _ _ _ _ hH TP λb c DE=>(@Mem.old E.J _ _ _ _ _ _ P) c (@HR.lt aG.toah _ _ _ _ hH _ _ DE).2) (by have:=Hc.size;omega) λb c DE=>Hc.old b (@HR.lt aG.toah _ _ _ _ hH _ _ DE).1
 obtain⟨a4,w4,ψ,u,uv,hP4,Hd,qS⟩:=ae9 (B:=BG) (K:=K) (Kc:=S.K) E.le E.adu E.cdX E.afd uu (E.jm S.K uu) (jn:=φ) (vg:=vg) (wc:=wc) I7 wP rfl (by rw[show wc.heap.size=wg.heap.size from wP];exact(@HR.fX aG.toah _ _ _ _ hH).1) E.dec
  (λi hi=>aB.id (@G8 E.J φ _ _ _ _ _ _ (I5 i hi) (@VR.int E.J φ _ _) (@VR.bool E.J φ _))) (λh h1 h2=>HR.Rx X Gz.prog.funcs eqv hH ii (λb=>(i8 b).1) h1 h2) (λg hg=>Ren.zN (GC g hg))
  (λb hb hc=>by
   have:=(@HR.below aG.toah _ _ _ _ hH b (.inr ((i8 b).1 hc))).1;have h2:wg.heap.size<=b:=by rw[<-wP];exact hb
   omega) agu pE ru Vj n 0 (by show 0+n=n;omega) a3 w3 φ (λ_=>undef) hL3 Hc ⟨afj,Ren.le_refl _,λb c h=>.inl h,λk hk=>absurd hk (gX _)⟩
 obtain⟨arr,Vl,xM⟩:=agt;obtain⟨vs,G4,Tz,agv⟩:=Hd.row;have ST:K.G<=wg.heap.size/\K.G<=w.heap.size:=@HR.fX aG.toah _ _ _ _ hH
 have GF:∀m,M m->∀x,ψ x≠an m:=λm hm x A=>by
  have h1:=(@Mem.mlt E.J _ _ _ _ _ _ P m hm).1;rcases qS.ky x m A with h|⟨_,i,a,hi,ha,h⟩
  ·have h2:m<w.heap.size:=(@HR.lt aG.toah _ _ _ _ hH _ _ h).2;have h3:w.heap.size<=m:=h1;omega
  ·exact@Mem.main E.J _ _ _ _ _ _ P i hi m ⟨a,ha,h⟩ hm
 have BB:∀j,j<2->ψ (wg.heap.size+j)=ns:=λj hj=>by
  cases e:ψ (wg.heap.size+j) with
  |none=>rfl
  |some c=>
   rcases qS.ky _ c e with h|⟨h,_⟩
   ·have:=(@HR.lt aG.toah _ _ _ _ hH _ _ h).1;omega
   ·omega
 have BC:∀j,¬K.ro (wg.heap.size+j)/\¬K.tok (wg.heap.size+j):=λj=>⟨λh=>by have:=(@HR.below aG.toah _ _ _ _ hH _ (.inl h)).1;omega,λh=>by have:=(@HR.below aG.toah _ _ _ _ hH _ (.inr h)).1;omega⟩;have qT:∀m,M m->w.heap.size<=m:=λm hm=>(@Mem.mlt E.J _ _ _ _ _ _ P m hm).1
 have afk:@aB aG.toah ψ vs arr:=by
  refine@aB.mk aG.toah ψ _ _ (G4.trans xM.symm) λj x y A V=>?_;have hj:j<n:=by have:=(bU.1 A).1;rw[G4] at this;exact this
  rw[agv j hj,if_pos (show j<BG.sn from hj)] at A;cases A;have hh:w1.cell? ⟨C,j,ns⟩=an (Gx (D j).val):=(GD j hj).2;have:w1.cell? ⟨C,j,ns⟩=arr[j]?:=by simp[aiu,Vl]
  rw[this,V] at hh;cases hh;exact qS.val j hj
 obtain⟨l1,R1⟩:=@HR.link aG.toah K ψ _ _ qS.rel wg.heap.size C _ _ Tz Vl (BB 0 aa) (GF C L.1) (BC 0).1 (BC 0).2 (λ_=>rfl) (by have:=qT C L.1;have:=ST.1;have:=ST.2;omega)
  (@OR.cells aG.toah _ _ _ _ _ (@aB.mono aG.toah _ _ _ _ afk λx y A=>by show(if x=wg.heap.size then an C else ψ x)=an y;rw[if_neg λe=>by subst e;rw[show ψ wg.heap.size=ns from BB 0 aa] at A;cases A];exact A))
 have Bf:∀x y,(ψ.add wg.heap.size C) x=an y->(x=wg.heap.size/\y=C)\/ψ x=an y:=λx y A=>by
  by_cases e:x=wg.heap.size
  ·subst e;rw[Ren.add_same] at A;cases A;exact .inl ⟨rfl,rfl⟩
  ·have:(ψ.add wg.heap.size C) x=ψ x:=if_neg e;rw[this] at A;exact .inr A
 have TQ:Ren.le φ (ψ.add wg.heap.size C):=Ren.le_trans qS.le l1
 have afl:@aB aG.toah (ψ.add wg.heap.size C) (BG.full wg.heap.size) (BM.full C):=by
  refine@aB.mk aG.toah _ _ _ rfl λi x y A V=>?_
  match i,A,V with
  |0,A,V=>simp[dh.full,BG,BM] at A V;subst A;subst V;exact@VR.int aG.toah _ _ _
  |1,A,V=>simp[dh.full,BG,BM] at A V;subst A;subst V;exact@VR.int aG.toah _ _ _
  |2,A,V=>simp[dh.full,BG,BM] at A V;subst A;subst V;exact@VR.bool aG.toah _ _
  |3,A,V=>simp[dh.full,BG,BM] at A V;subst A;subst V;exact@VR.int aG.toah _ _ _
  |4,A,V=>simp[dh.full,BG,BM] at A V;subst A;subst V;exact@VR.slice aG.toah _ _ _ _ _ (xL.mono TQ)
  |5,A,V=>simp[dh.full,BG,BM] at A V;subst A;subst V;exact@VR.slice aG.toah _ _ _ _ _ ⟨Ren.add_same _ _ _,rfl,rfl⟩
  |i+6,A,_=>simp[dh.full] at A
 have I8:=ane
 obtain⟨l2,R2⟩:=@HR.link aG.toah K (ψ.add wg.heap.size C) _ _ R1 (wg.heap.size+1) o _ _ Hd.box afi (by
   cases e:(ψ.add wg.heap.size C) (wg.heap.size+1) with
   |none=>rfl
   |some c=>
    rcases Bf _ c e with⟨h,_⟩|h
    ·omega
    ·rw[BB 1 aa] at h;cases h) (λx A=>by
   rcases Bf x o A with⟨_,h⟩|h
   ·exact I8.1 h
   ·exact GF o L.2.1 x h) (BC 1).1 (BC 1).2 (λ_=>rfl) (by have:=qT o L.2.1;have:=ST.1;have:=ST.2;omega)
  (@OR.cells aG.toah _ _ _ _ _ (@aB.mono aG.toah _ _ _ _ afl (λx y A=>by
   show(if x=wg.heap.size+1 then an o else(ψ.add wg.heap.size C) x)=an y
   rw[if_neg (λe=>by
    subst e;rcases Bf _ y A with⟨h,_⟩|h
    ·omega
    ·rw[BB 1 aa] at h;cases h)]
   exact A)))
 obtain⟨ω,I9⟩:∃ω,ω=(ψ.add wg.heap.size C).add (wg.heap.size+1) o:=⟨_,rfl⟩;rw[<-I9] at l2 R2;have tH:Ren.le φ ω:=Ren.le_trans TQ l2;have TR:ω (wg.heap.size+1)=an o:=by rw[I9];exact Ren.add_same _ _ _
 have F8:∀x y,ω x=an y->y=o\/y=C\/ψ x=an y:=λx y A=>by
  by_cases e:x=wg.heap.size+1
  ·subst e;rw[TR] at A;cases A;exact .inl rfl
  ·have:ω x=(ψ.add wg.heap.size C) x:=by rw[I9];exact if_neg e
   rw[this] at A;rcases Bf x y A with⟨_,h⟩|h
   ·exact .inr (.inl h)
   ·exact .inr (.inr h)
 have afm:Goes Tryz.prog AT RA (DA (IX Sh Wg) w1.heap.size) (λg po=>g=G (b.at am (.code dA::k')) (cs'++B)/\∃d,po=w1.at d) 1 (G (b.at am (.inRegion gN []::.code dA::k')) (cs'++B)) w1:=by refine jy rfl λw₁ r=>?_;obtain⟨d,rfl⟩:=r;rw[Kx];refine⟨FH,?_⟩;exact e7 λahD⟨d4,e⟩=>by subst e;exact⟨rfl,d4,rfl⟩
 obtain⟨N2,xG,a2',Fm,xH,t2,q2,afn,_,agw,hF2,⟨rfl,d,rfl⟩,_,_⟩:=M3 (by rintro g w⟨rfl,_⟩;rfl) _ _ rG _ w1 IZ t1 q1 (ay _) afm U' agr U'.low;refine⟨N1+N2,xG,_,_,xH,t2,q2,ω,_,w4,IX Sh Wg,by rw[runNT_add,S2];exact afn,agw,hF2,λx y Cl l hl=>?_,uv.w,hP4,?_,tH,aio,TP,λc hc=>(@Mem.old E.J _ _ _ _ _ _ P) c hc,λx y Cl=>?_,by have:=Hd.size;omega⟩
 ·
  have ahE:=qT Wg L.2.2
  have aV:∀m,w.heap.size<=m->bQ m l->¬Sh l:=λm hm hl hs=>by obtain⟨ad,rfl,pF⟩:=hF.shl l hs;have:=bQ.inj hl (.inl ⟨_,rfl,rfl⟩);omega
  have hyW:y≠Wg:=by
   rcases F8 x y Cl with rfl|rfl|h
   ·exact I8.2.1
   ·exact I8.2.2
   ·intro e;subst e;exact GF _ L.2.2 x h
  rintro(hs|⟨ad,rfl,pF⟩)
  ·rcases F8 x y Cl with rfl|rfl|h
   ·exact aV _ (qT _ L.2.1) hl hs
   ·exact aV _ (qT _ L.1) hl hs
   ·rcases qS.ky x y h with h|⟨_,i,a',hi,V',h⟩
    ·exact Vg x y h l hl hs
    ·exact aV y (I7.own i hi a' y V' h) hl hs
  ·have:=bQ.inj hl (.inl ⟨_,rfl,rfl⟩);exact hyW (this.trans pF)
 ·have afo:@eI aG.toah Gz.prog b.fn dA:=by rw[WF];exact E.rest
  refine⟨b.at a4 (.code dA::k),b.at am (.code dA::k'),cs,cs',rfl,rfl,?_,@iC.mono aG.toah _ _ _ _ _ Gy tH,R2,λg hg=>tH _ _ (hv g hg),ka.congr rfl⟩
  refine@eT.mk aG.toah _ _ _ _ rfl ?_ (@gS.cons aG.toah _ _ _ _ _ _ _ _ (@kt.code aG.toah _ _ _ _ _ _ (@ik.same aG.toah _ _ _ _ afo)) (by
    show@gS aG.toah Gz.prog ω b.fn AT k k';rw[WF];exact@gS.mono aG.toah _ _ _ _ _ _ _ afe tH)) (by
    show jr ω a4.defers am.defers;rw[uv.d,ads];exact agp.mono tH) .run ⟨GB,GB⟩ .none (by
    show@pd aG.toah b.fn;rw[WF];exact aff)
  show@cU aG.toah ω (aG.toah.lv b.fn) a4.tmps am.tmps;rw[WF];have dg:a4.tmps.size=am.tmps.size:=by rw[uv.z.1,afh.1,uq.size]
  refine@cU.mk aG.toah _ _ _ _ dg (λi x y hi A V=>?_) (λi hi=>by rw[uv.z.1];exact uq.tY i hi);obtain⟨hk,ahF⟩:=(aG.Ci i).1 hi;rcases hk with hk|rfl
  ·rw[uv.k i hk] at A;rw[afg i hk] at V;exact@VR.mono aG.toah _ _ _ _ (@cU.at_ aG.toah _ _ _ _ uq i x y hi A V) tH
  ·rw[uv.f 4 _ rfl] at A;rw[as4] at V;cases A;cases V;exact@VR.ptr aG.toah _ _ _ ⟨TR,rfl,rfl⟩
 ·rcases F8 x y Cl with rfl|rfl|h
  ·exact .inr (qT _ L.2.1)
  ·exact .inr (qT _ L.1)
  ·rcases qS.ky x y h with h|⟨_,i,a',hi,V',h⟩
   ·exact .inl h
   ·exact .inr (I7.own i hi a' y V' h)
end
end Go.Proofs.Q0.Open
namespace Go.Proofs.Q0
open Go.Proofs.Tryz
variable{w:rl}{n B cnt:Nat}{R:Option (List Int)}{W H:Int}
section
open Go.RowKit
def fO(n:Int):Prop:=8<=n/\n<=32/\n%8=0
instance(n:Int):Decidable (fO n):=by unfold fO;infer_instance
def M4{n:Int}{t:Bool}(h:Hid (decide (fO n)=t)):
  ahR Gz.prog 20 #[U O n] w λe w'=>e=dl (ci t)/\w=w':=by
 obtain rfl:=h.out;unfold fO;exact JQ
def Y8{v:Int}{k:Nat}(h:k<n):(so k v++so (n-k) 0).set k v=so (k+1) v++so (n-(k+1)) 0:=by rw[List.set_append_right _ _ au,List.length_replicate,ajz,show n-k=(n-(k+1))+1 by omega,List.replicate_succ,List.set_cons_zero,List.replicate_succ',List.append_assoc];rfl
def NH(W H V:Int)(n:Nat)(w:rl)(A:Hid (fO W))(C:Hid (fO H))(D:Hid (0<=V/\V<=255))(M:W*H=n)(E:n<=1024):
  ahR Gz.prog 19 #[U O W,U O H,U O V] w λe w'=>∃v,e=dl (bi #[U O W,U O H,v])/\Own w' w.heap.size v n (so n V)/\Q w w':=by
 have F:=ag (decide_eq_true A.out);have G:=ag (decide_eq_true C.out);have I:=ag (decide_eq_true D.out);have x:=ak.new w 28 #[U O 0,U O 0,Y ns 0 0];have y:Q w (w.alloc (ap #[U O 0,U O 0,Y ns 0 0] 28)):=aU;go_enter Gz.gf func19,ntmps19;go_wp2;refine(M4 F).mono ?_;rintro e w'⟨rfl,rfl⟩;go_wp2;refine(M4 G).mono ?_;rintro e w'⟨rfl,rfl⟩;go_wp2;refine(Mb _ I).mono ?_;rintro e w'⟨rfl,rfl⟩;go_wp2_with(at_make;refine Wi rfl rfl (w.alloc (ap #[U O 0,U O 0,Y ns 0 0] 28)) n rfl rfl rfl rfl aa (Q.refl _) ?_;intro j f q1 s1);rw[NO] at f s1;have z:=x.q q1;have c:=y.trans q1;have J:=f.block.2;have l:=f.alloc (ap #[U O W,U O H,Y (an ⟨w.heap.size+1,0,ns⟩) n n] 28);have o:=c.alloc (ap #[U O W,U O H,Y (an ⟨w.heap.size+1,0,ns⟩) n n] 28);have r:=z.alloc (ap #[U O W,U O H,Y (an ⟨w.heap.size+1,0,ns⟩) n n] 28);have d2:=ak.new j 28 #[U O W,U O H,Y (an ⟨w.heap.size+1,0,ns⟩) n n];clear x y f q1 s1 z c;generalize j.heap.size=m at J d2⊢;generalize j.alloc (ap #[U O W,U O H,Y (an ⟨w.heap.size+1,0,ns⟩) n n] 28)=N at l o r d2⊢;go_loopw[33] (λi wr=>∃k:Nat,k<=n/\i=U O k/\Q w wr/\ak wr w.heap.size 28 #[U O 0,U O 0,Y ns 0 0]/\ak wr m 28 #[U O W,U O H,Y (an ⟨w.heap.size+1,0,ns⟩) n n]/\Own wr (w.heap.size+1) (Y (an ⟨w.heap.size+1,0,ns⟩) n n) n (so k V++so (n-k) 0)) (λi _=>n-(intOf i).toNat)
 case atStart=>exact⟨0,ez _,rfl,o,r,d2,by simpa using l⟩
 case round=>
  obtain⟨k,P,rfl,hq,g,hd,b⟩:=hrel;clear o r d2 l;by_cases d:k<n
  ·have K:=hd.cell;have f1:=b.free k;have S:=b.at k d;have a:=ag (b.set k V);have s:=ag (g.aL (p:=⟨w.heap.size+1,k,ns⟩) (show w.heap.size≠w.heap.size+1 by omega) (U O V));have t:=ag (hd.aL (p:=⟨w.heap.size+1,k,ns⟩) (show m≠w.heap.size+1 by omega) (U O V));have u:=ag (hq.set (p:=⟨w.heap.size+1,k,ns⟩) (Nat.le_succ _) (U O V));clear hq g hd b;go_wp2;go_roundw;case rel=>exact⟨k+1,aa,aJ,u.out,s.out,t.out,by have h:=a.out;rw[Y8 d] at h;exact h⟩
   case measure=>exact bj
  ·have K:=hd.cell;have L:=g.cell;have f2:=g.free;have:k=n:=aa;subst this;have a:=ag b;clear b;go_wp2;refine ahX (v:=bi #[U O W,U O H,Y (an ⟨w.heap.size+1,0,ns⟩) k k]) (by simp[results,results19,go_sem,L]) rfl ⟨_,rfl,?_,aU⟩;have h:=a.out;simp only[ajz,List.replicate_zero,List.append_nil] at h;exact(((h.aL (p:=⟨w.heap.size,0,ns⟩) (Nat.lt_succ_self _) _).aL (p:=⟨w.heap.size,1,ns⟩) (Nat.lt_succ_self _) _).aL (p:=⟨w.heap.size,2,ns⟩) (Nat.lt_succ_self _) _).mono (Nat.le_succ _)
def alive(w:rl):ahR Gz.prog 8 #[] w λe w'=>e=dl (ci AT)/\Q w w':=by
 go_enter Gz.gf func8,ntmps8;go_wp2;refine(NH 8 8 7 64 _ (by unfold Hid fO;omega) (by unfold Hid fO;omega) (by unfold Hid;omega) rfl aa).mono ?_;rintro e d⟨v,rfl,a,q1⟩;obtain⟨A,c,rfl⟩:=a.form;have b:∀w:rl,(aji 28 (bi #[U O 8,U O 8,Y A 64 c]) 2).run Gz.prog w=.ok (Y A 64 c) w:=λ_=>by kernel_rfl
 go_wp2;go_ret;exact⟨rfl,q1⟩
end
section
open Go.RowKit Go.WideShapes Go.ChangeShapes Go.Proofs.Q0.Open
def nN(B cnt:Nat)(w:rl)(R:Option (List Int))(v:AS):Prop:=match R with
 |some L=>∃gl cl,v=Y (an ⟨gl,0,ns⟩) cnt cl/\az 100 71 w B (Y (an ⟨gl,0,ns⟩) cnt cl) cnt L
 |none=>v=Y ns 0 0
def nN.q{w':rl}{v:AS}(h:nN B cnt w R v)(q:Q w w'):nN B cnt w' R v:=by cases R with|none=>exact h|some L=>obtain⟨gl,cl,e,o⟩:=h;exact⟨gl,cl,e,o.q q⟩
def nN.aL{v:AS}(h:nN B cnt w R v){p:aic}(a:∀s,v.ownBlock=an s->s≠p.block)(u:AS):nN B cnt (w.setCell p u) R v:=by cases R with|none=>exact h|some L=>obtain⟨gl,cl,rfl,o⟩:=h;exact⟨gl,cl,rfl,o.1,ownsRow_setCell_other o.2 (λe=>a _ e rfl) u⟩
def Y9(xs:List Int):(strOfNums xs).size=xs.length:=by simp[strOfNums,ByteArray.size]
def R4(v:AS)(w:rl):(Instr.typeAssert (gc 234 v) 120 234 Ba).run Gz.prog w=.ok v w:=aF
def agx(a b c d e:AS)(w:rl):(aji 25 (bi #[a,b,c,d,e]) 0).run Gz.prog w=.ok a w:=aF
def agy(a b c d e:AS)(w:rl):(aji 25 (bi #[a,b,c,d,e]) 1).run Gz.prog w=.ok b w:=aF
def agz(a b c d e:AS)(w:rl):(aji 25 (bi #[a,b,c,d,e]) 2).run Gz.prog w=.ok c w:=aF
def agA(a b c d e:AS)(w:rl):(aji 25 (bi #[a,b,c,d,e]) 3).run Gz.prog w=.ok d w:=aF
def agB(a b c d e:AS)(w:rl):(aji 25 (bi #[a,b,c,d,e]) 4).run Gz.prog w=.ok e w:=aF
def agC(w:rl):(binOp .eql 68 (Y ns 0 0) (Y ns 0 0)).run Gz.prog w=.ok (ci AT) w:=aF
def agD(g:aic)(n c:Nat)(w:rl):(binOp .eql 68 (Y (an g) n c) (Y ns 0 0)).run Gz.prog w=.ok (ci Ba) w:=aF
def Xx{w':rl}{e:Ending}(h:Fc R cnt w e w')(hc:1<=cnt)(d:B<=w.heap.size):∃A m c t,e=dl (em #[Y A m c,ci t])/\nN B cnt w' R (Y A m c)/\(∀s,(Value.slice A m c).ownBlock=an s->w.heap.size<=s)/\Q w w':=by
 obtain⟨h1,b⟩:=h;cases R with
 |none=>exact⟨ns,0,0,Ba,h1,rfl,λs a=>(by cases a),b⟩
 |some L=>obtain⟨v,f,o⟩:=h1;obtain⟨gl,cl,rfl⟩:=o.iP aa;exact⟨_,_,_,_,f,⟨gl,cl,rfl,o.mono d⟩,λs a=>o.below s a,b⟩
def ae8:Gz.f27.results=Tryz.f27.results:=rfl
def adv(I:Bool){q:Int}(A:Option aic)(c:Nat)(w:rl)(d:iz W H q n=Ba):
  ahR Gz.prog 27 #[bi (#[U O W,U O H,ci I,U O q,Y A n c]:Array AS)] w λe w'=>e=dl (em #[bi (#[U O 0,U O 0,ci Ba,U O 0,Y ns 0 0,Y ns 0 0]:Array AS),ci Ba])/\Q w w':=by
 have a:Q w ((w.alloc (ap (#[U O W,U O H,ci I,U O q,Y A n c]:Array AS) 25)).alloc (ap (#[U O 0,U O 0,ci Ba,U O 0,Y ns 0 0,Y ns 0 0]:Array AS) 58)):=aU;have i:=(ak.new w 25 (#[U O W,U O H,ci I,U O q,Y A n c]:Array AS)).alloc (ap (#[U O 0,U O 0,ci Ba,U O 0,Y ns 0 0,Y ns 0 0]:Array AS) 58);have b:=ak.new (w.alloc (ap (#[U O W,U O H,ci I,U O q,Y A n c]:Array AS) 25)) 58 (#[U O 0,U O 0,ci Ba,U O 0,Y ns 0 0,Y ns 0 0]:Array AS);rw[NO] at b;have T:=ag λz=>Nd W H I q A n c z;rw[d] at T;refine calls_of_wp Gz.func27 rfl ?_;rw[show Gz.f27.ntmps=41 by kernel_rfl];simp only[List.size_toArray,ais,ajF,aiP,Nat.reduceSub,akg,akh,List.push_toArray,akt,ajr,aje];unfold lL ja dA iv lK;dsimp only[Tryz.f27,aii,Code.sl,Code.sr,gA,gB,gD,gM,BI,Ht,Hu,wV,aR,eD];go_wp2;refine(T.out _).mono ?_;rintro e j⟨rfl,q1⟩;have f:=b.q q1;replace a:=a.trans q1;go_wp2_with(refine eH (cs':=(#[U O 0,U O 0,ci Ba,U O 0,Y ns 0 0,Y ns 0 0]:Array AS)) rfl _ _ _ rfl rfl _ rfl rfl f rfl fq aj ?_;intro l g h m);have bz:=g.cell;exact ahX (v:=em #[bi (#[U O 0,U O 0,ci Ba,U O 0,Y ns 0 0,Y ns 0 0]:Array AS),ci Ba]) CR rfl ⟨rfl,a.grown h λk e=>by have:=aH e;omega⟩
def ni{q:Int}(h:iz W H q n=AT):fO W/\fO H/\(0<=q/\q<=15)/\(n:Int)=H/8:=by unfold iz dP at h;simp only[Bool.and_eq_true,decide_eq_true_eq] at h;exact⟨h.1,h.2.1,h.2.2.1,h.2.2.2⟩
def adw:(Gz.prog.info? 68).map (λi=>(i.zero,i.size,i.bytes))=an (an (Y ns 0 0),1,24):=aF
def abN(I:Bool){q:Int}{A:Option aic}(c:Nat){ls:List (List Int)}{a1 a2:aic}(F:iz W H q n=AT)(hx:eF w B A ls)(hB:B<=w.heap.size)(hn:ls.length=n)(he:gQ w a1 a2 B)(k1:dD w a1)(k2:dD w a2)(tU:W/8=(cnt:Int)):
  ahR Gz.prog 27 #[bi (#[U O W,U O H,ci I,U O q,Y A n c]:Array AS)] w λe w'=>Q w w'/\((∃a,e=dl (em #[bi (#[U O W,U O H,ci I,U O q,Y A n c,Y (an ⟨a,0,ns⟩) n n]:Array AS),ci AT])/\(∀i,i<n->∃L gl cl,fh (aS ls i) cnt I=an L/\w'.cell? ⟨a,i,ns⟩=an (Y (an ⟨gl,0,ns⟩) cnt cl)/\az 100 71 w' w.heap.size (Y (an ⟨gl,0,ns⟩) cnt cl) cnt L))\/
   (e=dl (em #[bi (#[U O 0,U O 0,ci Ba,U O 0,Y ns 0 0,Y ns 0 0]:Array AS),ci Ba])/\∃i,i<n/\fh (aS ls i) cnt I=ns)):=by
 have x:Q w ((w.alloc (ap (#[U O W,U O H,ci I,U O q,Y A n c]:Array AS) 25)).alloc (ap (#[U O 0,U O 0,ci Ba,U O 0,Y ns 0 0,Y ns 0 0]:Array AS) 58)):=aU;have bc:=(ak.new w 25 (#[U O W,U O H,ci I,U O q,Y A n c]:Array AS)).alloc (ap (#[U O 0,U O 0,ci Ba,U O 0,Y ns 0 0,Y ns 0 0]:Array AS) 58);have br:=ak.new (w.alloc (ap (#[U O W,U O H,ci I,U O q,Y A n c]:Array AS) 25)) 58 (#[U O 0,U O 0,ci Ba,U O 0,Y ns 0 0,Y ns 0 0]:Array AS);rw[NO] at br;have T:=ag λz=>Nd W H I q A n c z;rw[F] at T;obtain⟨⟨w1,w2,w3⟩,⟨h1,h2,h3⟩,⟨q1,q2⟩,xO⟩:=ni F;have ru:n<=4:=aa;have NE:1<=n:=aa;have ahG:(0:Int)<(n:Int):=aa;have ahH:(n:Int)<5:=aa;have agE:1<=cnt/\cnt<=4:=aa;obtain⟨b,o,rfl,hb,hc⟩:=hx aa;have HC:=ag hc;have HN:=ag hn;have I1:EV.wrap (cnt:Int)=(cnt:Int):=aD _ ⟨aa,aa⟩;have HNH:=ag xO;have HE:=ag he;have K1:=ag k1;have K2:=ag k2;have t0:=agx;have t1:=agy;have t2:=agz;have t3:=agA;have t4:=agB;have Vm:=λw=>R4 (d9 (an a1)) w;have te2:=λw=>R4 (d9 (an a2)) w;clear F hx hc hn xO he k1 k2;refine calls_of_wp Gz.func27 rfl ?_;rw[show Gz.f27.ntmps=41 by kernel_rfl];simp only[List.size_toArray,ais,ajF,aiP,Nat.reduceSub,akg,akh,List.push_toArray,akt,ajr,aje];unfold lL ja dA iv lK;dsimp only[Tryz.f27,aii,Code.sl,Code.sr,gA,gB,gD,gM,BI,Ht,Hu,wV,aR,eD];go_wp2;refine(T.out _).mono ?_;rintro e Pi⟨rfl,qa⟩;have N:=br.q qa;have X:=bc.q qa;replace x:=x.trans qa;have E1:=HE.out.q x hB;have e1:Pi.cell? ⟨1,0,ns⟩=an (gc 234 (d9 (an a1))):=E1.e1;have e2:Pi.cell? ⟨2,0,ns⟩=an (gc 234 (d9 (an a2))):=E1.e2;have cc:=X.cell;have HT:=ag (ahU X (ahU N (ahU x Vm)));clear bc br qa T E1;go_wp2;clear Vm te2 e1 e2 cc X N x t0 t1 t2 t3 t4;go_loopw[22] (λi wr=>∃k:Nat,k<=n/\i=U O k/\wr=Pi) (λi _=>n-(intOf i).toNat)
 case atStart=>exact⟨0,aa,rfl,rfl⟩
 case round=>
  obtain⟨k,hk,rfl,rfl⟩:=hrel;obtain⟨X,N,x,_⟩:=HT.out;by_cases aV:k<n
  ·have mp:(k:Int)<n:=by omega
   obtain⟨A',c',J,K,Z,T'⟩:=HC.out k (by rw[HN.out];exact aV);have sc:=(x.cell b (o+k) aa).trans J;have cv:=oJ (c:=c') (K.q x hB) rfl;have dg:=Y9 (aS ls k);generalize(aS ls k).length=m at sc cv dg Z;generalize strOfNums (aS ls k)=s at cv dg;unfold maxLen at T';have Cn:(m:Int)<=9223372036854775807:=aa;have ahI:(c':Int)<=9223372036854775807:=aa;have hmc:(m:Int)<=(c':Int):=aa;clear X N x J K;go_wp2;go_roundw;case rel=>exact⟨k+1,aa,aJ,trivial⟩
   case measure=>exact bj
  ·have rx:k=n:=by omega
   subst rx;obtain⟨i0,hi,t7,hz1,hz2⟩:=info_parts adw;have Hi:=ag hi;clear hi;have Hz0:=ag t7;clear t7;have Hz1:=ag hz1;clear hz1;have Hz2:=ag hz2;clear hz2;have HQ:=ag (ahU X (ahU N x));clear X N x;go_wp2_with(at_make;refine wpList_make_full _ rfl (.tmp 16) (.tmp 16) 56 rfl wr.heap.size 68 i0 (Y ns 0 0) 1 (Gz.gu underlying56) Hi.out Hz0.out Hz1.out .i64 .i64 k k k rfl rfl rfl rfl (by rw[Hz2.out];omega) mY (ay _) ?_;intro G TS y);have Ug:=y.size;have ho:G.ownsRow wr.heap.size 68 1 (Y (an ⟨wr.heap.size,0,ns⟩) k k) k (so k (Y ns 0 0)):=by simpa[Value.cells,toList_madeCells_one] using TS
   have Ja:Q wr G:=Q.ny y;have pm:wr.heap.size<G.heap.size:=(ho.lt _ rfl).2;obtain⟨X,N,x⟩:=HQ.out;have hsw:=x.size;have rk:=N.lt;generalize agF:wr.heap.size=a at ho pm hsw rk⊢
   have K0:Hid (([]:List AS).length=0/\Q w (G.alloc (ap (#[U O W,U O H,ci I,U O q,Y (an ⟨b,o,ns⟩) k c,Y (an ⟨a,0,ns⟩) k k]:Array AS) 58))/\a<(G.alloc (ap (#[U O W,U O H,ci I,U O q,Y (an ⟨b,o,ns⟩) k c,Y (an ⟨a,0,ns⟩) k k]:Array AS) 58)).heap.size/\(G.alloc (ap (#[U O W,U O H,ci I,U O q,Y (an ⟨b,o,ns⟩) k c,Y (an ⟨a,0,ns⟩) k k]:Array AS) 58)).ownsRow a 68 1 (Y (an ⟨a,0,ns⟩) k k) k ([]++so (k-0) (Y ns 0 0))/\
     ak (G.alloc (ap (#[U O W,U O H,ci I,U O q,Y (an ⟨b,o,ns⟩) k c,Y (an ⟨a,0,ns⟩) k k]:Array AS) 58)) G.heap.size 58 (#[U O W,U O H,ci I,U O q,Y (an ⟨b,o,ns⟩) k c,Y (an ⟨a,0,ns⟩) k k]:Array AS)/\ak (G.alloc (ap (#[U O W,U O H,ci I,U O q,Y (an ⟨b,o,ns⟩) k c,Y (an ⟨a,0,ns⟩) k k]:Array AS) 58)) (w.heap.size+1) 58 (#[U O 0,U O 0,ci Ba,U O 0,Y ns 0 0,Y ns 0 0]:Array AS)):=
    ⟨rfl,(x.trans Ja).alloc _,by rw[NO];omega,by simpa using ho.alloc _,ak.new G _ _,(N.q Ja).alloc _⟩
   generalize Co:G.heap.size=p0 at K0 pm⊢;generalize G.alloc (ap (#[U O W,U O H,ci I,U O q,Y (an ⟨b,o,ns⟩) k c,Y (an ⟨a,0,ns⟩) k k]:Array AS) 58)=w6 at K0⊢;clear TS y ho Ja X N x Ug HQ HT agF Co
   go_loopw[22] (λi wx=>∃(j:Nat)(d:List AS),j<=k/\i=U O j/\Hid (d.length=j/\Q w wx/\a<wx.heap.size/\wx.ownsRow a 68 1 (Y (an ⟨a,0,ns⟩) k k) k (d++so (k-j) (Y ns 0 0))/\
     ak wx p0 58 (#[U O W,U O H,ci I,U O q,Y (an ⟨b,o,ns⟩) k c,Y (an ⟨a,0,ns⟩) k k]:Array AS)/\ak wx (w.heap.size+1) 58 (#[U O 0,U O 0,ci Ba,U O 0,Y ns 0 0,Y ns 0 0]:Array AS)/\(∀i,i<j->nN w.heap.size cnt wx (fh (aS ls i) cnt I) (d[i]?.getD undef))/\(∀i s,i<j->(d[i]?.getD undef).ownBlock=an s->s≠a))) (λi _=>k-(intOf i).toNat)
   case atStart=>exact⟨0,[],ez _,rfl,K0.out.1,K0.out.2.1,K0.out.2.2.1,K0.out.2.2.2.1,K0.out.2.2.2.2.1,K0.out.2.2.2.2.2,λ_ h=>absurd h aa,λ_ _ h=>absurd h aa⟩
   case round=>
    obtain⟨j,d,hj,rfl,hK⟩:=hrel;obtain⟨g,f,P,r,E,D,C,y8⟩:=hK.out;clear hK K0;by_cases ip:j<k
    ·have tQ:(j:Int)<k:=by omega
     obtain⟨A',c',J,K,Z,T'⟩:=HC.out j (by rw[HN.out];omega);have sc:=(f.cell b (o+j) aa).trans J;have Vn:=f.size;have T:=ag (Mw c' cnt I (K.q f hB) rfl ⟨Z,T'⟩ aa (HE.out.q f hB) (K1.out.q f) (K2.out.q f));have KK:=ag (ahU g (ahU f (ahU P (ahU r (ahU E (ahU D (ahU C y8)))))));clear g f P r E D C y8 J K Z T';go_wp2;refine T.out.mono ?_;intro e S hd;rw[Int.toNat_natCast] at hd;obtain⟨Ar,mr,cr,t,rfl,Cf,qY,V⟩:=Xx (B:=w.heap.size) hd agE.1 Vn;obtain⟨g,f,P,r,E,D,C,y8⟩:=KK.out;obtain⟨u,hu⟩:∃u,u=Value.slice Ar mr cr:=⟨_,rfl⟩;rw[<-hu] at Cf qY;have Cp:=r.kept (w':=S) (row:=ns) ⟨V.os,V.tape,V.output,V.size,λk hk _=>V.block k hk⟩ (Oj _)
     have Be:S.cell? ⟨a,j,ns⟩=an (Y ns 0 0):=by rw[Cp.cellAt j aa,List.getElem?_append_right aa,g,ajz,show k-j=(k-(j+1))+1 by omega,List.replicate_succ];rfl
     have fd:=Cp.frozenAt j;have z4:=(Cp.stored j u).1;rw[abd g ip u] at z4;have G':∀s,u.ownBlock=an s->s≠a:=λs F=>by have:=qY s F;omega
     have agG:(S.setCell ⟨a,j,ns⟩ u).heap.size=S.heap.size:=rL
     have KZ:Hid ((d++[u]).length=j+1/\Q w (S.setCell ⟨a,j,ns⟩ u)/\a<(S.setCell ⟨a,j,ns⟩ u).heap.size/\(S.setCell ⟨a,j,ns⟩ u).ownsRow a 68 1 (Y (an ⟨a,0,ns⟩) k k) k ((d++[u])++so (k-(j+1)) (Y ns 0 0))/\
       ak (S.setCell ⟨a,j,ns⟩ u) p0 58 (#[U O W,U O H,ci I,U O q,Y (an ⟨b,o,ns⟩) k c,Y (an ⟨a,0,ns⟩) k k]:Array AS)/\ak (S.setCell ⟨a,j,ns⟩ u) (w.heap.size+1) 58 (#[U O 0,U O 0,ci Ba,U O 0,Y ns 0 0,Y ns 0 0]:Array AS)/\(∀i,i<j+1->nN w.heap.size cnt (S.setCell ⟨a,j,ns⟩ u) (fh (aS ls i) cnt I) ((d++[u])[i]?.getD undef))/\(∀i s,i<j+1->((d++[u])[i]?.getD undef).ownBlock=an s->s≠a)):=by
      refine⟨by simp[g],(f.trans V).set (by show w.heap.size<=a;omega) _,by have:=V.size;omega,z4,(E.q V).aL (p:=⟨a,j,ns⟩) (by show p0≠a;omega) _,(D.q V).aL (p:=⟨a,j,ns⟩) (by show w.heap.size+1≠a;omega) _,λi hi=>?_,λi s hi F=>?_⟩
      ·by_cases h:i<j
       ·rw[Ok d u i aa];exact((C i h).q V).aL (λs F=>y8 i s h F) u
       ·obtain rfl:i=d.length:=by omega
        rw[Ol];subst g;exact Cf.aL G' u
      ·by_cases h:i<j
       ·rw[Ok d u i aa] at F;exact y8 i s h F
       ·obtain rfl:i=d.length:=by omega
        rw[Ol] at F;exact G' s F
     rw[hu] at KZ;clear KK g f P r E D C y8 z4 Cp G' T hu Cf qY agG hd;go_wp2;go_roundw;case rel=>exact⟨j+1,d++[_],aa,aJ,KZ.out⟩
     case measure=>exact bj
    ·have agH:j=k:=by omega
     subst agH;rw[ajz,List.replicate_zero,List.append_nil] at r;have pc:=E.cell;have KK:=ag (ahU g (ahU f (ahU P (ahU r (ahU E (ahU D C))))));clear g f P r E D C y8;obtain⟨wo,rfl⟩:∃wo:rl,wo=wr:=⟨_,rfl⟩;go_wp2;go_loopw[32] (λv wx=>∃i:Nat,i<=j/\v=U O i/\wo=wx/\Hid (∀l,l<i->∃L,fh (aS ls l) cnt I=an L)) (λv _=>j-(intOf v).toNat)
     case atStart=>exact⟨0,aa,rfl,rfl,λl h=>absurd h aa⟩
     case round=>
      obtain⟨i,hi,rfl,rfl,Jb⟩:=hrel;obtain⟨g,f,P,r,E,D,C⟩:=KK.out;by_cases Vo:i<j
      ·have hii:(i:Int)<j:=by omega
       have M:=C i Vo;have Jc:=r.cellAt i aa
       have Jd:d[i]?=an (d[i]?.getD undef):=by have:i<d.length:=aa;rw[ajR this];rfl
       rw[Jd] at Jc;cases hR:fh (aS ls i) cnt I with
       |none=>rw[hR] at M;rw[show d[i]?.getD undef=Y ns 0 0 from M] at Jc;have en:=agC;have HR:=ag hR;clear g P r E C M Jd hR Jb KK;go_wp2_with(refine eH (cs':=(#[U O 0,U O 0,ci Ba,U O 0,Y ns 0 0,Y ns 0 0]:Array AS)) rfl _ _ _ rfl rfl _ rfl rfl D rfl fq aj ?_;intro w9 b9 g9 s9);have bz:=b9.cell;exact ahX (v:=em #[bi (#[U O 0,U O 0,ci Ba,U O 0,Y ns 0 0,Y ns 0 0]:Array AS),ci Ba]) CR rfl ⟨f.grown g9 (λk e=>by have:=aH e;omega),.inr ⟨rfl,i,Vo,HR.out⟩⟩
       |some L=>
        rw[hR] at M;obtain⟨gl,cl,hv,_⟩:=M;rw[hv] at Jc;have en:=agD;have HR:=ag hR;clear g f P r E D C Jd hR hv;go_wp2;go_roundw
        case rel=>
         refine⟨i+1,aa,aJ,trivial,λl hl=>?_⟩;by_cases h:l<i
         ·exact Jb.out l h
         ·obtain rfl:l=i:=by omega
          exact⟨L,HR.out⟩
        case measure=>exact bj
      ·have agI:i=j:=by omega
       subst agI;have pc:=E.cell;have YY:=ag (ahU g (ahU f (ahU r (ahU D C))));have xt:=D.lt;clear g f P r E C KK;go_wp2_with(refine eH (cs':=(#[U O W,U O H,ci I,U O q,Y (an ⟨b,o,ns⟩) i c,Y (an ⟨a,0,ns⟩) i i]:Array AS)) rfl _ _ _ rfl rfl _ rfl rfl D rfl fq aj ?_;intro w9 b9 g9 s9);have bz:=b9.cell;obtain⟨g,f,r,_,C⟩:=YY.out;have q9:=f.grown g9 (λk e=>by have:=aH e;omega);refine ahX (v:=em #[bi (#[U O W,U O H,ci I,U O q,Y (an ⟨b,o,ns⟩) i c,Y (an ⟨a,0,ns⟩) i i]:Array AS),ci AT]) CR rfl ⟨q9,.inl ⟨a,rfl,λl hl=>?_⟩⟩;obtain⟨L,hL⟩:=Jb.out l hl;have Vp:=C l hl;rw[hL] at Vp;obtain⟨gl,cl,hv,ol⟩:=Vp;have i8:=r.cellAt l aa
       have hvl:d[l]?=an (d[l]?.getD undef):=by have:l<d.length:=aa;rw[ajR this];rfl
       rw[hvl,hv] at i8;have x9:al [w.heap.size+1] wo w9:=al.bA g9;have hgo:=(zj wo _ i8);refine⟨L,gl,cl,hL,(nu x9 hgo av).trans i8,ol.AY x9 λjj hjj hm=>?_⟩;simp only[List.mem_singleton] at hm;subst hm;exact ol.FX D aw hjj
end
section
open Go.RowKit
def qB(q:Int):Bool:=decide (0<=q/\q<=15)
end
section
open Go.RowKit
def rB(base a:Int):Bool:=qB base&&decide (0<=a/\a<=base)
def aeo(h:Tb w){p:aic}(b:p.block≠0)(u:AS):Tb (w.setCell p u):=⟨by simpa[World.setCell] using h.pos,λq hq=>(iH (a:=⟨0,q,ns⟩) (im w p u 0 (iY b))).trans (h.at_ q hq)⟩
def cJ:List Int:=so 16 0
def QW{f:Nat->Int}{M:Int}(h:∀k,k<16-> -M<=f k/\f k<=M):aW (bk f 16) M=AT:=by unfold aW bk;rw[List.all_eq_true];intro y a;obtain⟨k,b,rfl⟩:=oD.1 a;exact decide_eq_true (h k (by simpa using b))
end
end Go.Proofs.Q0
