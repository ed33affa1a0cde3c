import Derived.Test.YtfmnlpedhgficaaGreatDoorK18
import Derived.Orders
set_option maxRecDepth 100000
set_option maxHeartbeats 8000000
set_option linter.all false
open Go.Value renaming int->U,slice->Y,bool->a5,agg->a9,pointer->bi,tuple->ci,iface->em
open Go.IntKind renaming i64->O
open Go.Obj renaming cells->ac
open Go.Ending renaming returned->be
open Array renaming replicate->ajD
open Bool renaming false->Bz,true->AT
open Go renaming Event->akh,Goroutine->BE,Program->NO,Trace->akt,TypeId->TO,World->AS,deafBehind->aka,stepG->ajM
open Go.Conc renaming Aside->alk,Goes->akz,aside_setCell->alh,runT_crowd_go->alF
open Go.ConcN renaming Mode->ajY,get_map_set->amb,upd->TE,upd_same->ajP
open Go.MemOp renaming ofEvents->ajn
open Go.Region renaming Mode->akZ,binds->akQ,ready->ajw
open List renaming range->ajv
open Nat renaming strongRecOn->alE
open Option renaming map_some->akK,some->an
namespace Go.Proofs
def Lt{p:Prop}(h:p:=by
  rcases dg i L.c0 with aV|G'
  ·obtain⟨g,hg,hq⟩:=h.bP.old i tJ aV;rw[xX] at hg;cases hg;exact awake_of (hq.status.elim .inl λx=>.inr (.inr x))
  ·obtain⟨k,hk,rfl⟩:∃k,k<j/\i=L.c0+k:=⟨i-L.c0,aa,aa⟩;obtain⟨g,hg,hs⟩:=h.bP.wk k hk;rw[xX] at hg;cases hg;exact awake_of (hs.status.elim .inl λx=>.inr (.inr x))):p:=h
def Lu{p:Prop}(h:p:=by
  have h7:(D k).stage=7:=by cases hs with|pre _ h7=>exact h7|run _ h7=>exact h7|post _ h7=>exact h7|fQ _ Cv=>omega
  exact aa0 hB hC hz hG hF un hJ hc kc h.mode hk aa hs h7):p:=h
def Lw{p:Prop}(h:p:=by
  rcases hc with hc|⟨h1,h2,h3⟩
  ·exact(wt.mem.old c hc).trans (h.bP.mem.old c hc).symm
  ·exact BB.keep c h1 h2 h3):p:=h
def MY{p:Prop}(h:p:=by obtain⟨k,hk,rfl⟩:=oR.1 hx;have hk:k<j:=fR.1 hk;obtain⟨g,_,hs⟩:=h'.bP.wk k hk;exact Gd hs.path (hJ.qP k aa).acc):p:=h
def Ly{p:Prop}(h:p:=by
  rw[qO e he];rcases h1 with⟨a,ha,hb⟩|hb
  ·show Loc.low _ _;rw[ha];show a.block<_;omega
  ·show Loc.low _ _;rw[hb];exact h3):p:=h
def Lz{p:Prop}(h:p:=by exact mm.go h hgo (ih w₁ g' w₁ _ hR hgo D _ w₁ sl _ q st sm (.refl w₁) this hj)):p:=h
abbrev oS:=@List.mem_of_getElem?
end Go.Proofs
namespace Go.Proofs.Q0.aL
variable{k n:Nat}{ops:Array Oper}
section
variable[ag]
open Go.Conc
open Go.ConcN (upd WgLive CTag WD cnt Vc Vc_le pend isOpen isW3 isFin phi bk_cell allQuit_of RelBy)
open Go.ConcR (KK WgAt stA smA rd wr mk Payload Bk g_of_ofEvents ofEvent_mk)
open Wg (RM DM mM oE qS je xW uz xV)
section
variable{P:NO}[Payload]{S:cJ}{L:bY}{J:dC}{j:Nat}{D:Nat->WS}{M:Nat->Prop}{gs:Array BE}{w:AS}{t:akt}{q:Nat->Nat}{d0:Nat}{fd Nx:BE->AS->Prop}
def aa2(h:Com P S L J j D M gs w t q d0){st sm:Int}{tag:CTag}{f0:Nat}{a:BE}(hj:j<2147483648)(hA:∀g w,fd g w->∃m,akz P.two AT (RM J.ty L.Wg) (DM L.Wg) (je P.two J.ty L.Wg fd Nx) m g w)
  (l:WgAt J.ty L.Wg w st sm)(b:ajY j (wd D) tag st sm)(B:tag=.ret->AcqAll L j t)(T:CW P.two J.ty L.Wg fd Nx tag f0 d0 a w)(E:a.status=.running):
  (tag=.ret/\Nx a w)\/wR P S L J j D M gs w t q d0 fd Nx a tag f0:=by
 have y:=RM.refl J.ty L.Wg w;have RC:=h.lay.c0;have hVj:=Vc_le j (wd D);cases T with
 |blk hb=>cases E
 |kd x=>
  right
  rcases iR x with c|⟨z,rfl,f⟩
  ·obtain⟨_,a',i,s,v⟩:=c w y;exact book0 h i (.refl L.Wg w) l (by intro e he;simp at he;subst he;exact .inl (.inl rfl)) (tag':=.anch) (.anch v) (b.reopen trivial trivial rfl λG e=>by cases e) aj mQ
  ·obtain⟨a',w',es,i,u,o⟩:=f w y;have e:=u.1;subst e;exact idle0 h l b aj i u (.kd o) aa
 |anch x=>
  right
  rcases iR x with c|⟨z,rfl,f⟩
  ·obtain⟨m,v⟩:=hA a w (c w y);obtain⟨a',w',es,tag',f',V,W,h1,H,I,X,h5,h6,Z,h8⟩:=RL h hj l (b.reopen (tag':=.w1) trivial trivial rfl λG e=>by cases e) v;refine⟨a',w',es,tag',f',V,W,h1,H,I,X,h5,h6,.inl ?_,h8⟩;have R:phi j (Vc j (wd D)) .w1<phi j (Vc j (wd D)) .anch:=mQ;rcases Z with Z|⟨Z,_⟩<;>omega
  ·obtain⟨a',w',es,i,u,o⟩:=f w y;have e:=u.1;subst e;exact idle0 h l b aj i u (.anch o) aa
 |w1 x=>exact .inr (RL h hj l b x)
 |@w2 G m g w x=>
  right
  rcases iR x with c|⟨z,rfl,f⟩
  ·obtain⟨_,K⟩:=c w y;obtain⟨ho,rfl,rfl,Jm⟩:=b.open_inv trivial;obtain⟨H9,Uu⟩:=Jm G rfl;obtain⟨hit,N⟩:=K (Vc j (wd D)) aa (by simpa[pend] using l);have bk2:∀e∈#[rd (stA L.Wg),wr (stA L.Wg)],ml L e:=by intro e he;simp at he;rcases he with rfl|rfl<;>exact qg (bk_cell _ _ rfl)
   have bk1:∀e∈#[rd (stA L.Wg)],ml L e:=C5;by_cases hv:Vc j (wd D)=G
   ·obtain⟨a',i,s,v⟩:=hit hv;exact book0 h i (alh w (stA L.Wg) _) (l.setSt _) bk2 (tag':=.w3) (.w3 v) (.reg trivial ho aa) aj mQ
   ·obtain⟨a',i,s,v⟩:=N hv;exact book0 h i (.refl L.Wg w) l bk1 (tag':=.anch) (.anch v) (b.reopen trivial trivial rfl λG e=>by cases e) aj mQ
  ·obtain⟨a',w',es,i,u,o⟩:=f w y;have e:=u.1;subst e;exact idle0 h l b aj i u (.w2 o) aa
 |@w3 m g w x=>
  right
  rcases iR x with c|⟨z,rfl,f⟩
  ·obtain⟨_,ai6,A,Q⟩:=c w y
   have block:∀{st:Int},WgAt J.ty L.Wg w st 0->ajY j (wd D) .blk st 0->wR P S L J j D M gs w t q 1 fd Nx a .w3 (m+1):=λhw hm=>⟨{a with status:=.blocked},w,#[],.blk,0,_,0,A ⟨_,hw⟩,h.xg (.refl L.Wg w) ⟨_,_,hw⟩ aj,.blk c,hw,hm,aj,.inr ⟨rfl,aa⟩,.refl L.Wg w⟩
   cases b with
   |opn h1 _ _=>exact h1.elim
   |reg _ H I=>exact block l (.reg trivial H I)
   |last Lx _ H I X=>exact block l (.last Lx trivial H I X)
   |sema hq=>
    obtain⟨a',i,s,v⟩:=Q l;refine book0 h i (alh w (smA L.Wg) _) (l.setSm 0) (es:=semEvents (smA L.Wg)) ?_ (tag':=.w4) (f':=s) ?_ (.fin trivial hq) aj mQ
    ·intro e he;simp[semEvents] at he;rcases he with rfl|rfl|rfl|rfl
     ·exact .inl (.inl rfl)
     ·exact qg (bk_cell _ _ rfl)
     ·exact qg (bk_cell _ _ rfl)
     ·exact .inl (.inr (.inl rfl))
    ·have:aka 1 (semEvents (smA L.Wg))=1:=by simp[aka,semEvents]
     rw[this];exact .w4 v
   |fin h1 _=>exact h1.elim
  ·obtain⟨a',w',es,i,u,o⟩:=f w y;have e:=u.1;subst e;exact idle0 h l b aj i u (.w3 o) aa
 |w4 x=>
  right
  rcases iR x with c|⟨z,rfl,f⟩
  ·obtain⟨_,hx⟩:=c w y;obtain⟨hq,rfl,rfl⟩:=b.fin_inv trivial;obtain⟨a',i,s,v⟩:=hx l;exact book0 h i (.refl L.Wg w) l C5 (tag':=.ke) (.ke v) (.fin trivial hq) aj mQ
  ·obtain⟨a',w',es,i,u,o⟩:=f w y;have e:=u.1;subst e;exact idle0 h l b aj i u (.w4 o) aa
 |ke x=>
  right
  rcases iR x with c|⟨z,rfl,f⟩
  ·obtain⟨_,a',i,s,v⟩:=c w y;obtain⟨hq,rfl,rfl⟩:=b.fin_inv trivial;exact book0 h i (.refl L.Wg w) l (by intro e he;simp at he;subst he;exact .inl (.inr (.inl rfl))) (tag':=.acq) (.acq v) (.fin trivial hq) aj mQ
  ·obtain⟨a',w',es,i,u,o⟩:=f w y;have e:=u.1;subst e;exact idle0 h l b aj i u (.ke o) aa
 |acq x=>
  right
  rcases iR x with c|⟨z,rfl,f⟩
  ·obtain⟨_,a',i,s,v⟩:=c w y;obtain⟨hq,rfl,rfl⟩:=b.fin_inv trivial;refine⟨a',w,_,.ret,s,0,0,i,h.xg (.refl L.Wg w) ⟨_,_,l⟩ (by intro e he;simp at he;subst he;exact .inr (.inl rfl)),.ret v,l,.fin trivial hq,λ_=>?_,.inl mQ,.refl L.Wg w⟩;have R:ajn 0 a.frame.fn a.frame.place #[mk (.acquire (stA L.Wg))]=#[{g:=0,fn:=a.frame.fn,pos:=a.frame.place,act:=.mark (.acquire (stA L.Wg))}]:=by rw[ofEvents_eq];simp[ofEvent_mk]
   have hy:(t++#[({g:=0,fn:=a.frame.fn,pos:=a.frame.place,act:=.mark (.acquire (stA L.Wg))}:MemOp)])[t.size]?=an {g:=0,fn:=a.frame.fn,pos:=a.frame.place,act:=.mark (.acquire (stA L.Wg))}:=aj;refine⟨t.size,by rw[R,act?_of hy],by rw[R];simp[Trace.g?],by rw[R];exact⟨0,by simp[Trace.g?],by rw[deaf_old (Nat.le_refl _)];exact h.deaf0⟩,λk v=>?_⟩;obtain⟨r,hr⟩:=h.rel k v (by have:(D k).stage=1:=hq k v;omega);exact⟨r,zv hr g_of_ofEvents aa,lt_of_act? hr.act⟩
  ·obtain⟨a',w',es,i,u,o⟩:=f w y;have e:=u.1;subst e;exact idle0 h l b aj i u (.acq o) aa
 |ret x=>
  rcases iR x with c|⟨z,rfl,f⟩
  ·exact .inl ⟨rfl,c w y⟩
  ·right
   obtain⟨a',w',es,i,u,o⟩:=f w y;have e:=u.1;subst e;exact idle0 h l b B i u (.ret o) aa
end
end
section
variable[ag]
open Go.Conc
open Go.ConcN (upd upd_same upd_ne WgLive CTag WD cnt Vc Vc_le pend phi phi_mono phi_retag sumTo sumTo_upd le_sumTo)
open Go.ConcR (KK WgAt stA Payload)
open Wg (RM DM je)
def sS(j:Nat)(D:Nat->WS):Nat:=sumTo j λk=>(D k).stage+(D k).e
def sF(j:Nat)(D:Nat->WS):Nat:=sumTo j λk=>(D k).fuel
def runs(j:Nat)(D:Nat->WS):List (BE×AS):=(ajv j).map λk=>(D k).x
section
variable(P:NO)[Payload](S:cJ)(L:bY)(J:dC)(j:Nat)(M:Nat->Prop)(fd Nx:BE->AS->Prop)
structure eU(D:Nat->WS)(gs:Array BE)(w:AS)(t:akt)(q:Nat->Nat)(d0:Nat)(tag:CTag)(f0:Nat)(a:BE)(st sm:Int):Prop where
 a0:gs[0]?=an a
 bP:Com P S L J j D M gs w t q d0
 cw:CW P.two J.ty L.Wg fd Nx tag f0 d0 a w
 wg:WgAt J.ty L.Wg w st sm
 mode:ajY j (wd D) tag st sm
 acq:tag=.ret->AcqAll L j t
def Down(b D:Nat->WS)(c q:Nat->Nat)(tag' tag:CTag)(f' f:Nat):Prop:=
 phi j (Vc j (wd b)) tag'+sS j b<phi j (Vc j (wd D)) tag+sS j D\/
 (phi j (Vc j (wd b)) tag'+sS j b=phi j (Vc j (wd D)) tag+sS j D/\
  (LR (aL.Nx P) (runs j b) (runs j D)\/(runs j b=runs j D/\f'+2*sF j b+2*sumTo L.c0 c<f+2*sF j D+2*sumTo L.c0 q)))
end
section
variable{P:NO}[Payload]{S:cJ}{L:bY}{J:dC}{j:Nat}{M:Nat->Prop}{fd Nx:BE->AS->Prop}{D:Nat->WS}{gs:Array BE}{w:AS}{sl:Option (Nat×Nat)}{t:akt}{q:Nat->Nat}{d0:Nat}{tag:CTag}{f0:Nat}{a:BE}{st sm:Int}
def FK(c:k<j){d:WS}:runs j (TE D k d)=(runs j D).set k d.x:=by
 apply List.ext_getElem?;intro i;simp only[runs,List.getElem?_map,List.getElem?_set,List.length_map,List.length_range];by_cases e:k=i
 ·subst e;simp[c,ajP]
 ·rw[if_neg e];rcases dg i j with b|f
  ·simp[b,upd_ne D _ (Ne.symm e)]
  ·simp_all
def Pt(b:k<j){d:WS}(h:d.x=(D k).x):runs j (TE D k d)=runs j D:=by
 rw[FK b,h];apply List.ext_getElem?;intro i;rw[List.getElem?_set];split
 ·next e=>subst e;simp[runs,b]
 ·rfl
omit [ag] in
def afy{a b:WD}(h:5<=a.stage->5<=b.stage):cnt a<=cnt b:=by
 unfold Go.ConcN.cnt;split
 ·simp_all
 ·omega
omit [ag] in
def SE{a b:WD}(h:a.stage=b.stage):cnt a=cnt b:=by unfold Go.ConcN.cnt;rw[h]
def Y9(c:k<j){b:WS}(h:H7 P b (D k))(q:Nat->Nat){tag':CTag}(l:tag'=tag\/(tag=.blk/\tag'=.w3)){f':Nat}(E:f'<=f0+1):Down P L j (TE D k b) D q q tag' tag f' f0:=by
 have m:=sumTo_upd D b (λd=>d.stage+d.e) c;have o:=sumTo_upd D b (λd=>d.fuel) c;have r:=Go.ConcN.Vc_upd (wd D) (⟨b.stage,b.fuel,b.deaf⟩:WD) c;rw[<-tw] at r;have s:=phi_retag j (Vc j (wd (TE D k b))) l
 have hc:cnt (⟨b.stage,b.fuel,b.deaf⟩:WD)<=cnt (wd D k):=by
  rcases h with⟨h1,_,_,i⟩|⟨h1,_⟩
  ·exact afy i
  ·exact nC (SE h1)
 have hm:=phi_mono j (v':=Vc j (wd (TE D k b))) (v:=Vc j (wd D)) aa tag;have u:sS j (TE D k b)+((D k).stage+(D k).e)=sS j D+(b.stage+b.e):=m;have y:sF j (TE D k b)+(D k).fuel=sF j D+b.fuel:=o;unfold Down;rw[s];rcases h with⟨h1,_,f,_⟩|⟨h1,z|⟨z,f⟩⟩
 ·omega
 ·omega
 ·have A:cnt (⟨b.stage,b.fuel,b.deaf⟩:WD)=cnt (wd D k):=SE h1;have B:Vc j (wd (TE D k b))=Vc j (wd D):=aa;rw[B]
  right
  refine⟨aa,?_⟩;rcases f with f|⟨f,i⟩
  ·left
   refine⟨k,(D k).x,b.x,by simp[runs,c],f,FK c⟩
  ·right
   exact⟨Pt c f,aa⟩
end
end
section
variable[ag]
open Go.Conc
open Go.ConcN (upd upd_same upd_ne WgLive CTag WD cnt Vc Vc_le pend phi sumTo sumTo_upd get_map_set get_map_set_same le_sumTo WSit)
open Go.ConcR (KK WgAt stA Payload g_of_ofEvents)
open Wg (RM DM je)
section
variable{P:NO}[Payload]{S:cJ}{L:bY}{J:dC}{j:Nat}{M:Nat->Prop}{fd Nx:BE->AS->Prop}{D:Nat->WS}{gs:Array BE}{w:AS}{sl:Option (Nat×Nat)}{t:akt}{q:Nat->Nat}{d0:Nat}{tag:CTag}{f0:Nat}{a:BE}{st sm:Int}
def fF.running{d:WS}{g:BE}(h:fF P S L J k d g w)(h1:d.stage≠1):g.status=.running:=by
 have b:=lS (ty:=J.ty) (Wg:=L.Wg) (C:=L.C) (n:=J.n) (Low:=0) (i:=L.off+k+1-1) w;cases h with
 |pre _ _ _ _ _ h=>exact ic (λ_ _ x=>x.1) w (RP.refl w) h
 |run _ _ _ _ _ h _=>exact h.running
 |post _ _ _ _ h=>exact ic (λ_ _ x=>x.1) w (RP.refl w) h
 |fQ _ c _ h=>generalize d.stage=s at h h1 c;generalize d.deaf=dd at h;cases h with|r0 h=>omega|k1 h=>exact ic (λ_ _ x=>x.1) w b h|d1 h=>exact ic (λ_ _ x=>x.1) w b h|d2 h=>exact ic (λ_ _ x=>x.1) w b h|d3 h=>exact ic (λ_ _ x=>x.1) w b h|d4 h=>exact ic (λ_ _ x=>x.1) w b h|quit h=>exact absurd rfl h1
variable(ws:∀g w,fd g w->g.status=.running)(t7:∀g w,Nx g w->g.status=.running)
include ws t7
def eU.agr(h:eU P S L J j M fd Nx D gs w t q d0 tag f0 a st sm):∃(i:Nat)(g:BE),gs[i]?=an g/\g.status=.running:=by
 rcases h.cw.status ws t7 with⟨f,_⟩|⟨_,rfl⟩
 ·exact⟨0,a,h.a0,f⟩
 ·have l:∃k,k<j/\(D k).stage≠1:=by
   apply oP;intro o;have b:∀k,k<j->(wd D k).stage=1:=λk m=>oP λe=>o ⟨k,m,e⟩;cases h.mode with
   |opn h1 _ _=>exact h1
   |reg _ _ r=>
    have:Vc j (wd D)<=0*j:=Go.ConcN.sumTo_le (c:=0) λi hi=>by simp[Go.ConcN.cnt,b i hi]
    omega
   |last s _ u r _=>have:=b s u;omega
   |fin h1 _=>exact h1
  obtain⟨k,m,h1⟩:=l;obtain⟨g,v,f⟩:=h.bP.wk k m;exact⟨_,g,v,f.running h1⟩
def eU.awake(h:eU P S L J j M fd Nx D gs w t q d0 tag f0 a st sm):∀g∈gs,awake g:=by
 intro g c;obtain⟨i,hi,rfl⟩:=zD.1 c;have xX:=eQ hi;have hc:=h.bP.size;rcases jJ i with rfl|tJ
 ·have:gs[0]=a:=by have:=h.a0;rw[xX] at this;exact aJ this
  rw[this];rcases h.cw.status ws t7 with⟨b,_⟩|⟨b,_⟩
  ·exact awake_of (.inl b)
  ·exact awake_of (.inr (.inl b))
 ·exact Lt
end
end
section
variable[ag]
open Go.Conc
open Go.ConcN (upd upd_same upd_ne WgLive CTag WD cnt Vc Vc_le pend phi phi_retag sumTo sumTo_upd get_map_set get_map_set_same le_sumTo WSit)
open Go.ConcR (KK WgAt stA Payload g_of_ofEvents)
open Wg (RM DM je)
section
variable{P:NO}[Payload]{S:cJ}{L:bY}{J:dC}{j:Nat}{M:Nat->Prop}{fd Nx:BE->AS->Prop}{D:Nat->WS}{gs:Array BE}{w:AS}{sl:Option (Nat×Nat)}{t:akt}{q:Nat->Nat}{d0:Nat}{tag:CTag}{f0:Nat}{a:BE}{st sm:Int}
def acI(hB:dA P)(hC:ee P)(hz:cO P)(hG:S.K.G=P.globals.size)(hF:dY P S.K)(un:∀c c',¬ag.dM c c')(hJ:kC P S J n)(Jn:j<=n)(hj:j<2147483647)
  (ws:∀g w,fd g w->g.status=.running)(t7:∀g w,Nx g w->g.status=.running)(xY:∀g(w:AS) d,Nx g (w.at d)->Nx g w)
  (hA:∀g w,fd g w->∃m,akz P.two AT (RM J.ty L.Wg) (DM L.Wg) (je P.two J.ty L.Wg fd Nx) m g w)(aiJ:pend tag=0)
  (h:eU P S L J j M fd Nx D gs w t q d0 tag f0 a st sm):
  (tag=.ret/\Nx a w)\/∃V w' o ops D' q' d0' tag' W a' s u,stepT P.two (crowd gs w sl)=(.next (crowd V w' o),ops)/\eU P S L J j M fd Nx D' V w' (t++ops) q' d0' tag' W a' s u/\Down P L j D' D q' q tag' tag W f0/\mL S L J M w w':=by
 obtain⟨i,g,d,o,hi,T,H⟩:=crowd_pick (P:=P.two) (w:=w) (sl:=sl) (h.awake ws t7) (h.agr ws t7);have hc:=h.bP.at d;have I:CW P.two J.ty L.Wg fd Nx tag f0 d0 a (w.at d):=h.cw.rely λx=>x;have kc:=h.wg;have cM:=h.bP.size;have RC:=h.bP.lay.c0;rcases jJ i with rfl|E
 ·obtain rfl:g=a:=by have:=h.a0;rw[hi] at this;exact aJ this
  rcases aa2 hc aa hA kc h.mode h.acq I T with⟨h1,h2⟩|⟨a',w',es,tag',X,s,u,N,wt,v,f,l,z,A,Z⟩
  ·exact .inl ⟨h1,xY _ _ _ h2⟩
  ·have y:=alF (P:=P.two) (sl:=o) (i:=0) hi (show ajM P.two (0==0) g (w.at d)=_ from N);refine .inr ⟨_,w',o,_,D,q,_,tag',X,a',s,u,by rw[H];exact y,⟨get_map_set_same _ _ _ aa,wt,v,f,l,z⟩,?_,nC Z.size.symm,λc hc=>Z.block c ?_,λ_=>⟨s,u,f⟩,λ_=>wt.pay⟩
   rotate_left
   ·rintro rfl;rcases hc with hc|⟨_,_,hc⟩
    ·have:=(h.bP.mem.mlt _ h.bP.lay.Wg).1;omega
    ·exact hc rfl
   rcases A with h1|⟨h1,h2⟩
   ·exact .inl aa
   ·exact .inr ⟨aa,.inr ⟨rfl,aa⟩⟩
 ·have ur:(i==0)=Bz:=by simp;omega
  rcases dg i L.c0 with A|G'
  ·obtain⟨g2,B,hq⟩:=h.bP.old i E A;rw[hi] at B;cases B;cases Q:q i with
   |zero=>rw[Q] at hq;rw[hq.1] at T;cases T
   |succ m=>
    rw[Q] at hq;rcases hq with⟨hf,_⟩|⟨_,g',es,hm,BU,hq'⟩
    ·rw[hf] at T;cases T
    have y:=alF (P:=P.two) (sl:=o) (i:=i) hi yX;have wt:=hc.TP (g:=g) (g':=g') (fn:=g.frame.fn) (pos:=g.frame.place) E A hm hq';obtain⟨tag',X,v,VL,b,_⟩:=I.wokenBy ws t7 (w':=w.at d) (RM.refl _ _ _) g g'
    have ahN:sumTo L.c0 (TE q i m)+(m+1)=sumTo L.c0 q+m:=by have:=sumTo_upd q m id A;simpa[Q] using this
    refine .inr ⟨_,w.at d,o,_,D,TE q i m,d0,tag',X,woken P.two g g' (w.at d) a,st,sm,by rw[H];exact y,⟨by rw[amb _ _ _ _ aa,h.a0];rfl,wt,v,kc,h.mode.retag b,λe=>?_⟩,?_⟩
    ·have e2:tag=.ret:=by
      rcases b with h1|⟨_,h1⟩
      ·rw[<-h1];exact e
      ·rw[h1] at e;cases e
     exact(h.acq e2).app λk r _ hr=>zv hr g_of_ofEvents aa
    ·exact⟨.inr ⟨by rw[phi_retag j _ b],.inr ⟨rfl,aa⟩⟩,RS.at w d⟩
  ·obtain⟨k,hk,rfl⟩:∃k,k<j/\i=L.c0+k:=⟨i-L.c0,by have:=(bE.1 hi).1;omega,aa⟩;obtain⟨g2,B,hs⟩:=hc.wk k hk;rw[hi] at B;cases B
   have VM:qE P S L J j D M gs (w.at d) t q d0 k g tag:=by
    by_cases h6:(D k).stage<=6
    ·exact Qw hc kc h.mode h.acq aa hk hs h6 T
    ·exact Lu
   obtain⟨g',w',es,d',s,u,N,wt,f,l,z,R,BB,_⟩:=VM;have y:=alF (P:=P.two) (sl:=o) (i:=L.c0+k) hi (by rw[ur];exact N);obtain⟨tag',X,v,VL,b,hwk⟩:=I.wokenBy ws t7 (w':=w') (λ_=>⟨s,u,f⟩) g g';refine .inr ⟨_,w',o,_,TE D k d',q,d0,tag',X,woken P.two g g' w' a,s,u,by rw[H];exact y,⟨by rw[amb _ _ _ _ aa,h.a0];rfl,wt,v,f,l tag' b hwk,λe=>?_⟩,Y9 hk R q b VL,BB.size,λc hc=>?_,λ_=>⟨s,u,f⟩,λ_=>wt.pay⟩
   rotate_left
   ·exact Lw
   have e2:tag=.ret:=by
    rcases b with h1|⟨_,h1⟩
    ·rw[<-h1];exact e
    ·rw[h1] at e;cases e
   exact z e2
end
end
section
variable[ag]
open Go.Conc
open Go.ConcN (CTag Vc pend phi sumTo)
open Go.ConcR (Payload)
open Wg (RM DM je)
omit [ag] in
def Gd{P:NO}{y x:BE×AS}(h:fP P y x)(b:Acc (Nx P) x):Acc (Nx P) y:=by
 rcases h with rfl|h
 ·exact b
 ·induction h with|one h=>exact b.inv h|more h _ c=>exact(c b).inv h
omit [ag] in
def CW.pend{P:NO}{ty:TO}{Wg:Nat}{fd Nx:BE->AS->Prop}{tag:CTag}{f d:Nat}{a:BE}{w:AS}(h:CW P ty Wg fd Nx tag f d a w):Go.ConcN.pend tag=0:=by cases h<;>rfl
section
variable{P:NO}[Payload]{S:cJ}{L:bY}{J:dC}{j:Nat}{M:Nat->Prop}{fd Nx:BE->AS->Prop}
def fF.path{d:WS}{g:BE}{w:AS}(h:fF P S L J k d g w):fP P d.x (J.start k):=by cases h with|pre _ _ _ _ c=>exact .inl c|run _ _ _ b=>exact b|post _ _ _ b=>exact b.1|fQ _ _ e=>exact e.1
def acJ(hB:dA P)(hC:ee P)(hz:cO P)(hG:S.K.G=P.globals.size)(hF:dY P S.K)(Z:∀c c',¬ag.dM c c')(hJ:kC P S J n)(Jn:j<=n)(hj:j<2147483647)
  (ws:∀g w,fd g w->g.status=.running)(t7:∀g w,Nx g w->g.status=.running)(xY:∀g(w:AS) d,Nx g (w.at d)->Nx g w)
  (hA:∀g w,fd g w->∃m,akz P.two AT (RM J.ty L.Wg) (DM L.Wg) (je P.two J.ty L.Wg fd Nx) m g w):
  ∀(s:Nat)(xs:List (BE×AS)),Acc (LR (aL.Nx P)) xs->∀(F:Nat)(D:Nat->WS)(gs:Array BE)(w:AS)(sl:Option (Nat×Nat))(t:akt)(q:Nat->Nat)(d0:Nat)(tag:CTag)(f0:Nat)(a:BE)(st sm:Int),
   eU P S L J j M fd Nx D gs w t q d0 tag f0 a st sm->phi j (Vc j (wd D)) tag+sS j D=s->runs j D=xs->f0+2*sF j D+2*sumTo L.c0 q=F->
   ∃N u w' z t' V W A B a' E H,runNT P.two N (crowd gs w sl) t=(.next (crowd u w' z),t')/\eU P S L J j M fd Nx V u w' t' W A .ret B a' E H/\Nx a' w'/\mL S L J M w w':=by
 intro s
 induction s using alE with
 |_ s ihs=>
 intro xs E'
 induction E' with
 |intro xs qO ihx=>
 intro F
 induction F using alE with
 |_ F ihF=>
 intro D gs w sl t q d0 tag f0 a st sm h e1 e2 e3;rcases acI (sl:=sl) hB hC hz hG hF Z hJ Jn hj ws t7 xY hA h.cw.pend h with⟨rfl,X⟩|⟨u,w',z,ops,V,W,A,I,B,a',E,H,f9,h',hd,hR⟩
 ·exact⟨0,gs,w,sl,t,D,q,d0,f0,a,st,sm,rfl,h,X,.refl w⟩
 ·have fin:(∃N b e f v Q R i l y o r,runNT P.two N (crowd u w' z) (t++ops)=(.next (crowd b e f),v)/\eU P S L J j M fd Nx Q b e v R i .ret l y o r/\Nx y e/\mL S L J M w' e)->
    ∃N b e f v Q R i l y o r,runNT P.two N (crowd gs w sl) t=(.next (crowd b e f),v)/\eU P S L J j M fd Nx Q b e v R i .ret l y o r/\Nx y e/\mL S L J M w e:=by
   rintro⟨N,b,e,f,v,Q,R,i,l,y,o,r,y1,y2,y3,y4⟩;exact⟨N+1,b,e,f,v,Q,R,i,l,y,o,r,by simp only[runNT,f9];exact y1,y2,y3,hR.trans y4⟩
  apply fin
  have T:=wI _ λx hx=>by exact MY
  rcases hd with h1|⟨h1,X|⟨X,h3⟩⟩
  ·exact ihs _ aa _ T _ V u w' z _ W A I B a' E H h' rfl rfl rfl
  ·exact ihx _ (by rw[<-e2];exact X) _ V u w' z _ W A I B a' E H h' aa rfl rfl
  ·exact ihF _ aa V u w' z _ W A I B a' E H h' aa (X.trans e2) rfl
end
end
section
variable[ag]
open Go.Conc
open Go.ConcN (upd upd_same upd_ne WgLive PayAt CTag WD cnt Vc Vc_le OpenSt pend sumTo sumTo_upd get_map_set get_map_set_same deafBehind_idle Ok0)
open Go.ConcR (KK WgAt stA smA rd wr mk Payload g_of_ofEvents)
open Wg (RM DM)
def grow(M:Nat->Prop)(w w':AS)(c:Nat):Prop:=M c\/(w.heap.size<=c/\c<w'.heap.size)
structure Ia(M F:Nat->Prop)(C Wg:Nat)(w w':AS)(es:Array akh):Prop where
 size:w.heap.size<=w'.heap.size
 keep:∀c,c<w.heap.size->¬F c->w'.heap[c]?=w.heap[c]?
 io:jl w w'
 ev:∀e∈es,e.sync=Bz/\∃c,bI c e.loc/\(grow F w w' c\/(e.write=Bz/\M c/\c≠C/\c≠Wg))
section
variable(P2:NO)[Payload](N1:Nat)(ty:TO)(Wg C n:Nat)(Child:Nat->(Nat->Prop)->BE->AS->Prop)(Fin:Nat->(Nat->Prop)->BE->AS->Prop)
inductive a8:Nat->Bool->Nat->(Nat->Prop)->(Nat->Prop)->BE->AS->Prop
 |fin {j:Nat} {M F:Nat->Prop} {g:BE} {w:AS}:(∀w₁,RS N1 M ty Wg C n w w₁->Fin j M g w₁)->a8 j Bz 0 M F g w
 |own {j d:Nat} {p:Bool} {M F:Nat->Prop} {g:BE} {w:AS}:g.status=.running->(∀w₁,RS N1 M ty Wg C n w w₁->∃g' w' es,ajM P2 AT g w₁=.go g' w' es/\Ia M F C Wg w₁ w' es)->
   (∀w₁ g' w' es,RS N1 M ty Wg C n w w₁->ajM P2 AT g w₁=.go g' w' es->a8 j p d (grow M w₁ w') (grow F w₁ w') g' w')->a8 j p d M F g w
 |fQ {j d:Nat} {p:Bool} {M F:Nat->Prop} {g:BE} {w:AS}:g.status=.running->(∀w₁,RS N1 M ty Wg C n w w₁->∃g' es,ajM P2 AT g w₁=.go g' w₁ es/\DM Wg w₁ w₁ es)->
   (∀w₁ g' w' es,RS N1 M ty Wg C n w w₁->ajM P2 AT g w₁=.go g' w' es->a8 j p d M F g' w')->a8 j p d M F g w
 |kd {j:Nat} {p:Bool} {M F:Nat->Prop} {g:BE} {w:AS}:g.status=.running->(∀w₁,RS N1 M ty Wg C n w w₁->∃g',ajM P2 AT g w₁=.go g' w₁ #[mk .disable])->
   (∀w₁ g' w' es,RS N1 M ty Wg C n w w₁->ajM P2 AT g w₁=.go g' w' es->a8 j p 1 M F g' w')->a8 j p 0 M F g w
 |ke {j:Nat} {p:Bool} {M F:Nat->Prop} {g:BE} {w:AS}:g.status=.running->(∀w₁,RS N1 M ty Wg C n w w₁->∃g',ajM P2 AT g w₁=.go g' w₁ #[mk .enable])->
   (∀w₁ g' w' es,RS N1 M ty Wg C n w w₁->ajM P2 AT g w₁=.go g' w' es->a8 j p 0 M F g' w')->a8 j p 1 M F g w
 |add {j d:Nat} {M F:Nat->Prop} {g:BE} {w:AS}:g.status=.running->(∀w₁,RS N1 M ty Wg C n w w₁->∀v:Nat,v<2147483647->WgAt ty Wg w₁ (v*KK) 0->∃g',ajM P2 AT g w₁=.go g' (w₁.setCell (stA Wg) (.int .u64 ((v+1)*KK))) #[rd (stA Wg),wr (stA Wg)])->
   (∀w₁ g' w' es(v:Nat),RS N1 M ty Wg C n w w₁->v<2147483647->WgAt ty Wg w₁ (v*KK) 0->ajM P2 AT g w₁=.go g' w' es->a8 j AT d M F g' w')->a8 j Bz d M F g w
 |go {j:Nat} {M F:Nat->Prop} {g:BE} {w:AS}:j<n->g.status=.running->(∀w₁,RS N1 M ty Wg C n w w₁->PayAt C n w₁->∃g' child,ajM P2 AT g w₁=.spawn g' child w₁ #[]/\Child j M child w₁)->
   (∀w₁ g' child w' es,RS N1 M ty Wg C n w w₁->ajM P2 AT g w₁=.spawn g' child w' es->a8 (j+1) Bz 0 M (λ_=>False) g' w')->a8 j AT 0 M F g w
end
section
variable{P2:NO}[Payload]{N1:Nat}{ty:TO}{Wg C n:Nat}{Child:Nat->(Nat->Prop)->BE->AS->Prop}{Fin:Nat->(Nat->Prop)->BE->AS->Prop}
 {j d:Nat}{p:Bool}{M F:Nat->Prop}{g:BE}{w w₁:AS}
omit [ag] in
def RS.rm(h:RS N1 M ty Wg C n w w₁):RM ty Wg w w₁:=h.live
omit [ag] in
def a8.Bb{Stop:BE->AS->Prop}:∀(m:Nat)(g:BE)(w:AS),akz P2 AT (RM ty Wg) (DM Wg) Stop m g w->WgLive ty Wg w->
  (∀g b,RS N1 M ty Wg C n w b->(∀w₁,RS N1 M ty Wg C n b w₁->Stop g w₁)->WgLive ty Wg b->a8 P2 N1 ty Wg C n Child Fin j p d M F g b)->a8 P2 N1 ty Wg C n Child Fin j p d M F g w:=by
 intro m
 induction m with
 |zero=>exactλg w h e k=>k g w (.refl w) (λw₁ h₁=>h w₁ h₁.rm) e
 |succ m l=>
  intro g w h e k;rcases h with h|⟨o,h⟩
  ·exact k g w (.refl w) (λw₁ h₁=>h w₁ h₁.rm) e
  ·refine .fQ o (λw₁ h₁=>?_) (λw₁ g' w' es h₁ f=>?_)
   ·have c:=h w₁ h₁.rm;cases f:ajM P2 AT g w₁ with
    |go g' w' es=>rw[f] at c;obtain⟨⟨rfl,i⟩,_⟩:=c;exact⟨g',es,rfl,rfl,i⟩
    |_=>rw[f] at c;exact c.elim
   ·have c:=h w₁ h₁.rm;rw[f] at c;obtain⟨⟨rfl,_⟩,i⟩:=c;exact l g' w' i (h₁.live e) λg b r=>k g b (h₁.trans r)
end
end
section
variable[ag]
open Go.Conc
open Go.ConcN (upd upd_same upd_ne WgLive PayAt CTag WD cnt Vc Vc_le OpenSt pend sumTo sumTo_upd sumTo_upd_out get_map_set get_map_set_same deafBehind_idle Ok0)
open Go.ConcR (KK WgAt stA smA rd wr mk Payload g_of_ofEvents)
open Wg (RM DM)
def fW:Bool->CTag
 |false=>.sp 0 5
 |true=>.sp 0 3
omit [ag] in
def sN(p:Bool):Go.ConcN.isOpen (fW p):=by cases p<;>trivial
omit [ag] in
def aa3(p:Bool):pend (fW p)=if p then 1 else 0:=by cases p<;>rfl
omit [ag] in
def acK(p:Bool):fW p≠.blk:=by cases p<;>simp[fW]
omit [ag] in
def acL(p:Bool):fW p≠.ret:=by cases p<;>simp[fW]
section
variable(P:NO)[Payload](S:cJ)(L:bY)(J:dC)
def Child(k:Nat)(M:Nat->Prop)(g:BE)(w:AS):Prop:=
 ∃(X:Nat->Prop)(m:Nat),(∀c,X c->M c/\c≠L.C/\c≠L.Wg)/\akz P.two Bz (RP S.h1.size X J.ty L.Wg L.C J.n L.off k) (GP S.h1.size L.Sh X L.C J.n L.off k) (SC P S L J X k) m g w
structure iN(j:Nat)(p:Bool)(d:Nat)(M F:Nat->Prop)(D:Nat->WS)(gs:Array BE)(w:AS)(t:akt)(q:Nat->Nat)(a:BE)(st sm:Int):Prop where
 a0:gs[0]?=an a
 bP:Com P S L J j D M gs w t q d
 wg:WgAt J.ty L.Wg w st sm
 mode:ajY j (wd D) (fW p) st sm
 fm:∀c,F c->M c/\c≠L.C/\c≠L.Wg/\∀k,k<j->¬(D k).X c
def G4(j:Nat)(b D:Nat->WS)(c q:Nat->Nat):Prop:=
 sS j b<sS j D\/(sS j b=sS j D/\(LR (aL.Nx P) (runs j b) (runs j D)\/(runs j b=runs j D/\sF j b+sumTo L.c0 c<sF j D+sumTo L.c0 q)))
end
section
variable{P:NO}[Payload]{S:cJ}{L:bY}{J:dC}{j d:Nat}{p:Bool}{M F:Nat->Prop}{D:Nat->WS}{gs:Array BE}{w:AS}{sl:Option (Nat×Nat)}{t:akt}{q:Nat->Nat}{a:BE}{st sm:Int}
def Ys(f:k<j){b:WS}(h:H7 P b (D k))(q:Nat->Nat):G4 P L j (TE D k b) D q q:=by
 have i:=sumTo_upd D b (λd=>d.stage+d.e) f;have l:=sumTo_upd D b (λd=>d.fuel) f;have m:sS j (TE D k b)+((D k).stage+(D k).e)=sS j D+(b.stage+b.e):=i;have o:sF j (TE D k b)+(D k).fuel=sF j D+b.fuel:=l;unfold G4;rcases h with⟨h1,_,c,_⟩|⟨h1,r|⟨r,c⟩⟩
 ·omega
 ·omega
 ·right
  refine⟨aa,?_⟩;rcases c with c|⟨c,s⟩
  ·exact .inl ⟨k,(D k).x,b.x,by simp[runs,f],c,FK f⟩
  ·exact .inr ⟨Pt f c,aa⟩
def iN.awake(h:iN P S L J j p d M F D gs w t q a st sm)(hr:a.status=.running):∀g∈gs,awake g:=by
 intro g b;obtain⟨i,hi,rfl⟩:=zD.1 b;have xX:=eQ hi;have hc:=h.bP.size;rcases jJ i with rfl|tJ
 ·have:gs[0]=a:=by have:=h.a0;rw[xX] at this;exact aJ this
  rw[this];exact awake_of (.inl hr)
 ·exact Lt
def aa4(hB:dA P)(hC:ee P)(hz:cO P)(hG:S.K.G=P.globals.size)(hF:dY P S.K)(un:∀c c',¬ag.dM c c')(hJ:kC P S J n)(Jn:j<=n)(hj:j<2147483647)(hr:a.status=.running)
  (h:iN P S L J j p d M F D gs w t q a st sm):
  (∃e b,stepT P.two (crowd gs w sl)=runT P.two (crowd gs (w.at e) b) 0)\/
   ∃E w' b ops Z q' o r,stepT P.two (crowd gs w sl)=(.next (crowd E w' b),ops)/\iN P S L J j p d M F Z E w' (t++ops) q' a o r/\mL S L J M w w'/\G4 P L j Z D q' q:=by
 obtain⟨i,g,e,b,hi,H,y⟩:=crowd_pick (P:=P.two) (w:=w) (sl:=sl) (h.awake hr) ⟨0,a,h.a0,hr⟩;have hc:=h.bP.at e;have kc:=h.wg;have cM:=h.bP.size;have I:∀g g' w',woken P.two g g' w' a=a:=λg g' w'=>by unfold woken;split<;>first|exact Go.Conc.again_running _ (.inl hr)|rfl
 rcases jJ i with rfl|u
 ·exact .inl ⟨e,b,y⟩
 ·have N:(i==0)=Bz:=by simp;omega
  rcases dg i L.c0 with z|G'
  ·obtain⟨g2,f,hq⟩:=h.bP.old i u z;rw[hi] at f;cases f;cases A:q i with
   |zero=>rw[A] at hq;rw[hq.1] at H;cases H
   |succ m=>
    rw[A] at hq;rcases hq with⟨hf,_⟩|⟨_,g',es,hm,Q,T⟩
    ·rw[hf] at H;cases H
    have l:=alF (P:=P.two) (sl:=b) (i:=i) hi (by rw[N];exact Q (w.at e));have wt:=hc.TP (g:=g) (g':=g') (fn:=g.frame.fn) (pos:=g.frame.place) u z hm T
    have ahN:sumTo L.c0 (TE q i m)+(m+1)=sumTo L.c0 q+m:=by have:=sumTo_upd q m id z;simpa[A] using this
    exact .inr ⟨_,w.at e,b,_,D,TE q i m,st,sm,by rw[y];exact l,⟨by rw[amb _ _ _ _ aa,h.a0,akK,I],wt,kc,h.mode,h.fm⟩,RS.at w e,.inr ⟨rfl,.inr ⟨rfl,aa⟩⟩⟩
  ·obtain⟨k,hk,rfl⟩:∃k,k<j/\i=L.c0+k:=⟨i-L.c0,by have:=(bE.1 hi).1;omega,aa⟩;obtain⟨g2,f,hs⟩:=hc.wk k hk;rw[hi] at f;cases f;have hpe:pend (fW p)<=1:=by rw[aa3];split<;>omega
   have V:qE P S L J j D M gs (w.at e) t q d k g (fW p):=by
    by_cases h6:(D k).stage<=6
    ·exact Qw hc kc h.mode (λx=>absurd x (acL p)) aa hk hs h6 H
    ·exact Lu
   obtain⟨g',w',es,d',o,r,W,wt,v,s,_,B,BB,hX⟩:=V;have l:=alF (P:=P.two) (sl:=b) (i:=L.c0+k) hi (by rw[N];exact W);refine .inr ⟨_,w',b,_,TE D k d',q,o,r,by rw[y];exact l,⟨by rw[amb _ _ _ _ aa,h.a0,akK,I],wt,v,s _ (.inl rfl) λ_ _=>acK p,λc hc=>?_⟩,⟨BB.size,λc hc=>?_,λ_=>⟨o,r,v⟩,λ_=>wt.pay⟩,Ys hk B q⟩
   ·obtain⟨h1,h2,h3,h4⟩:=h.fm c hc;refine⟨h1,h2,h3,λX R=>?_⟩;by_cases ek:X=k
    ·subst ek;rw[ajP];exactλx=>h4 X R (by rw[<-hX];exact x)
    ·rw[upd_ne _ _ ek];exact h4 X R
   ·exact Lw
end
end
section
variable[ag]
open Go.Conc
open Go.ConcN (upd upd_same upd_ne WgLive PayAt CTag WD cnt Vc Vc_le OpenSt pend sumTo sumTo_upd sumTo_upd_out get_map_set get_map_set_same deafBehind_idle Ok0)
open Go.ConcR (KK WgAt stA smA rd wr mk Payload g_of_ofEvents)
open Wg (RM DM)
section
variable(P:NO)[Payload](S:cJ)(L:bY)(J:dC)(Fin:Nat->(Nat->Prop)->BE->AS->Prop)
def Goal(m:Machine)(t:akt):Prop:=
 ∃N gs w sl b j M F D q a st sm,runNT P.two N m t=(.next (crowd gs w sl),b)/\iN P S L J j Bz 0 M F D gs w b q a st sm/\Fin j M a w/\j<=J.n
def mm(r:Stepped×Array MemOp)(t:akt):Prop:=∃m ops,r=(.next m,ops)/\Goal P S L J Fin m (t++ops)
end
section
variable{P:NO}[Payload]{S:cJ}{L:bY}{J:dC}{Fin:Nat->(Nat->Prop)->BE->AS->Prop}{j d:Nat}{p:Bool}{M F:Nat->Prop}{D:Nat->WS}{gs:Array BE}{w w':AS}{sl:Option (Nat×Nat)}{t:akt}{q:Nat->Nat}{a a':BE}{st sm:Int}
def mm.step{m:Machine}(h:mm P S L J Fin (stepT P.two m) t):Goal P S L J Fin m t:=by obtain⟨f,ops,h1,N,gs,w,sl,b,j,M,F,D,q,a,st,sm,c,e⟩:=h;exact⟨N+1,gs,w,sl,b,j,M,F,D,q,a,st,sm,by simp only[runNT,h1];exact c,e⟩
def others(W:dA P)(X:ee P)(Z:cO P)(hG:S.K.G=P.globals.size)(hF:dY P S.K)(y:∀c c',¬ag.dM c c')(hJ:kC P S J n)(z:j<=n)(hj:j<2147483647)(hr:a.status=.running)
  (f:∀D gs w₁ sl t q st sm,mL S L J M w w₁->iN P S L J j p d M F D gs w₁ t q a st sm->mm P S L J Fin (runT P.two (crowd gs w₁ sl) 0) t):
  ∀(s:Nat)(xs:List (BE×AS)),Acc (LR (aL.Nx P)) xs->∀(A:Nat)(D:Nat->WS)(gs:Array BE)(w₁:AS)(sl:Option (Nat×Nat))(t:akt)(q:Nat->Nat)(st sm:Int),
   mL S L J M w w₁->iN P S L J j p d M F D gs w₁ t q a st sm->sS j D=s->runs j D=xs->sF j D+sumTo L.c0 q=A->Goal P S L J Fin (crowd gs w₁ sl) t:=by
 intro s
 induction s using alE with
 |_ s B=>
 intro xs E
 induction E with
 |intro xs T H=>
 intro A
 induction A using alE with
 |_ A I=>
 intro D gs w₁ sl t q st sm v h e1 V e3;apply mm.step;rcases aa4 (sl:=sl) W X Z hG hF y hJ z hj hr h with⟨e,b,i⟩|⟨l,w',b,ops,N,Q,m,o,i,h',r,hd⟩
 ·rw[i];exact f D gs _ b t q st sm (v.trans (RS.at w₁ e)) ⟨h.a0,h.bP.at e,h.wg,h.mode,h.fm⟩
 ·refine⟨_,ops,i,?_⟩
  have u:=wI _ λx hx=>by exact MY
  rcases hd with h1|⟨h1,R|⟨R,h3⟩⟩
  ·exact B _ aa _ u _ N l w' b _ Q m o (v.trans r) h' rfl rfl rfl
  ·exact H _ (by rw[<-V];exact R) _ N l w' b _ Q m o (v.trans r) h' aa rfl rfl
  ·exact I _ aa N l w' b _ Q m o (v.trans r) h' aa (R.trans V) rfl
def iN.own(h:iN P S L J j p d M F D gs w t q a st sm){fn:FuncId}{pos:String}{es:Array akh}(v:Ia M F L.C L.Wg w w' es):
  iN P S L J j p d (grow M w w') (grow F w w') D ((gs.map (woken P.two a a' w')).setIfInBounds 0 a') w' (t++ajn 0 fn pos es) q a' st sm:=by
 have f:=λc=>h.bP.mem.mlt c;have I:=h.bP.lay.Wg;have hC:=h.bP.lay.C
 have i:∀e∈es,e.loc.isMemory=AT:=λe he=>by obtain⟨_,c,h1,_⟩:=v.ev e he;exact h1.mem
 have qO:∀e∈es,MemAct.ofEvent e=.access e:=λe he=>NS (v.ev e he).1 (i e he)
 have l:∀e∈es,∀x,(MemAct.ofEvent e).touch?=an x->x=⟨e.loc,e.write,.plain⟩:=λe he x o=>by rw[qO e he] at o;simp only[MemAct.touch?,Option.some.injEq] at o;rw[<-o];simp[(v.ev e he).1]
 have y:∀e∈es,∀m,e.loc≠.mark m:=λe he m hm=>by have:=i e he;rw[hm] at this;cases this
 have b:=v.keep;have nF:∀c,c<S.h1.size->¬F c:=λc hc x=>by have:=(f c (h.fm c x).1).1;omega
 have A:=f _ I;have B:=f _ hC
 have rp:∀k,k<j->RP S.h1.size (D k).X J.ty L.Wg L.C J.n L.off k w w':=λk s=>.Fb λc hc=>by
  rcases hc with hc|hc|rfl|rfl
  ·exact b c (bH hc h.bP.mem.size) (nF c hc)
  ·exact b c (f c (h.bP.lay.x k c hc).1).2 λx=>(h.fm c x).2.2.2 k s hc
  ·exact b _ A.2 λx=>(h.fm _ x).2.2.1 rfl
  ·exact b _ B.2 λx=>(h.fm _ x).2.1 rfl
 have K:=b _ A.2 λx=>(h.fm _ x).2.2.1 rfl;have eC:=b _ B.2 λx=>(h.fm _ x).2.1 rfl;have hgm:∀c,grow F w w' c->grow M w w' c:=λc hc=>hc.imp_left λx=>(h.fm c x).1
 have z:∀e∈es,∃c,bI c e.loc/\S.h1.size<=c/\c<w'.heap.size/\c≠L.C/\c≠L.Wg/\(∀k,k<j->¬aK S (fV D) k c)/\(e.write=AT->∀k,k<j->¬(D k).X c):=λe he=>by
  obtain⟨_,c,h1,r⟩:=v.ev e he
  have E:M c->c≠L.C->c≠L.Wg->(e.write=AT->∀k,k<j->¬(D k).X c)->∃c,bI c e.loc/\S.h1.size<=c/\c<w'.heap.size/\c≠L.C/\c≠L.Wg/\(∀k,k<j->¬aK S (fV D) k c)/\(e.write=AT->∀k,k<j->¬(D k).X c):=λhm hc hw o=>⟨c,h1,(f c hm).1,bH (f c hm).2 v.size,hc,hw,λk s x=>h.bP.mem.main k s c x hm,o⟩
  rcases r with(r|⟨r,h3⟩)|⟨r,h3,H,N⟩
  ·have:=h.fm c r;exact E this.1 this.2.1 this.2.2.1 λ_=>this.2.2.2
  ·have:=h.bP.mem.size;refine⟨c,h1,aa,h3,aa,aa,λk s x=>?_,λ_ k s x=>?_⟩
   ·have:=(h.bP.mem.l6 s x).2;omega
   ·have:=(f c (h.bP.lay.x k c x).1).2;omega
  ·exact E h3 H N λx=>by rw[r] at x;cases x
 have Q:∀e∈es,¬L.Sh e.loc:=λe he x=>by
  obtain⟨c,h1,r,_,H,N,_⟩:=z e he;rcases x with x|⟨a,R,hb⟩
  ·obtain⟨a,R,hb⟩:=h.bP.lay.sh _ x;have:=bI.inj h1 (.inl ⟨a,R,rfl⟩);omega
  ·have:=bI.inj h1 (.inl ⟨a,R,rfl⟩);omega
 have hc:=h.bP.step0 (a:=a) (a':=a') (fn:=fn) (pos:=pos) (M':=grow M w w') v.size (λc hc hn=>b c hc λx=>hn (h.fm c x).1) (λ_ x=>.inl x) (λ_ x=>x) rp (by obtain⟨cs,h1,r⟩:=h.bP.pay;exact⟨cs,eC.trans h1,r⟩)
  (es:=es) (λop T=>?_) (λe he x o _=>by rw[l e he x o]) (λe he=>?_) (λe he=>y e he _) v.io
 ·rw[deafBehind_idle λe he=>⟨y e he _,y e he _⟩] at hc;refine⟨get_map_set_same _ _ _ (by rw[h.bP.size];have:=h.bP.lay.c0;omega),hc,h.wg.of_block K,h.mode,λc o=>?_⟩;rcases o with o|⟨h1,r⟩
  ·have:=h.fm c o;exact⟨.inl this.1,this.2⟩
  ·exact⟨.inr ⟨h1,r⟩,aa,aa,λk s x=>by have:=(f c (h.bP.lay.x k c x).1).2;omega⟩
 ·obtain⟨e,he,rfl⟩:=j9 T;refine⟨rfl,λx o=>.inr ?_⟩;rw[l e he x o];obtain⟨c,h1,r,h3,H,N,Z,h7⟩:=z e he;refine⟨Q e he,λg _ _ G=>?_,λhw g _ _ V=>?_⟩
  ·obtain⟨k,s,_,u|⟨c',ho,u⟩⟩:=G
   ·have:=bI.inj h1 (.inl ⟨_,u,rfl⟩);exact H this
   ·rw[bI.inj h1 u] at Z;exact Z k s ho
  ·obtain⟨k,s,_,_,c',u,W⟩:=V;rw[<-bI.inj h1 W] at u;rcases u with u|u
   ·omega
   ·exact h7 hw k s u
 ·obtain⟨c,h1,_,h3,_⟩:=z e he;exact Ly
end
end
section
variable[ag]
open Go.Conc
open Go.ConcN (upd upd_same upd_ne WgLive PayAt CTag WD cnt Vc Vc_le OpenSt pend sumTo sumTo_upd sumTo_upd_out get_map_set get_map_set_same deafBehind_idle Ok0 bk_cell)
open Go.ConcR (KK WgAt stA smA rd wr mk Payload g_of_ofEvents)
open Wg (RM DM)
section
variable{P:NO}[Payload]{S:cJ}{L:bY}{J:dC}{Fin:Nat->(Nat->Prop)->BE->AS->Prop}{j d:Nat}{p:Bool}{M F:Nat->Prop}{D:Nat->WS}{gs:Array BE}{w w':AS}{sl:Option (Nat×Nat)}{t:akt}{q:Nat->Nat}{a a':BE}{st sm:Int}
def iN.fQ(h:iN P S L J j p d M F D gs w t q a st sm){fn:FuncId}{pos:String}{es:Array akh}{p':Bool}{b c:Int}(l:alk L.Wg w w')(i:WgAt J.ty L.Wg w' b c)(m:∀e∈es,ml L e)(f:ajY j (wd D) (fW p') b c):
  iN P S L J j p' (aka d es) M F D ((gs.map (woken P.two a a' w')).setIfInBounds 0 a') w' (t++ajn 0 fn pos es) q a' b c:=
 ⟨get_map_set_same _ _ _ (by rw[h.bP.size];have:=h.bP.lay.c0;omega),h.bP.xg l ⟨b,c,i⟩ m,i,f,h.fm⟩
def mm.go(h:iN P S L J j p d M F D gs w t q a st sm){es:Array akh}(b:ajM P.two AT a w=.go a' w' es)
  (c:Goal P S L J Fin (crowd ((gs.map (woken P.two a a' w')).setIfInBounds 0 a') w' sl) (t++ajn 0 a.frame.fn a.frame.place es)):mm P S L J Fin (runT P.two (crowd gs w sl) 0) t:=
 ⟨_,_,alF (P:=P.two) (sl:=sl) (i:=0) h.a0 b,c⟩
def aa5(T:dA P)(V:ee P)(W:cO P)(hG:S.K.G=P.globals.size)(hF:dY P S.K)(u:∀c Z,¬ag.dM c Z)(R:kC P S J J.n)(hn:J.n<2147483647)(v:∀k,k<J.n->(J.start k).2.heap=S.h0)
  (z:a8 P.two S.h1.size J.ty L.Wg L.C J.n (Child P S L J) Fin j p d M F a w):
  ∀(D:Nat->WS)(gs:Array BE)(w₁:AS)(sl:Option (Nat×Nat))(t:akt)(q:Nat->Nat)(st sm:Int),mL S L J M w w₁->iN P S L J j p d M F D gs w₁ t q a st sm->j<=J.n->Goal P S L J Fin (crowd gs w₁ sl) t:=by
 have b:∀{j d:Nat}{p:Bool}{M F:Nat->Prop}{w:AS}{a:BE},a.status=.running->(∀D gs w₁ sl t q st sm,mL S L J M w w₁->iN P S L J j p d M F D gs w₁ t q a st sm->mm P S L J Fin (runT P.two (crowd gs w₁ sl) 0) t)->
   ∀(D:Nat->WS)(gs:Array BE)(w₁:AS)(sl:Option (Nat×Nat))(t:akt)(q:Nat->Nat)(st sm:Int),mL S L J M w w₁->iN P S L J j p d M F D gs w₁ t q a st sm->j<=J.n->Goal P S L J Fin (crowd gs w₁ sl) t:=by
  intro j d p M F w a f o D gs w₁ sl t q st sm hR h hj;refine others T V W hG hF u R hj aa f o _ _ (wI _ λx hx=>?_) _ D gs w₁ sl t q st sm hR h rfl rfl rfl;obtain⟨k,A,rfl⟩:=oR.1 hx;have A:=fR.1 A;obtain⟨g,_,z⟩:=h.bP.wk k A;exact Gd z.path (R.qP k aa).acc
 induction z with
 |@fin j M F g w r=>exactλD gs w₁ sl t q st sm hR h hj=>⟨0,gs,w₁,sl,t,j,M,F,D,q,g,st,sm,rfl,h,r w₁ hR,hj⟩
 |own f h1 _ ih=>intro D gs w₁ sl t q st sm hR h hj;refine b f (λD gs w₁ sl t q st sm hR h=>?_) D gs w₁ sl t q st sm hR h hj;obtain⟨g',w',es,hgo,B⟩:=h1 w₁ hR;exact mm.go h hgo (ih w₁ g' w' es hR hgo D _ w' sl _ q st sm (.refl w') (h.own B) hj)
 |@fQ j d p M F g w f h1 _ ih=>intro D gs w₁ sl t q st sm hR h hj;refine b f (λD gs w₁ sl t q st sm hR h=>?_) D gs w₁ sl t q st sm hR h hj;obtain⟨g',es,hgo,B⟩:=h1 w₁ hR;obtain⟨_,h2,h3⟩:=SD B;have:=h.fQ (a':=g') (fn:=g.frame.fn) (pos:=g.frame.place) (.refl L.Wg w₁) h.wg h2 h.mode;rw[h3] at this;exact mm.go h hgo (ih w₁ g' w₁ es hR hgo D _ w₁ sl _ q st sm (.refl w₁) this hj)
 |@kd j p M F g w f h1 _ ih=>intro D gs w₁ sl t q st sm hR h hj;refine b f (λD gs w₁ sl t q st sm hR h=>?_) D gs w₁ sl t q st sm hR h hj;obtain⟨g',hgo⟩:=h1 w₁ hR;have:=h.fQ (a':=g') (fn:=g.frame.fn) (pos:=g.frame.place) (es:=#[mk .disable]) (.refl L.Wg w₁) h.wg (λe he=>by simp at he;subst he;exact qg (.inl rfl)) h.mode;exact Lz
 |@ke j p M F g w f h1 _ ih=>intro D gs w₁ sl t q st sm hR h hj;refine b f (λD gs w₁ sl t q st sm hR h=>?_) D gs w₁ sl t q st sm hR h hj;obtain⟨g',hgo⟩:=h1 w₁ hR;have:=h.fQ (a':=g') (fn:=g.frame.fn) (pos:=g.frame.place) (es:=#[mk .enable]) (.refl L.Wg w₁) h.wg (λe he=>by simp at he;subst he;exact qg (.inr (.inl rfl))) h.mode;exact Lz
 |@add j d M F g w f h1 _ ih=>
  intro D gs w₁ sl t q st sm hR h hj;refine b f (λD gs w₁ sl t q st sm hR h=>?_) D gs w₁ sl t q st sm hR h hj;obtain⟨E,rfl,rfl,_⟩:=h.mode.open_inv (sN Bz);have hV:=Vc_le j (wd D);have hw:WgAt J.ty L.Wg w₁ ((Vc j (wd D):Nat)*KK) 0:=by have:=h.wg;simpa[fW,pend] using this
  obtain⟨g',hgo⟩:=h1 w₁ hR _ aa hw
  have:=h.fQ (a':=g') (fn:=g.frame.fn) (pos:=g.frame.place) (es:=#[rd (stA L.Wg),wr (stA L.Wg)]) (p':=AT) (alh w₁ (stA L.Wg) _) (hw.setSt (((Vc j (wd D):Nat)+1)*KK)) (λe he=>by simp at he;rcases he with rfl|rfl<;>exact qg (bk_cell _ _ rfl))
   (by have:=Go.ConcN.Mode.opn (j:=j) (D:=wd D) (tag:=fW AT) (sN AT) E (by simp[fW]);simpa[fW,pend] using this)
  exact mm.go h hgo (ih w₁ g' _ _ _ hR aa hw hgo D _ _ sl _ q _ _ (.refl _) this hj)
 |@go j M F g w H f h1 _ ih=>
  intro D gs w₁ sl t q st sm hR h hj;refine b f (λD gs w₁ sl t q st sm hR h=>?_) D gs w₁ sl t q st sm hR h hj;obtain⟨g',child,hgo,X,m,hX,I⟩:=h1 w₁ hR h.bP.pay;have l:=runT_crowd_spawn (P:=P.two) (sl:=sl) (i:=0) h.a0 hgo;rw[h.bP.size] at l;refine⟨_,_,l,?_⟩;obtain⟨E,rfl,rfl,_⟩:=h.mode.open_inv (sN AT)
  have s:=h.bP.spawn (a':=g') (child:=child) (d:=⟨7,3,m,0,J.start j,S.φ,default,X⟩) (x:={g:=0,fn:=g.frame.fn,pos:=g.frame.place,act:=.go (L.c0+j)}) (y:={g:=L.c0+j,fn:=child.frame.fn,pos:=g.frame.place,act:=.start}) ⟨rfl,rfl⟩ ⟨rfl,rfl⟩
   ⟨rfl,rfl,rfl,v j H⟩ hX (.pre rfl rfl rfl rfl rfl I)
  have eV:Vc (j+1) (wd (TE D j ⟨7,3,m,0,J.start j,S.φ,default,X⟩))=Vc j (wd D)+1:=by rw[tw];simp only[Vc,sumTo,ajP];rw[sumTo_upd_out (wd D) _ cnt (Nat.le_refl _)];rfl
  have N:OpenSt (j+1) (wd (TE D j ⟨7,3,m,0,J.start j,S.φ,default,X⟩)):=λi hi=>by
   rw[tw];by_cases e:i=j
   ·subst e;rw[ajP];simp
   ·rw[upd_ne (wd D) _ e];exact E i aa
  have Q:((gs.setIfInBounds 0 g').push child)[0]?=an g':=by have:=h.bP.size;have:=h.bP.lay.c0;rw[Array.getElem?_push_lt aA,<-Array.getElem?_eq_getElem];rw[Array.getElem?_setIfInBounds_self_of_lt aa]
  have e0:ajn 0 g.frame.fn g.frame.place #[]=#[]:=rfl;rw[e0];refine ih w₁ g' child w₁ #[] hR hgo _ _ w₁ sl _ q _ _ (.refl w₁) ⟨Q,s,h.wg,?_,λc hc=>hc.elim⟩ aa;have:=Go.ConcN.Mode.opn (j:=j+1) (D:=wd (TE D j ⟨7,3,m,0,J.start j,S.φ,default,X⟩)) (tag:=fW Bz) (sN Bz) N (by simp[fW]);rw[eV] at this;simpa[fW,pend] using this
end
end
section
variable[ag]
open Go.Conc
open Go.ConcN (upd CTag Vc pend phi sumTo PayAt Has)
open Go.ConcR (Payload WgAt KK)
open Wg (RM DM mM je)
section
variable(P:NO)[Payload](S:cJ)(L:bY)(J:dC)(Post:(Nat->Prop)->BE->AS->Prop)
structure SG(j:Nat)(M:Nat->Prop)(a:BE)(w:AS):Prop where
 all:j=J.n
 wait:∃(fd Nx:BE->AS->Prop)(m:Nat),(∀g w,fd g w->g.status=.running)/\(∀g w,Nx g w->g.status=.running)/\(∀g(w:AS) d,Nx g (w.at d)->Nx g w)/\
  (∀g w,fd g w->∃m,akz P.two AT (RM J.ty L.Wg) (DM L.Wg) (je P.two J.ty L.Wg fd Nx) m g w)/\akz P.two AT (RM J.ty L.Wg) (DM L.Wg) (mM P.two J.ty L.Wg fd) m a w/\∀g w₁,mL S L J M w w₁->Nx g w₁->Post M g w₁
end
section
variable{P:NO}[Payload]{S:cJ}{L:bY}{J:dC}{Post:(Nat->Prop)->BE->AS->Prop}{M F:Nat->Prop}{D:Nat->WS}{gs:Array BE}{w:AS}{sl:Option (Nat×Nat)}{t:akt}{q:Nat->Nat}{a:BE}
def aa6(hB:dA P)(hC:ee P)(hz:cO P)(hG:S.K.G=P.globals.size)(hF:dY P S.K)(y:∀c c',¬ag.dM c c')(Q:kC P S J J.n)(hn:J.n<2147483647)
  (z:a8 P.two S.h1.size J.ty L.Wg L.C J.n (Child P S L J) (SG P S L J Post) 0 Bz 0 M F a w)(A:Com P S L J 0 D M gs w t q 0)(ha:gs[0]?=an a)(R:WgAt J.ty L.Wg w 0 0)(r:∀c,F c->M c/\c≠L.C/\c≠L.Wg):
  ∃N l w' T V W M' a' q' X,runNT P.two N (crowd gs w sl) t=(.next (crowd l w' T),V)/\l[0]?=an a'/\Com P S L J J.n W M' l w' V q' 0/\Post M' a' w'/\a'.status=.running/\dT P.two L.Sh l w' V X/\
   ∀k,k<J.n->BA P J k (W k)/\Has L.C (L.off+k) (J.pick (W k).val) w':=by
 have o:ajY 0 (wd D) (fW Bz) 0 0:=by have:=Go.ConcN.Mode.opn (j:=0) (D:=wd D) (tag:=fW Bz) (sN Bz) (λi hi=>absurd hi (ib i)) (by simp[fW]);simpa[fW,pend,Vc,sumTo] using this
 obtain⟨N,B,w1,Z,t1,j,M1,F1,D1,q1,a1,st,sm,E,H,⟨rfl,fd,Nx,m,ws,t7,xY,hA,hgo,s⟩,hj⟩:=aa5 hB hC hz hG hF y Q hn Q.heap z D gs w sl t q 0 0 (.refl w)
  ⟨ha,A,R,o,λc hc=>⟨(r c hc).1,(r c hc).2.1,(r c hc).2.2,λk f=>absurd f (ib k)⟩⟩ (dk _)
 have hW:eU P S L J J.n M1 fd Nx D1 B w1 t1 q1 0 .kd m a1 st sm:=⟨H.a0,H.bP,.kd hgo,H.wg,H.mode.reopen (sN Bz) trivial rfl (λvs e=>by cases e),aj⟩
 obtain⟨N2,xZ,w2,x7,t2,D2,q2,d2,f2,a2,st2,sm2,u,b,I,hR2⟩:=acJ hB hC hz hG hF y Q (av _) hn ws t7 xY hA _ _ (wI _ λx hx=>by obtain⟨k,f,rfl⟩:=oR.1 hx;have f:=fR.1 f;obtain⟨g,_,z⟩:=H.bP.wk k f;exact Gd z.path (Q.qP k f).acc) _ D1 B w1 Z t1 q1 0 .kd m a1 st sm hW rfl rfl rfl
 have xQ:d2=0:=by have h:=b.cw;cases h with|ret _=>rfl
 subst xQ;obtain⟨hq,_,_⟩:=b.mode.fin_inv trivial;have v:∀k,k<J.n->(D2 k).stage=1:=hq;obtain⟨q3,d9⟩:=b.bP.frm (b.acq rfl) v;refine⟨N+N2,xZ,w2,x7,t2,D2,M1,a2,q2,q3,?_,b.a0,b.bP,s a2 w2 hR2 I,t7 _ _ I,d9,λk f=>⟨?_,b.bP.has k f (by have:=v k f;omega)⟩⟩
 ·rw[runNT_add,E];exact u
 ·obtain⟨g,_,z⟩:=b.bP.wk k f;have h1:=v k f;cases z with|pre _ h7=>omega|run _ h7=>omega|post _ h7=>omega|fQ _ _ h3 _=>exact h3
end
end
inductive lE(md:akZ)(ops:Array Oper):Array Bool->List Nat->Prop
 |nil {listed:Array Bool}:listed.size=ops.size->(∀i,i<ops.size->listed.getD i AT=AT)->lE md ops listed []
 |cons {listed:Array Bool} {i:Nat} {rest:List Nat}:listed.size=ops.size->i∈ajw md ops listed->lE md ops (listed.setIfInBounds i AT) rest->lE md ops listed (i::rest)
def nt(ops:Array Oper)(listed:Array Bool):List Nat:=(ajv ops.size).filter λi=>!listed.getD i AT
def SH{listed:Array Bool}{i:Nat}(b:listed.size=ops.size)(hi:i<ops.size)(h:listed.getD i AT=Bz):(nt ops (listed.setIfInBounds i AT)).length<(nt ops listed).length:=by
 have e:nt ops (listed.setIfInBounds i AT)=(nt ops listed).filter (λj=>!(j==i)):=by
  unfold nt;rw[List.filter_filter];apply List.filter_congr;intro j c;by_cases e:i=j
  ·simp_all
  ·rw[getD_set_ne AT e];simp[Ne.symm e]
 rw[e];rw[List.length_filter_lt_length_iff_exists];exact⟨i,List.mem_filter.2 ⟨fR.2 hi,by rw[h];rfl⟩,aj⟩
def aer{b:akZ}(l:∀(i:Nat) o,ops[i]?=an o->∀e∈o.after,akQ b e=AT->e.on<i):∀(fuel t:Nat)(listed:Array Bool),listed.size=ops.size->(nt ops listed).length<=fuel->lE b ops listed (Region.linearise.go b ops fuel t listed []):=by
 have full:∀listed:Array Bool,listed.size=ops.size->ajw b ops listed=[]->∀i,i<ops.size->listed.getD i AT=AT:=by
  intro listed f r i
  induction i using alE with
  |_ i s=>
   intro hi;cases h:listed.getD i AT with
   |true=>rfl
   |false=>
    have:i∈ajw b ops listed:=mem_ready.2 ⟨h,ops[i],eQ hi,λe he u=>by have c:=l i _ (eQ hi) e he u;have:=s e.on c aa;have v:e.on<listed.size:=aa;simp[v] at this⊢;exact this⟩
    rw[r] at this;cases this
 intro fuel
 induction fuel with
 |zero=>
  intro t listed f hu;have h0:nt ops listed=[]:=zy aa;refine .nil f λi hi=>?_;cases h:listed.getD i AT with
  |true=>rfl
  |false=>have:i∈nt ops listed:=List.mem_filter.2 ⟨fR.2 hi,by rw[h];rfl⟩;rw[h0] at this;cases this
 |succ fuel s=>
  intro t listed f hu
  change lE b ops listed (match(ajw b ops listed)[t%(ajw b ops listed).length]? with
   |some i=>Region.linearise.go b ops fuel (t/(ajw b ops listed).length) (listed.setIfInBounds i AT) [i]
   |none=>[].reverse)
  cases hi:(ajw b ops listed)[t%(ajw b ops listed).length]? with
  |none=>
   have m:ajw b ops listed=[]:=by
    cases r:ajw b ops listed with
    |nil=>rfl
    |cons x xs=>rw[r] at hi;have c:t%(x::xs).length<(x::xs).length:=Nat.mod_lt _ aj;simp at hi;simp at c;omega
   exact .nil f (full listed f m)
  |some i=>simp only[];rw[linearise_go_acc,List.reverse_singleton,List.singleton_append];have hm:=oS hi;obtain⟨h0,o,y,_⟩:=mem_ready.1 hm;have c:=(bE.1 y).1;refine .cons f hm (s _ _ (by simp[f]) ?_);have:=SH f c h0;omega
def MD{c:akZ}(b:∀(i:Nat) o,ops[i]?=an o->∀e∈o.after,akQ c e=AT->e.on<i){t:Nat}:lE c ops (ajD ops.size Bz) (Region.linearise c ops t):=by refine aer b _ _ _ aj ?_;exact aI (List.length_filter_le _ _) aj
def acM{b:akZ}:∀{rest:List Nat}{listed:Array Bool},lE b ops listed rest->rest.length<=(nt ops listed).length:=by
 intro rest
 induction rest with
 |nil=>intro listed _;simp
 |cons i rest c=>
  intro listed h;cases h with
  |cons h1 e f=>obtain⟨l,o,m,_⟩:=mem_ready.1 e;have hi:=(bE.1 m).1;have:=c f;have r:=l;have:=SH h1 hi r;simp only[List.length_cons];omega
def Za{b:akZ}{rest:List Nat}(h:lE b ops (ajD ops.size Bz) rest):rest.length<=ops.size:=by
 have h1:=acM h
 have c:(nt ops (ajD ops.size Bz)).length<=ops.size:=by exact aI (List.length_filter_le _ _) aj
 omega
end Go.Proofs.Q0.aL
