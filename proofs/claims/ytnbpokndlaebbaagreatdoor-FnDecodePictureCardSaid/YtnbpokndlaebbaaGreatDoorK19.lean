import Derived.Test.YtnbpokndlaebbaaGreatDoorK18
import Derived.Orders
set_option maxRecDepth 100000
set_option maxHeartbeats 8000000
set_option linter.all false
open Go.Value renaming int->U,slice->Y,bool->ci,agg->bi,pointer->d9,tuple->em,iface->gc
open Go.IntKind renaming i64->O
open Go.Obj renaming cells->ap
open Go.Ending renaming returned->dl
open Array renaming replicate->aif
open Bool renaming false->Ba,true->AT
open Go renaming Event->aiK,Goroutine->BE,Program->OF,Trace->aiX,TypeId->SL,World->rl,deafBehind->aiJ,stepG->aiq
open Go.Conc renaming Aside->ajU,Goes->ajg,aside_setCell->ajQ,runT_crowd_go->akn
open Go.ConcN renaming Mode->aiH,get_map_set->akL,upd->TO,upd_same->aix
open Go.MemOp renaming ofEvents->aft
open Go.Region renaming Mode->ajI,binds->ajA,ready->aib
open List renaming range->aij
open Nat renaming le_refl->akf,strongRecOn->akm
open Option renaming map_some->ajc,some->an
namespace Go.Proofs
def KE{p:Prop}(h:p:=by
  rcases cZ i L.c0 with aV|E'
  ·obtain⟨g,hg,hq⟩:=h.bY.old i tD aV;rw[xE] at hg;cases hg;exact awake_of (hq.status.elim .inl λx=>.inr (.inr x))
  ·obtain⟨k,hk,rfl⟩:∃k,k<j/\i=L.c0+k:=⟨i-L.c0,aa,aa⟩;obtain⟨g,hg,hs⟩:=h.bY.wk k hk;rw[xE] at hg;cases hg;exact awake_of (hs.status.elim .inl λx=>.inr (.inr x))):p:=h
def KF{p:Prop}(h:p:=by
  have h7:(D k).stage=7:=by cases hs with|pre _ h7=>exact h7|run _ h7=>exact h7|post _ h7=>exact h7|fL _ Cd=>omega
  exact ZV hB hC hz hG hF ws hJ hc li h.mode hk aa hs h7):p:=h
def KG{p:Prop}(h:p:=by
  rcases hc with hc|⟨h1,h2,h3⟩
  ·exact(AC.mem.old c hc).trans (h.bY.mem.old c hc).symm
  ·exact Bd.bK c h1 h2 h3):p:=h
def Mk{p:Prop}(h:p:=by obtain⟨k,hk,rfl⟩:=oD.1 hx;have hk:k<j:=fM.1 hk;obtain⟨g,_,hs⟩:=h'.bY.wk k hk;exact FG hs.path (hJ.qO k aa).acc):p:=h
def KH{p:Prop}(h:p:=by
  rw[qN e he];rcases h1 with⟨a,ha,hb⟩|hb
  ·show Loc.low _ _;rw[ha];show a.block<_;omega
  ·show Loc.low _ _;rw[hb];exact h3):p:=h
def KI{p:Prop}(h:p:=by exact lT.go h hgo (ih w₁ g' w₁ _ hR hgo D _ w₁ sl _ q st sm (.refl w₁) this hj)):p:=h
abbrev zq:=@List.mem_of_getElem?
end Go.Proofs
namespace Go.Proofs.Q0.aM
variable{k n:Nat}{ops:Array Oper}
section
variable[ah]
open Go.Conc
open Go.ConcN (upd WgLive CTag WD cnt Vc Vc_le pend isOpen isW3 isFin phi bk_cell allQuit_of RelBy)
open Go.ConcR (KK WgAt stA smA rd wr mk Payload Bk g_of_ofEvents ofEvent_mk)
open Wg (RM DM mq oe qQ iV xD ui xC)
section
variable{P:OF}[Payload]{S:cO}{L:cB}{J:dB}{j:Nat}{D:Nat->WS}{M:Nat->Prop}{gs:Array BE}{w:rl}{t:aiX}{q:Nat->Nat}{d0:Nat}{g0 Nx:BE->rl->Prop}
def ZX(h:Com P S L J j D M gs w t q d0){st sm:Int}{tag:CTag}{f0:Nat}{a:BE}(hj:j<2147483648)(hA:∀g w,g0 g w->∃m,ajg P.two AT (RM J.ty L.Wg) (DM L.Wg) (iV P.two J.ty L.Wg g0 Nx) m g w)
  (l:WgAt J.ty L.Wg w st sm)(b:aiH j (wd D) tag st sm)(B:tag=.ret->AcqAll L j t)(T:CW P.two J.ty L.Wg g0 Nx tag f0 d0 a w)(E:a.status=.running):
  (tag=.ret/\Nx a w)\/wu P S L J j D M gs w t q d0 g0 Nx a tag f0:=by
 have y:=RM.refl J.ty L.Wg w;have IN:=h.lay.c0;have hVj:=Vc_le j (wd D);cases T with
 |blk hb=>cases E
 |kd x=>
  right
  rcases iJ x with c|⟨z,rfl,f⟩
  ·obtain⟨_,a',i,s,v⟩:=c w y;exact book0 h i (.refl L.Wg w) l (by intro e he;simp at he;subst he;exact .inl (.inl rfl)) (tag':=.anch) (.anch v) (b.reopen trivial trivial rfl λG e=>by cases e) au mz
  ·obtain⟨a',w',es,i,u,o⟩:=f w y;have e:=u.1;subst e;exact idle0 h l b au i u (.kd o) aa
 |anch x=>
  right
  rcases iJ x with c|⟨z,rfl,f⟩
  ·obtain⟨m,v⟩:=hA a w (c w y);obtain⟨a',w',es,tag',f',V,W,h1,H,I,X,h5,h6,Z,h8⟩:=QO h hj l (b.reopen (tag':=.w1) trivial trivial rfl λG e=>by cases e) v;refine⟨a',w',es,tag',f',V,W,h1,H,I,X,h5,h6,.inl ?_,h8⟩;have R:phi j (Vc j (wd D)) .w1<phi j (Vc j (wd D)) .anch:=mz;rcases Z with Z|⟨Z,_⟩<;>omega
  ·obtain⟨a',w',es,i,u,o⟩:=f w y;have e:=u.1;subst e;exact idle0 h l b au i u (.anch o) aa
 |w1 x=>exact .inr (QO h hj l b x)
 |@w2 G m g w x=>
  right
  rcases iJ x with c|⟨z,rfl,f⟩
  ·obtain⟨_,K⟩:=c w y;obtain⟨ho,rfl,rfl,IT⟩:=b.open_inv trivial;obtain⟨G4,Tz⟩:=IT G rfl;obtain⟨hit,N⟩:=K (Vc j (wd D)) aa (by simpa[pend] using l);have bk2:∀e∈#[rd (stA L.Wg),wr (stA L.Wg)],lS L e:=by intro e he;simp at he;rcases he with rfl|rfl<;>exact qf (bk_cell _ _ rfl)
   have bk1:∀e∈#[rd (stA L.Wg)],lS L e:=CM;by_cases hv:Vc j (wd D)=G
   ·obtain⟨a',i,s,v⟩:=hit hv;exact book0 h i (ajQ w (stA L.Wg) _) (l.setSt _) bk2 (tag':=.w3) (.w3 v) (.reg trivial ho aa) au mz
   ·obtain⟨a',i,s,v⟩:=N hv;exact book0 h i (.refl L.Wg w) l bk1 (tag':=.anch) (.anch v) (b.reopen trivial trivial rfl λG e=>by cases e) au mz
  ·obtain⟨a',w',es,i,u,o⟩:=f w y;have e:=u.1;subst e;exact idle0 h l b au i u (.w2 o) aa
 |@w3 m g w x=>
  right
  rcases iJ x with c|⟨z,rfl,f⟩
  ·obtain⟨_,ahz,A,Q⟩:=c w y
   have block:∀{st:Int},WgAt J.ty L.Wg w st 0->aiH j (wd D) .blk st 0->wu P S L J j D M gs w t q 1 g0 Nx a .w3 (m+1):=λhw hm=>⟨{a with status:=.blocked},w,#[],.blk,0,_,0,A ⟨_,hw⟩,h.wN (.refl L.Wg w) ⟨_,_,hw⟩ au,.blk c,hw,hm,au,.inr ⟨rfl,aa⟩,.refl L.Wg w⟩
   cases b with
   |opn h1 _ _=>exact h1.elim
   |reg _ H I=>exact block l (.reg trivial H I)
   |last Lx _ H I X=>exact block l (.last Lx trivial H I X)
   |sema hq=>
    obtain⟨a',i,s,v⟩:=Q l;refine book0 h i (ajQ w (smA L.Wg) _) (l.setSm 0) (es:=semEvents (smA L.Wg)) ?_ (tag':=.w4) (f':=s) ?_ (.fin trivial hq) au mz
    ·intro e he;simp[semEvents] at he;rcases he with rfl|rfl|rfl|rfl
     ·exact .inl (.inl rfl)
     ·exact qf (bk_cell _ _ rfl)
     ·exact qf (bk_cell _ _ rfl)
     ·exact .inl (.inr (.inl rfl))
    ·have:aiJ 1 (semEvents (smA L.Wg))=1:=by simp[aiJ,semEvents]
     rw[this];exact .w4 v
   |fin h1 _=>exact h1.elim
  ·obtain⟨a',w',es,i,u,o⟩:=f w y;have e:=u.1;subst e;exact idle0 h l b au i u (.w3 o) aa
 |w4 x=>
  right
  rcases iJ x with c|⟨z,rfl,f⟩
  ·obtain⟨_,hx⟩:=c w y;obtain⟨hq,rfl,rfl⟩:=b.fin_inv trivial;obtain⟨a',i,s,v⟩:=hx l;exact book0 h i (.refl L.Wg w) l CM (tag':=.ke) (.ke v) (.fin trivial hq) au mz
  ·obtain⟨a',w',es,i,u,o⟩:=f w y;have e:=u.1;subst e;exact idle0 h l b au i u (.w4 o) aa
 |ke x=>
  right
  rcases iJ x with c|⟨z,rfl,f⟩
  ·obtain⟨_,a',i,s,v⟩:=c w y;obtain⟨hq,rfl,rfl⟩:=b.fin_inv trivial;exact book0 h i (.refl L.Wg w) l (by intro e he;simp at he;subst he;exact .inl (.inr (.inl rfl))) (tag':=.acq) (.acq v) (.fin trivial hq) au mz
  ·obtain⟨a',w',es,i,u,o⟩:=f w y;have e:=u.1;subst e;exact idle0 h l b au i u (.ke o) aa
 |acq x=>
  right
  rcases iJ x with c|⟨z,rfl,f⟩
  ·obtain⟨_,a',i,s,v⟩:=c w y;obtain⟨hq,rfl,rfl⟩:=b.fin_inv trivial;refine⟨a',w,_,.ret,s,0,0,i,h.wN (.refl L.Wg w) ⟨_,_,l⟩ (by intro e he;simp at he;subst he;exact .inr (.inl rfl)),.ret v,l,.fin trivial hq,λ_=>?_,.inl mz,.refl L.Wg w⟩;have R:aft 0 a.frame.fn a.frame.place #[mk (.acquire (stA L.Wg))]=#[{g:=0,fn:=a.frame.fn,pos:=a.frame.place,act:=.mark (.acquire (stA L.Wg))}]:=by rw[ofEvents_eq];simp[ofEvent_mk]
   have hy:(t++#[({g:=0,fn:=a.frame.fn,pos:=a.frame.place,act:=.mark (.acquire (stA L.Wg))}:MemOp)])[t.size]?=an {g:=0,fn:=a.frame.fn,pos:=a.frame.place,act:=.mark (.acquire (stA L.Wg))}:=au;refine⟨t.size,by rw[R,act?_of hy],by rw[R];simp[Trace.g?],by rw[R];exact⟨0,by simp[Trace.g?],by rw[deaf_old (akf _)];exact h.deaf0⟩,λk v=>?_⟩;obtain⟨r,hr⟩:=h.rel k v (by have:(D k).stage=1:=hq k v;omega);exact⟨r,zi hr g_of_ofEvents aa,lt_of_act? hr.act⟩
  ·obtain⟨a',w',es,i,u,o⟩:=f w y;have e:=u.1;subst e;exact idle0 h l b au i u (.acq o) aa
 |ret x=>
  rcases iJ x with c|⟨z,rfl,f⟩
  ·exact .inl ⟨rfl,c w y⟩
  ·right
   obtain⟨a',w',es,i,u,o⟩:=f w y;have e:=u.1;subst e;exact idle0 h l b B i u (.ret o) aa
end
end
section
variable[ah]
open Go.Conc
open Go.ConcN (upd upd_same upd_ne WgLive CTag WD cnt Vc Vc_le pend phi phi_mono phi_retag sumTo sumTo_upd le_sumTo)
open Go.ConcR (KK WgAt stA Payload)
open Wg (RM DM iV)
def sS(j:Nat)(D:Nat->WS):Nat:=sumTo j λk=>(D k).stage+(D k).e
def sF(j:Nat)(D:Nat->WS):Nat:=sumTo j λk=>(D k).fuel
def runs(j:Nat)(D:Nat->WS):List (BE×rl):=(aij j).map λk=>(D k).x
section
variable(P:OF)[Payload](S:cO)(L:cB)(J:dB)(j:Nat)(M:Nat->Prop)(g0 Nx:BE->rl->Prop)
structure eR(D:Nat->WS)(gs:Array BE)(w:rl)(t:aiX)(q:Nat->Nat)(d0:Nat)(tag:CTag)(f0:Nat)(a:BE)(st sm:Int):Prop where
 a0:gs[0]?=an a
 bY:Com P S L J j D M gs w t q d0
 cw:CW P.two J.ty L.Wg g0 Nx tag f0 d0 a w
 wg:WgAt J.ty L.Wg w st sm
 mode:aiH j (wd D) tag st sm
 acq:tag=.ret->AcqAll L j t
def Down(b D:Nat->WS)(c q:Nat->Nat)(tag' tag:CTag)(f' f:Nat):Prop:=
 phi j (Vc j (wd b)) tag'+sS j b<phi j (Vc j (wd D)) tag+sS j D\/
 (phi j (Vc j (wd b)) tag'+sS j b=phi j (Vc j (wd D)) tag+sS j D/\
  (LR (aM.Nx P) (runs j b) (runs j D)\/(runs j b=runs j D/\f'+2*sF j b+2*sumTo L.c0 c<f+2*sF j D+2*sumTo L.c0 q)))
end
section
variable{P:OF}[Payload]{S:cO}{L:cB}{J:dB}{j:Nat}{M:Nat->Prop}{g0 Nx:BE->rl->Prop}{D:Nat->WS}{gs:Array BE}{w:rl}{sl:Option (Nat×Nat)}{t:aiX}{q:Nat->Nat}{d0:Nat}{tag:CTag}{f0:Nat}{a:BE}{st sm:Int}
def Fi(c:k<j){d:WS}:runs j (TO D k d)=(runs j D).set k d.x:=by
 apply List.ext_getElem?;intro i;simp only[runs,List.getElem?_map,List.getElem?_set,List.length_map,List.length_range];by_cases e:k=i
 ·subst e;simp[c,aix]
 ·rw[if_neg e];rcases cZ i j with b|f
  ·simp[b,upd_ne D _ (Ne.symm e)]
  ·simp_all
def OE(b:k<j){d:WS}(h:d.x=(D k).x):runs j (TO D k d)=runs j D:=by
 rw[Fi b,h];apply List.ext_getElem?;intro i;rw[List.getElem?_set];split
 ·next e=>subst e;simp[runs,b]
 ·rfl
omit [ah] in
def aee{a b:WD}(h:5<=a.stage->5<=b.stage):cnt a<=cnt b:=by
 unfold Go.ConcN.cnt;split
 ·simp_all
 ·omega
omit [ah] in
def RG{a b:WD}(h:a.stage=b.stage):cnt a=cnt b:=by unfold Go.ConcN.cnt;rw[h]
def X8(c:k<j){b:WS}(h:G0 P b (D k))(q:Nat->Nat){tag':CTag}(l:tag'=tag\/(tag=.blk/\tag'=.w3)){f':Nat}(E:f'<=f0+1):Down P L j (TO D k b) D q q tag' tag f' f0:=by
 have m:=sumTo_upd D b (λd=>d.stage+d.e) c;have o:=sumTo_upd D b (λd=>d.fuel) c;have r:=Go.ConcN.Vc_upd (wd D) (⟨b.stage,b.fuel,b.deaf⟩:WD) c;rw[<-tp] at r;have s:=phi_retag j (Vc j (wd (TO D k b))) l
 have hc:cnt (⟨b.stage,b.fuel,b.deaf⟩:WD)<=cnt (wd D k):=by
  rcases h with⟨h1,_,_,i⟩|⟨h1,_⟩
  ·exact aee i
  ·exact nf (RG h1)
 have hm:=phi_mono j (v':=Vc j (wd (TO D k b))) (v:=Vc j (wd D)) aa tag;have u:sS j (TO D k b)+((D k).stage+(D k).e)=sS j D+(b.stage+b.e):=m;have y:sF j (TO D k b)+(D k).fuel=sF j D+b.fuel:=o;unfold Down;rw[s];rcases h with⟨h1,_,f,_⟩|⟨h1,z|⟨z,f⟩⟩
 ·omega
 ·omega
 ·have A:cnt (⟨b.stage,b.fuel,b.deaf⟩:WD)=cnt (wd D k):=RG h1;have B:Vc j (wd (TO D k b))=Vc j (wd D):=aa;rw[B]
  right
  refine⟨aa,?_⟩;rcases f with f|⟨f,i⟩
  ·left
   refine⟨k,(D k).x,b.x,by simp[runs,c],f,Fi c⟩
  ·right
   exact⟨OE c f,aa⟩
end
end
section
variable[ah]
open Go.Conc
open Go.ConcN (upd upd_same upd_ne WgLive CTag WD cnt Vc Vc_le pend phi sumTo sumTo_upd get_map_set get_map_set_same le_sumTo WSit)
open Go.ConcR (KK WgAt stA Payload g_of_ofEvents)
open Wg (RM DM iV)
section
variable{P:OF}[Payload]{S:cO}{L:cB}{J:dB}{j:Nat}{M:Nat->Prop}{g0 Nx:BE->rl->Prop}{D:Nat->WS}{gs:Array BE}{w:rl}{sl:Option (Nat×Nat)}{t:aiX}{q:Nat->Nat}{d0:Nat}{tag:CTag}{f0:Nat}{a:BE}{st sm:Int}
def fD.running{d:WS}{g:BE}(h:fD P S L J k d g w)(h1:d.stage≠1):g.status=.running:=by
 have b:=lC (ty:=J.ty) (Wg:=L.Wg) (C:=L.C) (n:=J.n) (Low:=0) (i:=L.off+k+1-1) w;cases h with
 |pre _ _ _ _ _ h=>exact gY (λ_ _ x=>x.1) w (RP.refl w) h
 |run _ _ _ _ _ h _=>exact h.running
 |post _ _ _ _ h=>exact gY (λ_ _ x=>x.1) w (RP.refl w) h
 |fL _ c _ h=>generalize d.stage=s at h h1 c;generalize d.deaf=dd at h;cases h with|r0 h=>omega|k1 h=>exact gY (λ_ _ x=>x.1) w b h|d1 h=>exact gY (λ_ _ x=>x.1) w b h|d2 h=>exact gY (λ_ _ x=>x.1) w b h|d3 h=>exact gY (λ_ _ x=>x.1) w b h|d4 h=>exact gY (λ_ _ x=>x.1) w b h|quit h=>exact absurd rfl h1
variable(z':∀g w,g0 g w->g.status=.running)(t8:∀g w,Nx g w->g.status=.running)
include z' t8
def eR.ae1(h:eR P S L J j M g0 Nx D gs w t q d0 tag f0 a st sm):∃(i:Nat)(g:BE),gs[i]?=an g/\g.status=.running:=by
 rcases h.cw.status z' t8 with⟨f,_⟩|⟨_,rfl⟩
 ·exact⟨0,a,h.a0,f⟩
 ·have l:∃k,k<j/\(D k).stage≠1:=by
   apply oA;intro o;have b:∀k,k<j->(wd D k).stage=1:=λk m=>oA λe=>o ⟨k,m,e⟩;cases h.mode with
   |opn h1 _ _=>exact h1
   |reg _ _ r=>
    have:Vc j (wd D)<=0*j:=Go.ConcN.sumTo_le (c:=0) λi hi=>by simp[Go.ConcN.cnt,b i hi]
    omega
   |last s _ u r _=>have:=b s u;omega
   |fin h1 _=>exact h1
  obtain⟨k,m,h1⟩:=l;obtain⟨g,v,f⟩:=h.bY.wk k m;exact⟨_,g,v,f.running h1⟩
def eR.awake(h:eR P S L J j M g0 Nx D gs w t q d0 tag f0 a st sm):∀g∈gs,awake g:=by
 intro g c;obtain⟨i,hi,rfl⟩:=zp.1 c;have xE:=eO hi;have hc:=h.bY.size;rcases iI i with rfl|tD
 ·have:gs[0]=a:=by have:=h.a0;rw[xE] at this;exact aH this
  rw[this];rcases h.cw.status z' t8 with⟨b,_⟩|⟨b,_⟩
  ·exact awake_of (.inl b)
  ·exact awake_of (.inr (.inl b))
 ·exact KE
end
end
section
variable[ah]
open Go.Conc
open Go.ConcN (upd upd_same upd_ne WgLive CTag WD cnt Vc Vc_le pend phi phi_retag sumTo sumTo_upd get_map_set get_map_set_same le_sumTo WSit)
open Go.ConcR (KK WgAt stA Payload g_of_ofEvents)
open Wg (RM DM iV)
section
variable{P:OF}[Payload]{S:cO}{L:cB}{J:dB}{j:Nat}{M:Nat->Prop}{g0 Nx:BE->rl->Prop}{D:Nat->WS}{gs:Array BE}{w:rl}{sl:Option (Nat×Nat)}{t:aiX}{q:Nat->Nat}{d0:Nat}{tag:CTag}{f0:Nat}{a:BE}{st sm:Int}
def abx(hB:dz P)(hC:ef P)(hz:cN P)(hG:S.K.G=P.globals.size)(hF:dX P S.K)(ws:∀c c',¬ah.dL c c')(hJ:j8 P S J n)(IU:j<=n)(hj:j<2147483647)
  (z':∀g w,g0 g w->g.status=.running)(t8:∀g w,Nx g w->g.status=.running)(xF:∀g(w:rl) d,Nx g (w.at d)->Nx g w)
  (hA:∀g w,g0 g w->∃m,ajg P.two AT (RM J.ty L.Wg) (DM L.Wg) (iV P.two J.ty L.Wg g0 Nx) m g w)(ahb:pend tag=0)
  (h:eR P S L J j M g0 Nx D gs w t q d0 tag f0 a st sm):
  (tag=.ret/\Nx a w)\/∃V w' o ops D' q' d0' tag' W a' s u,stepT P.two (crowd gs w sl)=(.next (crowd V w' o),ops)/\eR P S L J j M g0 Nx D' V w' (t++ops) q' d0' tag' W a' s u/\Down P L j D' D q' q tag' tag W f0/\mo S L J M w w':=by
 obtain⟨i,g,d,o,hi,T,H⟩:=crowd_pick (P:=P.two) (w:=w) (sl:=sl) (h.awake z' t8) (h.ae1 z' t8);have hc:=h.bY.at d;have I:CW P.two J.ty L.Wg g0 Nx tag f0 d0 a (w.at d):=h.cw.rely λx=>x;have li:=h.wg;have dg:=h.bY.size;have IN:=h.bY.lay.c0;rcases iI i with rfl|E
 ·obtain rfl:g=a:=by have:=h.a0;rw[hi] at this;exact aH this
  rcases ZX hc aa hA li h.mode h.acq I T with⟨h1,h2⟩|⟨a',w',es,tag',X,s,u,N,AC,v,f,l,z,A,Z⟩
  ·exact .inl ⟨h1,xF _ _ _ h2⟩
  ·have y:=akn (P:=P.two) (sl:=o) (i:=0) hi (show aiq P.two (0==0) g (w.at d)=_ from N);refine .inr ⟨_,w',o,_,D,q,_,tag',X,a',s,u,by rw[H];exact y,⟨get_map_set_same _ _ _ aa,AC,v,f,l,z⟩,?_,nf Z.size.symm,λc hc=>Z.block c ?_,λ_=>⟨s,u,f⟩,λ_=>AC.pay⟩
   rotate_left
   ·rintro rfl;rcases hc with hc|⟨_,_,hc⟩
    ·have:=(h.bY.mem.mlt _ h.bY.lay.Wg).1;omega
    ·exact hc rfl
   rcases A with h1|⟨h1,h2⟩
   ·exact .inl aa
   ·exact .inr ⟨aa,.inr ⟨rfl,aa⟩⟩
 ·have tX:(i==0)=Ba:=by simp;omega
  rcases cZ i L.c0 with A|E'
  ·obtain⟨g2,B,hq⟩:=h.bY.old i E A;rw[hi] at B;cases B;cases Q:q i with
   |zero=>rw[Q] at hq;rw[hq.1] at T;cases T
   |succ m=>
    rw[Q] at hq;rcases hq with⟨hf,_⟩|⟨_,g',es,hm,Bv,hq'⟩
    ·rw[hf] at T;cases T
    have y:=akn (P:=P.two) (sl:=o) (i:=i) hi yD;have AC:=hc.SV (g:=g) (g':=g') (fn:=g.frame.fn) (pos:=g.frame.place) E A hm hq';obtain⟨tag',X,v,UX,b,_⟩:=I.wokenBy z' t8 (w':=w.at d) (RM.refl _ _ _) g g'
    have agh:sumTo L.c0 (TO q i m)+(m+1)=sumTo L.c0 q+m:=by have:=sumTo_upd q m id A;simpa[Q] using this
    refine .inr ⟨_,w.at d,o,_,D,TO q i m,d0,tag',X,woken P.two g g' (w.at d) a,st,sm,by rw[H];exact y,⟨by rw[akL _ _ _ _ aa,h.a0];rfl,AC,v,li,h.mode.retag b,λe=>?_⟩,?_⟩
    ·have e2:tag=.ret:=by
      rcases b with h1|⟨_,h1⟩
      ·rw[<-h1];exact e
      ·rw[h1] at e;cases e
     exact(h.acq e2).app λk r _ hr=>zi hr g_of_ofEvents aa
    ·exact⟨.inr ⟨by rw[phi_retag j _ b],.inr ⟨rfl,aa⟩⟩,RS.at w d⟩
  ·obtain⟨k,hk,rfl⟩:∃k,k<j/\i=L.c0+k:=⟨i-L.c0,by have:=(bU.1 hi).1;omega,aa⟩;obtain⟨g2,B,hs⟩:=hc.wk k hk;rw[hi] at B;cases B
   have UY:qD P S L J j D M gs (w.at d) t q d0 k g tag:=by
    by_cases h6:(D k).stage<=6
    ·exact PM hc li h.mode h.acq aa hk hs h6 T
    ·exact KF
   obtain⟨g',w',es,d',s,u,N,AC,f,l,z,R,Bd,_⟩:=UY;have y:=akn (P:=P.two) (sl:=o) (i:=L.c0+k) hi (by rw[tX];exact N);obtain⟨tag',X,v,UX,b,hwk⟩:=I.wokenBy z' t8 (w':=w') (λ_=>⟨s,u,f⟩) g g';refine .inr ⟨_,w',o,_,TO D k d',q,d0,tag',X,woken P.two g g' w' a,s,u,by rw[H];exact y,⟨by rw[akL _ _ _ _ aa,h.a0];rfl,AC,v,f,l tag' b hwk,λe=>?_⟩,X8 hk R q b UX,Bd.size,λc hc=>?_,λ_=>⟨s,u,f⟩,λ_=>AC.pay⟩
   rotate_left
   ·exact KG
   have e2:tag=.ret:=by
    rcases b with h1|⟨_,h1⟩
    ·rw[<-h1];exact e
    ·rw[h1] at e;cases e
   exact z e2
end
end
section
variable[ah]
open Go.Conc
open Go.ConcN (CTag Vc pend phi sumTo)
open Go.ConcR (Payload)
open Wg (RM DM iV)
omit [ah] in
def FG{P:OF}{y x:BE×rl}(h:fK P y x)(b:Acc (Nx P) x):Acc (Nx P) y:=by
 rcases h with rfl|h
 ·exact b
 ·induction h with|one h=>exact b.inv h|more h _ c=>exact(c b).inv h
omit [ah] in
def CW.pend{P:OF}{ty:SL}{Wg:Nat}{g0 Nx:BE->rl->Prop}{tag:CTag}{f d:Nat}{a:BE}{w:rl}(h:CW P ty Wg g0 Nx tag f d a w):Go.ConcN.pend tag=0:=by cases h<;>rfl
section
variable{P:OF}[Payload]{S:cO}{L:cB}{J:dB}{j:Nat}{M:Nat->Prop}{g0 Nx:BE->rl->Prop}
def fD.path{d:WS}{g:BE}{w:rl}(h:fD P S L J k d g w):fK P d.x (J.start k):=by cases h with|pre _ _ _ _ c=>exact .inl c|run _ _ _ b=>exact b|post _ _ _ b=>exact b.1|fL _ _ e=>exact e.1
def aby(hB:dz P)(hC:ef P)(hz:cN P)(hG:S.K.G=P.globals.size)(hF:dX P S.K)(Z:∀c c',¬ah.dL c c')(hJ:j8 P S J n)(IU:j<=n)(hj:j<2147483647)
  (z':∀g w,g0 g w->g.status=.running)(t8:∀g w,Nx g w->g.status=.running)(xF:∀g(w:rl) d,Nx g (w.at d)->Nx g w)
  (hA:∀g w,g0 g w->∃m,ajg P.two AT (RM J.ty L.Wg) (DM L.Wg) (iV P.two J.ty L.Wg g0 Nx) m g w):
  ∀(s:Nat)(xs:List (BE×rl)),Acc (LR (aM.Nx P)) xs->∀(F:Nat)(D:Nat->WS)(gs:Array BE)(w:rl)(sl:Option (Nat×Nat))(t:aiX)(q:Nat->Nat)(d0:Nat)(tag:CTag)(f0:Nat)(a:BE)(st sm:Int),
   eR P S L J j M g0 Nx D gs w t q d0 tag f0 a st sm->phi j (Vc j (wd D)) tag+sS j D=s->runs j D=xs->f0+2*sF j D+2*sumTo L.c0 q=F->
   ∃N u w' z t' V W A B a' E H,runNT P.two N (crowd gs w sl) t=(.next (crowd u w' z),t')/\eR P S L J j M g0 Nx V u w' t' W A .ret B a' E H/\Nx a' w'/\mo S L J M w w':=by
 intro s
 induction s using akm with
 |_ s ihs=>
 intro xs Fr
 induction Fr with
 |intro xs qN ihx=>
 intro F
 induction F using akm with
 |_ F ihF=>
 intro D gs w sl t q d0 tag f0 a st sm h e1 e2 e3;rcases abx (sl:=sl) hB hC hz hG hF Z hJ IU hj z' t8 xF hA h.cw.pend h with⟨rfl,X⟩|⟨u,w',z,ops,V,W,A,I,B,a',E,H,ii,h',hd,hR⟩
 ·exact⟨0,gs,w,sl,t,D,q,d0,f0,a,st,sm,rfl,h,X,.refl w⟩
 ·have fin:(∃N b e f v Q R i l y o r,runNT P.two N (crowd u w' z) (t++ops)=(.next (crowd b e f),v)/\eR P S L J j M g0 Nx Q b e v R i .ret l y o r/\Nx y e/\mo S L J M w' e)->
    ∃N b e f v Q R i l y o r,runNT P.two N (crowd gs w sl) t=(.next (crowd b e f),v)/\eR P S L J j M g0 Nx Q b e v R i .ret l y o r/\Nx y e/\mo S L J M w e:=by
   rintro⟨N,b,e,f,v,Q,R,i,l,y,o,r,y1,y2,y3,y4⟩;exact⟨N+1,b,e,f,v,Q,R,i,l,y,o,r,by simp only[runNT,ii];exact y1,y2,y3,hR.trans y4⟩
  apply fin
  have T:=vX _ λx hx=>by exact Mk
  rcases hd with h1|⟨h1,X|⟨X,h3⟩⟩
  ·exact ihs _ aa _ T _ V u w' z _ W A I B a' E H h' rfl rfl rfl
  ·exact ihx _ (by rw[<-e2];exact X) _ V u w' z _ W A I B a' E H h' aa rfl rfl
  ·exact ihF _ aa V u w' z _ W A I B a' E H h' aa (X.trans e2) rfl
end
end
section
variable[ah]
open Go.Conc
open Go.ConcN (upd upd_same upd_ne WgLive PayAt CTag WD cnt Vc Vc_le OpenSt pend sumTo sumTo_upd get_map_set get_map_set_same deafBehind_idle Ok0)
open Go.ConcR (KK WgAt stA smA rd wr mk Payload g_of_ofEvents)
open Wg (RM DM)
def grow(M:Nat->Prop)(w w':rl)(c:Nat):Prop:=M c\/(w.heap.size<=c/\c<w'.heap.size)
structure G5(M F:Nat->Prop)(C Wg:Nat)(w w':rl)(es:Array aiK):Prop where
 size:w.heap.size<=w'.heap.size
 bK:∀c,c<w.heap.size->¬F c->w'.heap[c]?=w.heap[c]?
 io:iZ w w'
 ev:∀e∈es,e.sync=Ba/\∃c,bQ c e.loc/\(grow F w w' c\/(e.write=Ba/\M c/\c≠C/\c≠Wg))
section
variable(P2:OF)[Payload](N1:Nat)(ty:SL)(Wg C n:Nat)(Child:Nat->(Nat->Prop)->BE->rl->Prop)(Fin:Nat->(Nat->Prop)->BE->rl->Prop)
inductive bu:Nat->Bool->Nat->(Nat->Prop)->(Nat->Prop)->BE->rl->Prop
 |fin {j:Nat} {M F:Nat->Prop} {g:BE} {w:rl}:(∀w₁,RS N1 M ty Wg C n w w₁->Fin j M g w₁)->bu j Ba 0 M F g w
 |own {j d:Nat} {p:Bool} {M F:Nat->Prop} {g:BE} {w:rl}:g.status=.running->(∀w₁,RS N1 M ty Wg C n w w₁->∃g' w' es,aiq P2 AT g w₁=.go g' w' es/\G5 M F C Wg w₁ w' es)->
   (∀w₁ g' w' es,RS N1 M ty Wg C n w w₁->aiq P2 AT g w₁=.go g' w' es->bu j p d (grow M w₁ w') (grow F w₁ w') g' w')->bu j p d M F g w
 |fL {j d:Nat} {p:Bool} {M F:Nat->Prop} {g:BE} {w:rl}:g.status=.running->(∀w₁,RS N1 M ty Wg C n w w₁->∃g' es,aiq P2 AT g w₁=.go g' w₁ es/\DM Wg w₁ w₁ es)->
   (∀w₁ g' w' es,RS N1 M ty Wg C n w w₁->aiq P2 AT g w₁=.go g' w' es->bu j p d M F g' w')->bu j p d M F g w
 |kd {j:Nat} {p:Bool} {M F:Nat->Prop} {g:BE} {w:rl}:g.status=.running->(∀w₁,RS N1 M ty Wg C n w w₁->∃g',aiq P2 AT g w₁=.go g' w₁ #[mk .disable])->
   (∀w₁ g' w' es,RS N1 M ty Wg C n w w₁->aiq P2 AT g w₁=.go g' w' es->bu j p 1 M F g' w')->bu j p 0 M F g w
 |ke {j:Nat} {p:Bool} {M F:Nat->Prop} {g:BE} {w:rl}:g.status=.running->(∀w₁,RS N1 M ty Wg C n w w₁->∃g',aiq P2 AT g w₁=.go g' w₁ #[mk .enable])->
   (∀w₁ g' w' es,RS N1 M ty Wg C n w w₁->aiq P2 AT g w₁=.go g' w' es->bu j p 0 M F g' w')->bu j p 1 M F g w
 |add {j d:Nat} {M F:Nat->Prop} {g:BE} {w:rl}:g.status=.running->(∀w₁,RS N1 M ty Wg C n w w₁->∀v:Nat,v<2147483647->WgAt ty Wg w₁ (v*KK) 0->∃g',aiq P2 AT g w₁=.go g' (w₁.setCell (stA Wg) (.int .u64 ((v+1)*KK))) #[rd (stA Wg),wr (stA Wg)])->
   (∀w₁ g' w' es(v:Nat),RS N1 M ty Wg C n w w₁->v<2147483647->WgAt ty Wg w₁ (v*KK) 0->aiq P2 AT g w₁=.go g' w' es->bu j AT d M F g' w')->bu j Ba d M F g w
 |go {j:Nat} {M F:Nat->Prop} {g:BE} {w:rl}:j<n->g.status=.running->(∀w₁,RS N1 M ty Wg C n w w₁->PayAt C n w₁->∃g' child,aiq P2 AT g w₁=.spawn g' child w₁ #[]/\Child j M child w₁)->
   (∀w₁ g' child w' es,RS N1 M ty Wg C n w w₁->aiq P2 AT g w₁=.spawn g' child w' es->bu (j+1) Ba 0 M (λ_=>False) g' w')->bu j AT 0 M F g w
end
section
variable{P2:OF}[Payload]{N1:Nat}{ty:SL}{Wg C n:Nat}{Child:Nat->(Nat->Prop)->BE->rl->Prop}{Fin:Nat->(Nat->Prop)->BE->rl->Prop}
 {j d:Nat}{p:Bool}{M F:Nat->Prop}{g:BE}{w w₁:rl}
omit [ah] in
def RS.rm(h:RS N1 M ty Wg C n w w₁):RM ty Wg w w₁:=h.live
omit [ah] in
def bu.AF{Stop:BE->rl->Prop}:∀(m:Nat)(g:BE)(w:rl),ajg P2 AT (RM ty Wg) (DM Wg) Stop m g w->WgLive ty Wg w->
  (∀g b,RS N1 M ty Wg C n w b->(∀w₁,RS N1 M ty Wg C n b w₁->Stop g w₁)->WgLive ty Wg b->bu P2 N1 ty Wg C n Child Fin j p d M F g b)->bu P2 N1 ty Wg C n Child Fin j p d M F g w:=by
 intro m
 induction m with
 |zero=>exactλg w h e k=>k g w (.refl w) (λw₁ h₁=>h w₁ h₁.rm) e
 |succ m l=>
  intro g w h e k;rcases h with h|⟨o,h⟩
  ·exact k g w (.refl w) (λw₁ h₁=>h w₁ h₁.rm) e
  ·refine .fL o (λw₁ h₁=>?_) (λw₁ g' w' es h₁ f=>?_)
   ·have c:=h w₁ h₁.rm;cases f:aiq P2 AT g w₁ with
    |go g' w' es=>rw[f] at c;obtain⟨⟨rfl,i⟩,_⟩:=c;exact⟨g',es,rfl,rfl,i⟩
    |_=>rw[f] at c;exact c.elim
   ·have c:=h w₁ h₁.rm;rw[f] at c;obtain⟨⟨rfl,_⟩,i⟩:=c;exact l g' w' i (h₁.live e) λg b r=>k g b (h₁.trans r)
end
end
section
variable[ah]
open Go.Conc
open Go.ConcN (upd upd_same upd_ne WgLive PayAt CTag WD cnt Vc Vc_le OpenSt pend sumTo sumTo_upd sumTo_upd_out get_map_set get_map_set_same deafBehind_idle Ok0)
open Go.ConcR (KK WgAt stA smA rd wr mk Payload g_of_ofEvents)
open Wg (RM DM)
def fU:Bool->CTag
 |false=>.sp 0 5
 |true=>.sp 0 3
omit [ah] in
def sE(p:Bool):Go.ConcN.isOpen (fU p):=by cases p<;>trivial
omit [ah] in
def ZY(p:Bool):pend (fU p)=if p then 1 else 0:=by cases p<;>rfl
omit [ah] in
def abz(p:Bool):fU p≠.blk:=by cases p<;>simp[fU]
omit [ah] in
def abA(p:Bool):fU p≠.ret:=by cases p<;>simp[fU]
section
variable(P:OF)[Payload](S:cO)(L:cB)(J:dB)
def Child(k:Nat)(M:Nat->Prop)(g:BE)(w:rl):Prop:=
 ∃(X:Nat->Prop)(m:Nat),(∀c,X c->M c/\c≠L.C/\c≠L.Wg)/\ajg P.two Ba (RP S.h1.size X J.ty L.Wg L.C J.n L.off k) (GP S.h1.size L.Sh X L.C J.n L.off k) (Rz P S L J X k) m g w
structure iD(j:Nat)(p:Bool)(d:Nat)(M F:Nat->Prop)(D:Nat->WS)(gs:Array BE)(w:rl)(t:aiX)(q:Nat->Nat)(a:BE)(st sm:Int):Prop where
 a0:gs[0]?=an a
 bY:Com P S L J j D M gs w t q d
 wg:WgAt J.ty L.Wg w st sm
 mode:aiH j (wd D) (fU p) st sm
 fm:∀c,F c->M c/\c≠L.C/\c≠L.Wg/\∀k,k<j->¬(D k).X c
def Gu(j:Nat)(b D:Nat->WS)(c q:Nat->Nat):Prop:=
 sS j b<sS j D\/(sS j b=sS j D/\(LR (aM.Nx P) (runs j b) (runs j D)\/(runs j b=runs j D/\sF j b+sumTo L.c0 c<sF j D+sumTo L.c0 q)))
end
section
variable{P:OF}[Payload]{S:cO}{L:cB}{J:dB}{j d:Nat}{p:Bool}{M F:Nat->Prop}{D:Nat->WS}{gs:Array BE}{w:rl}{sl:Option (Nat×Nat)}{t:aiX}{q:Nat->Nat}{a:BE}{st sm:Int}
def Xv(f:k<j){b:WS}(h:G0 P b (D k))(q:Nat->Nat):Gu P L j (TO D k b) D q q:=by
 have i:=sumTo_upd D b (λd=>d.stage+d.e) f;have l:=sumTo_upd D b (λd=>d.fuel) f;have m:sS j (TO D k b)+((D k).stage+(D k).e)=sS j D+(b.stage+b.e):=i;have o:sF j (TO D k b)+(D k).fuel=sF j D+b.fuel:=l;unfold Gu;rcases h with⟨h1,_,c,_⟩|⟨h1,r|⟨r,c⟩⟩
 ·omega
 ·omega
 ·right
  refine⟨aa,?_⟩;rcases c with c|⟨c,s⟩
  ·exact .inl ⟨k,(D k).x,b.x,by simp[runs,f],c,Fi f⟩
  ·exact .inr ⟨OE f c,aa⟩
def iD.awake(h:iD P S L J j p d M F D gs w t q a st sm)(hr:a.status=.running):∀g∈gs,awake g:=by
 intro g b;obtain⟨i,hi,rfl⟩:=zp.1 b;have xE:=eO hi;have hc:=h.bY.size;rcases iI i with rfl|tD
 ·have:gs[0]=a:=by have:=h.a0;rw[xE] at this;exact aH this
  rw[this];exact awake_of (.inl hr)
 ·exact KE
def ZZ(hB:dz P)(hC:ef P)(hz:cN P)(hG:S.K.G=P.globals.size)(hF:dX P S.K)(ws:∀c c',¬ah.dL c c')(hJ:j8 P S J n)(IU:j<=n)(hj:j<2147483647)(hr:a.status=.running)
  (h:iD P S L J j p d M F D gs w t q a st sm):
  (∃e b,stepT P.two (crowd gs w sl)=runT P.two (crowd gs (w.at e) b) 0)\/
   ∃E w' b ops Z q' o r,stepT P.two (crowd gs w sl)=(.next (crowd E w' b),ops)/\iD P S L J j p d M F Z E w' (t++ops) q' a o r/\mo S L J M w w'/\Gu P L j Z D q' q:=by
 obtain⟨i,g,e,b,hi,H,y⟩:=crowd_pick (P:=P.two) (w:=w) (sl:=sl) (h.awake hr) ⟨0,a,h.a0,hr⟩;have hc:=h.bY.at e;have li:=h.wg;have dg:=h.bY.size;have I:∀g g' w',woken P.two g g' w' a=a:=λg g' w'=>by unfold woken;split<;>first|exact Go.Conc.again_running _ (.inl hr)|rfl
 rcases iI i with rfl|u
 ·exact .inl ⟨e,b,y⟩
 ·have N:(i==0)=Ba:=by simp;omega
  rcases cZ i L.c0 with z|E'
  ·obtain⟨g2,f,hq⟩:=h.bY.old i u z;rw[hi] at f;cases f;cases A:q i with
   |zero=>rw[A] at hq;rw[hq.1] at H;cases H
   |succ m=>
    rw[A] at hq;rcases hq with⟨hf,_⟩|⟨_,g',es,hm,Q,T⟩
    ·rw[hf] at H;cases H
    have l:=akn (P:=P.two) (sl:=b) (i:=i) hi (by rw[N];exact Q (w.at e));have AC:=hc.SV (g:=g) (g':=g') (fn:=g.frame.fn) (pos:=g.frame.place) u z hm T
    have agh:sumTo L.c0 (TO q i m)+(m+1)=sumTo L.c0 q+m:=by have:=sumTo_upd q m id z;simpa[A] using this
    exact .inr ⟨_,w.at e,b,_,D,TO q i m,st,sm,by rw[y];exact l,⟨by rw[akL _ _ _ _ aa,h.a0,ajc,I],AC,li,h.mode,h.fm⟩,RS.at w e,.inr ⟨rfl,.inr ⟨rfl,aa⟩⟩⟩
  ·obtain⟨k,hk,rfl⟩:∃k,k<j/\i=L.c0+k:=⟨i-L.c0,by have:=(bU.1 hi).1;omega,aa⟩;obtain⟨g2,f,hs⟩:=hc.wk k hk;rw[hi] at f;cases f;have hpe:pend (fU p)<=1:=by rw[ZY];split<;>omega
   have V:qD P S L J j D M gs (w.at e) t q d k g (fU p):=by
    by_cases h6:(D k).stage<=6
    ·exact PM hc li h.mode (λx=>absurd x (abA p)) aa hk hs h6 H
    ·exact KF
   obtain⟨g',w',es,d',o,r,W,AC,v,s,_,B,Bd,hX⟩:=V;have l:=akn (P:=P.two) (sl:=b) (i:=L.c0+k) hi (by rw[N];exact W);refine .inr ⟨_,w',b,_,TO D k d',q,o,r,by rw[y];exact l,⟨by rw[akL _ _ _ _ aa,h.a0,ajc,I],AC,v,s _ (.inl rfl) λ_ _=>abz p,λc hc=>?_⟩,⟨Bd.size,λc hc=>?_,λ_=>⟨o,r,v⟩,λ_=>AC.pay⟩,Xv hk B q⟩
   ·obtain⟨h1,h2,h3,h4⟩:=h.fm c hc;refine⟨h1,h2,h3,λX R=>?_⟩;by_cases ek:X=k
    ·subst ek;rw[aix];exactλx=>h4 X R (by rw[<-hX];exact x)
    ·rw[upd_ne _ _ ek];exact h4 X R
   ·exact KG
end
end
section
variable[ah]
open Go.Conc
open Go.ConcN (upd upd_same upd_ne WgLive PayAt CTag WD cnt Vc Vc_le OpenSt pend sumTo sumTo_upd sumTo_upd_out get_map_set get_map_set_same deafBehind_idle Ok0)
open Go.ConcR (KK WgAt stA smA rd wr mk Payload g_of_ofEvents)
open Wg (RM DM)
section
variable(P:OF)[Payload](S:cO)(L:cB)(J:dB)(Fin:Nat->(Nat->Prop)->BE->rl->Prop)
def Goal(m:Machine)(t:aiX):Prop:=
 ∃N gs w sl b j M F D q a st sm,runNT P.two N m t=(.next (crowd gs w sl),b)/\iD P S L J j Ba 0 M F D gs w b q a st sm/\Fin j M a w/\j<=J.n
def lT(r:Stepped×Array MemOp)(t:aiX):Prop:=∃m ops,r=(.next m,ops)/\Goal P S L J Fin m (t++ops)
end
section
variable{P:OF}[Payload]{S:cO}{L:cB}{J:dB}{Fin:Nat->(Nat->Prop)->BE->rl->Prop}{j d:Nat}{p:Bool}{M F:Nat->Prop}{D:Nat->WS}{gs:Array BE}{w w':rl}{sl:Option (Nat×Nat)}{t:aiX}{q:Nat->Nat}{a a':BE}{st sm:Int}
def lT.step{m:Machine}(h:lT P S L J Fin (stepT P.two m) t):Goal P S L J Fin m t:=by obtain⟨f,ops,h1,N,gs,w,sl,b,j,M,F,D,q,a,st,sm,c,e⟩:=h;exact⟨N+1,gs,w,sl,b,j,M,F,D,q,a,st,sm,by simp only[runNT,h1];exact c,e⟩
def others(W:dz P)(X:ef P)(Z:cN P)(hG:S.K.G=P.globals.size)(hF:dX P S.K)(y:∀c c',¬ah.dL c c')(hJ:j8 P S J n)(z:j<=n)(hj:j<2147483647)(hr:a.status=.running)
  (f:∀D gs w₁ sl t q st sm,mo S L J M w w₁->iD P S L J j p d M F D gs w₁ t q a st sm->lT P S L J Fin (runT P.two (crowd gs w₁ sl) 0) t):
  ∀(s:Nat)(xs:List (BE×rl)),Acc (LR (aM.Nx P)) xs->∀(A:Nat)(D:Nat->WS)(gs:Array BE)(w₁:rl)(sl:Option (Nat×Nat))(t:aiX)(q:Nat->Nat)(st sm:Int),
   mo S L J M w w₁->iD P S L J j p d M F D gs w₁ t q a st sm->sS j D=s->runs j D=xs->sF j D+sumTo L.c0 q=A->Goal P S L J Fin (crowd gs w₁ sl) t:=by
 intro s
 induction s using akm with
 |_ s B=>
 intro xs E
 induction E with
 |intro xs T H=>
 intro A
 induction A using akm with
 |_ A I=>
 intro D gs w₁ sl t q st sm v h e1 V e3;apply lT.step;rcases ZZ (sl:=sl) W X Z hG hF y hJ z hj hr h with⟨e,b,i⟩|⟨l,w',b,ops,N,Q,m,o,i,h',r,hd⟩
 ·rw[i];exact f D gs _ b t q st sm (v.trans (RS.at w₁ e)) ⟨h.a0,h.bY.at e,h.wg,h.mode,h.fm⟩
 ·refine⟨_,ops,i,?_⟩
  have u:=vX _ λx hx=>by exact Mk
  rcases hd with h1|⟨h1,R|⟨R,h3⟩⟩
  ·exact B _ aa _ u _ N l w' b _ Q m o (v.trans r) h' rfl rfl rfl
  ·exact H _ (by rw[<-V];exact R) _ N l w' b _ Q m o (v.trans r) h' aa rfl rfl
  ·exact I _ aa N l w' b _ Q m o (v.trans r) h' aa (R.trans V) rfl
def iD.own(h:iD P S L J j p d M F D gs w t q a st sm){fn:FuncId}{pos:String}{es:Array aiK}(v:G5 M F L.C L.Wg w w' es):
  iD P S L J j p d (grow M w w') (grow F w w') D ((gs.map (woken P.two a a' w')).setIfInBounds 0 a') w' (t++aft 0 fn pos es) q a' st sm:=by
 have f:=λc=>h.bY.mem.mlt c;have I:=h.bY.lay.Wg;have hC:=h.bY.lay.C
 have i:∀e∈es,e.loc.isMemory=AT:=λe he=>by obtain⟨_,c,h1,_⟩:=v.ev e he;exact h1.mem
 have qN:∀e∈es,MemAct.ofEvent e=.access e:=λe he=>MY (v.ev e he).1 (i e he)
 have l:∀e∈es,∀x,(MemAct.ofEvent e).touch?=an x->x=⟨e.loc,e.write,.plain⟩:=λe he x o=>by rw[qN e he] at o;simp only[MemAct.touch?,Option.some.injEq] at o;rw[<-o];simp[(v.ev e he).1]
 have y:∀e∈es,∀m,e.loc≠.mark m:=λe he m hm=>by have:=i e he;rw[hm] at this;cases this
 have b:=v.bK;have nF:∀c,c<S.h1.size->¬F c:=λc hc x=>by have:=(f c (h.fm c x).1).1;omega
 have A:=f _ I;have B:=f _ hC
 have rp:∀k,k<j->RP S.h1.size (D k).X J.ty L.Wg L.C J.n L.off k w w':=λk s=>.EG λc hc=>by
  rcases hc with hc|hc|rfl|rfl
  ·exact b c (cC hc h.bY.mem.size) (nF c hc)
  ·exact b c (f c (h.bY.lay.x k c hc).1).2 λx=>(h.fm c x).2.2.2 k s hc
  ·exact b _ A.2 λx=>(h.fm _ x).2.2.1 rfl
  ·exact b _ B.2 λx=>(h.fm _ x).2.1 rfl
 have K:=b _ A.2 λx=>(h.fm _ x).2.2.1 rfl;have eC:=b _ B.2 λx=>(h.fm _ x).2.1 rfl;have hgm:∀c,grow F w w' c->grow M w w' c:=λc hc=>hc.imp_left λx=>(h.fm c x).1
 have z:∀e∈es,∃c,bQ c e.loc/\S.h1.size<=c/\c<w'.heap.size/\c≠L.C/\c≠L.Wg/\(∀k,k<j->¬aK S (fT D) k c)/\(e.write=AT->∀k,k<j->¬(D k).X c):=λe he=>by
  obtain⟨_,c,h1,r⟩:=v.ev e he
  have E:M c->c≠L.C->c≠L.Wg->(e.write=AT->∀k,k<j->¬(D k).X c)->∃c,bQ c e.loc/\S.h1.size<=c/\c<w'.heap.size/\c≠L.C/\c≠L.Wg/\(∀k,k<j->¬aK S (fT D) k c)/\(e.write=AT->∀k,k<j->¬(D k).X c):=λhm hc hw o=>⟨c,h1,(f c hm).1,cC (f c hm).2 v.size,hc,hw,λk s x=>h.bY.mem.main k s c x hm,o⟩
  rcases r with(r|⟨r,h3⟩)|⟨r,h3,H,N⟩
  ·have:=h.fm c r;exact E this.1 this.2.1 this.2.2.1 λ_=>this.2.2.2
  ·have:=h.bY.mem.size;refine⟨c,h1,aa,h3,aa,aa,λk s x=>?_,λ_ k s x=>?_⟩
   ·have:=(h.bY.mem.lJ s x).2;omega
   ·have:=(f c (h.bY.lay.x k c x).1).2;omega
  ·exact E h3 H N λx=>by rw[r] at x;cases x
 have Q:∀e∈es,¬L.Sh e.loc:=λe he x=>by
  obtain⟨c,h1,r,_,H,N,_⟩:=z e he;rcases x with x|⟨a,R,hb⟩
  ·obtain⟨a,R,hb⟩:=h.bY.lay.sh _ x;have:=bQ.inj h1 (.inl ⟨a,R,rfl⟩);omega
  ·have:=bQ.inj h1 (.inl ⟨a,R,rfl⟩);omega
 have hc:=h.bY.step0 (a:=a) (a':=a') (fn:=fn) (pos:=pos) (M':=grow M w w') v.size (λc hc hn=>b c hc λx=>hn (h.fm c x).1) (λ_ x=>.inl x) (λ_ x=>x) rp (by obtain⟨cs,h1,r⟩:=h.bY.pay;exact⟨cs,eC.trans h1,r⟩)
  (es:=es) (λop T=>?_) (λe he x o _=>by rw[l e he x o]) (λe he=>?_) (λe he=>y e he _) v.io
 ·rw[deafBehind_idle λe he=>⟨y e he _,y e he _⟩] at hc;refine⟨get_map_set_same _ _ _ (by rw[h.bY.size];have:=h.bY.lay.c0;omega),hc,h.wg.of_block K,h.mode,λc o=>?_⟩;rcases o with o|⟨h1,r⟩
  ·have:=h.fm c o;exact⟨.inl this.1,this.2⟩
  ·exact⟨.inr ⟨h1,r⟩,aa,aa,λk s x=>by have:=(f c (h.bY.lay.x k c x).1).2;omega⟩
 ·obtain⟨e,he,rfl⟩:=jT T;refine⟨rfl,λx o=>.inr ?_⟩;rw[l e he x o];obtain⟨c,h1,r,h3,H,N,Z,h7⟩:=z e he;refine⟨Q e he,λg _ _ G=>?_,λhw g _ _ V=>?_⟩
  ·obtain⟨k,s,_,u|⟨c',ho,u⟩⟩:=G
   ·have:=bQ.inj h1 (.inl ⟨_,u,rfl⟩);exact H this
   ·rw[bQ.inj h1 u] at Z;exact Z k s ho
  ·obtain⟨k,s,_,_,c',u,W⟩:=V;rw[<-bQ.inj h1 W] at u;rcases u with u|u
   ·omega
   ·exact h7 hw k s u
 ·obtain⟨c,h1,_,h3,_⟩:=z e he;exact KH
end
end
section
variable[ah]
open Go.Conc
open Go.ConcN (upd upd_same upd_ne WgLive PayAt CTag WD cnt Vc Vc_le OpenSt pend sumTo sumTo_upd sumTo_upd_out get_map_set get_map_set_same deafBehind_idle Ok0 bk_cell)
open Go.ConcR (KK WgAt stA smA rd wr mk Payload g_of_ofEvents)
open Wg (RM DM)
section
variable{P:OF}[Payload]{S:cO}{L:cB}{J:dB}{Fin:Nat->(Nat->Prop)->BE->rl->Prop}{j d:Nat}{p:Bool}{M F:Nat->Prop}{D:Nat->WS}{gs:Array BE}{w w':rl}{sl:Option (Nat×Nat)}{t:aiX}{q:Nat->Nat}{a a':BE}{st sm:Int}
def iD.fL(h:iD P S L J j p d M F D gs w t q a st sm){fn:FuncId}{pos:String}{es:Array aiK}{p':Bool}{b c:Int}(l:ajU L.Wg w w')(i:WgAt J.ty L.Wg w' b c)(m:∀e∈es,lS L e)(f:aiH j (wd D) (fU p') b c):
  iD P S L J j p' (aiJ d es) M F D ((gs.map (woken P.two a a' w')).setIfInBounds 0 a') w' (t++aft 0 fn pos es) q a' b c:=
 ⟨get_map_set_same _ _ _ (by rw[h.bY.size];have:=h.bY.lay.c0;omega),h.bY.wN l ⟨b,c,i⟩ m,i,f,h.fm⟩
def lT.go(h:iD P S L J j p d M F D gs w t q a st sm){es:Array aiK}(b:aiq P.two AT a w=.go a' w' es)
  (c:Goal P S L J Fin (crowd ((gs.map (woken P.two a a' w')).setIfInBounds 0 a') w' sl) (t++aft 0 a.frame.fn a.frame.place es)):lT P S L J Fin (runT P.two (crowd gs w sl) 0) t:=
 ⟨_,_,akn (P:=P.two) (sl:=sl) (i:=0) h.a0 b,c⟩
def Z0(T:dz P)(V:ef P)(W:cN P)(hG:S.K.G=P.globals.size)(hF:dX P S.K)(u:∀c Z,¬ah.dL c Z)(R:j8 P S J J.n)(hn:J.n<2147483647)(v:∀k,k<J.n->(J.start k).2.heap=S.h0)
  (z:bu P.two S.h1.size J.ty L.Wg L.C J.n (Child P S L J) Fin j p d M F a w):
  ∀(D:Nat->WS)(gs:Array BE)(w₁:rl)(sl:Option (Nat×Nat))(t:aiX)(q:Nat->Nat)(st sm:Int),mo S L J M w w₁->iD P S L J j p d M F D gs w₁ t q a st sm->j<=J.n->Goal P S L J Fin (crowd gs w₁ sl) t:=by
 have b:∀{j d:Nat}{p:Bool}{M F:Nat->Prop}{w:rl}{a:BE},a.status=.running->(∀D gs w₁ sl t q st sm,mo S L J M w w₁->iD P S L J j p d M F D gs w₁ t q a st sm->lT P S L J Fin (runT P.two (crowd gs w₁ sl) 0) t)->
   ∀(D:Nat->WS)(gs:Array BE)(w₁:rl)(sl:Option (Nat×Nat))(t:aiX)(q:Nat->Nat)(st sm:Int),mo S L J M w w₁->iD P S L J j p d M F D gs w₁ t q a st sm->j<=J.n->Goal P S L J Fin (crowd gs w₁ sl) t:=by
  intro j d p M F w a f o D gs w₁ sl t q st sm hR h hj;refine others T V W hG hF u R hj aa f o _ _ (vX _ λx hx=>?_) _ D gs w₁ sl t q st sm hR h rfl rfl rfl;obtain⟨k,A,rfl⟩:=oD.1 hx;have A:=fM.1 A;obtain⟨g,_,z⟩:=h.bY.wk k A;exact FG z.path (R.qO k aa).acc
 induction z with
 |@fin j M F g w r=>exactλD gs w₁ sl t q st sm hR h hj=>⟨0,gs,w₁,sl,t,j,M,F,D,q,g,st,sm,rfl,h,r w₁ hR,hj⟩
 |own f h1 _ ih=>intro D gs w₁ sl t q st sm hR h hj;refine b f (λD gs w₁ sl t q st sm hR h=>?_) D gs w₁ sl t q st sm hR h hj;obtain⟨g',w',es,hgo,B⟩:=h1 w₁ hR;exact lT.go h hgo (ih w₁ g' w' es hR hgo D _ w' sl _ q st sm (.refl w') (h.own B) hj)
 |@fL j d p M F g w f h1 _ ih=>intro D gs w₁ sl t q st sm hR h hj;refine b f (λD gs w₁ sl t q st sm hR h=>?_) D gs w₁ sl t q st sm hR h hj;obtain⟨g',es,hgo,B⟩:=h1 w₁ hR;obtain⟨_,h2,h3⟩:=RD B;have:=h.fL (a':=g') (fn:=g.frame.fn) (pos:=g.frame.place) (.refl L.Wg w₁) h.wg h2 h.mode;rw[h3] at this;exact lT.go h hgo (ih w₁ g' w₁ es hR hgo D _ w₁ sl _ q st sm (.refl w₁) this hj)
 |@kd j p M F g w f h1 _ ih=>intro D gs w₁ sl t q st sm hR h hj;refine b f (λD gs w₁ sl t q st sm hR h=>?_) D gs w₁ sl t q st sm hR h hj;obtain⟨g',hgo⟩:=h1 w₁ hR;have:=h.fL (a':=g') (fn:=g.frame.fn) (pos:=g.frame.place) (es:=#[mk .disable]) (.refl L.Wg w₁) h.wg (λe he=>by simp at he;subst he;exact qf (.inl rfl)) h.mode;exact KI
 |@ke j p M F g w f h1 _ ih=>intro D gs w₁ sl t q st sm hR h hj;refine b f (λD gs w₁ sl t q st sm hR h=>?_) D gs w₁ sl t q st sm hR h hj;obtain⟨g',hgo⟩:=h1 w₁ hR;have:=h.fL (a':=g') (fn:=g.frame.fn) (pos:=g.frame.place) (es:=#[mk .enable]) (.refl L.Wg w₁) h.wg (λe he=>by simp at he;subst he;exact qf (.inr (.inl rfl))) h.mode;exact KI
 |@add j d M F g w f h1 _ ih=>
  intro D gs w₁ sl t q st sm hR h hj;refine b f (λD gs w₁ sl t q st sm hR h=>?_) D gs w₁ sl t q st sm hR h hj;obtain⟨E,rfl,rfl,_⟩:=h.mode.open_inv (sE Ba);have hV:=Vc_le j (wd D);have hw:WgAt J.ty L.Wg w₁ ((Vc j (wd D):Nat)*KK) 0:=by have:=h.wg;simpa[fU,pend] using this
  obtain⟨g',hgo⟩:=h1 w₁ hR _ aa hw
  have:=h.fL (a':=g') (fn:=g.frame.fn) (pos:=g.frame.place) (es:=#[rd (stA L.Wg),wr (stA L.Wg)]) (p':=AT) (ajQ w₁ (stA L.Wg) _) (hw.setSt (((Vc j (wd D):Nat)+1)*KK)) (λe he=>by simp at he;rcases he with rfl|rfl<;>exact qf (bk_cell _ _ rfl))
   (by have:=Go.ConcN.Mode.opn (j:=j) (D:=wd D) (tag:=fU AT) (sE AT) E (by simp[fU]);simpa[fU,pend] using this)
  exact lT.go h hgo (ih w₁ g' _ _ _ hR aa hw hgo D _ _ sl _ q _ _ (.refl _) this hj)
 |@go j M F g w H f h1 _ ih=>
  intro D gs w₁ sl t q st sm hR h hj;refine b f (λD gs w₁ sl t q st sm hR h=>?_) D gs w₁ sl t q st sm hR h hj;obtain⟨g',child,hgo,X,m,hX,I⟩:=h1 w₁ hR h.bY.pay;have l:=runT_crowd_spawn (P:=P.two) (sl:=sl) (i:=0) h.a0 hgo;rw[h.bY.size] at l;refine⟨_,_,l,?_⟩;obtain⟨E,rfl,rfl,_⟩:=h.mode.open_inv (sE AT)
  have s:=h.bY.spawn (a':=g') (child:=child) (d:=⟨7,3,m,0,J.start j,S.φ,default,X⟩) (x:={g:=0,fn:=g.frame.fn,pos:=g.frame.place,act:=.go (L.c0+j)}) (y:={g:=L.c0+j,fn:=child.frame.fn,pos:=g.frame.place,act:=.start}) ⟨rfl,rfl⟩ ⟨rfl,rfl⟩
   ⟨rfl,rfl,rfl,v j H⟩ hX (.pre rfl rfl rfl rfl rfl I)
  have eV:Vc (j+1) (wd (TO D j ⟨7,3,m,0,J.start j,S.φ,default,X⟩))=Vc j (wd D)+1:=by rw[tp];simp only[Vc,sumTo,aix];rw[sumTo_upd_out (wd D) _ cnt (akf _)];rfl
  have N:OpenSt (j+1) (wd (TO D j ⟨7,3,m,0,J.start j,S.φ,default,X⟩)):=λi hi=>by
   rw[tp];by_cases e:i=j
   ·subst e;rw[aix];simp
   ·rw[upd_ne (wd D) _ e];exact E i aa
  have Q:((gs.setIfInBounds 0 g').push child)[0]?=an g':=by have:=h.bY.size;have:=h.bY.lay.c0;rw[Array.getElem?_push_lt av,<-Array.getElem?_eq_getElem];rw[Array.getElem?_setIfInBounds_self_of_lt aa]
  have e0:aft 0 g.frame.fn g.frame.place #[]=#[]:=rfl;rw[e0];refine ih w₁ g' child w₁ #[] hR hgo _ _ w₁ sl _ q _ _ (.refl w₁) ⟨Q,s,h.wg,?_,λc hc=>hc.elim⟩ aa;have:=Go.ConcN.Mode.opn (j:=j+1) (D:=wd (TO D j ⟨7,3,m,0,J.start j,S.φ,default,X⟩)) (tag:=fU Ba) (sE Ba) N (by simp[fU]);rw[eV] at this;simpa[fU,pend] using this
end
end
section
variable[ah]
open Go.Conc
open Go.ConcN (upd CTag Vc pend phi sumTo PayAt Has)
open Go.ConcR (Payload WgAt KK)
open Wg (RM DM mq iV)
section
variable(P:OF)[Payload](S:cO)(L:cB)(J:dB)(Post:(Nat->Prop)->BE->rl->Prop)
structure RI(j:Nat)(M:Nat->Prop)(a:BE)(w:rl):Prop where
 all:j=J.n
 wait:∃(g0 Nx:BE->rl->Prop)(m:Nat),(∀g w,g0 g w->g.status=.running)/\(∀g w,Nx g w->g.status=.running)/\(∀g(w:rl) d,Nx g (w.at d)->Nx g w)/\
  (∀g w,g0 g w->∃m,ajg P.two AT (RM J.ty L.Wg) (DM L.Wg) (iV P.two J.ty L.Wg g0 Nx) m g w)/\ajg P.two AT (RM J.ty L.Wg) (DM L.Wg) (mq P.two J.ty L.Wg g0) m a w/\∀g w₁,mo S L J M w w₁->Nx g w₁->Post M g w₁
end
section
variable{P:OF}[Payload]{S:cO}{L:cB}{J:dB}{Post:(Nat->Prop)->BE->rl->Prop}{M F:Nat->Prop}{D:Nat->WS}{gs:Array BE}{w:rl}{sl:Option (Nat×Nat)}{t:aiX}{q:Nat->Nat}{a:BE}
def Z1(hB:dz P)(hC:ef P)(hz:cN P)(hG:S.K.G=P.globals.size)(hF:dX P S.K)(y:∀c c',¬ah.dL c c')(Q:j8 P S J J.n)(hn:J.n<2147483647)
  (z:bu P.two S.h1.size J.ty L.Wg L.C J.n (Child P S L J) (RI P S L J Post) 0 Ba 0 M F a w)(A:Com P S L J 0 D M gs w t q 0)(ha:gs[0]?=an a)(R:WgAt J.ty L.Wg w 0 0)(r:∀c,F c->M c/\c≠L.C/\c≠L.Wg):
  ∃N l w' T V W M' a' q' X,runNT P.two N (crowd gs w sl) t=(.next (crowd l w' T),V)/\l[0]?=an a'/\Com P S L J J.n W M' l w' V q' 0/\Post M' a' w'/\a'.status=.running/\dS P.two L.Sh l w' V X/\
   ∀k,k<J.n->Bb P J k (W k)/\Has L.C (L.off+k) (J.pick (W k).val) w':=by
 have o:aiH 0 (wd D) (fU Ba) 0 0:=by have:=Go.ConcN.Mode.opn (j:=0) (D:=wd D) (tag:=fU Ba) (sE Ba) (λi hi=>absurd hi (gX i)) (by simp[fU]);simpa[fU,pend,Vc,sumTo] using this
 obtain⟨N,B,w1,Z,t1,j,M1,F1,D1,q1,a1,st,sm,E,H,⟨rfl,g0,Nx,m,z',t8,xF,hA,hgo,s⟩,hj⟩:=Z0 hB hC hz hG hF y Q hn Q.heap z D gs w sl t q 0 0 (.refl w)
  ⟨ha,A,R,o,λc hc=>⟨(r c hc).1,(r c hc).2.1,(r c hc).2.2,λk f=>absurd f (gX k)⟩⟩ (ez _)
 have hW:eR P S L J J.n M1 g0 Nx D1 B w1 t1 q1 0 .kd m a1 st sm:=⟨H.a0,H.bY,.kd hgo,H.wg,H.mode.reopen (sE Ba) trivial rfl (λvs e=>by cases e),au⟩
 obtain⟨N2,xG,w2,xH,t2,D2,q2,d2,f2,a2,st2,sm2,u,b,I,hR2⟩:=aby hB hC hz hG hF y Q (ay _) hn z' t8 xF hA _ _ (vX _ λx hx=>by obtain⟨k,f,rfl⟩:=oD.1 hx;have f:=fM.1 f;obtain⟨g,_,z⟩:=H.bY.wk k f;exact FG z.path (Q.qO k f).acc) _ D1 B w1 Z t1 q1 0 .kd m a1 st sm hW rfl rfl rfl
 have xx:d2=0:=by have h:=b.cw;cases h with|ret _=>rfl
 subst xx;obtain⟨hq,_,_⟩:=b.mode.fin_inv trivial;have v:∀k,k<J.n->(D2 k).stage=1:=hq;obtain⟨q3,fd⟩:=b.bY.frm (b.acq rfl) v;refine⟨N+N2,xG,w2,xH,t2,D2,M1,a2,q2,q3,?_,b.a0,b.bY,s a2 w2 hR2 I,t8 _ _ I,fd,λk f=>⟨?_,b.bY.has k f (by have:=v k f;omega)⟩⟩
 ·rw[runNT_add,E];exact u
 ·obtain⟨g,_,z⟩:=b.bY.wk k f;have h1:=v k f;cases z with|pre _ h7=>omega|run _ h7=>omega|post _ h7=>omega|fL _ _ h3 _=>exact h3
end
end
inductive kY(md:ajI)(ops:Array Oper):Array Bool->List Nat->Prop
 |nil {listed:Array Bool}:listed.size=ops.size->(∀i,i<ops.size->listed.getD i AT=AT)->kY md ops listed []
 |cons {listed:Array Bool} {i:Nat} {rest:List Nat}:listed.size=ops.size->i∈aib md ops listed->kY md ops (listed.setIfInBounds i AT) rest->kY md ops listed (i::rest)
def mV(ops:Array Oper)(listed:Array Bool):List Nat:=(aij ops.size).filter λi=>!listed.getD i AT
def RJ{listed:Array Bool}{i:Nat}(b:listed.size=ops.size)(hi:i<ops.size)(h:listed.getD i AT=Ba):(mV ops (listed.setIfInBounds i AT)).length<(mV ops listed).length:=by
 have e:mV ops (listed.setIfInBounds i AT)=(mV ops listed).filter (λj=>!(j==i)):=by
  unfold mV;rw[List.filter_filter];apply List.filter_congr;intro j c;by_cases e:i=j
  ·simp_all
  ·rw[getD_set_ne AT e];simp[Ne.symm e]
 rw[e];rw[List.length_filter_lt_length_iff_exists];exact⟨i,List.mem_filter.2 ⟨fM.2 hi,by rw[h];rfl⟩,au⟩
def adb{b:ajI}(l:∀(i:Nat) o,ops[i]?=an o->∀e∈o.after,ajA b e=AT->e.on<i):∀(fuel t:Nat)(listed:Array Bool),listed.size=ops.size->(mV ops listed).length<=fuel->kY b ops listed (Region.linearise.go b ops fuel t listed []):=by
 have full:∀listed:Array Bool,listed.size=ops.size->aib b ops listed=[]->∀i,i<ops.size->listed.getD i AT=AT:=by
  intro listed f r i
  induction i using akm with
  |_ i s=>
   intro hi;cases h:listed.getD i AT with
   |true=>rfl
   |false=>
    have:i∈aib b ops listed:=mem_ready.2 ⟨h,ops[i],eO hi,λe he u=>by have c:=l i _ (eO hi) e he u;have:=s e.on c aa;have v:e.on<listed.size:=aa;simp[v] at this⊢;exact this⟩
    rw[r] at this;cases this
 intro fuel
 induction fuel with
 |zero=>
  intro t listed f hu;have h0:mV ops listed=[]:=DH aa;refine .nil f λi hi=>?_;cases h:listed.getD i AT with
  |true=>rfl
  |false=>have:i∈mV ops listed:=List.mem_filter.2 ⟨fM.2 hi,by rw[h];rfl⟩;rw[h0] at this;cases this
 |succ fuel s=>
  intro t listed f hu
  change kY b ops listed (match(aib b ops listed)[t%(aib b ops listed).length]? with
   |some i=>Region.linearise.go b ops fuel (t/(aib b ops listed).length) (listed.setIfInBounds i AT) [i]
   |none=>[].reverse)
  cases hi:(aib b ops listed)[t%(aib b ops listed).length]? with
  |none=>
   have m:aib b ops listed=[]:=by
    cases r:aib b ops listed with
    |nil=>rfl
    |cons x xs=>rw[r] at hi;have c:t%(x::xs).length<(x::xs).length:=Nat.mod_lt _ au;simp at hi;simp at c;omega
   exact .nil f (full listed f m)
  |some i=>simp only[];rw[linearise_go_acc,List.reverse_singleton,List.singleton_append];have hm:=zq hi;obtain⟨h0,o,y,_⟩:=mem_ready.1 hm;have c:=(bU.1 y).1;refine .cons f hm (s _ _ (by simp[f]) ?_);have:=RJ f c h0;omega
def LX{c:ajI}(b:∀(i:Nat) o,ops[i]?=an o->∀e∈o.after,ajA c e=AT->e.on<i){t:Nat}:kY c ops (aif ops.size Ba) (Region.linearise c ops t):=by refine adb b _ _ _ au ?_;exact aQ (List.length_filter_le _ _) au
def abB{b:ajI}:∀{rest:List Nat}{listed:Array Bool},kY b ops listed rest->rest.length<=(mV ops listed).length:=by
 intro rest
 induction rest with
 |nil=>intro listed _;simp
 |cons i rest c=>
  intro listed h;cases h with
  |cons h1 e f=>obtain⟨l,o,m,_⟩:=mem_ready.1 e;have hi:=(bU.1 m).1;have:=c f;have r:=l;have:=RJ h1 hi r;simp only[List.length_cons];omega
def X9{b:ajI}{rest:List Nat}(h:kY b ops (aif ops.size Ba) rest):rest.length<=ops.size:=by
 have h1:=abB h
 have c:(mV ops (aif ops.size Ba)).length<=ops.size:=by exact aQ (List.length_filter_le _ _) au
 omega
end Go.Proofs.Q0.aM
