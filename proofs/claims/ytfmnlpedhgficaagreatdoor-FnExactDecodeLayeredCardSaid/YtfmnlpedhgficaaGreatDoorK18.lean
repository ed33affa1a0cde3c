import Derived.Test.YtfmnlpedhgficaaGreatDoorK17
set_option maxRecDepth 100000
set_option maxHeartbeats 8000000
set_option linter.all false
open Go.Value renaming int->U,slice->Y,bool->a5,agg->a9,pointer->bi,tuple->ci,iface->em
open Go.IntKind renaming i64->O
open Go.Obj renaming cells->ac
open Go.Ending renaming returned->be
open Bool renaming false->Bz,true->AT
open Go renaming Event->akh,Frame->ajs,FuncId->alo,Goroutine->BE,Program->NO,Trace->akt,TypeId->TO,World->AS,deafBehind->aka,stepG->ajM
open Go.Conc renaming Aside->alk,Deaf_other->alV,Goes->akz,getElem?_append_cases->alv,stepG_region_end->Kx,stepG_ret'->amc,stepG_skip->akE
open Go.ConcN renaming Mode->ajY,WgLive->akp,get_map_set->amb,upd->TE,upd_same->ajP
open Go.ConcR renaming g_of_ofEvents->akP,ofEvent_loc_mark->aks
open Go.IntKind renaming u64->akn
open Go.MemAct renaming ofEvent->ajI
open Go.MemOp renaming ofEvents->ajn
open Option renaming getD_some->ajG,map_some->akK,none->ns,some->an
namespace Go.Proofs
def Lp{p:Prop}(h:p:=by obtain⟨k,hk,rfl,y⟩:=y;exact⟨k,aa,rfl,y.imp_right λ⟨c,⟨b,y1,y2⟩,y3⟩=>⟨c,⟨b,y1,by rw[vY,upd_ne _ _ aa];exact y2⟩,y3⟩⟩):p:=h
def Lq{p:Prop}(h:p:=by rw[Array.getElem?_push_lt (by simp[h.size];omega),<-Array.getElem?_eq_getElem,Array.getElem?_setIfInBounds_ne aa];exact hz):p:=h
abbrev fc:=@Go.Conc.Goes.stop
def gh{p:Prop}(h:p:=by k_ne):p:=h
def MC{p:Prop}(h:p:=by
  u_c stepG_ret' rm hF;refine fc λH8 Ut=>?_;replace hF:=rm hF Ut;clear Ut;refine⟨rfl,_,stepG_unwind_entry (v:=.tuple #[]) (evs:=#[mk .enable]) rfl H.f_enable (x_enable_n L) (x_enable_b L) (x_enable_x L) (x_enable_f L) (by simp[Extern.Race.none_]) (by simp[mk]) (by simp[mk]),1,?_⟩;refine go_dm ?_
  u_leave0 H.f_add rm hF
  exact fc λ_ _=>rfl):p:=h
def Lr{p:Prop}(h:p:=by simp only[MemAct.ofEvent,MemAct.touch?,Option.some.injEq] at hx;subst hx;exact⟨.inr ⟨a,rfl,h⟩,aj⟩):p:=h
def Ls{p:Prop}(h:p:=by
  u_op rm hF;u_c stepG_region_end rm hF
  u_cond false rm hF
  u_c stepG_skip rm hF;u_c stepG_ret' rm hF
  u_leave0 H.f_wait rm hF
  exact fc λ_ _=>rfl):p:=h
def C5{p:Prop}(h:p:=by intro e he;simp at he;subst he;exact qg (bk_cell _ _ rfl)):p:=h
def mQ{p:Prop}(h:p:=by simp only[phi];omega):p:=h
end Go.Proofs
namespace Go.Proofs.Q0.aL
section
variable[ag]
open Go.Conc
open Go.ConcN (upd upd_same upd_ne WgLive PayAt Has OkW Ok0 CT Apart RelBy norel_of norel_of_Bk get_map_set get_map_set_same)
open Go.ConcR (stA Payload Bk bk_of_mute g_of_ofEvents)
section
variable{P:NO}[Payload]{S:cJ}{L:bY}{J:dC}{j:Nat}{D:Nat->WS}{M:Nat->Prop}{gs:Array BE}{w:AS}{t:akt}{q:Nat->Nat}{d0:Nat}
def Com.at(h:Com P S L J j D M gs w t q d0)(d:Nat):Com P S L J j D M gs (w.at d) t q d0:=
 ⟨h.size,h.old,λk a=>let⟨g,b,c⟩:=h.wk k a;⟨g,b,c.rely (RP.at w d) (av _) λ_ _ _=>rfl⟩,h.mem,h.lay,h.ct,h.plain,h.low,h.norel,h.over,h.deaf0,h.deafW,h.rel,h.has,h.pay,h.io⟩
def Com.TP(h:Com P S L J j D M gs w t q d0){i m:Nat}(hi:0<i)(y:i<L.c0){g g':BE}{fn:alo}{pos:String}{es:Array akh}(hm:∀e∈es,e.mute=AT)(hq:QuitsD P.two m (aka (Deaf t i) es) g'):
  Com P S L J j D M ((gs.map (woken P.two g g' w)).setIfInBounds i g') w (t++ajn i fn pos es) (TE q i m) d0:=by
 have c:∀op∈ajn i fn pos es,∃e∈es,op={g:=i,fn,pos,act:=.ofEvent e}:=λop d=>j9 d;have s:∀e∈es,Bk L.Wg e:=λe he=>bk_of_mute (hm e he);have v:∀op∈ajn i fn pos es,op.act.touch?=ns:=λop a=>by obtain⟨e,he,rfl⟩:=c op a;exact touch_mute (hm e he)
 refine⟨by simp[h.size],λp h1 z=>?_,λk f=>?_,h.mem,h.lay,?_,λp x b A l=>?_,λop d=>?_,h.norel.app (norel_of (norel_of_Bk s)),As h.over λop a=>.inr (.inr (v op a)),by rw[alV t aa _ akP,h.deaf0],λk f=>by rw[alV t aa _ akP,h.deafW k f],λk f u=>?_,h.has,h.pay,h.io⟩
 ·by_cases e:p=i
  ·subst e;exact⟨g',get_map_set_same _ _ _ (by rw[h.size];omega),by rw[ajP,Deaf_own];exact hq⟩
  ·obtain⟨x,b,n⟩:=h.old p h1 z;refine⟨x,by rw[amb _ _ _ _ (Ne.symm e),b,akK,woken_quitsD n],?_⟩;rw[upd_ne q _ e,alV t (Ne.symm e) _ akP];exact n
 ·obtain⟨x,b,o⟩:=h.wk k f;exact⟨x,by rw[amb _ _ _ _ aa,b,akK,o.woken],o⟩
 ·exact h.ct.appW (tv h.mem h.lay) (k:=i) aa aa λop a=>by obtain⟨e,_,rfl⟩:=c op a;exact⟨rfl,λx b=>by rw[v _ a] at b;cases b⟩
 ·obtain⟨op,a,pu⟩:=touch_of b;rcases alv a with⟨_,pC⟩|⟨_,B⟩
  ·exact h.plain p x yY A l
  ·simp_all
 ·rcases j7.1 d with a|a
  ·exact h.low op a
  ·obtain⟨e,he,rfl⟩:=c op a;exact low_mute (hm e he) _
 ·obtain⟨r,hr⟩:=h.rel k f u;exact DH
end
end
section
variable[ag]
open Go.Conc
open Go.ConcN (upd upd_same upd_ne WgLive PayAt Has OkW Ok0 CT Apart RelBy norel_of norel_of_Bk get_map_set get_map_set_same Deaf_absent Deaf_still)
open Go.ConcR (stA Payload Bk bk_of_mute g_of_ofEvents)
section
variable{P:NO}[Payload]{S:cJ}{L:bY}{J:dC}{j:Nat}{D:Nat->WS}{M M':Nat->Prop}{gs:Array BE}{w w':AS}{t:akt}{q:Nat->Nat}{d0:Nat}
omit [ag] in
def pf.grow{X:Nat->Nat->Prop}(h:pf S L M X)(hm:∀c,M c->M' c):pf S L M' X:=⟨h.c0,hm _ h.C,hm _ h.Wg,h.ne,h.sh,λk c hc=>⟨hm _ (h.x k c hc).1,(h.x k c hc).2⟩,h.HD⟩
theorem Com.step0(h:Com P S L J j D M gs w t q d0){a a':BE}{fn:alo}{pos:String}{es:Array akh}(f:w.heap.size<=w'.heap.size)(o:∀c,c<w.heap.size->¬M c->w'.heap[c]?=w.heap[c]?)
  (hm:∀c,M c->M' c)(E:∀c,M' c->M c\/(w.heap.size<=c/\c<w'.heap.size))(p:∀k,k<j->RP S.h1.size (D k).X J.ty L.Wg L.C J.n L.off k w w')(s:PayAt L.C J.n w')
  (F:∀op∈ajn 0 fn pos es,Ok0 L.Sh (ot S L j (fV D)) (oD S L j (reads D)) (L.c0+j-1) op)
  (K:∀e∈es,∀x,(ajI e).touch?=an x->¬L.Sh x.loc->x.kind=.plain)(H:∀e∈es,(ajI e).low w'.heap.size)(G:∀e∈es,e.loc≠.mark (.release (stA L.Wg)))(u:jl w w'):
  Com P S L J j D M' ((gs.map (woken P.two a a' w')).setIfInBounds 0 a') w' (t++ajn 0 fn pos es) q (aka d0 es):=by
 have N:=h.lay.c0;have Q:∀op∈ajn 0 fn pos es,∃e∈es,op={g:=0,fn,pos,act:=.ofEvent e}:=λop l=>j9 l;refine⟨by simp[h.size],λi h1 R=>?_,λk d=>?_,h.mem.Hz f o hm E,h.lay.grow hm,h.ct.app0 (tv h.mem h.lay) F,λT x v V y=>?_,λop l=>?_,h.norel.app (norel_of G),As h.over λop z=>.inl ?_,by rw[Deaf_own,h.deaf0],λk d=>by rw[alV t aa _ akP,h.deafW k d],λk d m=>?_,λk d m=>(p k d).cell.trans (h.has k d m),s,u.1.trans h.io.1,u.2.trans h.io.2⟩
 ·obtain⟨x,v,A⟩:=h.old i h1 R;refine⟨x,by rw[amb _ _ _ _ aa,v,akK,woken_quitsD A],?_⟩;rw[alV t aa _ akP];exact A
 ·obtain⟨x,v,B⟩:=h.wk k d;refine⟨x,by rw[amb _ _ _ _ aa,v,akK,B.woken],B.rely (p k d) f λb c I=>?_⟩;refine o c ((h.mem.rel k d).lt I).2 λhc=>?_;rcases h.mem.image (k:=k) d I with h1|⟨h1,_⟩
  ·exact h.mem.main k d c h1 hc
  ·have:=(h.mem.mlt c hc).1;omega
 ·obtain⟨op,z,pu⟩:=touch_of v;rcases alv z with⟨_,pC⟩|⟨_,W⟩
  ·exact h.plain T x yY V y
  ·grind
 ·rcases j7.1 l with z|z
  ·exact vC f (h.low op z)
  ·grind
 ·grind
 ·obtain⟨r,hr⟩:=h.rel k d m;exact DH
def Com.spawn(h:Com P S L J j D M gs w t q 0){a' child:BE}{x y:MemOp}{d:WS}(v:x.g=0/\x.act=.go (L.c0+j))(A:y.g=L.c0+j/\y.act=.start)
  (hd:d.stage=7/\d.deaf=0/\d.φ=S.φ/\d.x.2.heap=S.h0)(Z:∀c,d.X c->M c/\c≠L.C/\c≠L.Wg)(G:fF P S L J j d child w):
  Com P S L J (j+1) (TE D j d) M ((gs.setIfInBounds 0 a').push child) w (t++#[x,y]) q 0:=by
 have RC:=h.lay.c0;have hm:∀op∈#[x,y],op=x\/op=y:=by intro op f;simpa using f
 have B:∀op∈#[x,y],op.act≠.mark .disable/\op.act≠.mark .enable:=by
  intro op f;rcases hm op f with rfl|rfl
  ·rw[v.2];exact⟨aj,aj⟩
  ·rw[A.2];exact⟨aj,aj⟩
 have H:∀op∈#[x,y],op.act.touch?=ns:=by
  intro op f;rcases hm op f with rfl|rfl
  ·rw[v.2];rfl
  ·rw[A.2];rfl
 have s:Mem S (j+1) (fV (TE D j d)) (mi (TE D j d)) M w.heap:=by rw[vY,Pr,hd.2.2.1,hd.2.2.2];exact h.mem.fork
 have m:reads (TE D j d)=TE (reads D) j d.X:=by funext i;simp only[reads,TE];split<;>rfl
 have u:pf S L M (reads (TE D j d)):=by
  rw[m];refine⟨h.lay.c0,h.lay.C,h.lay.Wg,h.lay.ne,h.lay.sh,λk c hc=>?_,h.lay.HD⟩;by_cases e:k=j
  ·subst e;rw[ajP] at hc;exact Z c hc
  ·rw[upd_ne _ _ e] at hc;exact h.lay.x k c hc
 have b:∀k,k<j+1->k≠j->k<j:=λk h1 o=>by omega
 have I:∀k c,k≠j->aK S (fV (TE D j d)) k c->aK S (fV D) k c:=λk c e x=>by rw[vY] at x;exact x.upd_ne e
 have N:CT L.Sh (ot S L (j+1) (fV (TE D j d))) (oD S L (j+1) (reads (TE D j d))) t (L.c0+j-1):=by
  refine CT.Gc h.ct (λl x=>.inl x) (λl x=>x) (λg h1 o l x=>.inl ?_) (λg h1 o l x=>.inl ?_) (λl _ x=>.inl λg h1 o=>⟨λy=>(x g h1 o).1 ?_,λy=>(x g h1 o).2 ?_⟩) (λl _ x=>.inl λg h1 o y=>x g h1 o ?_)
  ·obtain⟨k,n,rfl,x⟩:=x;have e:k≠j:=aa;exact⟨k,b k n e,rfl,x.imp_right λ⟨c,Q,K⟩=>⟨c,I k c e Q,K⟩⟩
  ·obtain⟨k,n,rfl,Q,c,K,x3⟩:=x;have e:k≠j:=aa;rw[m,upd_ne _ _ e] at K;exact⟨k,b k n e,rfl,Q,c,K,x3⟩
  ·exact Lp
  ·obtain⟨k,n,rfl,y1,c,y2,y3⟩:=y;exact⟨k,aa,rfl,y1,c,by rw[m,upd_ne _ _ aa];exact y2,y3⟩
  ·exact Lp
 have E:=N.fork (tv s u) (x:=x) (y:=y) ⟨v.1,by rw[v.2];congr 1;omega⟩ ⟨by rw[A.1];omega,A.2⟩ h.deaf0;refine⟨by simp[h.size];omega,λi h1 o=>?_,λk n=>?_,s,u,by rw[show L.c0+(j+1)-1=L.c0+j-1+1 by omega];exact E,λi' z hz p R=>?_,λop f=>?_,h.norel.app λop f=>?_,As h.over λop F=>.inr (.inr (H op F)),by rw[Deaf_still t 0 _ B,h.deaf0],λk n=>?_,λk n p=>?_,λk n p=>?_,h.pay,h.io⟩
 ·obtain⟨z,hz,T⟩:=h.old i h1 o;refine⟨z,?_,by rw[Deaf_still t _ _ B];exact T⟩;exact Lq
 ·by_cases e:k=j
  ·subst e;refine⟨child,?_,by rw[ajP];exact G⟩;rw[show L.c0+k=(gs.setIfInBounds 0 a').size by simp[h.size],Array.getElem?_push_size]
  ·obtain⟨z,hz,V⟩:=h.wk k (b k n e);refine⟨z,?_,by rw[upd_ne D _ e];exact V⟩;exact Lq
 ·obtain⟨op,F,pu⟩:=touch_of hz;rcases alv F with⟨_,pC⟩|⟨_,W⟩
  ·exact h.plain i' z yY p R
  ·rw[H op W] at pu;cases pu
 ·rcases j7.1 f with F|F
  ·exact h.low op F
  ·rcases hm op F with rfl|rfl
   ·rw[v.2];trivial
   ·rw[A.2];trivial
 ·rcases hm op f with rfl|rfl
  ·rw[v.2];simp
  ·rw[A.2];simp
 ·rw[Deaf_still t _ _ B];by_cases e:k=j
  ·subst e;rw[ajP,hd.2.1];exact Deaf_absent λa op ha e=>by have:=h.ct.gs a op ha;omega
  ·rw[h.deafW k (b k n e),upd_ne D _ e]
 ·by_cases e:k=j
  ·subst e;rw[ajP,hd.1] at p;omega
  ·rw[upd_ne D _ e] at p;obtain⟨r,hr⟩:=h.rel k (b k n e) p;refine⟨r,Go.ConcN.RelBy.appNot hr λop f=>?_⟩;rcases hm op f with rfl|rfl
   ·rw[v.1];omega
   ·rw[A.1];omega
 ·by_cases e:k=j
  ·subst e;rw[ajP,hd.1] at p;omega
  ·rw[upd_ne D _ e] at p⊢;exact h.has k (b k n e) p
end
end
section
variable[ag]
open Go.Conc
open Go.ConcN (upd upd_same upd_ne WSit CT RelBy Deaf_absent)
open Go.ConcR (stA Payload)
section
variable{P:NO}[Payload]{S:cJ}{L:bY}{J:dC}{j:Nat}{D:Nat->WS}{M:Nat->Prop}{gs:Array BE}{w:AS}{t:akt}{q:Nat->Nat}{d0:Nat}
theorem Com.Qx(h:Com P S L J j D M gs w t q d0)(n:AcqAll L j t):t.HandedOver:=by
 intro i g b f hc;rcases dg g L.c0 with a|l
 ·exact h.over i g b f a hc
 ·obtain⟨z,o,s⟩:=j6.1 b;have hle:=h.ct.gs i z o;obtain⟨p,u,v,x,c⟩:=n;obtain⟨k,y,rfl⟩:∃k,k<j/\g=L.c0+k:=⟨g-L.c0,aa,aa⟩;obtain⟨r,e,m⟩:=c k y;have d:HappensBefore t r p:=.single (.inr ⟨.marked m (.inr e.act) u λk _ _=>h.norel k,e.heard,x⟩);have hle:=Nat.le_of_not_lt λa=>e.after i a b hc;rcases dg i r with a|l
  ·exact⟨p,v,.trans (.single (.inl ⟨a,_,b,e.g⟩)) d⟩
  ·grind
def Com.frm(h:Com P S L J j D M gs w t q 0)(b:AcqAll L j t)(hq:∀k,k<j->(D k).stage=1):∃s,dT P.two L.Sh gs w t s:=by
 have u:=h.lay.c0;have v:=h.size;refine⟨λi=>if i<L.c0 then q i else(D (i-L.c0)).fuel,⟨λi x hi m=>?_,λi hi=>?_⟩,?_,aa,h.plain,h.Qx b,h.deaf0,h.low,λl n=>?_⟩
 ·by_cases e:i<L.c0
  ·rw[if_pos e];obtain⟨y,f,o⟩:=h.old i hi e;rw[m] at f;cases f;exact o
  ·rw[if_neg e];have z:=(bE.1 m).1;obtain⟨k,p,rfl⟩:∃k,k<j/\i=L.c0+k:=⟨i-L.c0,aa,aa⟩;obtain⟨y,f,d⟩:=h.wk k p;rw[m] at f;cases f;rw[show L.c0+k-L.c0=k by omega,h.deafW k p];have h1:=hq k p;cases d with
   |pre _ r=>omega
   |run _ r=>omega
   |post _ r=>omega
   |fQ _ _ _ d=>rw[h1] at d;cases d with|quit d=>exact d
 ·exact Deaf_absent λa op b e=>by have:=h.ct.gs a op b;omega
 ·rw[show gs.size-1=L.c0+j-1 by omega];refine CT.join h.ct (h.Qx b) h.plain λg l _ _ x=>?_;rcases x with⟨k,_,_,rfl|⟨c,_,x⟩⟩|⟨k,_,_,_,c,_,x⟩
  ·rfl
  ·exact x.mem
  ·exact x.mem
 ·rcases n with n|⟨a,rfl,b⟩
  ·obtain⟨a,e,b⟩:=h.lay.sh l n;exact⟨a,e,bH b h.mem.size⟩
  ·exact⟨a,rfl,by rw[b];exact(h.mem.mlt _ h.lay.Wg).2⟩
end
end
section
variable[ag]
open Go.Conc
open Go.ConcN (PayAt CT)
open Go.ConcR (stA Payload)
section
variable{P:NO}[Payload]{S:cJ}{L:bY}{J:dC}{D:Nat->WS}{M:Nat->Prop}{gs:Array BE}{w:AS}{t:akt}{q:Nat->Nat}{X:Nat->Nat->Prop}
omit [ag] in
def XR{n:Nat}{Wg:Nat}(b:∀op∈t,op.act.low n)(d:n<=Wg):NoRelease (stA Wg) t:=by intro i e;obtain⟨op,c,a⟩:=j6.1 e;have:=b op (lR c);rw[a] at this;have f:Wg<n:=this;omega
def Com.begin(hF:dT P.two L.jd gs w t q)(z:L.c0=gs.size)(hS:qk S)(p:S.h1.size<=w.heap.size)(hold:∀b,b<S.h1.size->w.heap[b]?=S.h1[b]?)(A:∀c,M c->S.h1.size<=c/\c<w.heap.size)
  (B:M L.C)(E:M L.Wg)(r:L.C≠L.Wg)(s:∀l,L.jd l->∃a,l=.cell a/\a.block<S.h1.size)(f:lD L.jd S.φ)(F:∀k c,reads D k c->M c/\c≠L.C/\c≠L.Wg){nw:Nat}(e:∀op∈t,op.act.low nw)(h:nw<=L.Wg)(m:PayAt L.C J.n w)(u:w.os=S.os/\w.output=S.out):
  Com P S L J 0 D M gs w t q 0:=by
 have v:=hF.pos
 refine⟨aa,λi h1 N=>?_,λk d=>absurd d (ib k),⟨p,hold,hS,λk d=>absurd d (ib k),λk d=>absurd d (ib k),λk d=>absurd d (ib k),λk d=>absurd d (ib k),λk _ d=>absurd d (ib k),λk d=>absurd d (ib k),A⟩,
  ⟨aa,B,E,r,s,F,f⟩,?_,λi x G H hm=>hF.plain i x G (λy=>H (.inl y)) hm,hF.low,XR e h,λi g I h0 _ hc=>hF.over i g I h0 hc,hF.hears,λk d=>absurd d (ib k),λk d=>absurd d (ib k),λk d=>absurd d (ib k),m,u⟩
 ·have o:i<gs.size:=by omega
  exact⟨gs[i],eQ o,hF.lv.old i _ h1 (eQ o)⟩
 ·rw[show L.c0+0-1=gs.size-1 by omega];refine CT.Gc hF.ct (λl x=>?_) (λl x=>.inl x) (λ_ _ _ l⟨k,d,_⟩=>absurd d (ib k)) (λ_ _ _ l⟨k,d,_⟩=>absurd d (ib k)) (λl _ _=>.inl λ_ _ _=>⟨id,id⟩) λl _ _=>.inl λ_ _ _=>id;rcases x with x|⟨a,rfl,K⟩
  ·simp_all
  ·exact .inr (Pq e h (.inl ⟨a,rfl,K⟩))
end
end
end Go.Proofs.Q0.aL
namespace Go.Proofs.Q0.Wg
variable{w:AS}
section
open Go.Conc Go.ConcN Go.ConcN.Gen Go.RowKit Go.Conc.Lib Go.ConcR.Gen
open Go.ConcR (KK wgBlock WgAt stA smA rd wr mk Payload Aside2 DC0)
variable{L:WgLink}
def RM(ty:TO)(Wg:Nat)(w w₁:AS):Prop:=akp ty Wg w->akp ty Wg w₁
def RM.trans(ty:TO)(Wg:Nat)(a b c:AS)(h:RM ty Wg a b)(k:RM ty Wg b c):RM ty Wg a c:=k∘h
def RM.refl(ty:TO)(Wg:Nat)(a:AS):RM ty Wg a a:=id
def DM(Wg:Nat)(w w':AS)(es:Array akh):Prop:=w'=w/\∀e∈es,∃a:Addr,a.block=Wg/\(e=⟨.mark (.read a),Bz,AT⟩\/e=⟨.mark (.write a),Bz,AT⟩)
section
variable{P:NO}{main:Bool}{R R':AS->AS->Prop}{D D':AS->AS->Array akh->Prop}{Stop wP:BE->AS->Prop}
def ql(e:∀w w' es,D w w' es->D' w w' es)(hS:∀g w,Stop g w->wP g w)(a:∀w w',R' w w'->R w w'):∀{n:Nat}{g:BE}{w:AS},akz P main R D Stop n g w->akz P main R' D' wP n g w:=by
 intro n
 induction n with
 |zero=>exactλh w₁ h₁=>hS _ _ (h w₁ (a _ _ h₁))
 |succ n f=>
  intro g w h;rcases h with h|⟨c,h⟩
  ·exact .inl λw₁ h₁=>hS _ _ (h w₁ (a _ _ h₁))
  ·refine .inr ⟨c,λw₁ h₁=>?_⟩;have b:=h w₁ (a _ _ h₁);cases d:ajM P main g w₁ with|go i w' es=>simp_all|_=>rw[d] at b;exact b.elim
end
section
variable{P:NO}{ty:TO}{Wg:Nat}{Stop:BE->AS->Prop}
def aeq{es:Array akh}(h:∀e∈es,False):DM Wg w w es:=⟨rfl,λe he=>(h e he).elim⟩
def TQ{w':AS}{es:Array akh}(h:DC0 w w' es):DM Wg w w' es:=by obtain⟨rfl,rfl⟩:=h;exact aeq (by simp)
def go_dm{n:Nat}{g:BE}(h:akz P AT (RM ty Wg) DC0 Stop n g w):akz P AT (RM ty Wg) (DM Wg) Stop n g w:=ql (λ_ _ _=>TQ) (λ_ _ h=>h) (λ_ _ h=>h) h
def RK{D:AS->AS->Array akh->Prop}{M:Nat}{g:BE}{w:AS}(h:akz P AT (RM ty Wg) D Stop M g w):∀n,akz P AT (RM ty Wg) D Stop (M+n) g w
 |0=>h
 |n+1=>(RK h n).more
def go_seq{M:Nat}:∀{n:Nat}{g:BE}{w:AS},akz P AT (RM ty Wg) DC0 (akz P AT (RM ty Wg) (DM Wg) Stop M) n g w->akz P AT (RM ty Wg) (DM Wg) Stop (n+M) g w:=by
 intro n
 induction n with
 |zero=>exactλh=>by rw[Nat.zero_add];exact h _ (λx=>x)
 |succ n c=>
  intro g w h;rcases h with h|⟨d,h⟩
  ·rw[Nat.add_comm];exact RK (h w λx=>x) _
  ·rw[Nat.succ_add];refine .inr ⟨d,λw₁ h₁=>?_⟩;have a:=h w₁ h₁;cases b:ajM P AT g w₁ with
   |go e f es=>rw[b] at a;exact⟨TQ a.1,c a.2⟩
   |_=>rw[b] at a;exact a.elim
end
def rm{ty:TO}{Wg:Nat}{w₁:AS}(h:akp ty Wg w)(r:RM ty Wg w w₁):akp ty Wg w₁:=r h
section
variable(P:NO)(ty:TO)(Wg:Nat)
def mM(Nx:BE->AS->Prop)(g:BE)(w:AS):Prop:=g.status=.running/\∃g',ajM P AT g w=.go g' w #[mk .disable]/\∃m,akz P AT (RM ty Wg) (DM Wg) Nx m g' w
def oE(Nx:BE->AS->Prop)(g:BE)(w:AS):Prop:=g.status=.running/\∃g',ajM P AT g w=.go g' w #[mk .enable]/\∃m,akz P AT (RM ty Wg) (DM Wg) Nx m g' w
def qS(Nx:BE->AS->Prop)(g:BE)(w:AS):Prop:=g.status=.running/\∃g',ajM P AT g w=.go g' w #[mk (.acquire (stA Wg))]/\∃m,akz P AT (RM ty Wg) (DM Wg) Nx m g' w
def Jl(Nx:BE->AS->Prop)(g:BE)(w:AS):Prop:=
 g.status=.running/\∀v:Nat,v<2147483647->WgAt ty Wg w (v*KK) 0->
  ∃g',ajM P AT g w=.go g' (w.setCell (stA Wg) (.int .u64 ((v+1)*KK))) #[rd (stA Wg),wr (stA Wg)]/\∃m,akz P AT (RM ty Wg) (DM Wg) Nx m g' (w.setCell (stA Wg) (.int .u64 ((v+1)*KK)))
def tA(c:ajs)(cs:List ajs)(g:BE)(_w:AS):Prop:=g=G c cs
end
section
variable[Payload]{Wg:Nat}{b₀:ajs}{a₀:Act}{ops₀:Array Oper}{i₀:Nat}{rest₀:List Nat}{k₀:List Item}{cs:List ajs}
def Ba{P:NO}(H:WgLib P L)(w:AS)(hF:akp L.tWg Wg w):
  akz P AT (RM L.tWg Wg) (DM Wg) (mM P L.tWg Wg (Jl P L.tWg Wg (oE P L.tWg Wg (tA (b₀.at (a₀.put ((ops₀[i₀]?).bind (·.dst)) (.tuple #[])) (.inRegion ops₀ rest₀::k₀)) cs)))) 12
   (G ((base L.add).at ⟨#[.pointer (an ⟨Wg,0,ns⟩),U O 1,undef,undef,undef,undef,undef,undef,undef,undef,undef,undef,undef,undef,undef,undef,undef,undef,undef,undef,undef,undef,undef,undef,undef,undef,undef,undef,undef,undef,undef,undef,undef,undef,undef,undef,undef,undef,undef,undef,undef,undef,undef,undef,undef,undef,undef,undef,undef,undef,undef,undef,undef,undef,undef,undef,undef,undef,undef,undef,undef,undef,undef,undef,undef,undef,undef,undef,undef,undef,undef,undef,undef,undef,undef,undef,undef,undef,undef,undef,undef,undef,undef,undef,undef,undef,undef,undef,undef,undef,undef,undef,undef,undef,undef,undef,undef,undef,undef,undef,undef,undef,undef,undef,undef,undef,undef,undef,undef,undef,undef,undef,undef,undef,undef,undef,undef],[]⟩ [.code (body_add L)]) (b₀.at a₀ (.inRegion ops₀ (i₀::rest₀)::k₀)::cs)) w:=by
 lib_facts
 simp only[body_add,addFn,ajG];refine go_dm ?_;u_c stepG_seq rm hF
 u_cond true rm hF
 u_c stepG_seq rm hF;u_c stepG_seq rm hF
 u_reg rm hF
 u_op rm hF;u_op rm hF;u_c Kx rm hF
 u_cond false rm hF
 u_c akE rm hF;u_c stepG_seq rm hF
 u_reg rm hF
 refine fc λw₁ h₁=>?_;replace hF:=rm hF h₁;clear h₁;refine⟨rfl,_,stepG_mark0 .disable aj rfl rfl gh rfl H.f_disable (x_disable_n L) (x_disable_b L) (x_disable_x L) (x_disable_f L),40,?_⟩
 walk_nrm
 refine go_dm ?_;u_c Kx rm hF
 u_reg rm hF
 u_defer rm hF
 u_c Kx rm hF;u_c stepG_seq rm hF
 u_reg rm hF
 u_op rm hF;u_c Kx rm hF;u_c stepG_seq rm hF;u_c stepG_seq rm hF
 u_reg rm hF
 u_bub rm hF
 u_c Kx rm hF
 u_cond false rm hF
 u_c akE rm hF;u_c stepG_seq rm hF
 u_reg rm hF
 u_op rm hF;u_op rm hF;u_op rm hF;u_op rm hF;u_op rm hF;u_op rm hF
 u_call H.f_uAdd (nm_uAdd L) uAddFn rm hF
 u_c stepG_seq rm hF
 u_reg rm hF
 u_op rm hF;u_c Kx rm hF;u_c stepG_seq rm hF
 u_reg rm hF
 u_op rm hF;u_op rm hF;u_op rm hF;u_op rm hF;refine fc λa b=>?_;replace hF:=rm hF b;clear b;refine⟨rfl,λv l hw=>?_⟩;rcases jJ v with rfl|h
 ·replace hw:WgAt L.tWg Wg a 0 0:=by simpa using hw
  have z:(((0:Nat):Int)+1)*KK=KK:=aj;rw[z];have i:akn.wrap (0+4294967296)=KK:=al;refine⟨_,(stepG_add_atomic rfl rfl gh rfl H.f_addU64 (x_addU64_n L) (x_addU64_b L) (x_addU64_x L) .u64 (x_addU64_f L) rfl rfl hw.cellSt (hw.thaw 0)).trans (by rw[i];rfl),110,?_⟩;replace hF:akp L.tWg Wg (a.setCell (stA Wg) (.int .u64 KK)):=⟨_,_,hw.setSt _⟩;clear hw;simp only[KK] at hF⊢
  walk_nrm
  refine go_seq (n:=60) (M:=50) ?_;u_op rm hF;u_c Kx rm hF;u_c amc rm hF
  u_leave1 H.f_uAdd rm hF
  u_op rm hF;u_c Kx rm hF;u_c stepG_seq rm hF;u_c stepG_seq rm hF
  u_reg rm hF
  u_op rm hF;u_op rm hF;u_op rm hF;u_op rm hF
  u_skip rm hF
  u_skip rm hF
  u_op rm hF;u_c Kx rm hF
  u_cond false rm hF
  u_c akE rm hF;u_c stepG_seq rm hF
  u_reg rm hF
  u_op rm hF;u_op rm hF;u_op rm hF;u_op rm hF;u_c Kx rm hF;u_c stepG_seq rm hF
  u_reg rm hF
  u_op rm hF;u_op rm hF;u_op rm hF;u_op rm hF;u_c Kx rm hF;u_c stepG_seq rm hF;u_c stepG_seq rm hF
  u_reg rm hF
  u_op rm hF;u_op rm hF;u_op rm hF;u_op rm hF;u_op rm hF;u_op rm hF;u_op rm hF;u_op rm hF;u_op rm hF;u_op rm hF;u_c Kx rm hF
  u_cond true rm hF
  u_reg rm hF
  u_op rm hF;u_op rm hF;u_op rm hF
  u_conv H.underlying_tPU32 H.room_tU32 (WgLive.cell1 hF).choose_spec rm hF
  refine fc λf c=>?_;replace hF:=rm hF c;clear c
  u_in rm hF
  rw[stepG_markAt .read aj rfl rfl gh rfl H.f_raceRead (x_raceRead_n L) (x_raceRead_b L) (x_raceRead_x L) (x_raceRead_f L) (ad:=⟨Wg,1,ns⟩) (by simp[Act.eval])];simp only[goes_go];refine⟨⟨rfl,λe he=>?_⟩,?_⟩
  ·rw[Array.mem_singleton] at he;subst he;exact⟨_,rfl,.inl rfl⟩
  walk_nrm
  refine go_dm ?_;u_c Kx rm hF;u_c stepG_seq rm hF;u_c stepG_seq rm hF
  u_reg rm hF
  u_op rm hF;u_op rm hF;u_c Kx rm hF
  u_cond false rm hF
  u_c akE rm hF;u_c stepG_seq rm hF;u_c stepG_seq rm hF
  u_reg rm hF
  u_op rm hF;u_op rm hF;u_op rm hF
  u_skip rm hF
  u_skip rm hF
  u_op rm hF;u_op rm hF
  u_skip rm hF
  u_skip rm hF
  u_skip rm hF
  u_skip rm hF
  u_op rm hF;u_c Kx rm hF
  u_cond false rm hF
  u_c akE rm hF;u_c stepG_seq rm hF;u_c stepG_seq rm hF
  u_reg rm hF
  u_op rm hF;u_op rm hF;u_op rm hF
  u_skip rm hF
  u_skip rm hF
  u_op rm hF;u_c Kx rm hF
  u_cond true rm hF
  exact MC
 ·obtain⟨V,d⟩:∃V:Int,V=(v:Int)+1:=⟨_,rfl⟩;obtain⟨S,hS⟩:∃S:Int,S=V*KK:=⟨_,rfl⟩;have g:akn.wrap ((v:Int)*KK+4294967296)=S:=by rw[IntKind.wrap_u64,hS,d];simp only[KK];omega
  rw[<-d,<-hS];have m:S/4294967296=V:=by rw[hS];simp only[KK];omega
  have o:bits .and .u64 S 2147483648=0:=by rw[hS,d];have:=st_flag (v+1) 0 (by omega) (by omega);simpa[KK] using this
  have p:bits .and .u64 S 2147483647=0:=by rw[hS,d];have:=st_waiters (v+1) 0 (by omega) (by omega);simpa[KK] using this
  have q:IntKind.i32.wrap V=V:=by rw[IntKind.wrap_i32];omega
  have j:1<V:=aa;have k:V<2147483648:=aa;have q1:(V==1)=Bz:=aA;have r:decide (V=1)=Bz:=decide_eq_false aa;have s:decide (V<0)=Bz:=decide_eq_false aa;have t:decide (0<V)=AT:=decide_eq_true aa;have u:(V==0)=Bz:=aA;have x:decide (V=0)=Bz:=decide_eq_false aa;refine⟨_,(stepG_add_atomic rfl rfl gh rfl H.f_addU64 (x_addU64_n L) (x_addU64_b L) (x_addU64_x L) .u64 (x_addU64_f L) rfl rfl hw.cellSt (hw.thaw 0)).trans (by rw[g];rfl),110,?_⟩;replace hF:akp L.tWg Wg (a.setCell (stA Wg) (.int .u64 S)):=⟨_,_,hw.setSt _⟩;clear hw hS d g
  walk_nrm
  refine go_dm ?_;u_op rm hF;u_c Kx rm hF;u_c amc rm hF
  u_leave1 H.f_uAdd rm hF
  u_op rm hF;u_c Kx rm hF;u_c stepG_seq rm hF;u_c stepG_seq rm hF
  u_reg rm hF
  u_op rm hF;u_op rm hF;u_op rm hF;u_op rm hF
  u_skip rm hF
  u_skip rm hF
  u_op rm hF;u_c Kx rm hF
  u_cnd Bz rm hF
  u_c akE rm hF;u_c stepG_seq rm hF
  u_reg rm hF
  u_op rm hF;u_op rm hF;u_op rm hF;u_op rm hF;u_c Kx rm hF;u_c stepG_seq rm hF
  u_reg rm hF
  u_op rm hF;u_op rm hF;u_op rm hF;u_op rm hF;u_c Kx rm hF;u_c stepG_seq rm hF;u_c stepG_seq rm hF
  u_reg rm hF
  u_op rm hF;u_op rm hF;u_op rm hF;u_op rm hF;u_op rm hF;u_op rm hF;u_op rm hF;u_op rm hF;u_op rm hF;u_op rm hF;u_c Kx rm hF
  u_cnd Bz rm hF
  u_c akE rm hF;u_c stepG_seq rm hF;u_c stepG_seq rm hF
  u_reg rm hF
  u_op rm hF;u_op rm hF;u_c Kx rm hF
  u_cnd Bz rm hF
  u_c akE rm hF;u_c stepG_seq rm hF;u_c stepG_seq rm hF
  u_reg rm hF
  u_op rm hF;u_op rm hF;u_op rm hF
  u_skip rm hF
  u_skip rm hF
  u_op rm hF;u_op rm hF
  u_skip rm hF
  u_skip rm hF
  u_skip rm hF
  u_skip rm hF
  u_op rm hF;u_c Kx rm hF
  u_cnd Bz rm hF
  u_c akE rm hF;u_c stepG_seq rm hF;u_c stepG_seq rm hF
  u_reg rm hF
  u_op rm hF;u_op rm hF;u_op rm hF
  u_skip rm hF
  u_skip rm hF
  u_op rm hF;u_c Kx rm hF
  u_cnd AT rm hF
  exact MC
end
end
end Go.Proofs.Q0.Wg
namespace Go.Proofs.Q0.aL
section
variable[ag]
open Go.Conc
open Go.ConcN (PayAt CT WgLive Ok0)
open Go.ConcR (stA smA rd wr mk Payload Bk ofEvent_loc_mark ofEvent_cell)
section
variable{P:NO}[Payload]{S:cJ}{L:bY}{J:dC}{j:Nat}{D:Nat->WS}{M:Nat->Prop}{gs:Array BE}{w w':AS}{t:akt}{q:Nat->Nat}{d0:Nat}
def ml(L:bY)(e:akh):Prop:=tK L e\/e.loc=.mark (.acquire (stA L.Wg))\/∃a:Addr,a.block=L.Wg/\(e=⟨.mark (.read a),Bz,AT⟩\/e=⟨.mark (.write a),Bz,AT⟩)
def NT{e:akh}(h:ml L e){x:Touch}(hx:(ajI e).touch?=an x):L.Sh x.loc/\x.kind≠.plain:=by
 rcases h with h|h|⟨a,h,rfl|rfl⟩
 ·have:=EH h hx;exact⟨this.1,by rw[this.2];simp⟩
 ·rw[aks h] at hx;cases hx
 ·exact Lr
 ·exact Lr
def aa1{e:akh}(h:ml L e){n:Nat}(b:L.Wg<n):(ajI e).low n:=by
 rcases h with h|h|⟨a,h,rfl|rfl⟩
 ·exact Qv h b
 ·rw[aks h];exact b
 ·show a.block<n;omega
 ·show a.block<n;omega
def Y8{e:akh}(h:ml L e):e.loc≠.mark (.release (stA L.Wg)):=by
 rcases h with h|h|⟨a,h,rfl|rfl⟩
 ·exact Oy h
 ·simp_all
 ·simp
 ·simp
def Com.xg(h:Com P S L J j D M gs w t q d0){a a':BE}{fn:alo}{pos:String}{es:Array akh}(b:alk L.Wg w w')(f:akp J.ty L.Wg w')(d:∀e∈es,ml L e):
  Com P S L J j D M ((gs.map (woken P.two a a' w')).setIfInBounds 0 a') w' (t++ajn 0 fn pos es) q (aka d0 es):=by
 have p:=h.mem.mlt _ h.lay.Wg;have i:w.heap.size<=w'.heap.size:=by rw[b.size];exact av _
 have o:∀g,RP S.h1.size (D g).X J.ty L.Wg L.C J.n L.off g w w':=λg=>.of_wg b f h.lay.ne p.1 λc hc=>(h.lay.x g c hc).2.2;refine h.step0 i (λc _ r=>b.block c λx=>r (x▸h.lay.Wg)) (λ_ x=>x) (λ_ x=>.inl x) (λk _=>o k) ((o 0).pay h.pay) (λop l=>?_) (λe he x m s=>absurd (NT (d e he) m).1 s) (λe he=>aa1 (d e he) aa) (λe he=>Y8 (d e he)) ⟨b.os,b.output⟩;obtain⟨e,he,rfl⟩:=j9 l;exact⟨rfl,λx m=>.inl (NT (d e he) m)⟩
end
end
end Go.Proofs.Q0.aL
namespace Go.Proofs.Q0.Wg
section
open Go.Conc Go.ConcN Go.ConcN.Gen Go.RowKit Go.Conc.Lib Go.ConcR.Gen
open Go.ConcR (KK wgBlock WgAt stA smA rd wr mk Payload Aside2 DC0)
variable{L:WgLink}
section
variable(P:NO)(ty:TO)(Wg:Nat)
def xV(Nx:BE->AS->Prop)(g:BE)(w:AS):Prop:=
 g.status=.running/\(WgAt ty Wg w 0 0->∃g',ajM P AT g w=.go g' w #[rd (stA Wg)]/\∃m,akz P AT (RM ty Wg) (DM Wg) (oE P ty Wg (qS P ty Wg Nx)) m g' w)
def uz(Nx:BE->AS->Prop)(g:BE)(w:AS):Prop:=
 g.status=.running/\g.offers=ns/\
  ((∃st,WgAt ty Wg w st 0)->ajM P AT g w=.go {g with status:=.blocked} w #[])/\
  (WgAt ty Wg w 0 1->∃g',ajM P AT g w=.go g' (w.setCell (smA Wg) (.int .u32 0)) (semEvents (smA Wg))/\∃m,akz P AT (RM ty Wg) (DM Wg) (xV P ty Wg Nx) m g' (w.setCell (smA Wg) (.int .u32 0)))
def xW(a Nx:BE->AS->Prop)(vs:Nat)(g:BE)(w:AS):Prop:=
 g.status=.running/\∀v:Nat,v<2147483648->WgAt ty Wg w (v*KK) 0->
  (v=vs->∃g',ajM P AT g w=.go g' (w.setCell (stA Wg) (.int .u64 (v*KK+1))) #[rd (stA Wg),wr (stA Wg)]/\∃m,akz P AT (RM ty Wg) (DM Wg) (uz P ty Wg Nx) m g' (w.setCell (stA Wg) (.int .u64 (v*KK+1))))/\
  (v≠vs->∃g',ajM P AT g w=.go g' w #[rd (stA Wg)]/\∃m,akz P AT (RM ty Wg) (DM Wg) a m g' w)
def je(a Nx:BE->AS->Prop)(g:BE)(w:AS):Prop:=
 g.status=.running/\∀v:Nat,v<2147483648->WgAt ty Wg w (v*KK) 0->∃g',ajM P AT g w=.go g' w #[rd (stA Wg)]/\
  (v=0->∃m,akz P AT (RM ty Wg) (DM Wg) (oE P ty Wg (qS P ty Wg Nx)) m g' w)/\(v≠0->∃m,akz P AT (RM ty Wg) (DM Wg) (xW P ty Wg a Nx v) m g' w)
end
def wQ(L:WgLink)(Wg:Nat)(c:ajs)(cs:List ajs)(g:BE)(w:AS):Prop:=
 ∃T:Array Value,g=G ((base L.wait).at ⟨T,[]⟩ [.code (L7 L),.inLoop (L7 L),.inBlock 0]) (c::cs)/\T.size=84/\T[0]?=an (.pointer (an ⟨Wg,0,ns⟩))/\akp L.tWg Wg w
section
variable[Payload]{Wg:Nat}{b₀:ajs}{a₀:Act}{ops₀:Array Oper}{i₀:Nat}{rest₀:List Nat}{k₀:List Item}{cs:List ajs}
def zJ{P:NO}(H:WgLib P L)(w:AS)(hF:akp L.tWg Wg w):
  akz P AT (RM L.tWg Wg) (DM Wg) (mM P L.tWg Wg (wQ L Wg (b₀.at a₀ (.inRegion ops₀ (i₀::rest₀)::k₀)) cs)) 3
   (G ((base L.wait).at ⟨#[.pointer (an ⟨Wg,0,ns⟩),undef,undef,undef,undef,undef,undef,undef,undef,undef,undef,undef,undef,undef,undef,undef,undef,undef,undef,undef,undef,undef,undef,undef,undef,undef,undef,undef,undef,undef,undef,undef,undef,undef,undef,undef,undef,undef,undef,undef,undef,undef,undef,undef,undef,undef,undef,undef,undef,undef,undef,undef,undef,undef,undef,undef,undef,undef,undef,undef,undef,undef,undef,undef,undef,undef,undef,undef,undef,undef,undef,undef,undef,undef,undef,undef,undef,undef,undef,undef,undef,undef,undef,undef],[]⟩ [.code (body_wait L)]) (b₀.at a₀ (.inRegion ops₀ (i₀::rest₀)::k₀)::cs)) w:=by
 simp only[body_wait,waitFn,ajG];refine go_dm ?_;u_c stepG_seq rm hF
 u_cond true rm hF
 u_reg rm hF
 refine fc λw₁ h₁=>?_;replace hF:=rm hF h₁;refine⟨rfl,_,stepG_mark0 .disable aj rfl rfl gh rfl H.f_disable (x_disable_n L) (x_disable_b L) (x_disable_x L) (x_disable_f L),3,?_⟩;refine go_dm ?_;u_c Kx rm hF;u_c stepG_block rm hF;u_c stepG_loop rm hF;exact fc (λb a=>⟨_,rfl,aj,aj,rm hF a⟩)
def Oz{P:NO}(H:WgLib P L)(g:BE)(w:AS)(h:wQ L Wg (b₀.at a₀ (.inRegion ops₀ (i₀::rest₀)::k₀)) cs g w):
  ∃m,akz P AT (RM L.tWg Wg) (DM Wg) (je P L.tWg Wg (wQ L Wg (b₀.at a₀ (.inRegion ops₀ (i₀::rest₀)::k₀)) cs) (tA (b₀.at (a₀.put ((ops₀[i₀]?).bind (·.dst)) (.tuple #[])) (.inRegion ops₀ rest₀::k₀)) cs)) m g w:=by
 lib_facts
 obtain⟨T,rfl,k,t0,hF⟩:=h;obtain⟨v0,v1,v2,v3,v4,v5,v6,v7,v8,v9,v10,v11,t,u,x,y,z,A,B,C,v20,D,E,F,G,I,J,K,N,Q,v30,R,V,W,X,Z,v36,v37,v38,v39,v40,v41,v42,v43,v44,v45,v46,v47,v48,v49,v50,v51,v52,v53,v54,v55,v56,v57,v58,v59,v60,v61,v62,v63,v64,v65,v66,v67,v68,v69,v70,v71,v72,v73,v74,v75,v76,v77,v78,v79,v80,v81,v82,v83,rfl⟩:=array84 T k;simp only[List.getElem?_toArray,List.getElem?_cons_zero,Option.some.injEq] at t0;subst t0;refine⟨30,?_⟩;simp only[L7,body_wait,waitFn,ajG];refine go_dm ?_;u_c stepG_block rm hF;u_c stepG_seq rm hF
 u_reg rm hF
 u_op rm hF;u_op rm hF;u_op rm hF
 u_call H.f_uLoad (nm_uLoad L) uLoadFn rm hF
 u_c stepG_seq rm hF
 u_reg rm hF
 u_op rm hF;u_c Kx rm hF;u_c stepG_seq rm hF
 u_reg rm hF
 u_op rm hF;u_op rm hF;u_op rm hF;refine fc λw₁ h₁=>?_;replace hF:=rm hF h₁;clear h₁;refine⟨rfl,λv hv hw=>?_⟩;rcases jJ v with rfl|hvp
 ·replace hw:WgAt L.tWg Wg w₁ 0 0:=by simpa using hw
  refine⟨_,stepG_load_atomic (v:=0) rfl rfl gh rfl H.f_loadU64 (x_loadU64_n L) (x_loadU64_b L) (x_loadU64_x L) .u64 (x_loadU64_f L) rfl hw.cellSt,λ_=>⟨50,?_⟩,λh=>absurd rfl h⟩;clear hw
  walk_nrm
  refine go_dm ?_;u_op rm hF;u_c Kx rm hF;u_c amc rm hF
  u_leave1 H.f_uLoad rm hF
  u_op rm hF;u_c Kx rm hF;u_c stepG_seq rm hF
  u_reg rm hF
  u_op rm hF;u_op rm hF;u_op rm hF;u_op rm hF;u_c Kx rm hF;u_c stepG_seq rm hF
  u_reg rm hF
  u_op rm hF;u_op rm hF;u_op rm hF;u_op rm hF;u_c Kx rm hF;u_c stepG_seq rm hF;u_c stepG_seq rm hF
  u_reg rm hF
  u_op rm hF;u_op rm hF;u_c Kx rm hF
  u_cond true rm hF
  u_c stepG_seq rm hF
  u_cond true rm hF
  u_c stepG_seq rm hF
  u_reg rm hF
  refine fc λl a=>?_;replace hF:=rm hF a;clear a;refine⟨rfl,_,stepG_mark0 .enable aj rfl rfl gh rfl H.f_enable (x_enable_n L) (x_enable_b L) (x_enable_x L) (x_enable_f L),12,?_⟩
  walk_nrm
  refine go_dm ?_;u_c Kx rm hF
  u_reg rm hF
  u_op rm hF
  u_conv H.underlying_tWgP H.room_tWg (WgLive.cell0 hF).choose_spec rm hF
  refine fc λo b=>?_;replace hF:=rm hF b;clear b;refine⟨rfl,_,stepG_markAt .acquire aj rfl rfl gh rfl H.f_acquire (x_acquire_n L) (x_acquire_b L) (x_acquire_x L) (x_acquire_f L) (by simp[Act.eval,stA]),30,?_⟩
  walk_nrm
  refine go_dm ?_;u_c Kx rm hF;u_c stepG_seq rm hF;u_c stepG_seq rm hF
  u_reg rm hF
  u_op rm hF;u_op rm hF;u_op rm hF;u_op rm hF;u_op rm hF;u_op rm hF;u_op rm hF;u_op rm hF
  u_skip rm hF
  u_skip rm hF
  exact Ls
 ·obtain⟨S,hS⟩:∃S:Int,(v:Int)*KK=S:=⟨_,rfl⟩;have a1:S/4294967296=(v:Int):=by rw[<-hS];simp only[KK];omega
  have b1:bits .and .u64 S 2147483648=0:=by rw[<-hS];have:=st_flag v 0 (by omega) (by omega);simpa[KK] using this
  have b2:bits .and .u64 S 2147483647=0:=by rw[<-hS];have:=st_waiters v 0 (by omega) (by omega);simpa[KK] using this
  have c1:IntKind.i32.wrap (v:Int)=(v:Int):=by rw[IntKind.wrap_i32];omega
  have w1:akn.wrap (S+1)=S+1:=by rw[IntKind.wrap_u64,<-hS];simp only[KK];omega
  have q3:decide ((v:Int)<0)=Bz:=decide_eq_false aa;have q4:decide (0<(v:Int))=AT:=decide_eq_true aa;have q5:((v:Int)==0)=Bz:=aA;have q6:decide ((v:Int)=0)=Bz:=decide_eq_false aa;rw[hS] at hw;refine⟨_,stepG_load_atomic (v:=S) rfl rfl gh rfl H.f_loadU64 (x_loadU64_n L) (x_loadU64_b L) (x_loadU64_x L) .u64 (x_loadU64_f L) rfl hw.cellSt,λh0=>absurd h0 aa,λ_=>⟨60,?_⟩⟩;clear hw
  walk_nrm
  refine go_dm ?_;u_op rm hF;u_c Kx rm hF;u_c amc rm hF
  u_leave1 H.f_uLoad rm hF
  u_op rm hF;u_c Kx rm hF;u_c stepG_seq rm hF
  u_reg rm hF
  u_op rm hF;u_op rm hF;u_op rm hF;u_op rm hF;u_c Kx rm hF;u_c stepG_seq rm hF
  u_reg rm hF
  u_op rm hF;u_op rm hF;u_op rm hF;u_op rm hF;u_c Kx rm hF;u_c stepG_seq rm hF;u_c stepG_seq rm hF
  u_reg rm hF
  u_op rm hF;u_op rm hF;u_c Kx rm hF
  u_cnd Bz rm hF
  u_c akE rm hF;u_c stepG_seq rm hF
  u_reg rm hF
  u_op rm hF;u_op rm hF;u_op rm hF;u_op rm hF;u_op rm hF;u_op rm hF
  u_call H.f_uCas (nm_uCas L) uCasFn rm hF
  u_c stepG_seq rm hF
  u_reg rm hF
  u_op rm hF;u_c Kx rm hF;u_c stepG_seq rm hF
  u_reg rm hF
  u_op rm hF;u_op rm hF;u_op rm hF;u_op rm hF;u_op rm hF;refine fc λp d=>?_;replace hF:=rm hF d;clear d;refine⟨rfl,λv' pF hw=>⟨λe=>?_,λe=>?_⟩⟩
  ·subst e;rw[hS] at hw⊢;refine⟨_,(stepG_cas_hit (v:=S) (n:=S+1) rfl rfl gh rfl H.f_casU64 (x_casU64_n L) (x_casU64_b L) (x_casU64_x L) .u64 (x_casU64_f L) rfl rfl rfl hw.cellSt (hw.thaw 0)).trans aD,70,?_⟩;replace hF:akp L.tWg Wg (p.setCell (stA Wg) (.int .u64 (S+1))):=⟨_,_,hw.setSt _⟩;clear hw
   walk_nrm
   refine go_seq (n:=38) (M:=32) ?_;u_op rm hF;u_c Kx rm hF;u_c amc rm hF
   u_leave1 H.f_uCas rm hF
   u_c Kx rm hF
   u_cond true rm hF
   u_c stepG_seq rm hF;u_c stepG_seq rm hF
   u_reg rm hF
   u_op rm hF;u_op rm hF;u_op rm hF;u_op rm hF;u_c Kx rm hF
   u_cond true rm hF
   u_reg rm hF
   u_op rm hF;u_op rm hF;u_op rm hF
   u_conv H.underlying_tPU32 H.room_tU32 (WgLive.cell1 hF).choose_spec rm hF
   refine fc λr f=>?_;replace hF:=rm hF f;clear f
   u_in rm hF
   rw[stepG_markAt .write aj rfl rfl gh rfl H.f_raceWrite (x_raceWrite_n L) (x_raceWrite_b L) (x_raceWrite_x L) (x_raceWrite_f L) (ad:=⟨_,1,ns⟩) (by simp[Act.eval]<;>rfl)];simp only[goes_go];refine⟨⟨rfl,λe he=>?_⟩,?_⟩
   ·rw[Array.mem_singleton] at he;subst he;exact⟨_,rfl,.inr rfl⟩
   walk_nrm
   refine go_dm ?_;u_c Kx rm hF;u_c stepG_seq rm hF
   u_reg rm hF
   u_op rm hF;u_c Kx rm hF;u_c stepG_seq rm hF;u_c stepG_seq rm hF
   u_reg rm hF
   u_op rm hF;u_op rm hF;u_op rm hF;u_op rm hF
   u_skip rm hF
   u_op rm hF;u_c Kx rm hF
   u_cond false rm hF
   u_c akE rm hF;u_c stepG_seq rm hF
   u_reg rm hF
   u_op rm hF;u_op rm hF;u_op rm hF;u_op rm hF;refine fc λi c=>?_;replace hF:=rm hF c;clear c;refine⟨rfl,rfl,λ⟨st,hw⟩=>stepG_semacquire_wait rfl rfl rfl H.f_semacquire (x_semacquire_n L) (x_semacquire_b L) (x_semacquire_x L) (x_semacquire_f L) (by simp[Act.eval,smA]) hw.cellSm,λq=>?_⟩;refine⟨_,(stepG_semacquire (n:=1) rfl rfl gh rfl H.f_semacquire (x_semacquire_n L) (x_semacquire_b L) (x_semacquire_x L) (x_semacquire_f L) (by simp[Act.eval,smA]) q.cellSm gh (q.thaw 1)).trans aD,30,?_⟩;replace hF:akp L.tWg Wg (i.setCell (smA Wg) (.int .u32 0)):=⟨_,_,q.setSm 0⟩;clear q
   walk_nrm
   refine go_dm ?_;u_c Kx rm hF;u_c stepG_seq rm hF
   u_reg rm hF
   u_op rm hF;u_op rm hF;u_op rm hF
   u_call H.f_uLoad (nm_uLoad L) uLoadFn rm hF
   u_c stepG_seq rm hF
   u_reg rm hF
   u_op rm hF;u_c Kx rm hF;u_c stepG_seq rm hF
   u_reg rm hF
   u_op rm hF;u_op rm hF;u_op rm hF;refine fc λs j=>?_;replace hF:=rm hF j;clear j;refine⟨rfl,λhw=>⟨_,stepG_load_atomic (v:=0) rfl rfl gh rfl H.f_loadU64 (x_loadU64_n L) (x_loadU64_b L) (x_loadU64_x L) .u64 (x_loadU64_f L) rfl hw.cellSt,30,?_⟩⟩;clear hw
   walk_nrm
   refine go_dm ?_;u_op rm hF;u_c Kx rm hF;u_c amc rm hF
   u_leave1 H.f_uLoad rm hF
   u_op rm hF;u_op rm hF;u_c Kx rm hF;u_c stepG_seq rm hF
   u_cond true rm hF
   u_c stepG_seq rm hF
   u_reg rm hF
   refine fc λl a=>?_;replace hF:=rm hF a;clear a;refine⟨rfl,_,stepG_mark0 .enable aj rfl rfl gh rfl H.f_enable (x_enable_n L) (x_enable_b L) (x_enable_x L) (x_enable_f L),12,?_⟩
   walk_nrm
   refine go_dm ?_;u_c Kx rm hF
   u_reg rm hF
   u_op rm hF
   u_conv H.underlying_tWgP H.room_tWg (WgLive.cell0 hF).choose_spec rm hF
   refine fc λo b=>?_;replace hF:=rm hF b;clear b;refine⟨rfl,_,stepG_markAt .acquire aj rfl rfl gh rfl H.f_acquire (x_acquire_n L) (x_acquire_b L) (x_acquire_x L) (x_acquire_f L) (by simp[Act.eval,stA]),20,?_⟩
   walk_nrm
   refine go_dm ?_;u_c Kx rm hF;u_c stepG_seq rm hF;u_c stepG_seq rm hF
   u_reg rm hF
   exact Ls
  ·refine⟨_,stepG_cas_miss (v:=(v':Int)*KK) (old:=S) (n:=S+1) rfl rfl gh rfl H.f_casU64 (x_casU64_n L) (x_casU64_b L) (x_casU64_x L) .u64 (x_casU64_f L) rfl rfl rfl hw.cellSt (hw.thaw 0) (by rw[<-hS];simp only[KK];omega),20,?_⟩;clear hw
   walk_nrm
   refine go_dm ?_;u_op rm hF;u_c Kx rm hF;u_c amc rm hF
   u_leave1 H.f_uCas rm hF
   u_c Kx rm hF
   u_cond false rm hF
   u_c akE rm hF;u_c stepG_inBlock rm hF;u_c stepG_inLoop rm hF;exact fc (λi c=>⟨_,rfl,aj,aj,rm hF c⟩)
end
end
end Go.Proofs.Q0.Wg
namespace Go.Proofs.Q0.aL
variable{w':AS}{a:BE}{f0:Nat}
section
open Go.Conc
open Go.ConcN (CTag WgLive WD)
open Go.ConcR (KK WgAt stA smA rd wr mk again_blocked)
open Wg (RM DM mM oE qS je xW uz xV)
section
variable(P:NO)(ty:TO)(Wg:Nat)(fd Nx:BE->AS->Prop)
inductive CW:CTag->Nat->Nat->BE->AS->Prop
 |kd {m:Nat} {g:BE} {w:AS}:akz P AT (RM ty Wg) (DM Wg) (mM P ty Wg fd) m g w->CW .kd m 0 g w
 |anch {m:Nat} {g:BE} {w:AS}:akz P AT (RM ty Wg) (DM Wg) fd m g w->CW .anch m 1 g w
 |w1 {m:Nat} {g:BE} {w:AS}:akz P AT (RM ty Wg) (DM Wg) (je P ty Wg fd Nx) m g w->CW .w1 m 1 g w
 |w2 {vs m:Nat} {g:BE} {w:AS}:akz P AT (RM ty Wg) (DM Wg) (xW P ty Wg fd Nx vs) m g w->CW (.w2 vs) m 1 g w
 |w3 {m:Nat} {g:BE} {w:AS}:akz P AT (RM ty Wg) (DM Wg) (uz P ty Wg Nx) m g w->CW .w3 (m+1) 1 g w
 |blk {g:BE} {w:AS}:(∀w₁,RM ty Wg w w₁->uz P ty Wg Nx g w₁)->CW .blk 0 1 {g with status:=.blocked} w
 |w4 {m:Nat} {g:BE} {w:AS}:akz P AT (RM ty Wg) (DM Wg) (xV P ty Wg Nx) m g w->CW .w4 m 1 g w
 |ke {m:Nat} {g:BE} {w:AS}:akz P AT (RM ty Wg) (DM Wg) (oE P ty Wg (qS P ty Wg Nx)) m g w->CW .ke m 1 g w
 |acq {m:Nat} {g:BE} {w:AS}:akz P AT (RM ty Wg) (DM Wg) (qS P ty Wg Nx) m g w->CW .acq m 0 g w
 |ret {m:Nat} {g:BE} {w:AS}:akz P AT (RM ty Wg) (DM Wg) Nx m g w->CW .ret m 0 g w
end
section
variable{P:NO}{ty:TO}{Wg:Nat}{fd Nx:BE->AS->Prop}{tag:CTag}{f d:Nat}{a:BE}{w w':AS}
def CW.rely(h:CW P ty Wg fd Nx tag f d a w)(hr:RM ty Wg w w'):CW P ty Wg fd Nx tag f d a w':=by have b:=RM.trans ty Wg;cases h with|kd h=>exact .kd (jK b h hr)|anch h=>exact .anch (jK b h hr)|w1 h=>exact .w1 (jK b h hr)|w2 h=>exact .w2 (jK b h hr)|w3 h=>exact .w3 (jK b h hr)|blk h=>exact .blk (λc e=>h c (b _ _ _ hr e))|w4 h=>exact .w4 (jK b h hr)|ke h=>exact .ke (jK b h hr)|acq h=>exact .acq (jK b h hr)|ret h=>exact .ret (jK b h hr)
variable(ws:∀g w,fd g w->g.status=.running)(t7:∀g w,Nx g w->g.status=.running)
include ws t7
def CW.status(h:CW P ty Wg fd Nx tag f d a w):(a.status=.running/\tag≠.blk)\/(a.status=.blocked/\tag=.blk):=by have b:=RM.refl ty Wg w;cases h with|kd h=>exact .inl ⟨ic (λ_ _ x=>x.1) w b h,aj⟩|anch h=>exact .inl ⟨ic ws w b h,aj⟩|w1 h=>exact .inl ⟨ic (λ_ _ x=>x.1) w b h,aj⟩|w2 h=>exact .inl ⟨ic (λ_ _ x=>x.1) w b h,aj⟩|w3 h=>exact .inl ⟨ic (λ_ _ x=>x.1) w b h,aj⟩|blk h=>exact .inr ⟨rfl,rfl⟩|w4 h=>exact .inl ⟨ic (λ_ _ x=>x.1) w b h,aj⟩|ke h=>exact .inl ⟨ic (λ_ _ x=>x.1) w b h,aj⟩|acq h=>exact .inl ⟨ic (λ_ _ x=>x.1) w b h,aj⟩|ret h=>exact .inl ⟨ic t7 w b h,aj⟩
theorem CW.wokenBy(h:CW P ty Wg fd Nx tag f d a w)(hr:RM ty Wg w w')(g g':BE):
  ∃tag' f',CW P ty Wg fd Nx tag' f' d (woken P g g' w' a) w'/\f'<=f+1/\(tag'=tag\/(tag=.blk/\tag'=.w3))/\(mayWake P g=AT->g'.status=.running->tag'≠.blk):=by
 have b:=h.rely hr;unfold Go.Conc.woken;split
 ·rcases b.status ws t7 with⟨k,c⟩|⟨_,rfl⟩
  ·exact⟨tag,f,by rw[again_running _ (.inl k)];exact b,aa,.inl rfl,λ_ _=>c⟩
  ·cases b with
   |blk e=>have i:=e w' (RM.refl ty Wg w');exact⟨.w3,0+1,by rw[again_blocked i.1 i.2.1];exact .w3 (fc e),aa,.inr ⟨rfl,rfl⟩,λ_ _=>aj⟩
 ·grind
end
end
section
variable[ag]
open Go.Conc
open Go.ConcN (upd WgLive CTag WD cnt Vc Vc_le pend isOpen isW3 isFin phi bk_cell allQuit_of RelBy)
open Go.ConcR (KK WgAt stA smA rd wr mk Payload Bk g_of_ofEvents)
open Wg (RM DM mM oE qS je xW uz xV)
section
variable{P:NO}[Payload]{S:cJ}{L:bY}{J:dC}{j:Nat}{D:Nat->WS}{M:Nat->Prop}{gs:Array BE}{w:AS}{t:akt}{q:Nat->Nat}{d0:Nat}{fd Nx:BE->AS->Prop}
def wR(P:NO)(S:cJ)(L:bY)(J:dC)(j:Nat)(D:Nat->WS)(M:Nat->Prop)(gs:Array BE)(w:AS)(t:akt)(q:Nat->Nat)(d0:Nat)(fd Nx:BE->AS->Prop)(a:BE)(tag:CTag)(f0:Nat):Prop:=
 ∃(a':BE)(w':AS)(es:Array akh)(tag':CTag)(f':Nat)(b c:Int),ajM P.two AT a w=.go a' w' es/\
  Com P S L J j D M ((gs.map (woken P.two a a' w')).setIfInBounds 0 a') w' (t++ajn 0 a.frame.fn a.frame.place es) q (aka d0 es)/\CW P.two J.ty L.Wg fd Nx tag' f' (aka d0 es) a' w'/\WgAt J.ty L.Wg w' b c/\
  ajY j (wd D) tag' b c/\(tag'=.ret->AcqAll L j (t++ajn 0 a.frame.fn a.frame.place es))/\
  (phi j (Vc j (wd D)) tag'<phi j (Vc j (wd D)) tag\/(phi j (Vc j (wd D)) tag'=phi j (Vc j (wd D)) tag/\f'<f0))/\alk L.Wg w w'
def qg{e:akh}(h:Bk L.Wg e):ml L e:=.inl (Ox h)
def SD{es:Array akh}(h:DM L.Wg w w' es):w'=w/\(∀e∈es,ml L e)/\∀d,aka d es=d:=by refine⟨h.1,λe he=>.inr (.inr (h.2 e he)),λd=>Go.ConcN.deafBehind_idle (λe he=>?_) d⟩;obtain⟨a,_,rfl|rfl⟩:=h.2 e he<;>exact⟨λe=>cB,λe=>cB⟩
def idle0(h:Com P S L J j D M gs w t q d0){st sm:Int}{tag:CTag}{f':Nat}{a':BE}{es:Array akh}(c:WgAt J.ty L.Wg w st sm)(b:ajY j (wd D) tag st sm)(i:tag=.ret->AcqAll L j t)
  (l:ajM P.two AT a w=.go a' w' es)(n:DM L.Wg w w' es)(m:CW P.two J.ty L.Wg fd Nx tag f' d0 a' w')(o:f'<f0):wR P S L J j D M gs w t q d0 fd Nx a tag f0:=by
 obtain⟨rfl,p,s⟩:=SD n;exact⟨a',w',es,tag,f',st,sm,l,h.xg (.refl L.Wg w') ⟨st,sm,c⟩ p,by rw[s];exact m,c,b,λe=>(i e).app λk r _ u=>zv u akP (by have:=h.lay.c0;omega),.inr ⟨rfl,o⟩,.refl L.Wg _⟩
def book0(h:Com P S L J j D M gs w t q d0){b c:Int}{tag tag':CTag}{f':Nat}{a':BE}{es:Array akh}(m:ajM P.two AT a w=.go a' w' es)(l:alk L.Wg w w')(k:WgAt J.ty L.Wg w' b c)(n:∀e∈es,ml L e)
  (o:CW P.two J.ty L.Wg fd Nx tag' f' (aka d0 es) a' w')(i:ajY j (wd D) tag' b c)(p:tag'≠.ret)(r:phi j (Vc j (wd D)) tag'<phi j (Vc j (wd D)) tag):wR P S L J j D M gs w t q d0 fd Nx a tag f0:=
 ⟨a',w',es,tag',f',b,c,m,h.xg l ⟨b,c,k⟩ n,o,k,i,λe=>absurd e p,.inl r,l⟩
def RL(h:Com P S L J j D M gs w t q 1){st sm:Int}(A:j<2147483648)(c:WgAt J.ty L.Wg w st sm)(b:ajY j (wd D) .w1 st sm)
  (v:akz P.two AT (RM J.ty L.Wg) (DM L.Wg) (je P.two J.ty L.Wg fd Nx) f0 a w):wR P S L J j D M gs w t q 1 fd Nx a .w1 f0:=by
 rcases iR v with k|⟨B,rfl,l⟩
 ·obtain⟨_,m⟩:=k w (RM.refl _ _ w);obtain⟨x,rfl,rfl,_⟩:=b.open_inv trivial;have C:=Vc_le j (wd D);obtain⟨y,i,h0,r⟩:=m (Vc j (wd D)) aa (by simpa[pend] using c);have n:∀e∈#[rd (stA L.Wg)],ml L e:=C5;by_cases p:Vc j (wd D)=0
  ·obtain⟨o,s⟩:=h0 p;refine book0 h i (.refl L.Wg w) c n (tag':=.ke) (.ke s) ?_ aj mQ;have e:((Vc j (wd D)+pend .w1:Nat):Int)*KK=0:=by rw[p];simp[pend]
   rw[e];exact .fin trivial (allQuit_of x p)
  ·obtain⟨o,s⟩:=r p;exact book0 h i (.refl L.Wg w) c n (tag':=.w2 (Vc j (wd D))) (.w2 s) (b.reopen trivial trivial rfl λE e=>by cases e;omega) aj mQ
 ·obtain⟨y,w',es,i,z,u⟩:=l w (RM.refl _ _ w);exact idle0 h c b aj i z (.w1 u) aa
end
end
end Go.Proofs.Q0.aL
