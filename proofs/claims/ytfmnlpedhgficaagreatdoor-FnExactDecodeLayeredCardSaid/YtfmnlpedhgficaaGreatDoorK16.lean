import Derived.Test.YtfmnlpedhgficaaGreatDoorK15
import Derived.Conc.Beside
import Derived.Conc.CrowdCom2
set_option maxRecDepth 100000
set_option maxHeartbeats 8000000
set_option linter.all false
open Go.Value renaming int->U,slice->Y,bool->a5,agg->a9,pointer->bi,tuple->ci,iface->em
open Go.IntKind renaming i64->O
open Go.Obj renaming cells->ac
open Go.Ending renaming returned->be
open Array renaming getElem?_map->ald,getElem?_setIfInBounds_ne->ajp
open Go renaming Event->akh,Frame->ajs,Goroutine->BE,Program->NO,Trace->akt,Value->so,World->AS,stepG->ajM
open Go.Conc renaming Deaf_other->alV,getElem?_append_cases->alv
open Go.ConcN renaming upd->TE,upd_same->ajP
open Go.MemAct renaming ofEvent->ajI,touch?->alR
open Go.MemOp renaming ofEvents->ajn
open Option renaming none->ns,some->an
namespace Go.Proofs
abbrev j9:=@Go.Conc.mem_ofEvents
def Lj{p:Prop}(h:p:=by rw[Array.getElem?_setIfInBounds_ne aa,Array.getElem?_map] at hx;obtain⟨y,hy,rfl⟩:=j6.1 hx;have hq:=h.lv.old j y hj hy;rw[woken_quitsD hq,Deaf_other t aa _ hg];exact hq):p:=h
def Lk{p:Prop}(h:p:=by rw[tE] at hj;rw[Deaf_other t (g':=0) (by have:=h.pos;omega) _ hg];exact h.lv.above j hj):p:=h
def C3{p:Prop}(h:p:=by rw[Go.Conc.touchAt_of pC];exact pu):p:=h
abbrev vC:=@Go.MemAct.low_mono
abbrev zD:=@Array.mem_iff_getElem
abbrev jJ:=@Nat.eq_zero_or_pos
def My{p:Prop}(h:p:=by exact⟨0,gs,a,w,sl,t,q,φ,x.1,x.2,rfl,rfl,h0,O',hW,.inl rfl,.refl _ _ _ _,av _,hA,hl,hD⟩):p:=h
def Mz{p:Prop}(h:p:=by
  obtain rfl:g=a:=by rw[h0] at hi;exact(aJ hi).symm
  obtain⟨g1,wg1,ψ,a1,w1,es,hn,Jh,hs,Cs,hR,cM,hev⟩:=Pn (m:=true) hB hC hz hG hF (hD.at d) hW (λh=>hl (.inl h)) λh=>hl (.inr h);have GX:=runT_crowd_go (P:=P.two) (sl:=qr) (i:=0) hi (show stepG P.two (0==0) g (w.at d)=_ from hs);have Ct:=hA.next O'.shl hR.fresh
  have hH:HR K ψ wg1.heap w1.heap:=by obtain⟨_,_,_,_,_,_,_,_,h,_⟩:=Cs;exact h
  have P':=O'.step0 (a:=g) (a':=a1) (w':=w1) (fn:=g.frame.fn) (pos:=g.frame.place) hH hR.left.size hev Ct;have tJ:=O'.pos;obtain⟨N,IR,a',w',GY,t',q',χ,g',ux,y1,y2,y3,y4,y5,y6,y7,y8,y9,y10⟩:=ih _ hn (sumTo ((gs.map (woken P.two g a1 w1)).setIfInBounds 0 a1).size q) _ a1 w1 qr _ q ψ (av _) Jh Cs P' (by simp[tJ]) Ct;exact⟨N+1,IR,a',w',GY,t',q',χ,g',ux,by simp only[runNT,f9,GX];exact y1,y2.trans aj,y3,y4,y5,y6.then hn,hR.q.at.trans y7 cM,aI cM y8,y9,y10⟩):p:=h
def Ll{p:Prop}(h:p:=by have aV:=(bE.1 hi).1;have hle:=Go.ConcN.le_sumTo (f:=q) aV;have I':q i=0:=aa;rw[I'] at hq;rw[hq.1] at hg;cases hg):p:=h
def yX{p:Prop}(h:p:=by rw[ur];exact BU (w.at d)):p:=h
def DG{p:Prop}(h:p:=by have:=sumTo_upd q k id aV;simpa[I'] using this):p:=h
def Lm{p:Prop}(h:p:=by
  subst e;cases h3 with
  |own _ h=>exact absurd ht h
  |shut _ _ h=>exact absurd ht h):p:=h
abbrev pR:=@Nat.not_lt
def MA{p:Prop}(h:p:=by have:=congrArg (λg:Goroutine=>g.callers.length) e0;simp[G] at this;exact this):p:=h
end Go.Proofs
namespace Go.Proofs.Q0.aL
variable{h':Array Obj}{c k b:Nat}{w wg:AS}{q:Nat->Nat}{a g:BE}{gs:Array BE}{x y:BE×AS}{E:Nat->Bool}{o:Obj}{v:so}{t:TypeId}{fs:Array Func}{B:List ajs}
section
variable[ag]
open Go.Conc (G Leavers QuitsD crowd woken Deaf touchAt crowd_pick runT_crowd_go awake_of awake woken_quitsD woken_run Deaf_other Deaf_own getElem?_append_cases touch_of handedOver_app)
open Go.ConcN (CT Apart Ok0 OkW sumTo upd sumTo_upd upd_same upd_ne)
def uy:Nat->Loc->Prop:=λ_ _=>False
omit [ag] in
def Fa(Sh:Loc->Prop):Apart Sh uy uy:=⟨λ_ _ _ h=>h.elim,λ_ _ _ h=>h.elim,λ_ _ h=>h.elim,λ_ _ h=>h.elim⟩
structure dT(P:NO)(Sh:Loc->Prop)(gs:Array BE)(w:AS)(t:akt)(q:Nat->Nat):Prop where
 lv:Leavers P t gs q
 ct:CT Sh uy uy t (gs.size-1)
 pos:0<gs.size
 plain:∀i x,touchAt t i=an x->¬Sh x.loc->x.loc.isMemory=true->x.kind=.plain
 over:t.HandedOver
 hears:Deaf t 0=0
 low:∀op∈t,op.act.low w.heap.size
 shl:∀l,Sh l->∃a,l=.cell a/\a.block<w.heap.size
def bI(c:Nat)(l:Loc):Prop:=(∃a,l=.cell a/\a.block=c)\/l=.obj c
section
variable{P:NO}{K:aH}{ψ:Ren}
def zW{e:akh}(h:gJ K ψ e){x:Touch}(d:(ajI e).touch?=an x):x.kind=.plain/\∃b c,ψ b=an c/\bI c x.loc/\(x.write=true->¬K.ro b/\¬K.tok b):=by
 obtain⟨s,wr,u⟩:=e;rcases h with⟨a,b,h1,i,n,l,p⟩|⟨r,b,h1,i,n,l⟩|⟨m,h1,hq⟩
 ·simp only at h1 i p;subst h1;subst i;simp only[ajI,alR,Option.some.injEq] at d;subst d;exact⟨rfl,b,a.block,n,.inl ⟨a,rfl,rfl⟩,λhw=>⟨p hw,l⟩⟩
 ·simp only at h1 i l;subst h1;subst i;have e:(ajI ⟨.obj r,wr,false⟩).touch?=an ⟨.obj r,wr,.plain⟩:=by cases wr<;>rfl
  rw[e] at d;cases d;exact⟨rfl,b,r,n,.inr rfl,λhw=>⟨(l hw).2,(l hw).1⟩⟩
 ·simp only at h1;subst h1;rcases hq with rfl|⟨f,rfl⟩<;>simp[ajI,alR] at d
def RI{e:akh}{h:Array Obj}(H:HR K ψ h h')(he:gJ K ψ e):(ajI e).low h'.size:=by
 obtain⟨l,wr,p⟩:=e;rcases he with⟨a,b,h1,d,i,n,s⟩|⟨r,b,h1,d,i,n⟩|⟨m,h1,hq⟩
 ·simp only at h1 d;subst h1;exact(H.lt i).2
 ·simp only at h1 d;subst h1;subst d;have e:ajI ⟨.obj r,wr,false⟩=.access ⟨.obj r,wr,false⟩:=by cases wr<;>rfl
  rw[e];exact(H.lt i).2
 ·simp only at h1;subst h1;rcases hq with rfl|⟨f,rfl⟩<;>trivial
def Po{e:akh}(h:gJ K ψ e):e.loc≠.mark .disable/\e.loc≠.mark .enable:=by rcases h with⟨a,b,h1,_⟩|⟨r,b,h1,_⟩|⟨m,h1,rfl|⟨f,rfl⟩⟩<;>rw[h1]<;>exact⟨λe=>cB,λe=>cB⟩
omit [ag] in
theorem acH{Sh:Loc->Prop}(d:∀l,Sh l->∃a,l=.cell a/\a.block<w.heap.size)(hc:w.heap.size<=c){l:Loc}(f:bI c l):¬Sh l:=by
 intro h;obtain⟨a,rfl,i⟩:=d l h;rcases f with⟨m,e,rfl⟩|e
 ·grind
 ·cases e
def lD(Sh:Loc->Prop)(ψ:Ren):Prop:=∀b c,ψ b=an c->∀l,bI c l->¬Sh l
omit [ag] in
def lD.next{Sh:Loc->Prop}{φ:Ren}{n:Nat}(h:lD Sh φ)(e:∀l,Sh l->∃a,l=.cell a/\a.block<w.heap.size)(f:∀b c,ψ b=an c->φ b=an c\/(n<=b/\w.heap.size<=c)):lD Sh ψ:=by
 intro b c hb l d;rcases f b c hb with h1|⟨_,h1⟩
 ·exact h b c h1 l d
 ·exact acH e h1 d
def dT.step0{Sh:Loc->Prop}{a':BE}{w':AS}{t:akt}{d:Array akh}{fn:FuncId}{pos:String}{h0:Array Obj}(h:dT P Sh gs w t q)(s:HR K ψ h0 w'.heap)(n:w.heap.size<=w'.heap.size)(hd:∀e∈d,gJ K ψ e)(r:lD Sh ψ):
  dT P Sh ((gs.map (woken P a a' w')).setIfInBounds 0 a') w' (t++ajn 0 fn pos d) q:=by
 have f:∀op∈ajn 0 fn pos d,∃e∈d,op={g:=0,fn,pos,act:=.ofEvent e}:=λop f=>j9 f;have hg:∀op∈ajn 0 fn pos d,op.g=0:=λop h=>by obtain⟨e,_,rfl⟩:=f op h;rfl
 have tE:((gs.map (woken P a a' w')).setIfInBounds 0 a').size=gs.size:=aj;refine⟨⟨λj x hj hx=>?_,λj hj=>?_⟩,?_,by rw[tE];exact h.pos,λi x hx u hm=>?_,handedOver_app h.over λop m=>.inl (hg op m),?_,λop m=>?_,λl z=>?_⟩
 ·exact Lj
 ·exact Lk
 ·rw[tE];refine h.ct.app0 (Fa Sh) λop m=>?_;obtain⟨e,he,rfl⟩:=f op m;refine⟨rfl,λx hx=>.inr ?_⟩;obtain⟨_,b,c,h1,A,_⟩:=zW (hd e he) hx;exact⟨r b c h1 _ A,λ_ _ _ h=>h,λ_ _ _ _ h=>h⟩
 ·obtain⟨op,m,pu⟩:=touch_of hx;rcases alv m with⟨_,pC⟩|⟨_,p⟩
  ·exact h.plain i x C3 u hm
  ·obtain⟨e,he,rfl⟩:=f op p;exact(zW (hd e he) pu).1
 ·rw[Deaf_own,Go.Conc.deafBehind_still λe he=>Po (hd e he)];exact h.hears
 ·rcases j7.1 m with m|m
  ·exact vC n (h.low op m)
  ·obtain⟨e,he,rfl⟩:=f op m;exact RI s (hd e he)
 ·obtain⟨a,e,r⟩:=h.shl l z;exact⟨a,e,aa⟩
def dT.GZ{Sh:Loc->Prop}{g':BE}{t:akt}{d:Array akh}{i n:Nat}(h:dT P Sh gs w t q)(hi:gs[i]?=an g)(W:0<i)(hm:∀e∈d,e.mute=true)
  (C:QuitsD P k (deafBehind (Deaf t i) d) g'):
  dT P Sh ((gs.map (woken P g g' (w.at n))).setIfInBounds i g') (w.at n) (t++ajn i g.frame.fn g.frame.place d) (TE q i k):=by
 have p:∀op∈ajn i g.frame.fn g.frame.place d,∃e∈d,op={g:=i,fn:=g.frame.fn,pos:=g.frame.place,act:=.ofEvent e}:=λop p=>j9 p;have z:∀op∈ajn i g.frame.fn g.frame.place d,op.g=i:=λop h=>by obtain⟨e,_,rfl⟩:=p op h;rfl
 have G:∀op∈ajn i g.frame.fn g.frame.place d,op.act.touch?=ns:=λop h=>by obtain⟨e,he,rfl⟩:=p op h;exact Go.Conc.touch_mute (hm e he)
 have D:=(bE.1 hi).1;have f:((gs.map (woken P g g' (w.at n))).setIfInBounds i g').size=gs.size:=aj;refine⟨⟨λj x A r=>?_,λj A=>?_⟩,?_,by rw[f];exact h.pos,λL x r N F=>?_,handedOver_app h.over λop m=>.inr (G op m),?_,λop m=>?_,λl R=>?_⟩
 ·by_cases s:i=j
  ·subst s;rw[Array.getElem?_setIfInBounds_self_of_lt (by simpa using D)] at r;obtain rfl:=aJ r;rw[ajP,Deaf_own];exact C
  ·rw[ajp s,ald] at r;obtain⟨y,T,rfl⟩:=j6.1 r;have u:=h.lv.old j y A T;rw[woken_quitsD u,upd_ne q k (Ne.symm s),alV t s _ z];exact u
 ·rw[f] at A;rw[alV t (g':=i) aa _ z];exact h.lv.above j A
 ·rw[f];exact h.ct.appW (Fa Sh) aa aa λop m=>⟨z op m,λx r=>by rw[G op m] at r;cases r⟩
 ·obtain⟨op,m,pu⟩:=touch_of r;rcases alv m with⟨_,pC⟩|⟨_,V⟩
  ·exact h.plain L x C3 N F
  ·simp_all
 ·rw[alV t (g':=i) aa _ z];exact h.hears
 ·rcases j7.1 m with m|m
  ·exact h.low op m
  ·obtain⟨e,he,rfl⟩:=p op m;exact Go.Conc.low_mute (hm e he) _
 ·exact h.shl l R
def dT.at{Sh:Loc->Prop}{t:akt}(h:dT P Sh gs w t q)(n:Nat):dT P Sh gs (w.at n) t q:=⟨h.lv,h.ct,h.pos,h.plain,h.over,h.hears,h.low,h.shl⟩
def dT.awake{Sh:Loc->Prop}{t:akt}(h:dT P Sh gs w t q)(h0:gs[0]?=an a)(hr:a.status=.running):∀g∈gs,awake g:=by
 intro g e;obtain⟨i,hi,rfl⟩:=zD.1 e;rcases jJ i with rfl|d
 ·have:gs[0]=a:=by simpa[Array.getElem?_eq_getElem hi] using h0
  rw[this];exact awake_of (.inl hr)
 ·exact awake_of ((h.lv.old i _ d (eQ hi)).status.elim .inl λx=>.inr (.inr x))
end
end
section
variable[ag]
open Go.Conc (G Leavers QuitsD crowd woken Deaf touchAt crowd_pick runT_crowd_go awake_of awake woken_quitsD woken_run Deaf_other Deaf_own)
open Go.ConcN (CT Apart Ok0 OkW sumTo upd sumTo_upd upd_same upd_ne)
inductive fO(P:NO):BE×AS->BE×AS->Prop
 |one {y x:BE×AS}:Nx P y x->fO P y x
 |more {z y x:BE×AS}:Nx P z y->fO P y x->fO P z x
omit [ag] in
def fO.trans{P:NO}{z y x:BE×AS}(h:fO P z y)(k:fO P y x):fO P z x:=by induction h with|one h=>exact .more h k|more h _ d=>exact .more h (d k)
omit [ag] in
def aem{P:NO}(h:Acc (Nx P) x):Acc (fO P) x:=by
 induction h with
 |intro x _ d=>
  refine⟨_,λy e=>?_⟩
  have f:∀{y x:BE×AS},fO P y x->(∀y,Nx P y x->Acc (fO P) y)->Acc (fO P) y:=by
   intro y x e
   induction e with
   |one h=>exactλd=>d _ h
   |more h _ i=>exactλd=>(i d).inv (.one h)
  exact f e d
def fP(P:NO)(y x:BE×AS):Prop:=y=x\/fO P y x
omit [ag] in
def fP.then{P:NO}{z:BE×AS}(h:fP P z y)(k:Nx P y x):fP P z x:=by
 rcases h with rfl|h
 ·exact .inr (.one k)
 ·exact .inr (h.trans (.one k))
section
variable{P:NO}{K:aH}{Q:BE->Array Obj->Prop}{B:List ajs}{Sh:Loc->Prop}
def dK.running{φ:Ren}(h:dK P K B φ g wg a w):a.status=.running:=by obtain⟨fr,d,f,e,rfl,rfl,_⟩:=h;rfl
def dK.at{φ:Ren}(h:dK P K B φ g wg a w)(n:Nat):dK P K B φ g wg a (w.at n):=h
def Y7(hB:dA P)(hC:ee P)(hz:cO P)(hG:K.G=P.globals.size)(hF:dY P K)(T:Acc (Nx P) x):
  ∀(M:Nat)(gs:Array BE)(a:BE)(w:AS)(sl:Option (Nat×Nat))(t:akt)(q:Nat->Nat)(φ:Ren),sumTo gs.size q<=M->bG P Q x.1 x.2->dK P K B φ x.1 x.2 a w->dT P.two Sh gs w t q->gs[0]?=an a->lD Sh φ->
   ∃(N:Nat)(f:Array BE)(a':BE)(w':AS)(qr:Option (Nat×Nat))(s:akt)(u:Nat->Nat)(ψ:Ren)(g':BE)(l:AS),
    runNT P.two N (crowd gs w sl) t=(.next (crowd f w' qr),s)/\f.size=gs.size/\f[0]?=an a'/\dT P.two Sh f w' s u/\bG P Q g' l/\fP P (g',l) x/\kr K φ ψ x.2.heap.size w w'/\x.2.heap.size<=l.heap.size/\lD Sh ψ/\
     (Lv P g'\/tu g')/\dK P K B ψ g' l a' w':=by
 induction T with
 |intro x L ih=>
  intro M
  induction M with
  |zero=>
   intro gs a w sl t q φ V hW hD O' h0 hA;by_cases hl:Lv P x.1\/tu x.1
   ·exact My
   ·obtain⟨i,g,d,qr,hi,hg,f9⟩:=crowd_pick (P:=P.two) (w:=w) (sl:=sl) (O'.awake h0 hD.running) ⟨0,a,h0,hD.running⟩;rcases jJ i with rfl|e
    ·exact Mz
    ·exfalso;have hq:=O'.lv.old i g e hi;exact Ll
  |succ M z=>
   intro gs a w sl t q φ V hW hD O' h0 hA;by_cases hl:Lv P x.1\/tu x.1
   ·exact My
   ·obtain⟨i,g,d,qr,hi,hg,f9⟩:=crowd_pick (P:=P.two) (w:=w) (sl:=sl) (O'.awake h0 hD.running) ⟨0,a,h0,hD.running⟩;rcases jJ i with rfl|e
    ·exact Mz
    ·have hq:=O'.lv.old i g e hi;have ur:(i==0)=false:=aA;have aV:=(bE.1 hi).1;cases I':q i with
     |zero=>rw[I'] at hq;rw[hq.1] at hg;cases hg
     |succ k=>
      rw[I'] at hq;rcases hq with⟨W,_⟩|⟨_,g',es,hm,BU,A⟩
      ·rw[W] at hg;cases hg
      have m:=runT_crowd_go (P:=P.two) (sl:=qr) (i:=i) hi yX
      have R:sumTo gs.size (TE q i k)+(k+1)=sumTo gs.size q+k:=by exact DG
      have C:=O'.GZ (n:=d) hi e hm A;have r:((gs.map (woken P.two g g' (w.at d))).setIfInBounds i g').size=gs.size:=aj
      obtain⟨N,f,a',w',p,s,u,χ,D,l,X,Z,y3,y4,y5,y6,y7,y8,y9,F⟩:=z _ a (w.at d) qr _ (TE q i k) φ (by rw[r];omega) hW (hD.at d) C
       (by rw[ajp (by omega),ald,h0];simp[woken_run hD.running]) hA
      exact⟨N+1,f,a',w',p,s,u,χ,D,l,by simp only[runNT,f9,m];exact X,by rw[Z,r],y3,y4,y5,y6,y7.at,y8,y9,F⟩
end
end
section
variable[ag]
open Go.Conc (G)
def iE(e:Bool):Obj->Obj
 |.cells cs t _=>if e&&0<cs.size then .stringIter default 0 else .cells cs t (0,cs.size)
 |.number a l=>.number a l
 |_=>.stringIter default 0
def ki(E:Nat->Bool)(h:Array Obj):Array Obj:=h.mapIdx λb o=>iE (E b) o
def nY(E:Nat->Bool)(h:Array Obj)(b:Nat):Prop:=∃o,h[b]?=an o/\∀cs t f,iE (E b) o≠.cells cs t f
def kJ(E:Nat->Bool)(h:Array Obj)(G:Nat):aH where
 ro b:=b<h.size/\¬nY E h b
 tok b:=nY E h b
 G:=G
def Ren.gF(φ:Ren):Ren:=λb=>if(φ b).isSome then an b else ns
omit [ag] in
def Ren.zX{φ:Ren}(h:φ b=an c):Ren.gF φ b=an b:=by simp[Ren.gF,h]
omit [ag] in
def Ren.qj{φ:Ren}(h:Ren.gF φ b=an c):c=b/\∃d,φ b=an d:=by
 unfold Ren.gF at h;split at h
 ·next x=>exact⟨(aJ h).symm,pO.1 x⟩
 ·cases h
omit [ag] in
def AR.id{φ:Ren}{a a':Addr}(h:AR φ a a'):AR (Ren.gF φ) a a:=⟨Ren.zX h.block,rfl,rfl⟩
omit [ag] in
def vF{h:Array Obj}(b:Nat):(ki E h)[b]?=(h[b]?).map (iE (E b)):=by simp[ki]
omit [ag] in
def sj{h:Array Obj}:(ki E h).size=h.size:=by simp[ki]
omit [ag] in
def Qs{h:Array Obj}(hb:nY E h b):b<h.size:=by have⟨o,d,_⟩:=hb;exact(bE.1 d).1
omit [ag] in
def FJ{h:Array Obj}(d:h[b]?=an o):nY E h b<->∀cs t f,iE (E b) o≠.cells cs t f:=by
 constructor
 ·rintro⟨i,h1,e⟩;rw[d] at h1;cases h1;exact e
 ·exactλh=>⟨o,d,h⟩
end
abbrev ag.exact(J:ag)(fs:Array Func):ag:={J with fs:=fs,dM:=λ_ _=>False,jk:=λv=>v=aW}
section
variable{I J:ag}{φ:Ren}
structure ag.kP(I J:ag):Prop where
 fv:∀f,I.fv f<->J.fv f
 np:∀t,I.np t<->J.np t
 cl:∀b,I.cl b<->J.cl b
 hd:∀t,I.hd t<->J.hd t
 jk:∀v,I.jk v<->J.jk v
def ag.kP.symm(h:ag.kP I J):ag.kP J I:=⟨λf=>(h.fv f).symm,λf=>(h.np f).symm,λf=>(h.cl f).symm,λf=>(h.hd f).symm,λf=>(h.jk f).symm⟩
structure ag.Le(I J:ag):Prop extends ag.kP I J where
 ok:∀f,I.ok f->J.ok f
 lv:∀f i,I.ok f->J.lv f i->I.lv f i
 cd:∀f c,I.cd f c->J.cd f c
def Tk.inst(h:ag.kP I J)(x:@Tk I v):@Tk J v:=by induction x with|ptr x=>exact@Tk.ptr J _ ((h.cl _).1 x)|agg _ d=>exact@Tk.agg J _ d
def Pl.inst(h:ag.kP I J)(x:@Pl I t v):@Pl J t v:=by
 rcases x with x|⟨a,e,x⟩|⟨x,y⟩
 ·exact .inl ((h.np _).1 x)
 ·exact .inr (.inl ⟨a,e,(h.cl _).1 x⟩)
 ·exact .inr (.inr ⟨(h.hd _).1 x,y.inst h⟩)
def fE.inst(h:ag.kP I J){f f':Fn}(x:@fE I φ f f'):@fE J φ f f':=by cases x with|func f d=>exact@fE.func J φ f ((h.fv f).1 d)|yield e=>exact@fE.yield J φ _ _ e
def VR.inst(h:ag.kP I J){v':so}(x:@VR I φ v v'):@VR J φ v v':=by induction x with|bool b=>exact@VR.bool J φ b|int a n=>exact@VR.int J φ a n|string s=>exact@VR.string J φ s|nilFunc=>exact@VR.nilFunc J φ|nilIface=>exact@VR.nilIface J φ|nilPtr=>exact@VR.nilPtr J φ|ko=>exact@VR.ko J φ|kk=>exact@VR.kk J φ|ptr h=>exact@VR.ptr J φ _ _ h|dV n c=>exact@VR.dV J φ n c|slice n c h=>exact@VR.slice J φ _ _ n c h|empty=>exact@VR.empty J φ _ _|iface t _ p d=>exact@VR.iface J φ t _ _ d (p.inst h)|aW i l=>exact@VR.aW J φ _ ((h.jk _).1 i) l|agg e _ d=>exact@VR.agg J φ _ _ e d|tuple e _ d=>exact@VR.tuple J φ _ _ e d|func m e _ r _ d f=>exact@VR.func J φ _ _ _ _ _ _ (fE.inst h m) e d r f
def aw.inst(h:ag.kP I J){xs ys:Array so}(x:@aw I φ xs ys):@aw J φ xs ys:=@aw.mk J φ _ _ (@aw.size I φ _ _ x) λi a b d hb=>VR.inst h (@aw.at_ I φ _ _ x i a b d hb)
def cL.inst(h:ag.Le I J){l l':Loop}(x:@cL I φ l l'):@cL J φ l l':=
 @cL.mk J φ _ _ (@cL.state I _ _ _ x) (@cL.pending I _ _ _ x) (@cL.fn I _ _ _ x) (@cT.mk J _ _ _ _ (@cT.size I _ _ _ _ (@cL.tmps I _ _ _ x)) (λi a b hi d hb=>VR.inst h.tokP (@cT.at_ I _ _ _ _ (@cL.tmps I _ _ _ x) i a b (h.lv _ i (@cL.okF I _ _ _ x) hi) d hb)) λi hi=>@cT.uw I _ _ _ _ (@cL.tmps I _ _ _ x) i (h.lv _ i (@cL.okF I _ _ _ x) hi)) (@cL.params I _ _ _ x) (@cL.assign I _ _ _ x) (@cL.body I _ _ _ x) (@cL.defers I _ _ _ x) (h.cd _ _ (@cL.rD I _ _ _ x)) (h.cd _ _ (@cL.okB I _ _ _ x)) (@cL.jc I _ _ _ x) (h.ok _ (@cL.okF I _ _ _ x))
def OR.inst(h:ag.Le I J){d:Obj}(x:@OR I φ o d):@OR J φ o d:=by cases x with|cells t f x=>exact@OR.cells J φ _ _ t f (aw.inst h.tokP x)|loop x=>exact@OR.loop J φ _ _ (cL.inst h x)|deferred=>exact@OR.deferred J φ|taken=>exact@OR.taken J φ|number l x=>exact@OR.number J φ _ _ l x
def HO.inst(h:ag.Le I J){K:aH}{o':Obj}(x:@HO I K φ b o o'):@HO J K φ b o o':=by
 cases x with
 |own h1 d f i=>exact@HO.own J K φ b _ _ h1 d (OR.inst h f) i
 |shut t h1 d f=>exact@HO.shut J K φ b _ _ t _ h1 d (aw.inst h.tokP f)
 |token s p cs' t h1 d i=>exact@HO.token J K φ b s p cs' t _ h1 d λe=>i ((h.cl b).2 e)
 |blank s p h1 d=>exact@HO.blank J K φ b s p _ h1 d
 |num l h1 d=>exact@HO.num J K φ b _ _ l h1 d
def HR.inst(h:ag.Le I J){K:aH}{g g':Array Obj}(x:@HR I K φ g g'):@HR J K φ g g':=
 @HR.mk J K φ g g' (λb c d hb hc=>(@HR.inj I _ _ _ _ x b c d hb hc).imp_right λm=>⟨m.1,m.2.1,λn=>m.2.2.1 ⟨(h.cl b).2 n.1,(h.cl c).2 n.2⟩,m.2.2.2⟩) (λb c hb=>let⟨o,o',h1,e,f⟩:=@HR.obj I _ _ _ _ x b c hb;⟨o,o',h1,e,HO.inst h f⟩) (@HR.below I _ _ _ _ x) (@HR.low I _ _ _ _ x) (@HR.fZ I _ _ _ _ x) λb hb=>@HR.cl I _ _ _ _ x b ((h.cl b).2 hb)
def fE.id{f f':Fn}(h:@fE J φ f f'):@fE (ag.exact J fs) (Ren.gF φ) f f:=by cases h with|func f h=>exact@fE.func (ag.exact J fs) _ f h|yield h=>exact@fE.yield (ag.exact J fs) _ _ _ (Ren.zX h)
def Tk.exact(fs:Array Func)(x:@Tk J v):@Tk (ag.exact J fs) v:=by induction x with|ptr x=>exact@Tk.ptr (ag.exact J fs) _ x|agg _ d=>exact@Tk.agg (ag.exact J fs) _ d
def Pl.exact(fs:Array Func)(x:@Pl J t v):@Pl (ag.exact J fs) t v:=by
 rcases x with x|x|⟨x,y⟩
 ·exact .inl x
 ·exact .inr (.inl x)
 ·exact .inr (.inr ⟨x,y.exact fs⟩)
theorem VR.id{v':so}(h:@VR J φ v v'):@VR (ag.exact J fs) (Ren.gF φ) v v:=by
 have d:∀{xs ys:Array so},xs.size=ys.size->(∀(i:Nat) x y,xs[i]?=an x->ys[i]?=an y->@VR (ag.exact J fs) (Ren.gF φ) x x)->∀(i:Nat) x y,xs[i]?=an x->xs[i]?=an y->@VR (ag.exact J fs) (Ren.gF φ) x y:=fu
 induction h with|bool b=>exact@VR.bool (ag.exact J fs) _ b|int a n=>exact@VR.int (ag.exact J fs) _ a n|string s=>exact@VR.string (ag.exact J fs) _ s|nilFunc=>exact@VR.nilFunc (ag.exact J fs) _|nilIface=>exact@VR.nilIface (ag.exact J fs) _|nilPtr=>exact@VR.nilPtr (ag.exact J fs) _|ko=>exact@VR.ko (ag.exact J fs) _|kk=>exact@VR.kk (ag.exact J fs) _|ptr h=>exact@VR.ptr (ag.exact J fs) _ _ _ h.id|dV n c=>exact@VR.dV (ag.exact J fs) _ n c|slice n c h=>exact@VR.slice (ag.exact J fs) _ _ _ n c h.id|empty=>exact@VR.empty (ag.exact J fs) _ _ _|iface t _ p f=>exact@VR.iface (ag.exact J fs) _ t _ _ f (p.exact fs)|aW z A=>exact@VR.aW (ag.exact J fs) _ _ rfl ⟨λ_ e=>cB,λ_ e=>cB,λ_ e=>cB⟩|agg l _ f=>exact@VR.agg (ag.exact J fs) _ _ _ rfl (d l f)|tuple l _ f=>exact@VR.tuple (ag.exact J fs) _ _ _ rfl (d l f)|func r l _ u _ f m=>exact@VR.func (ag.exact J fs) _ _ _ _ _ _ _ (fE.id r) rfl (d l f) rfl (d u m)
def aw.id{xs ys:Array so}(h:@aw J φ xs ys):@aw (ag.exact J fs) (Ren.gF φ) xs xs:=by refine@aw.mk (ag.exact J fs) _ _ _ rfl λi x y d e=>?_;rw[d] at e;cases e;have⟨z,_,f⟩:=@aw.get J _ _ _ h i x d;exact f.id
def Qt(X:Nat->Bool){h:Array Obj}{G:Nat}(hb:b<h.size):(aL.kJ X h G).ro b\/(aL.kJ X h G).tok b:=by
 by_cases e:nY X h b
 ·exact .inr e
 ·exact .inl ⟨hb,e⟩
def RJ(X:Nat->Bool){K:aH}{h:Array Obj}(H:@HR I K φ h h')(hb:φ b=an c)(d:K.tok b):nY X h b:=by
 obtain⟨o,i,h1,l,f⟩:=@HR.obj I _ _ _ _ H b c hb;refine(FJ h1).2 ?_;cases f with
 |own _ h=>exact absurd d h
 |shut _ _ h=>exact absurd d h
 |_=>exactλ_ _ _ e=>by cases e
def HO.kJ{K:aH}{ψ:Ren}{h:Array Obj}{X:Nat->Bool}{b:Nat}{o o' p:Obj}(H:@HO I K φ b o o')(h1:h[b]?=an o)(u:(∀cs t f,o≠.cells cs t f)->(∀a l,o≠.number a l)->Obj.blank p\/p=o')
  (hc:∀cs cs' t f f',o=.cells cs t f->o'=.cells cs' t f'->@aw I φ cs cs'->∃r g,p=.cells r t g/\r.size=cs.size/\(I.cl b->g=(0,0))/\@aw J ψ cs r)
  (A:∀a a' l,o=.number a l->o'=.number a' l->AR φ a a'->∃c,p=.number c l/\AR ψ a c)(ii:J.cl b->I.cl b):@HO J (aL.kJ X h K.G) ψ b (iE (X b) o) p:=by
 have i:(∀cs t f,iE (X b) o≠.cells cs t f)->nY X h b:=(FJ h1).2
 have row:∀cs cs' t f f',o=.cells cs t f->o'=.cells cs' t f'->@aw I φ cs cs'->@HO J (aL.kJ X h K.G) ψ b (iE (X b) o) p:=by
  intro cs cs' t f f' e z d;obtain⟨r,g,rfl,C,D,hd⟩:=hc cs cs' t f f' e z d;subst e;by_cases he:(X b&&decide (0<cs.size))=true
  ·have e:iE (X b) (.cells cs t f)=.stringIter default 0:=by simp only[iE];rw[if_pos he]
   rw[e] at i⊢;exact@HO.token J _ _ _ _ _ _ _ _ (i λ_ _ _ x=>by cases x) (by simp at he;rw[C];exact he.2) λx=>D (ii x)
  ·have e:iE (X b) (.cells cs t f)=.cells cs t (0,cs.size):=by simp only[iE];rw[if_neg he]
   rw[e];have m:¬nY X h b:=λx=>(FJ h1).1 x _ _ _ e;exact@HO.shut J _ _ _ _ _ t _ ⟨(bE.1 h1).1,m⟩ m hd
 have num:∀a a' l,o=.number a l->o'=.number a' l->AR φ a a'->@HO J (aL.kJ X h K.G) ψ b (iE (X b) o) p:=by intro a a' l e z d;obtain⟨c,rfl,hd⟩:=A a a' l e z d;subst e;exact@HO.num J _ _ _ _ _ l (i λ_ _ _ x=>by cases x) hd
 cases H with
 |own _ _ F=>cases F with|cells t f d=>exact row _ _ _ _ _ rfl rfl d|number l d=>exact num _ _ l rfl rfl d|_=>exact@HO.blank J _ _ _ _ _ _ (i λ_ _ _ x=>by cases x) ((u (λ_ _ _ x=>by cases x) λ_ _ x=>by cases x).elim id λe=>e▸trivial)
 |shut t _ _ d=>exact row _ _ _ _ _ rfl rfl d
 |num l _ n=>exact num _ _ l rfl rfl n
 |blank s q _ n=>exact@HO.blank J _ _ _ _ _ _ (i λ_ _ _ x=>by cases x) ((u (λ_ _ _ x=>by cases x) λ_ _ x=>by cases x).elim id λe=>e▸n)
 |token s q cs' t _ n L=>
  rcases u (λ_ _ _ x=>by cases x) (λ_ _ x=>by cases x) with h|rfl
  ·exact@HO.blank J _ _ _ _ _ _ (i λ_ _ _ x=>by cases x) h
  ·exact@HO.token J _ _ _ _ _ _ _ _ (i λ_ _ _ x=>by cases x) n λx=>L (ii x)
def Ow{X:Nat->Bool}{h:Array Obj}{G:Nat}(hb:(aL.kJ X h G).ro b\/(aL.kJ X h G).tok b):b<(ki X h).size:=by rw[sj];exact hb.elim (λh=>h.1) Qs
def HR.ago{K:aH}{h:Array Obj}(X:Nat->Bool)(i:ag.kP I J)(H:@HR I K φ h h'):@HR J (aL.kJ X h K.G) φ (ki X h) h':=by
 refine@HR.mk J _ _ _ _ (λb c d hb hc=>(@HR.inj I _ _ _ _ H b c d hb hc).imp_right λm=>⟨Qt X (@HR.lt I _ _ _ _ H _ _ hb).1,Qt X (@HR.lt I _ _ _ _ H _ _ hc).1,λn=>m.2.2.1 ⟨(i.cl b).2 n.1,(i.cl c).2 n.2⟩,m.2.2.2⟩) (λb c hb=>?_) (λb hb=>Ow hb) (@HR.low I K φ h h' H) (by rw[sj];exact@HR.fZ I K φ h h' H)
  λb hb=>⟨by rw[sj];exact(@HR.cl I _ _ _ _ H b ((i.cl b).2 hb)).1,λc e=>RJ X H e ((@HR.cl I _ _ _ _ H b ((i.cl b).2 hb)).2 c e)⟩
 obtain⟨o,o',h1,u,h3⟩:=@HR.obj I _ _ _ _ H b c hb;refine⟨iE (X b) o,o',by rw[vF,h1];rfl,u,HO.kJ h3 h1 (λ_ _=>.inr rfl) (λC r t f z e s p=>⟨r,z,s,(@aw.size I _ _ _ p).symm,λx=>?_,aw.inst i p⟩) (λa A l e s p=>⟨A,s,p⟩) (i.cl b).2⟩;have ht:=(@HR.cl I _ _ _ _ H b x).2 c hb;exact Lm
def HR.Sy{K:aH}{h hG:Array Obj}(X:Nat->Bool)(fs:Array Func)(i:ag.kP I J)(H:@HR I K φ h h')(m:h.size<=hG.size)(n:∀b,b<h.size->hG[b]?=h[b]?):@HR (ag.exact J fs) (aL.kJ X h K.G) (Ren.gF φ) (ki X h) hG:=by
 have fZ:K.G<=h.size:=(@HR.fZ I K φ h h' H).1
 refine@HR.mk (ag.exact J fs) _ _ _ _ (λb c d hb hc=>.inl ((Ren.qj hb).1.symm.trans (Ren.qj hc).1)) (λb c hb=>?_) (λb hb=>Ow hb) (λb c hb=>by rw[(Ren.qj hb).1]) (by rw[sj];exact⟨fZ,aI fZ m⟩)
  λb hb=>⟨by rw[sj];exact(@HR.cl I _ _ _ _ H b ((i.cl b).2 hb)).1,λc e=>let⟨_,d,hd⟩:=Ren.qj e;RJ X H hd ((@HR.cl I _ _ _ _ H b ((i.cl b).2 hb)).2 d hd)⟩
 obtain⟨rfl,d,hd⟩:=Ren.qj hb;obtain⟨o,o',h1,D,h3⟩:=@HR.obj I _ _ _ _ H c d hd;have p:=(bE.1 h1).1;refine⟨iE (X c) o,o,by rw[vF,h1];rfl,by rw[n c p,h1],@HO.kJ I (ag.exact J fs) φ K _ h X c o o' o h3 h1 (λs u=>?_) (λz A t f F e C r=>⟨z,f,e,rfl,λx=>?_,(aw.inst i r).id⟩) (λa L l e C r=>⟨a,e,AR.id r⟩) (i.cl c).2⟩
 ·cases h3 with
  |own _ _ h=>cases h<;>first|exact .inl trivial|exact absurd rfl (s _ _ _)|exact absurd rfl (u _ _)
  |shut=>exact absurd rfl (s _ _ _)
  |num=>exact absurd rfl (u _ _)
  |_=>exact .inl trivial
 ·have ht:=(@HR.cl I _ _ _ _ H c x).2 d hd;exact Lm
def aen{h:Array Obj}{X:Nat->Bool}(d:X b=false){cs:Array so}{f:Nat×Nat}(h1:h[b]?=an (.cells cs t f)):(ki X h)[b]?=an (.cells cs t (0,cs.size)):=by rw[vF,h1];simp[iE,d]
end
section
open Go.Conc (G)
section
variable[J:ag]{fs:Array Func}{φ χ ψ:Ren}(hb:∀a b c,χ a=an b->φ a=an c->ψ b=an c)(ii:∀a b,χ a=an b->ag.cl a->ag.cl b)
include hb
omit J in
def AR.comp{a b c:Addr}(h:AR φ a c)(k:AR χ a b):AR ψ b c:=⟨hb _ _ _ k.block h.block,h.off.trans k.off.symm,h.spot.trans k.spot.symm⟩
def fE.comp{a b c:Fn}(h:fE φ a c)(k:@fE (ag.exact J fs) χ a b):fE ψ b c:=by
 cases h with
 |func f h=>cases k with|func _ _=>exact .func f h
 |yield h=>cases k with|yield k=>exact .yield (hb _ _ _ k h)
omit hb in
include ii in
theorem Tk.comp{v:so}(q:Tk v):∀{u:so},@VR (ag.exact J fs) χ v u->Tk u:=by
 induction q with
 |ptr p=>intro u k;cases k with|ptr k=>exact .ptr (ii _ _ k.block p)
 |@agg xs _ d=>
  intro u k;cases k with
  |@agg _ l m e=>refine .agg λi y f=>?_;have hi:i<xs.size:=fu;exact d i xs[i] (eQ hi) (e i xs[i] y (eQ hi) f)
include ii in
theorem VR.comp{v v':so}(h:VR φ v v'):∀{u:so},@VR (ag.exact J fs) χ v u->VR ψ u v':=by
 have d:∀{xs ys us:Array so},xs.size=ys.size->(∀(i:Nat) x y,xs[i]?=an x->ys[i]?=an y->∀{u},@VR (ag.exact J fs) χ x u->VR ψ u y)->xs.size=us.size->
   (∀(i:Nat) x u,xs[i]?=an x->us[i]?=an u->@VR (ag.exact J fs) χ x u)->∀(i:Nat) u y,us[i]?=an u->ys[i]?=an y->VR ψ u y:=by
  intro xs ys us h1 D W F i u y hu G;have hi:i<xs.size:=fu;exact D i xs[i] y (eQ hi) G (F i xs[i] u (eQ hi) hu)
 induction h with
 |bool b=>intro u k;cases k;exact .bool b
 |int a n=>intro u k;cases k;exact .int a n
 |string s=>intro u k;cases k;exact .string s
 |nilFunc=>intro u k;cases k;exact .nilFunc
 |nilIface=>intro u k;cases k;exact .nilIface
 |nilPtr=>intro u k;cases k;exact .nilPtr
 |ko=>intro u k;cases k;exact .ko
 |kk=>intro u k;cases k;exact .kk
 |ptr h=>intro u k;cases k with|ptr k=>exact .ptr (h.comp hb k)
 |dV n c=>intro u k;cases k;exact .dV n c
 |slice n c h=>intro u k;cases k with|slice _ _ k=>exact .slice n c (h.comp hb k)|empty=>exact .empty
 |empty=>intro u k;cases k with|slice _ _ k=>exact .empty|empty=>exact .empty
 |iface t _ p m=>
  intro u k;cases k with
  |iface _ k _=>
   refine .iface t (m k) ?_;rcases p with p|⟨a,rfl,p⟩|⟨p,q⟩
   ·exact .inl p
   ·cases k with|ptr k=>exact .inr (.inl ⟨_,rfl,ii _ _ k.block p⟩)
   ·exact .inr (.inr ⟨p,q.comp ii k⟩)
 |@aW v' L N=>
  intro u k
  have e:u=aL.aW:=by cases k with|aW R _=>exact R|func r=>cases r
  subst e;exact .aW L N
 |agg f _ m=>intro u k;cases k with|agg l k=>exact .agg (l.symm.trans f) (d f m l k)
 |tuple f _ m=>intro u k;cases k with|tuple l k=>exact .tuple (l.symm.trans f) (d f m l k)
 |func r f _ A _ m z=>intro u k;cases k with|aW _ _=>cases r|func T l k C V=>exact .func (r.comp hb T) (l.symm.trans f) (d f m l k) (C.symm.trans A) (d A z C V)
include ii in
def aw.comp{xs ys us:Array so}(h:aw φ xs ys)(k:@aw (ag.exact J fs) χ xs us):aw ψ us ys:=by
 refine⟨(@aw.size (ag.exact J fs) _ _ _ k).symm.trans h.size,λi u y hu d=>?_⟩;have hi:i<xs.size:=by rw[(@aw.size (ag.exact J fs) _ _ _ k)];exact(bE.1 hu).1
 exact(h.at_ i xs[i] y (eQ hi) d).comp hb ii (@aw.at_ (ag.exact J fs) _ _ _ k i xs[i] u (eQ hi) hu)
include ii in
def cT.comp{s:Nat->Prop}{xs ys us:Array so}(h:cT φ s xs ys)(k:@cT (ag.exact J fs) χ s xs us):cT ψ s us ys:=by
 refine⟨(@cT.size (ag.exact J fs) _ _ _ _ k).symm.trans h.size,λi u y d hu e=>?_,λi hi=>by rw[<-(@cT.size (ag.exact J fs) _ _ _ _ k)];exact h.uw i hi⟩;have hi:i<xs.size:=by rw[(@cT.size (ag.exact J fs) _ _ _ _ k)];exact(bE.1 hu).1
 exact(h.at_ i xs[i] y d (eQ hi) e).comp hb ii (@cT.at_ (ag.exact J fs) _ _ _ _ k i xs[i] u d (eQ hi) hu)
include ii in
def cL.comp{l l' m:Loop}(h:cL φ l l')(k:@cL (ag.exact J fs) χ l m):cL ψ m l':=by
 have e:=(@cL.fn (ag.exact J fs) _ _ _ k);refine⟨h.state.trans (@cL.state (ag.exact J fs) _ _ _ k).symm,h.pending.trans (@cL.pending (ag.exact J fs) _ _ _ k).symm,h.fn.trans (@cL.fn (ag.exact J fs) _ _ _ k).symm,?_,h.params.trans (@cL.params (ag.exact J fs) _ _ _ k).symm,h.assign.trans (@cL.assign (ag.exact J fs) _ _ _ k).symm,h.body.trans (@cL.body (ag.exact J fs) _ _ _ k).symm,hb _ _ _ (@cL.defers (ag.exact J fs) _ _ _ k) h.defers,?_,?_,?_,?_⟩
 ·rw[e];exact h.tmps.comp hb ii (@cL.tmps (ag.exact J fs) _ _ _ k)
 ·rw[e,(@cL.assign (ag.exact J fs) _ _ _ k)];exact h.rD
 ·rw[e,(@cL.body (ag.exact J fs) _ _ _ k)];exact h.okB
 ·rw[(@cL.pending (ag.exact J fs) _ _ _ k)];exact h.jc
 ·rw[e];exact h.okF
include ii in
def OR.comp{o d p:Obj}(h:OR φ o d)(k:@OR (ag.exact J fs) χ o p):OR ψ p d:=by
 cases h with
 |cells t f h=>cases k with|cells _ _ k=>exact .cells t f (h.comp hb ii k)
 |loop h=>cases k with|loop k=>exact .loop (h.comp hb ii k)
 |deferred=>cases k;exact .deferred
 |taken=>cases k;exact .taken
 |number l h=>cases k with|number _ k=>exact .number l (h.comp hb k)
end
def OR.loose[ag]{φ:Ren}{o p:Obj}(h:OR φ o p)(d:Obj.loose o):Obj.loose p:=by cases h with|cells t f h=>exact d|_=>trivial
open Classical in
def HR.comp{I J:ag}{fs:Array Func}(hIJ:ag.Le J I){K Kc:aH}{ψ φ χ:Ren}{hA n hG h':Array Obj}{n0:Nat}(f:@HR I K ψ n h')(R:@HR J Kc φ hA h')(VH:@HR (ag.exact J fs) Kc χ hA hG)(ii:∀a b,χ a=some b->J.cl a->J.cl b)
  (r:∀b,n0<=b->¬Kc.ro b/\¬Kc.tok b)(Ji:Kc.G=K.G)(ai5:K.G<=n0)(T:n.size<=hG.size)(V:∀b,b<n.size->hG[b]?=n[b]?)
  (hold:∀a b c,a<n0->χ a=some b->φ a=some c->ψ b=some c)(ahI:∀a b,n0<=a->χ a=some b->n.size<=b)(L:∀b d,ψ b=some d->∀a,n0<=a->φ a≠some d):
  ∃i,Ren.le ψ i/\@HR I K i hG h'/\(∀a b c,χ a=some b->φ a=some c->i b=some c)/\∀b c,i b=some c->ψ b=some c\/(n.size<=b/\∃a,n0<=a/\φ a=some c):=by
 let i:Ren:=λb=>if b<n.size then ψ b else if h:∃a,n0<=a/\χ a=some b then φ h.choose else none
 have W:∀b,b<n.size->i b=ψ b:=λb hb=>if_pos hb
 have uq:∀a b,n0<=a->χ a=some b->i b=φ a:=by
  intro a b X A;have hx:∃a,n0<=a/\χ a=some b:=⟨a,X,A⟩
  have e1:i b=φ hx.choose:=by show(if b<n.size then ψ b else if h:∃a,n0<=a/\χ a=some b then φ h.choose else none)=_;rw[if_neg (Nat.not_lt.2 (ahI a b X A)),dif_pos hx]
  rw[e1,(@HR.inj (ag.exact J fs) _ _ _ _ VH _ _ _ hx.choose_spec.2 A).resolve_right λm=>m.2.1.elim (r a X).1 (r a X).2]
 have u:∀b c,i b=some c->ψ b=some c\/(n.size<=b/\∃a,n0<=a/\χ a=some b/\φ a=some c):=by
  intro b c z;rcases dg b n.size with Z|D
  ·rw[W b Z] at z;exact .inl z
  ·refine .inr ⟨D,?_⟩;by_cases hx:∃a,n0<=a/\χ a=some b
   ·obtain⟨a,X,A⟩:=hx;rw[uq a b X A] at z;exact⟨a,X,A,z⟩
   ·have:i b=none:=by show(if b<n.size then ψ b else if h:∃a,n0<=a/\χ a=some b then φ h.choose else none)=_;rw[if_neg (Nat.not_lt.2 D),dif_neg hx]
    rw[this] at z;cases z
 have hle:Ren.le ψ i:=λb c z=>by rw[W b (@HR.lt I _ _ _ _ f _ _ z).1];exact z
 have C:∀a b c,χ a=some b->φ a=some c->i b=some c:=by
  intro a b c h1 F;rcases dg a n0 with Z|D
  ·exact hle _ _ (hold a b c Z h1 F)
  ·rw[uq a b D h1];exact F
 refine⟨i,hle,@HR.mk I _ _ _ _ (λb c d hb hc=>?_) (λb c hb=>?_) (λb hb=>bH (@HR.below I _ _ _ _ f b hb) T) (λb c hb=>?_) ⟨aI (@HR.fZ I _ _ _ _ f).1 T,(@HR.fZ I _ _ _ _ f).2⟩ λb hb=>⟨bH (@HR.cl I _ _ _ _ f b hb).1 T,λc e=>(@HR.cl I _ _ _ _ f b hb).2 c (by rwa[W b (@HR.cl I _ _ _ _ f b hb).1] at e)⟩,C,λb c hb=>(u b c hb).imp_right λ⟨h,a,h1,_,h3⟩=>⟨h,a,h1,h3⟩⟩
 ·rcases u b d hb with h1|⟨_,a1,F,h3,h4⟩<;>rcases u c d hc with k1|⟨_,a2,k2,k3,k4⟩
  ·exact@HR.inj I _ _ _ _ f _ _ _ h1 k1
  ·exact absurd k4 (L b d h1 a2 k2)
  ·exact absurd h4 (L c d k1 a1 F)
  ·have:=(@HR.inj J _ _ _ _ R _ _ _ h4 k4).resolve_right λm=>m.1.elim (r _ F).1 (r _ F).2;subst this;rw[h3] at k3;exact .inl (aJ k3)
 ·rcases u b c hb with h1|⟨N,a,F,h3,h4⟩
  ·obtain⟨o,o',g1,g2,g3⟩:=@HR.obj I _ _ _ _ f b c h1;exact⟨o,o',by rw[V b (@HR.lt I _ _ _ _ f _ _ h1).1];exact g1,g2,@HO.mono I _ _ _ _ _ _ g3 hle⟩
  ·obtain⟨o,o',g1,g2,g3⟩:=@HR.obj J _ _ _ _ R a c h4;obtain⟨p,p',k1,k2,k3⟩:=@HR.obj (ag.exact J fs) _ _ _ _ VH a b h3;rw[g1] at k1;cases k1;have hc:=r a F;cases g3 with
   |own _ _ g3 gl=>cases k3 with|own _ _ k3 _=>exact⟨p',o',k2,g2,@HO.own I _ _ _ _ _ (λx=>absurd (@HR.below I _ _ _ _ f b (.inl x)) (pR.2 N)) (λx=>absurd (@HR.below I _ _ _ _ f b (.inr x)) (pR.2 N)) (OR.inst hIJ (@OR.comp J fs _ _ _ C ii _ _ _ g3 k3)) (@OR.loose (ag.exact J fs) _ _ _ k3 gl)⟩|shut t h=>exact absurd h hc.1|token s p cs' t h=>exact absurd h hc.2|blank s p h=>exact absurd h hc.2|num l h=>exact absurd h hc.2
   |shut t h=>exact absurd h hc.1
   |token s p cs' t h=>exact absurd h hc.2
   |blank s p h=>exact absurd h hc.2
   |num l h=>exact absurd h hc.2
 ·rcases u b c hb with h1|⟨h1,a,F,h3,h4⟩
  ·exact@HR.low I _ _ _ _ f b c h1
  ·have:=@HR.low J _ _ _ _ R a c h4;have:=(@HR.fZ I _ _ _ _ f);rw[Ji] at*;omega
end
section
variable[ag]
open Go.Conc (G)
structure iF(K:aH)(φ ψ:Ren)(n:Nat)(h h1:Array Obj):Prop where
 size:h.size<=h1.size
 le:Ren.le φ ψ
 fresh:∀b c,ψ b=an c->φ b=an c\/(n<=b/\h.size<=c)
 apart:∀c,c<h.size->(∀b,φ b=an c->K.ro b\/K.tok b)->h1[c]?=h[c]?
theorem ik.h{K:aH}{φ ψ:Ren}{n:Nat}{w w1:AS}(h:ik K φ ψ n w w1):iF K φ ψ n w.heap w1.heap:=⟨h.left.size,h.le,h.fresh,h.apart⟩
theorem kr.h{K:aH}{φ ψ:Ren}{n:Nat}{w w1:AS}(h:kr K φ ψ n w w1):iF K φ ψ n w.heap w1.heap:=⟨h.size,h.le,h.fresh,h.apart⟩
theorem iF.refl(K:aH)(φ:Ren)(n:Nat)(h:Array Obj):iF K φ φ n h h:=⟨av _,Ren.le_refl φ,λ_ _ h=>.inl h,λ_ _ _=>rfl⟩
theorem iF.trans{K:aH}{φ ψ χ:Ren}{n m:Nat}{a b c:Array Obj}(h:iF K φ ψ n a b)(k:iF K ψ χ m b c)(d:n<=m):iF K φ χ n a c:=by
 refine⟨aI h.size k.size,Ren.le_trans h.le k.le,λx y hx=>?_,λx hx hn=>?_⟩
 ·exact Mw
 ·exact Mx
section
variable{P:NO}{K:aH}{Q:BE->Array Obj->Prop}
theorem bG.TH(h:fO P y x)(hw:bG P Q x.1 x.2):bG P Q y.1 y.2:=by induction h with|one h=>exact hw.next h|more h _ d=>exact(d hw).next h
theorem bG.calm{g1:BE}{w1:AS}(h:bG P Q g w)(d:Nx P (g1,w1) (g,w)):∀c,g1.frame.mode≠.panicking c:=by obtain⟨e,T,es,i,l⟩:=d;cases h with|lv h _=>exact absurd h e|step _ f _=>grind
theorem SA{fr:ajs}{cs:List ajs}(d:2<=B.length):¬Lv P (G fr (cs++B)):=by rintro⟨f0,e,_⟩;have:cs++B=[c0 P]:=congrArg Goroutine.callers e;have:=congrArg List.length this;simp at this;omega
theorem NN(p:P.two=P)(C:∀c D,¬ag.dM c D)(hB:dA P)(hC:ee P)(hz:cO P)(hG:K.G=P.globals.size)(hF:dY P K)(F:2<=B.length){χ:Ren}{L gG:BE}{f e:AS}
  (h:dK P K B χ g wg gG e)(hW:bG P Q g wg)(hn:Nx P (L,f) (g,wg)):
  ∃r s n,Nx P (s,n) (gG,e)/\dK P K B r L f s n/\iF K χ r wg.heap.size e.heap n.heap/\wg.heap.size<=f.heap.size:=by
 have hp:=hW.calm hn;obtain⟨fr,eq,cs,cs',rfl,rfl,h1,h2,h3,h4,h5⟩:=h;obtain⟨hl,T,es,hT,hs⟩:=hn;have N:kI (spliced e (wg.on T wg.drawn)) e:=λj hj q=>Ns e _ hj q;have R:WR K χ (wg.on T wg.drawn) (e.on (spliced e (wg.on T wg.drawn)) e.drawn):=⟨h3,λi q=>(zB e (wg.on T wg.drawn) i q).symm⟩;rcases wG (m:=true) (m':=true) (B:=[c0 P]) (B':=B) hB hC hz hG hF h4 h1 h2 h5 R (λ⟨e1,e2,e3⟩=>hl ⟨fr,by rw[e1];rfl,.inl ⟨e2,e3⟩⟩) (λ_⟨c,D,_,_,x⟩=>C c D x) L f es hs with⟨ψ,mp,K',u,l,c,h',rfl,_⟩|⟨ψ,V,u,z,l,W,d,rfl,h6,h7,h8,h9,X,Z,A,h13⟩
 ·exact absurd rfl (hp c)
 ·rw[p] at h6;have hv:gE ψ:=λg hg=>A.le _ _ (h4 g hg);exact⟨ψ,_,W,⟨SA F,_,_,N,h6⟩,⟨V,z,u,l,rfl,rfl,h7,h8,X.heap,hv,h9⟩,A.h,Z.size⟩
theorem aeo(i:P.two=P)(l:∀c T,¬ag.dM c T)(L:dA P)(N:ee P)(R:cO P)(hG:K.G=P.globals.size)(hF:dY P K)(m:2<=B.length)(V:fO P y x):
  ∀{χ:Ren}{p:BE}{n:AS},dK P K B χ x.1 x.2 p n->bG P Q x.1 x.2->
  ∃e f d,fO P (f,d) (p,n)/\dK P K B e y.1 y.2 f d/\iF K χ e x.2.heap.size n.heap d.heap/\x.2.heap.size<=y.2.heap.size:=by
 induction V with
 |one h=>intro χ p n u r;obtain⟨e,f,d,h1,z,A,s⟩:=NN i l L N R hG hF m u r h;exact⟨e,f,d,.one h1,z,A,s⟩
 |more h W X=>intro χ p n u r;obtain⟨e,f,d,h1,z,A,s⟩:=X u r;obtain⟨C,D,F,Z,k2,k3,k4⟩:=NN i l L N R hG hF m z (r.TH W) h;exact⟨C,D,F,.more Z h1,k2,A.trans k3 s,aI s k4⟩
theorem replay(i:P.two=P)(m:∀c u,¬ag.dM c u)(z:dA P)(A:ee P)(C:cO P)(hG:K.G=P.globals.size)(hF:dY P K){B:List ajs}(n:2<=B.length){y x:BE×AS}(p:fP P y x)
  {χ:Ren}{r:BE}{l:AS}(s:dK P K B χ x.1 x.2 r l)(D:bG P Q x.1 x.2):
  ∃e f d,fP P (f,d) (r,l)/\dK P K B e y.1 y.2 f d/\iF K χ e x.2.heap.size l.heap d.heap/\x.2.heap.size<=y.2.heap.size:=by
 rcases p with rfl|p
 ·exact⟨χ,r,l,.inl rfl,s,.refl _ _ _ _,av _⟩
 ·obtain⟨e,f,d,h1,F⟩:=aeo i m z A C hG hF n p s D;exact⟨e,f,d,.inr h1,F⟩
end
end
section
variable[ag]
open Go.Conc (G)
section
variable{P:NO}{K:aH}
def jw(P:NO)(R:so->Array Obj->Prop)(g:BE)(h:Array Obj):Prop:=
 ∃fn v,g.frame.mode=.returning/\g.frame.defers=[]/\P.funcs[g.frame.fn]?=an fn/\(∀w:AS,w.heap=h->∃d,(results fn g.frame.tmps).run P w=.ok v d/\d.heap=h)/\((∀r∈fn.results,∃t,r=.tmp t)/\P.inits.idxOf? g.frame.fn=ns)/\R v h
def Pp(hB:dA P){b:ajs}{B:List ajs}{φ:Ren}{g:BE}{wg:AS}{a:BE}{w:AS}{R:so->Array Obj->Prop}(h:dK P K (b::B) φ g wg a w)(hl:Lv P g)(hb:jw P R g wg.heap)(m:Bool):
  ∃ψ v v' w' d,ajM P.two m a w=.go (G (b.finish v') B) w' d/\R v wg.heap/\VR ψ v v'/\HR K ψ wg.heap w'.heap/\ik K φ ψ wg.heap.size w w'/\∀e∈d,gJ K ψ e:=by
 obtain⟨fr,f,cs,cs',rfl,rfl,l,N,hH,_,_⟩:=h;obtain⟨f0,e0,_⟩:=hl
 have T:cs=[]:=by exact MA
 subst T;cases N;obtain⟨fn,v,A,e1,C,p,_,hR⟩:=hb;change fr.mode=.returning at A;change fr.defers=[] at e1;change P.funcs[fr.fn]?=an fn at C
 have r:f.mode=.returning:=by have h:=l.mode;rw[A] at h;generalize f.mode=q at h;cases h;rfl
 have e2:f.defers=[]:=by have hd:=l.defers;rw[e1] at hd;generalize f.defers=t' at hd;cases hd;rfl
 have V:=l.kind.2;obtain⟨fn0,D,z,n,F,_,W,_⟩:=hB fr.fn l.jX;rw[C] at z;cases z;have n:P.two.funcs[f.fn]?=an D:=by rw[l.fn];exact n
 have X:results D f.tmps=results fn f.tmps:=by unfold results;rw[F]
 have x2:ajM P.two m (G f ([]++b::B)) w=GStep.after (seen P.two f.fn ((results fn f.tmps).runT P.two w #[]).2) (match((results fn f.tmps).runT P.two w #[]).1 with
   |.ok v w=>doReturn P.two m f (b::B) ns v w
   |.halt (.stuck s) w=>.ended (.stuck s (f.pos P.two)) w
   |.halt _ w=>.ended (.stuck "return: the result variables cannot be read" (f.pos P.two)) w):=by
  have e0:ajM P.two m (G f ([]++b::B)) w=unwind P.two m f (b::B) ns w:=by unfold ajM G;dsimp only;rw[r];rfl
  rw[e0];unfold unwind;rw[e2];rw[r];rw[n];dsimp only;rw[X];rfl
 change∀w:AS,w.heap=wg.heap->∃Z,(results fn fr.tmps).run P w=.ok v Z/\Z.heap=wg.heap at p;obtain⟨Z,L,xS⟩:=p (wg.on (spliced wg w) wg.drawn) rfl;have Cd:WR K φ (wg.on (spliced wg w) wg.drawn) w:=⟨hH,λi q=>zB wg w i q⟩;rcases(EG (P:=P) (K:=K) fn W l.tmps).both Cd with⟨x,w3,es3,hx,_⟩|⟨u,w3,es3,ψ,v',w',d,g1,g2,g3,g4,g5,g6,g7⟩
 ·simp_all
 ·have h1:=pM P (results fn fr.tmps) (wg.on (spliced wg w) wg.drawn) #[];rw[g1,L] at h1;cases h1;refine⟨ψ,v,v',w',seen P.two f.fn d,?_,hR,g3,by rw[<-xS];exact g4.heap,g6,λe he=>g7 e (Go.Conc.mem_seen he)⟩;rw[x2,g2];simp only[doReturn,V,GStep.after];simp[G]
end
end
section
open Go.Conc (G touchAt Perm Quiet Knows touch_of getElem?_append_cases lt_of_act? act?_old knows_own)
open Go.ConcN (CT Apart PermW)
def LR{X:Type}(R:X->X->Prop)(ys xs:List X):Prop:=∃i x y,xs[i]?=an x/\R y x/\ys=xs.set i y
def wI{X:Type}{R:X->X->Prop}:∀(xs:List X),(∀x∈xs,Acc R x)->Acc (LR R) xs
 |[],_=>⟨_,λys⟨i,x,y,h,_⟩=>by simp at h⟩
 |x::xs,h=>by
  have h1:Acc R x:=h x aj;have n:Acc (LR R) xs:=wI xs λy p=>h y (by simp[p]);clear h
  induction h1 generalizing xs with
  |intro x r e=>
   induction n with
   |intro xs f d=>
    refine⟨_,λys l=>?_⟩;obtain⟨i,a,b,h,m,rfl⟩:=l;cases i with
    |zero=>simp at h;subst h;exact e b m xs ⟨_,f⟩
    |succ i=>simp at h;exact d _ ⟨i,a,b,h,m,rfl⟩
section
variable[ag]
def HR.still{K:aH}{φ:Ren}{h h' d:Array Obj}(H:HR K φ h h')(e:h'.size<=d.size)(f:∀b c,φ b=an c->d[c]?=h'[c]?):HR K φ h d:=by refine⟨H.inj,λb c hb=>?_,H.below,H.low,⟨H.fZ.1,aI H.fZ.2 e⟩,H.cl⟩;obtain⟨o,o',h1,i,l⟩:=H.obj b c hb;exact⟨o,o',h1,by rw[f b c hb];exact i,l⟩
def dK.still{P:NO}{K:aH}{B:List ajs}{φ:Ren}{g a:BE}{wg w d:AS}(h:dK P K B φ g wg a w)(i:w.heap.size<=d.heap.size)(l:∀b c,φ b=an c->d.heap[c]?=w.heap[c]?):dK P K B φ g wg a d:=by obtain⟨fr,e,m,f,h1,n,p,r,s,u⟩:=h;exact⟨fr,e,m,f,h1,n,p,r,s.still i l,u⟩
end
section
variable{Sh pD:Loc->Prop}{Own BV Rd Jj:Nat->Loc->Prop}{t:akt}{j:Nat}
def mS(t:akt)(l:Loc):Prop:=∀i x,touchAt t i=an x->x.loc≠l
def mS.perm{l:Loc}(h:mS t l)(g:Nat):Perm t g l:=λi a d e=>absurd e (h i a d)
def mS.TI{l:Loc}(h:mS t l)(g:Nat):PermW t g l:=λi a d e _=>absurd e (h i a d)
def CT.Gc(h:CT Sh Own Rd t j)(u:∀l,pD l->Sh l\/mS t l)(e:∀l,Sh l->pD l)
  (n:∀k,1<=k->k<=j->∀l,BV k l->Own k l\/mS t l)(z:∀k,1<=k->k<=j->∀l,Jj k l->Rd k l\/mS t l)
  (f:∀l,¬pD l->(∀k,1<=k->k<=j->¬BV k l/\¬Jj k l)->(∀k,1<=k->k<=j->¬Own k l/\¬Rd k l)\/mS t l)
  (m:∀l,¬pD l->(∀k,1<=k->k<=j->¬BV k l)->(∀k,1<=k->k<=j->¬Own k l)\/mS t l):CT pD BV Jj t j:=by
 refine⟨λi op a hi A d=>?_,λk p r l d=>?_,λk p r l d=>?_,λl s d=>?_,λl s d=>?_,h.nr,h.gs⟩
 ·rcases u _ d with h1|h1
  ·exact h.quiet i op a hi A h1
  ·exact absurd rfl (h1 i a (by rw[Go.Conc.touchAt_of hi];exact A))
 ·rcases n k p r l d with h1|h1
  ·exact h.own k p r l h1
  ·exact h1.perm k
 ·rcases z k p r l d with h1|h1
  ·exact h.rd k p r l h1
  ·exact h1.TI k
 ·rcases f l s d with h1|h1
  ·exact h.free l (λx=>s (e l x)) h1
  ·exact h1.perm 0
 ·rcases m l s d with h1|h1
  ·exact h.mine l (λx=>s (e l x)) h1
  ·exact h1.TI 0
def CT.join(h:CT Sh Own Rd t j)(F:t.HandedOver)(G:∀i x,touchAt t i=an x->¬Sh x.loc->x.loc.isMemory=true->x.kind=.plain)
  (hm:∀k l,1<=k->k<=j->Own k l\/Rd k l->l.isMemory=true):CT Sh uy uy t j:=by
 have m:∀l,¬Sh l->Perm t 0 l:=by
  intro l f;cases n:l.isMemory with
  |false=>exact h.free l f λk u A=>⟨λx=>(by have:=hm k l u A (.inl x);rw[n] at this;cases this),λx=>(by have:=hm k l u A (.inr x);rw[n] at this;cases this)⟩
  |true=>
   intro i a C d;obtain⟨op,e,p⟩:=touch_of C;by_cases D:op.g=0
   ·have:=knows_own e;rwa[D] at this
   ·have r:=G i a C (by rw[d];exact f) (by rw[d];exact n);obtain⟨q,hq,hb⟩:=F i op.g (by simp[Trace.g?,e]) D ⟨a,by simp[Trace.act?,e,p],by rw[d];exact n,.inl (by rw[r];simp)⟩;obtain⟨z,L,s⟩:=j6.1 hq;exact⟨q,z,L,s,.inr hb⟩
 exact⟨h.quiet,λ_ _ _ _ h=>h.elim,λ_ _ _ _ h=>h.elim,λl f _=>m l f,λl f _=>PermW.of (m l f),h.nr,h.gs⟩
end
end
section
variable[ag]
open Go.ConcN (upd upd_same upd_ne)
structure cJ where
 φ:Ren
 h0:Array Obj
 h1:Array Obj
 K:aH
 os:Os
 out:Array (Nat×ByteArray)
def jl(w w':AS):Prop:=w'.os=w.os/\w'.output=w.output
omit [ag] in
def jl.refl(w:AS):jl w w:=⟨rfl,rfl⟩
omit [ag] in
def jl.trans{a b c:AS}(h:jl a b)(k:jl b c):jl a c:=⟨k.1.trans h.1,k.2.trans h.2⟩
structure qk(S:cJ):Prop where
 rel:HR S.K S.φ S.h0 S.h1
 old:∀b,b<S.h0.size->S.K.ro b\/S.K.tok b
 new:∀b,S.h0.size<=b->¬S.K.ro b/\¬S.K.tok b
def aK(S:cJ)(Φ:Nat->Ren)(k c:Nat):Prop:=∃b,S.h0.size<=b/\Φ k b=an c
structure Mem(S:cJ)(j:Nat)(Φ:Nat->Ren)(H:Nat->Array Obj)(M:Nat->Prop)(h:Array Obj):Prop where
 size:S.h1.size<=h.size
 old:∀b,b<S.h1.size->h[b]?=S.h1[b]?
 start:qk S
 rel:∀k,k<j->HR S.K (Φ k) (H k) h
 le:∀k,k<j->Ren.le S.φ (Φ k)
 cM:∀k,k<j->S.h0.size<=(H k).size
 fresh:∀k,k<j->∀b c,Φ k b=an c->S.φ b=an c\/(S.h0.size<=b/\S.h1.size<=c)
 apart:∀k k',k<j->k'<j->k≠k'->∀c,aK S Φ k c->¬aK S Φ k' c
 main:∀k,k<j->∀c,aK S Φ k c->¬M c
 mlt:∀c,M c->S.h1.size<=c/\c<h.size
section
variable{S:cJ}{j:Nat}{Φ:Nat->Ren}{H:Nat->Array Obj}{M:Nat->Prop}{h h':Array Obj}
def aK.upd_ne{d:Nat}{ψ:Ren}(e:d≠k)(x:aK S (TE Φ k ψ) d c):aK S Φ d c:=by obtain⟨b,h1,f⟩:=x;rw[Go.ConcN.upd_ne Φ ψ e] at f;exact⟨b,h1,f⟩
def Mem.l6(I:Mem S j Φ H M h){k c:Nat}(d:k<j)(x:aK S Φ k c):S.h1.size<=c/\c<h.size:=by
 obtain⟨b,h1,e⟩:=x;refine⟨?_,((I.rel k d).lt e).2⟩;rcases I.fresh k d b c e with f|f
 ·have:=(I.start.rel.lt f).1;omega
 ·omega
def Mem.image(I:Mem S j Φ H M h)(e:k<j)(x:Φ k b=an c):aK S Φ k c\/(c<S.h1.size/\S.φ b=an c):=by
 rcases I.fresh k e b c x with d|d
 ·exact .inr ⟨(I.start.rel.lt d).2,d⟩
 ·exact .inl ⟨b,d.1,x⟩
def Mem.leaves(I:Mem S j Φ H M h)(d:k<j){ψ:Ren}(hr:iF S.K (Φ k) ψ (H k).size h h')(hc:c<h.size)(f:¬aK S Φ k c):h'[c]?=h[c]?:=by
 refine hr.apart c hc λb hb=>?_;rcases I.image d hb with h1|⟨_,e⟩
 ·simp_all
 ·exact I.start.old b (I.start.rel.lt e).1
def Mem.step(I:Mem S j Φ H M h)(p:k<j){ψ:Ren}{r:Array Obj}(hr:iF S.K (Φ k) ψ (H k).size h h')(F:HR S.K ψ r h')(G:(H k).size<=r.size):Mem S j (TE Φ k ψ) (TE H k r) M h':=by
 have f:∀c,aK S (TE Φ k ψ) k c->aK S Φ k c\/h.size<=c:=by
  rintro c⟨b,h1,m⟩;rw[ajP] at m;rcases hr.fresh b c m with l|l
  ·exact .inl ⟨b,h1,l⟩
  ·exact .inr l.2
 refine⟨aI I.size hr.size,λb hb=>?_,I.start,λk' d=>?_,λk' d=>?_,λk' d=>?_,λk' d b c hb=>?_,λs u h1 m i c A n=>?_,λk' d c x=>?_,λc hc=>?_⟩
 ·rw[I.leaves p hr (Nat.lt_of_lt_of_le hb I.size) λx=>by have:=(I.l6 p x).1;omega];exact I.old b hb
 ·by_cases e:k'=k
  ·subst e;rw[ajP,ajP];exact F
  ·rw[upd_ne Φ ψ e,upd_ne H r e];refine(I.rel k' d).still hr.size λb c hb=>?_;refine I.leaves p hr ((I.rel k' d).lt hb).2 λx=>?_;rcases I.image d hb with h1|⟨h1,_⟩
   ·exact I.apart k' k d p e c h1 x
   ·have:=(I.l6 p x).1;omega
 ·by_cases e:k'=k
  ·subst e;rw[ajP];exact Ren.le_trans (I.le k' d) hr.le
  ·rw[upd_ne Φ ψ e];exact I.le k' d
 ·by_cases e:k'=k
  ·subst e;rw[ajP];exact aI (I.cM k' d) G
  ·rw[upd_ne H r e];exact I.cM k' d
 ·by_cases e:k'=k
  ·subst e;rw[ajP] at hb;rcases hr.fresh b c hb with l|l
   ·exact I.fresh k' d b c l
   ·exact .inr ⟨aI (I.cM k' d) l.1,aI I.size l.2⟩
  ·rw[upd_ne Φ ψ e] at hb;exact I.fresh k' d b c hb
 ·by_cases C:s=k
  ·subst C;have n:=n.upd_ne (jG i);rcases f c A with y|y
   ·exact I.apart s u h1 m i c y n
   ·have:=(I.l6 m n).2;omega
  ·have z:=A.upd_ne C;by_cases D:u=k
   ·subst D;rcases f c n with y|y
    ·exact I.apart s u h1 m i c z y
    ·have:=(I.l6 h1 z).2;omega
   ·exact I.apart s u h1 m i c z (n.upd_ne D)
 ·by_cases e:k'=k
  ·subst e;rcases f c x with y|y
   ·exact I.main k' d c y
   ·exactλhm=>by have:=(I.mlt c hm).2;omega
  ·exact I.main k' d c (x.upd_ne e)
 ·have:=I.mlt c hc;exact⟨this.1,bH this.2 hr.size⟩
def Mem.Hz(I:Mem S j Φ H M h){M':Nat->Prop}(f:h.size<=h'.size)(i:∀c,c<h.size->¬M c->h'[c]?=h[c]?)(hm:∀c,M c->M' c)(e:∀c,M' c->M c\/(h.size<=c/\c<h'.size)):Mem S j Φ H M' h':=by
 refine⟨aI I.size f,λb hb=>?_,I.start,λk d=>?_,I.le,I.cM,I.fresh,I.apart,λk d c x y=>?_,λc hc=>?_⟩
 ·rw[i b (Nat.lt_of_lt_of_le hb I.size) λx=>by have:=(I.mlt b x).1;omega];exact I.old b hb
 ·refine(I.rel k d).still f λb c hb=>i c ((I.rel k d).lt hb).2 λx=>?_;rcases I.image d hb with h1|⟨h1,_⟩
  ·exact I.main k d c h1 x
  ·have:=(I.mlt c x).1;omega
 ·rcases e c y with h1|h1
  ·exact I.main k d c x h1
  ·have:=(I.l6 d x).2;omega
 ·rcases e c hc with h1|h1
  ·have:=I.mlt c h1;omega
  ·have:=I.size;omega
def Mem.fork(I:Mem S j Φ H M h):Mem S (j+1) (TE Φ j S.φ) (TE H j S.h0) M h:=by
 have ns:∀c,¬aK S (TE Φ j S.φ) j c:=by rintro c⟨b,h1,f⟩;rw[ajP] at f;have:=(I.start.rel.lt f).1;omega
 have lt:∀k,k<j+1->k≠j->k<j:=λk h1 f=>by omega
 have i:=I.start.rel.still I.size λb c hb=>I.old c (I.start.rel.lt hb).2;refine⟨I.size,I.old,I.start,λk d=>?_,λk d=>?_,λk d=>?_,λk d b c hb=>?_,λp r h1 f l c s u=>?_,λk d c x=>?_,I.mlt⟩
 ·by_cases e:k=j
  ·subst e;rw[ajP,ajP];exact i
  ·rw[upd_ne Φ _ e,upd_ne H _ e];exact I.rel k (lt k d e)
 ·by_cases e:k=j
  ·subst e;rw[ajP];exact Ren.le_refl _
  ·rw[upd_ne Φ _ e];exact I.le k (lt k d e)
 ·by_cases e:k=j
  ·subst e;rw[ajP];exact av _
  ·rw[upd_ne H _ e];exact I.cM k (lt k d e)
 ·by_cases e:k=j
  ·subst e;rw[ajP] at hb;exact .inl hb
  ·rw[upd_ne Φ _ e] at hb;exact I.fresh k (lt k d e) b c hb
 ·by_cases m:p=j
  ·subst m;exact ns c s
  ·by_cases n:r=j
   ·subst n;exact ns c u
   ·exact I.apart p r (lt _ h1 m) (lt _ f n) l c (s.upd_ne m) (u.upd_ne n)
 ·by_cases e:k=j
  ·subst e;exact absurd x (ns c)
  ·exact I.main k (lt k d e) c (x.upd_ne e)
end
end
end Go.Proofs.Q0.aL
