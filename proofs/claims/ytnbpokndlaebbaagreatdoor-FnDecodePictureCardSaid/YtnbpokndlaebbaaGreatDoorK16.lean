import Derived.Test.YtnbpokndlaebbaaGreatDoorK15
import Derived.Conc.Beside
import Derived.Conc.CrowdCom2
set_option maxRecDepth 100000
set_option maxHeartbeats 8000000
set_option linter.all false
open Go.Value renaming int->U,slice->Y,bool->ci,agg->bi,pointer->d9,tuple->em,iface->gc
open Go.IntKind renaming i64->O
open Go.Obj renaming cells->ap
open Go.Ending renaming returned->dl
open Array renaming getElem?_map->ajN,getElem?_setIfInBounds_ne->ahT
open Bool renaming false->Ba,true->AT
open Go renaming Event->aiK,Frame->ahY,Goroutine->BE,Program->OF,Trace->aiX,TypeId->SL,Value->AS,World->rl,stepG->aiq
open Go.Conc renaming Deaf_other->akD,getElem?_append_cases->akc
open Go.ConcN renaming upd->TO,upd_same->aix
open Go.MemAct renaming ofEvent->ail,touch?->akz
open Go.MemOp renaming ofEvents->aft
open Option renaming none->ns,some->an
namespace Go.Proofs
abbrev jT:=@Go.Conc.mem_ofEvents
def Kq{p:Prop}(h:p:=by rw[Array.getElem?_setIfInBounds_ne aa,Array.getElem?_map] at hx;obtain⟨y,hy,rfl⟩:=jR.1 hx;have hq:=h.lv.old j y hj hy;rw[woken_quitsD hq,Deaf_other t aa _ hg];exact hq):p:=h
def Kr{p:Prop}(h:p:=by rw[tv] at hj;rw[Deaf_other t (g':=0) (by have:=h.pos;omega) _ hg];exact h.lv.above j hj):p:=h
def CK{p:Prop}(h:p:=by rw[Go.Conc.touchAt_of pz];exact pu):p:=h
abbrev uX:=@Go.MemAct.low_mono
abbrev zp:=@Array.mem_iff_getElem
abbrev iI:=@Nat.eq_zero_or_pos
def LQ{p:Prop}(h:p:=by exact⟨0,gs,a,w,sl,t,q,φ,x.1,x.2,rfl,rfl,h0,PP,hW,.inl rfl,.refl _ _ _ _,ay _,hA,hl,hD⟩):p:=h
def LS{p:Prop}(h:p:=by
  obtain rfl:g=a:=by rw[h0] at hi;exact(aH hi).symm
  obtain⟨g1,UR,ψ,a1,w1,es,hn,IL,hs,Ca,hR,dg,hev⟩:=Oy (m:=true) hB hC hz hG hF (hD.at d) hW (λh=>hl (.inl h)) λh=>hl (.inr h);have Gp:=runT_crowd_go (P:=P.two) (sl:=qr) (i:=0) hi (show stepG P.two (0==0) g (w.at d)=_ from hs);have Cb:=hA.next PP.shl hR.fresh
  have hH:HR K ψ UR.heap w1.heap:=by obtain⟨_,_,_,_,_,_,_,_,h,_⟩:=Ca;exact h
  have U':=PP.step0 (a:=g) (a':=a1) (w':=w1) (fn:=g.frame.fn) (pos:=g.frame.place) hH hR.left.size hev Cb;have tD:=PP.pos;obtain⟨N,K',a',w',Gq,t',q',χ,g',ug,y1,y2,y3,y4,y5,y6,y7,y8,y9,y10⟩:=ih _ hn (sumTo ((gs.map (woken P.two g a1 w1)).setIfInBounds 0 a1).size q) _ a1 w1 qr _ q ψ (ay _) IL Ca U' (by simp[tD]) Cb;exact⟨N+1,K',a',w',Gq,t',q',χ,g',ug,by simp only[runNT,ii,Gp];exact y1,y2.trans au,y3,y4,y5,y6.then hn,hR.q.at.trans y7 dg,aQ dg y8,y9,y10⟩):p:=h
def Ks{p:Prop}(h:p:=by have aV:=(bU.1 hi).1;have hle:=Go.ConcN.le_sumTo (f:=q) aV;have Nm:q i=0:=aa;rw[Nm] at hq;rw[hq.1] at hg;cases hg):p:=h
def yD{p:Prop}(h:p:=by rw[tX];exact Bv (w.at d)):p:=h
def Dn{p:Prop}(h:p:=by have:=sumTo_upd q k id aV;simpa[Nm] using this):p:=h
def Kt{p:Prop}(h:p:=by
  rw[zh];rcases hb with hb|hb
  ·exact⟨hb.1,rfl⟩
  ·exact⟨PG hb,rfl⟩):p:=h
abbrev pP:=@Nat.not_lt
def LU{p:Prop}(h:p:=by have:=congrArg (λg:Goroutine=>g.callers.length) e0;simp[G] at this;exact this):p:=h
end Go.Proofs
namespace Go.Proofs.Q0.aM
variable{h':Array Obj}{c k b:Nat}{w wg:rl}{q:Nat->Nat}{a g:BE}{gs:Array BE}{x y:BE×rl}{E:Nat->Bool}{o:Obj}{v:AS}{t:SL}{fs:Array Func}{B:List ahY}
section
variable[ah]
open Go.Conc (G Leavers QuitsD crowd woken Deaf touchAt crowd_pick runT_crowd_go awake_of awake woken_quitsD woken_run Deaf_other Deaf_own getElem?_append_cases touch_of handedOver_app)
open Go.ConcN (CT Apart Ok0 OkW sumTo upd sumTo_upd upd_same upd_ne)
def uh:Nat->Loc->Prop:=λ_ _=>False
omit [ah] in
def ED(Sh:Loc->Prop):Apart Sh uh uh:=⟨λ_ _ _ h=>h.elim,λ_ _ _ h=>h.elim,λ_ _ h=>h.elim,λ_ _ h=>h.elim⟩
structure dS(P:OF)(Sh:Loc->Prop)(gs:Array BE)(w:rl)(t:aiX)(q:Nat->Nat):Prop where
 lv:Leavers P t gs q
 ct:CT Sh uh uh t (gs.size-1)
 pos:0<gs.size
 plain:∀i x,touchAt t i=an x->¬Sh x.loc->x.loc.isMemory=AT->x.kind=.plain
 over:t.HandedOver
 hears:Deaf t 0=0
 low:∀op∈t,op.act.low w.heap.size
 shl:∀l,Sh l->∃a,l=.cell a/\a.block<w.heap.size
def bQ(c:Nat)(l:Loc):Prop:=(∃a,l=.cell a/\a.block=c)\/l=.obj c
section
variable{P:OF}{K:aI}{ψ:Ren}
def zM{e:aiK}(h:fp K ψ e){x:Touch}(d:(ail e).touch?=an x):x.kind=.plain/\∃b c,ψ b=an c/\bQ c x.loc/\(x.write=AT->¬K.ro b/\¬K.tok b):=by
 obtain⟨s,wr,u⟩:=e;rcases h with⟨a,b,h1,i,n,l,p⟩|⟨r,b,h1,i,n,l⟩|⟨m,h1,hq⟩
 ·simp only at h1 i p;subst h1;subst i;simp only[ail,akz,Option.some.injEq] at d;subst d;exact⟨rfl,b,a.block,n,.inl ⟨a,rfl,rfl⟩,λhw=>⟨p hw,l⟩⟩
 ·simp only at h1 i l;subst h1;subst i;have e:(ail ⟨.obj r,wr,Ba⟩).touch?=an ⟨.obj r,wr,.plain⟩:=by cases wr<;>rfl
  rw[e] at d;cases d;exact⟨rfl,b,r,n,.inr rfl,λhw=>⟨(l hw).2,(l hw).1⟩⟩
 ·simp only at h1;subst h1;rcases hq with rfl|⟨f,rfl⟩<;>simp[ail,akz] at d
def QM{e:aiK}{h:Array Obj}(H:HR K ψ h h')(he:fp K ψ e):(ail e).low h'.size:=by
 obtain⟨l,wr,p⟩:=e;rcases he with⟨a,b,h1,d,i,n,s⟩|⟨r,b,h1,d,i,n⟩|⟨m,h1,hq⟩
 ·simp only at h1 d;subst h1;exact(H.lt i).2
 ·simp only at h1 d;subst h1;subst d;have e:ail ⟨.obj r,wr,Ba⟩=.access ⟨.obj r,wr,Ba⟩:=by cases wr<;>rfl
  rw[e];exact(H.lt i).2
 ·simp only at h1;subst h1;rcases hq with rfl|⟨f,rfl⟩<;>trivial
def Oz{e:aiK}(h:fp K ψ e):e.loc≠.mark .disable/\e.loc≠.mark .enable:=by rcases h with⟨a,b,h1,_⟩|⟨r,b,h1,_⟩|⟨m,h1,rfl|⟨f,rfl⟩⟩<;>rw[h1]<;>exact⟨λe=>bG,λe=>bG⟩
omit [ah] in
theorem abw{Sh:Loc->Prop}(d:∀l,Sh l->∃a,l=.cell a/\a.block<w.heap.size)(hc:w.heap.size<=c){l:Loc}(f:bQ c l):¬Sh l:=by
 intro h;obtain⟨a,rfl,i⟩:=d l h;rcases f with⟨m,e,rfl⟩|e
 ·grind
 ·cases e
def kX(Sh:Loc->Prop)(ψ:Ren):Prop:=∀b c,ψ b=an c->∀l,bQ c l->¬Sh l
omit [ah] in
def kX.next{Sh:Loc->Prop}{φ:Ren}{n:Nat}(h:kX Sh φ)(e:∀l,Sh l->∃a,l=.cell a/\a.block<w.heap.size)(f:∀b c,ψ b=an c->φ b=an c\/(n<=b/\w.heap.size<=c)):kX Sh ψ:=by
 intro b c hb l d;rcases f b c hb with h1|⟨_,h1⟩
 ·exact h b c h1 l d
 ·exact abw e h1 d
def dS.step0{Sh:Loc->Prop}{a':BE}{w':rl}{t:aiX}{d:Array aiK}{fn:FuncId}{pos:String}{h0:Array Obj}(h:dS P Sh gs w t q)(s:HR K ψ h0 w'.heap)(n:w.heap.size<=w'.heap.size)(hd:∀e∈d,fp K ψ e)(r:kX Sh ψ):
  dS P Sh ((gs.map (woken P a a' w')).setIfInBounds 0 a') w' (t++aft 0 fn pos d) q:=by
 have f:∀op∈aft 0 fn pos d,∃e∈d,op={g:=0,fn,pos,act:=.ofEvent e}:=λop f=>jT f;have hg:∀op∈aft 0 fn pos d,op.g=0:=λop h=>by obtain⟨e,_,rfl⟩:=f op h;rfl
 have tv:((gs.map (woken P a a' w')).setIfInBounds 0 a').size=gs.size:=au;refine⟨⟨λj x hj hx=>?_,λj hj=>?_⟩,?_,by rw[tv];exact h.pos,λi x hx u hm=>?_,handedOver_app h.over λop m=>.inl (hg op m),?_,λop m=>?_,λl z=>?_⟩
 ·exact Kq
 ·exact Kr
 ·rw[tv];refine h.ct.app0 (ED Sh) λop m=>?_;obtain⟨e,he,rfl⟩:=f op m;refine⟨rfl,λx hx=>.inr ?_⟩;obtain⟨_,b,c,h1,A,_⟩:=zM (hd e he) hx;exact⟨r b c h1 _ A,λ_ _ _ h=>h,λ_ _ _ _ h=>h⟩
 ·obtain⟨op,m,pu⟩:=touch_of hx;rcases akc m with⟨_,pz⟩|⟨_,p⟩
  ·exact h.plain i x CK u hm
  ·obtain⟨e,he,rfl⟩:=f op p;exact(zM (hd e he) pu).1
 ·rw[Deaf_own,Go.Conc.deafBehind_still λe he=>Oz (hd e he)];exact h.hears
 ·rcases jv.1 m with m|m
  ·exact uX n (h.low op m)
  ·obtain⟨e,he,rfl⟩:=f op m;exact QM s (hd e he)
 ·obtain⟨a,e,r⟩:=h.shl l z;exact⟨a,e,aa⟩
def dS.Gr{Sh:Loc->Prop}{g':BE}{t:aiX}{d:Array aiK}{i n:Nat}(h:dS P Sh gs w t q)(hi:gs[i]?=an g)(W:0<i)(hm:∀e∈d,e.mute=AT)
  (C:QuitsD P k (deafBehind (Deaf t i) d) g'):
  dS P Sh ((gs.map (woken P g g' (w.at n))).setIfInBounds i g') (w.at n) (t++aft i g.frame.fn g.frame.place d) (TO q i k):=by
 have p:∀op∈aft i g.frame.fn g.frame.place d,∃e∈d,op={g:=i,fn:=g.frame.fn,pos:=g.frame.place,act:=.ofEvent e}:=λop p=>jT p;have z:∀op∈aft i g.frame.fn g.frame.place d,op.g=i:=λop h=>by obtain⟨e,_,rfl⟩:=p op h;rfl
 have G:∀op∈aft i g.frame.fn g.frame.place d,op.act.touch?=ns:=λop h=>by obtain⟨e,he,rfl⟩:=p op h;exact Go.Conc.touch_mute (hm e he)
 have D:=(bU.1 hi).1;have f:((gs.map (woken P g g' (w.at n))).setIfInBounds i g').size=gs.size:=au;refine⟨⟨λj x A r=>?_,λj A=>?_⟩,?_,by rw[f];exact h.pos,λL x r N F=>?_,handedOver_app h.over λop m=>.inr (G op m),?_,λop m=>?_,λl R=>?_⟩
 ·by_cases s:i=j
  ·subst s;rw[Array.getElem?_setIfInBounds_self_of_lt (by simpa using D)] at r;obtain rfl:=aH r;rw[aix,Deaf_own];exact C
  ·rw[ahT s,ajN] at r;obtain⟨y,T,rfl⟩:=jR.1 r;have u:=h.lv.old j y A T;rw[woken_quitsD u,upd_ne q k (Ne.symm s),akD t s _ z];exact u
 ·rw[f] at A;rw[akD t (g':=i) aa _ z];exact h.lv.above j A
 ·rw[f];exact h.ct.appW (ED Sh) aa aa λop m=>⟨z op m,λx r=>by rw[G op m] at r;cases r⟩
 ·obtain⟨op,m,pu⟩:=touch_of r;rcases akc m with⟨_,pz⟩|⟨_,V⟩
  ·exact h.plain L x CK N F
  ·simp_all
 ·rw[akD t (g':=i) aa _ z];exact h.hears
 ·rcases jv.1 m with m|m
  ·exact h.low op m
  ·obtain⟨e,he,rfl⟩:=p op m;exact Go.Conc.low_mute (hm e he) _
 ·exact h.shl l R
def dS.at{Sh:Loc->Prop}{t:aiX}(h:dS P Sh gs w t q)(n:Nat):dS P Sh gs (w.at n) t q:=⟨h.lv,h.ct,h.pos,h.plain,h.over,h.hears,h.low,h.shl⟩
def dS.awake{Sh:Loc->Prop}{t:aiX}(h:dS P Sh gs w t q)(h0:gs[0]?=an a)(hr:a.status=.running):∀g∈gs,awake g:=by
 intro g e;obtain⟨i,hi,rfl⟩:=zp.1 e;rcases iI i with rfl|d
 ·have:gs[0]=a:=by simpa[Array.getElem?_eq_getElem hi] using h0
  rw[this];exact awake_of (.inl hr)
 ·exact awake_of ((h.lv.old i _ d (eO hi)).status.elim .inl λx=>.inr (.inr x))
end
end
section
variable[ah]
open Go.Conc (G Leavers QuitsD crowd woken Deaf touchAt crowd_pick runT_crowd_go awake_of awake woken_quitsD woken_run Deaf_other Deaf_own)
open Go.ConcN (CT Apart Ok0 OkW sumTo upd sumTo_upd upd_same upd_ne)
inductive fJ(P:OF):BE×rl->BE×rl->Prop
 |one {y x:BE×rl}:Nx P y x->fJ P y x
 |more {z y x:BE×rl}:Nx P z y->fJ P y x->fJ P z x
omit [ah] in
def fJ.trans{P:OF}{z y x:BE×rl}(h:fJ P z y)(k:fJ P y x):fJ P z x:=by induction h with|one h=>exact .more h k|more h _ d=>exact .more h (d k)
omit [ah] in
def ac6{P:OF}(h:Acc (Nx P) x):Acc (fJ P) x:=by
 induction h with
 |intro x _ d=>
  refine⟨_,λy e=>?_⟩
  have f:∀{y x:BE×rl},fJ P y x->(∀y,Nx P y x->Acc (fJ P) y)->Acc (fJ P) y:=by
   intro y x e
   induction e with
   |one h=>exactλd=>d _ h
   |more h _ i=>exactλd=>(i d).inv (.one h)
  exact f e d
def fK(P:OF)(y x:BE×rl):Prop:=y=x\/fJ P y x
omit [ah] in
def fK.then{P:OF}{z:BE×rl}(h:fK P z y)(k:Nx P y x):fK P z x:=by
 rcases h with rfl|h
 ·exact .inr (.one k)
 ·exact .inr (h.trans (.one k))
section
variable{P:OF}{K:aI}{Q:BE->Array Obj->Prop}{B:List ahY}{Sh:Loc->Prop}
def dJ.running{φ:Ren}(h:dJ P K B φ g wg a w):a.status=.running:=by obtain⟨fr,d,f,e,rfl,rfl,_⟩:=h;rfl
def dJ.at{φ:Ren}(h:dJ P K B φ g wg a w)(n:Nat):dJ P K B φ g wg a (w.at n):=h
def X4(hB:dz P)(hC:ef P)(hz:cN P)(hG:K.G=P.globals.size)(hF:dX P K)(T:Acc (Nx P) x):
  ∀(M:Nat)(gs:Array BE)(a:BE)(w:rl)(sl:Option (Nat×Nat))(t:aiX)(q:Nat->Nat)(φ:Ren),sumTo gs.size q<=M->bO P Q x.1 x.2->dJ P K B φ x.1 x.2 a w->dS P.two Sh gs w t q->gs[0]?=an a->kX Sh φ->
   ∃(N:Nat)(f:Array BE)(a':BE)(w':rl)(qr:Option (Nat×Nat))(s:aiX)(u:Nat->Nat)(ψ:Ren)(g':BE)(l:rl),
    runNT P.two N (crowd gs w sl) t=(.next (crowd f w' qr),s)/\f.size=gs.size/\f[0]?=an a'/\dS P.two Sh f w' s u/\bO P Q g' l/\fK P (g',l) x/\j3 K φ ψ x.2.heap.size w w'/\x.2.heap.size<=l.heap.size/\kX Sh ψ/\
     (Lv P g'\/tl g')/\dJ P K B ψ g' l a' w':=by
 induction T with
 |intro x L ih=>
  intro M
  induction M with
  |zero=>
   intro gs a w sl t q φ V hW hD PP h0 hA;by_cases hl:Lv P x.1\/tl x.1
   ·exact LQ
   ·obtain⟨i,g,d,qr,hi,hg,ii⟩:=crowd_pick (P:=P.two) (w:=w) (sl:=sl) (PP.awake h0 hD.running) ⟨0,a,h0,hD.running⟩;rcases iI i with rfl|e
    ·exact LS
    ·exfalso;have hq:=PP.lv.old i g e hi;exact Ks
  |succ M z=>
   intro gs a w sl t q φ V hW hD PP h0 hA;by_cases hl:Lv P x.1\/tl x.1
   ·exact LQ
   ·obtain⟨i,g,d,qr,hi,hg,ii⟩:=crowd_pick (P:=P.two) (w:=w) (sl:=sl) (PP.awake h0 hD.running) ⟨0,a,h0,hD.running⟩;rcases iI i with rfl|e
    ·exact LS
    ·have hq:=PP.lv.old i g e hi;have tX:(i==0)=Ba:=av;have aV:=(bU.1 hi).1;cases Nm:q i with
     |zero=>rw[Nm] at hq;rw[hq.1] at hg;cases hg
     |succ k=>
      rw[Nm] at hq;rcases hq with⟨W,_⟩|⟨_,g',es,hm,Bv,A⟩
      ·rw[W] at hg;cases hg
      have m:=runT_crowd_go (P:=P.two) (sl:=qr) (i:=i) hi yD
      have R:sumTo gs.size (TO q i k)+(k+1)=sumTo gs.size q+k:=by exact Dn
      have C:=PP.Gr (n:=d) hi e hm A;have r:((gs.map (woken P.two g g' (w.at d))).setIfInBounds i g').size=gs.size:=au
      obtain⟨N,f,a',w',p,s,u,χ,D,l,X,Z,y3,y4,y5,y6,y7,y8,y9,F⟩:=z _ a (w.at d) qr _ (TO q i k) φ (by rw[r];omega) hW (hD.at d) C
       (by rw[ahT (by omega),ajN,h0];simp[woken_run hD.running]) hA
      exact⟨N+1,f,a',w',p,s,u,χ,D,l,by simp only[runNT,ii,m];exact X,by rw[Z,r],y3,y4,y5,y6,y7.at,y8,y9,F⟩
end
end
section
variable[ah]
open Go.Conc (G)
def gK(e:Bool):Obj->Obj
 |.cells cs t _=>if e&&0<cs.size then .stringIter default 0 else .cells cs t (0,cs.size)
 |.number a l=>.number a l
 |_=>.stringIter default 0
def kJ(E:Nat->Bool)(h:Array Obj):Array Obj:=h.mapIdx λb o=>gK (E b) o
def oQ(E:Nat->Bool)(h:Array Obj)(b:Nat):Prop:=∃o,h[b]?=an o/\∀cs t f,gK (E b) o≠.cells cs t f
def qM(E:Nat->Bool)(h:Array Obj)(G:Nat):aI where
 ro b:=b<h.size/\¬oQ E h b
 tok b:=oQ E h b
 strict:=AT
 G:=G
def Ren.fS(φ:Ren):Ren:=λb=>if(φ b).isSome then an b else ns
omit [ah] in
def Ren.zN{φ:Ren}(h:φ b=an c):Ren.fS φ b=an b:=by simp[Ren.fS,h]
omit [ah] in
def Ren.td{φ:Ren}(h:Ren.fS φ b=an c):c=b/\∃d,φ b=an d:=by
 unfold Ren.fS at h;split at h
 ·next x=>exact⟨(aH h).symm,pN.1 x⟩
 ·cases h
omit [ah] in
def AR.id{φ:Ren}{a a':Addr}(h:AR φ a a'):AR (Ren.fS φ) a a:=⟨Ren.zN h.block,rfl,rfl⟩
omit [ah] in
def vi{h:Array Obj}(b:Nat):(kJ E h)[b]?=(h[b]?).map (gK (E b)):=by simp[kJ]
omit [ah] in
def zh{h:Array Obj}:(kJ E h).size=h.size:=by simp[kJ]
omit [ah] in
def PG{h:Array Obj}(hb:oQ E h b):b<h.size:=by obtain⟨o,d,_⟩:=hb;exact(bU.1 d).1
omit [ah] in
def hO{h:Array Obj}(d:h[b]?=an o):oQ E h b<->∀cs t f,gK (E b) o≠.cells cs t f:=by
 constructor
 ·rintro⟨i,h1,e⟩;rw[d] at h1;cases h1;exact e
 ·exactλh=>⟨o,d,h⟩
end
abbrev ah.exact(J:ah)(fs:Array Func):ah:={J with fs:=fs,dL:=λ_ _=>False,jk:=λv=>v=aX}
section
variable{I J:ah}{φ:Ren}
structure ah.ku(I J:ah):Prop where
 fv:∀f,I.fv f<->J.fv f
 np:∀t,I.np t<->J.np t
 cl:∀b,I.cl b<->J.cl b
 hd:∀t,I.hd t<->J.hd t
 jk:∀v,I.jk v<->J.jk v
def ah.ku.symm(h:ah.ku I J):ah.ku J I:=⟨λf=>(h.fv f).symm,λf=>(h.np f).symm,λf=>(h.cl f).symm,λf=>(h.hd f).symm,λf=>(h.jk f).symm⟩
structure ah.Le(I J:ah):Prop extends ah.ku I J where
 ok:∀f,I.ok f->J.ok f
 lv:∀f i,I.ok f->J.lv f i->I.lv f i
 cd:∀f c,I.cd f c->J.cd f c
def Tk.inst(h:ah.ku I J)(x:@Tk I v):@Tk J v:=by induction x with|ptr x=>exact@Tk.ptr J _ ((h.cl _).1 x)|agg _ d=>exact@Tk.agg J _ d
def Pl.inst(h:ah.ku I J)(x:@Pl I t v):@Pl J t v:=by
 rcases x with x|⟨a,e,x⟩|⟨x,y⟩
 ·exact .inl ((h.np _).1 x)
 ·exact .inr (.inl ⟨a,e,(h.cl _).1 x⟩)
 ·exact .inr (.inr ⟨(h.hd _).1 x,y.inst h⟩)
def fC.inst(h:ah.ku I J){f f':Fn}(x:@fC I φ f f'):@fC J φ f f':=by cases x with|func f d=>exact@fC.func J φ f ((h.fv f).1 d)|yield e=>exact@fC.yield J φ _ _ e
def VR.inst(h:ah.ku I J){v':AS}(x:@VR I φ v v'):@VR J φ v v':=by induction x with|bool b=>exact@VR.bool J φ b|int a n=>exact@VR.int J φ a n|string s=>exact@VR.string J φ s|nilFunc=>exact@VR.nilFunc J φ|nilIface=>exact@VR.nilIface J φ|nilPtr=>exact@VR.nilPtr J φ|jZ=>exact@VR.jZ J φ|jX=>exact@VR.jX J φ|ptr h=>exact@VR.ptr J φ _ _ h|dU n c=>exact@VR.dU J φ n c|slice n c h=>exact@VR.slice J φ _ _ n c h|empty=>exact@VR.empty J φ _ _|iface t _ p d=>exact@VR.iface J φ t _ _ d (p.inst h)|aX i l=>exact@VR.aX J φ _ ((h.jk _).1 i) l|agg e _ d=>exact@VR.agg J φ _ _ e d|tuple e _ d=>exact@VR.tuple J φ _ _ e d|func m e _ r _ d f=>exact@VR.func J φ _ _ _ _ _ _ (fC.inst h m) e d r f
def aB.inst(h:ah.ku I J){xs ys:Array AS}(x:@aB I φ xs ys):@aB J φ xs ys:=@aB.mk J φ _ _ (@aB.size I φ _ _ x) λi a b d hb=>VR.inst h (@aB.at_ I φ _ _ x i a b d hb)
def cL.inst(h:ah.Le I J){l l':Loop}(x:@cL I φ l l'):@cL J φ l l':=
 @cL.mk J φ _ _ (@cL.state I _ _ _ x) (@cL.pending I _ _ _ x) (@cL.fn I _ _ _ x) (@cU.mk J _ _ _ _ (@cU.size I _ _ _ _ (@cL.tmps I _ _ _ x)) (λi a b hi d hb=>VR.inst h.toku (@cU.at_ I _ _ _ _ (@cL.tmps I _ _ _ x) i a b (h.lv _ i (@cL.okF I _ _ _ x) hi) d hb)) λi hi=>@cU.tY I _ _ _ _ (@cL.tmps I _ _ _ x) i (h.lv _ i (@cL.okF I _ _ _ x) hi)) (@cL.params I _ _ _ x) (@cL.assign I _ _ _ x) (@cL.body I _ _ _ x) (@cL.defers I _ _ _ x) (h.cd _ _ (@cL.rz I _ _ _ x)) (h.cd _ _ (@cL.okB I _ _ _ x)) (@cL.tZ I _ _ _ x) (h.ok _ (@cL.okF I _ _ _ x))
def OR.inst(h:ah.Le I J){d:Obj}(x:@OR I φ o d):@OR J φ o d:=by cases x with|cells t f x=>exact@OR.cells J φ _ _ t f (aB.inst h.toku x)|loop x=>exact@OR.loop J φ _ _ (cL.inst h x)|deferred=>exact@OR.deferred J φ|taken=>exact@OR.taken J φ|number l x=>exact@OR.number J φ _ _ l x
def HO.inst(h:ah.Le I J){K:aI}{o':Obj}(x:@HO I K φ b o o'):@HO J K φ b o o':=by
 cases x with
 |own h1 d i f=>exact@HO.own J K φ b _ _ h1 d (OR.inst h i) f
 |shut t h1 d i f=>exact@HO.shut J K φ b _ _ t _ h1 d (aB.inst h.toku i) λe=>f ((h.cl b).2 e)
 |token s p cs' t h1 d f=>exact@HO.token J K φ b s p cs' t _ h1 d λe=>f ((h.cl b).2 e)
 |blank s p h1 d=>exact@HO.blank J K φ b s p _ h1 d
 |num l h1 d=>exact@HO.num J K φ b _ _ l h1 d
def HR.inst(h:ah.Le I J){K:aI}{g g':Array Obj}(x:@HR I K φ g g'):@HR J K φ g g':=
 @HR.mk J K φ g g' (λb c d hb hc=>(@HR.inj I _ _ _ _ x b c d hb hc).imp_right λm=>⟨m.1,m.2.1,λn=>m.2.2.1 ⟨(h.cl b).2 n.1,(h.cl c).2 n.2⟩,m.2.2.2⟩) (λb c hb=>let⟨o,o',h1,e,f⟩:=@HR.obj I _ _ _ _ x b c hb;⟨o,o',h1,e,HO.inst h f⟩) (@HR.below I _ _ _ _ x) (@HR.low I _ _ _ _ x) (@HR.fX I _ _ _ _ x)
def fC.id{f f':Fn}(h:@fC J φ f f'):@fC (ah.exact J fs) (Ren.fS φ) f f:=by cases h with|func f h=>exact@fC.func (ah.exact J fs) _ f h|yield h=>exact@fC.yield (ah.exact J fs) _ _ _ (Ren.zN h)
def Tk.exact(fs:Array Func)(x:@Tk J v):@Tk (ah.exact J fs) v:=by induction x with|ptr x=>exact@Tk.ptr (ah.exact J fs) _ x|agg _ d=>exact@Tk.agg (ah.exact J fs) _ d
def Pl.exact(fs:Array Func)(x:@Pl J t v):@Pl (ah.exact J fs) t v:=by
 rcases x with x|x|⟨x,y⟩
 ·exact .inl x
 ·exact .inr (.inl x)
 ·exact .inr (.inr ⟨x,y.exact fs⟩)
theorem VR.id{v':AS}(h:@VR J φ v v'):@VR (ah.exact J fs) (Ren.fS φ) v v:=by
 have d:∀{xs ys:Array AS},xs.size=ys.size->(∀(i:Nat) x y,xs[i]?=an x->ys[i]?=an y->@VR (ah.exact J fs) (Ren.fS φ) x x)->∀(i:Nat) x y,xs[i]?=an x->xs[i]?=an y->@VR (ah.exact J fs) (Ren.fS φ) x y:=eW
 induction h with|bool b=>exact@VR.bool (ah.exact J fs) _ b|int a n=>exact@VR.int (ah.exact J fs) _ a n|string s=>exact@VR.string (ah.exact J fs) _ s|nilFunc=>exact@VR.nilFunc (ah.exact J fs) _|nilIface=>exact@VR.nilIface (ah.exact J fs) _|nilPtr=>exact@VR.nilPtr (ah.exact J fs) _|jZ=>exact@VR.jZ (ah.exact J fs) _|jX=>exact@VR.jX (ah.exact J fs) _|ptr h=>exact@VR.ptr (ah.exact J fs) _ _ _ h.id|dU n c=>exact@VR.dU (ah.exact J fs) _ n c|slice n c h=>exact@VR.slice (ah.exact J fs) _ _ _ n c h.id|empty=>exact@VR.empty (ah.exact J fs) _ _ _|iface t _ p f=>exact@VR.iface (ah.exact J fs) _ t _ _ f (p.exact fs)|aX z A=>exact@VR.aX (ah.exact J fs) _ _ rfl ⟨λ_ e=>bG,λ_ e=>bG,λ_ e=>bG⟩|agg l _ f=>exact@VR.agg (ah.exact J fs) _ _ _ rfl (d l f)|tuple l _ f=>exact@VR.tuple (ah.exact J fs) _ _ _ rfl (d l f)|func r l _ u _ f m=>exact@VR.func (ah.exact J fs) _ _ _ _ _ _ _ (fC.id r) rfl (d l f) rfl (d u m)
def aB.id{xs ys:Array AS}(h:@aB J φ xs ys):@aB (ah.exact J fs) (Ren.fS φ) xs xs:=by refine@aB.mk (ah.exact J fs) _ _ _ rfl λi x y d e=>?_;rw[d] at e;cases e;obtain⟨z,_,f⟩:=@aB.get J _ _ _ h i x d;exact f.id
def PI(X:Nat->Bool){h:Array Obj}{G:Nat}(hb:b<h.size):(aM.qM X h G).ro b\/(aM.qM X h G).tok b:=by
 by_cases e:oQ X h b
 ·exact .inr e
 ·exact .inl ⟨hb,e⟩
def HR.aeY{K:aI}{h:Array Obj}(X:Nat->Bool)(i:ah.ku I J)(H:@HR I K φ h h')(R:K.strict=AT):@HR J (aM.qM X h K.G) φ (kJ X h) h':=by
 refine@HR.mk J _ _ _ _ (λb c d hb hc=>(@HR.inj I _ _ _ _ H b c d hb hc).imp_right λm=>⟨(PI X (@HR.lt I _ _ _ _ H _ _ hb).1),(PI X (@HR.lt I _ _ _ _ H _ _ hc).1),λn=>m.2.2.1 ⟨(i.cl b).2 n.1,(i.cl c).2 n.2⟩,m.2.2.2⟩) (λb c hb=>?_) (λb hb=>?_) (@HR.low I K φ h h' H) (by rw[zh];exact@HR.fX I K φ h h' H)
 ·obtain⟨o,o',h1,T,F⟩:=@HR.obj I _ _ _ _ H b c hb;refine⟨gK (X b) o,o',by rw[vi,h1];rfl,T,?_⟩;have L:=(bU.1 h1).1
  have z:∀{u r:Array AS}{t:SL}{f N:Nat×Nat},o=.cells u t f->o'=.cells r t N->@aB I φ u r->(J.cl b->N=(0,0))->@HO J (aM.qM X h K.G) φ b (gK (X b) o) o':=by
   rintro u r t f N rfl rfl hc A;by_cases he:(X b&&decide (0<u.size))=AT
   ·have e:gK (X b) (.cells u t f)=.stringIter default 0:=by simp only[gK];rw[if_pos he]
    rw[e];exact@HO.token J _ _ _ _ _ _ _ _ ((hO h1).2 (by rw[e];exactλ_ _ _ x=>by cases x)) (by simp at he;rw[<-@aB.size I _ _ _ hc];exact he.2) A
   ·have e:gK (X b) (.cells u t f)=.cells u t (0,u.size):=by simp only[gK];rw[if_neg he]
    rw[e];have C:¬oQ X h b:=λx=>(hO h1).1 x _ _ _ e;refine@HO.shut J _ _ _ _ _ t _ ⟨L,C⟩ C ?_ A;exact aB.inst i hc
  cases F with
  |own _ _ F V=>
   have W:=V R;cases F with
   |@cells u r t f hc=>have:f=(0,0):=W;exact z rfl rfl hc λ_=>this
   |loop _=>exact@HO.blank J _ _ _ _ _ _ ((hO h1).2 λ_ _ _ x=>by cases x) trivial
   |deferred=>exact@HO.blank J _ _ _ _ _ _ ((hO h1).2 λ_ _ _ x=>by cases x) trivial
   |taken=>exact@HO.blank J _ _ _ _ _ _ ((hO h1).2 λ_ _ _ x=>by cases x) trivial
   |number l Z=>exact@HO.num J _ _ _ _ _ l ((hO h1).2 λ_ _ _ x=>by cases x) Z
  |shut t _ _ hc hf=>exact z rfl rfl hc λx=>hf ((i.cl b).2 x)
  |token s p r t _ D h6=>exact@HO.token J _ _ _ _ _ _ _ _ ((hO h1).2 λ_ _ _ x=>by cases x) D λx=>h6 ((i.cl b).2 x)
  |blank s p _ D=>exact@HO.blank J _ _ _ _ _ _ ((hO h1).2 λ_ _ _ x=>by cases x) D
  |num l _ D=>exact@HO.num J _ _ _ _ _ l ((hO h1).2 λ_ _ _ x=>by cases x) D
 ·exact Kt
theorem HR.Rx{K:aI}{h hG:Array Obj}(X:Nat->Bool)(fs:Array Func)(z:ah.ku I J)(H:@HR I K φ h h')(W:K.strict=AT)(i8:∀b,J.cl b->K.tok b)(A:h.size<=hG.size)(C:∀b,b<h.size->hG[b]?=h[b]?):@HR (ah.exact J fs) (aM.qM X h K.G) (Ren.fS φ) (kJ X h) hG:=by
 have fX:=(@HR.fX I K φ h h' H).1;refine@HR.mk (ah.exact J fs) _ _ _ _ (λb c d hb hc=>?_) (λb c hb=>?_) (λb hb=>?_) (λb c hb=>?_) (by rw[zh];exact⟨fX,aQ fX A⟩)
 ·have h1:=(Ren.td hb).1;have T:=(Ren.td hc).1;exact .inl aa
 ·obtain⟨rfl,d,hd⟩:=Ren.td hb;obtain⟨o,o',h1,T,D⟩:=@HR.obj I _ _ _ _ H c d hd;have n:=(bU.1 h1).1;refine⟨gK (X c) o,o,by rw[vi,h1];rfl,by rw[C c n,h1],?_⟩
  have F:∀{m i:Array AS}{t:SL}{f N:Nat×Nat},o=.cells m t f->o'=.cells i t N->@aB I φ m i->(J.cl c->f=(0,0))->@HO (ah.exact J fs) (aM.qM X h K.G) (Ren.fS φ) c (gK (X c) o) o:=by
   rintro m i t f N rfl rfl hc r;by_cases he:(X c&&decide (0<m.size))=AT
   ·have e:gK (X c) (.cells m t f)=.stringIter default 0:=by simp only[gK];rw[if_pos he]
    rw[e];exact@HO.token (ah.exact J fs) _ _ _ _ _ _ _ _ ((hO h1).2 (by rw[e];exactλ_ _ _ x=>by cases x)) (by simp at he;exact he.2) r
   ·have e:gK (X c) (.cells m t f)=.cells m t (0,m.size):=by simp only[gK];rw[if_neg he]
    rw[e];have u:¬oQ X h c:=λx=>(hO h1).1 x _ _ _ e;refine@HO.shut (ah.exact J fs) _ _ _ _ _ t _ ⟨n,u⟩ u ?_ r;exact(aB.inst z hc).id
  cases D with
  |own _ _ D Z=>cases D with|@cells m i t f hc=>grind|loop _=>exact@HO.blank (ah.exact J fs) _ _ _ _ _ _ ((hO h1).2 λ_ _ _ x=>by cases x) trivial|deferred=>exact@HO.blank (ah.exact J fs) _ _ _ _ _ _ ((hO h1).2 λ_ _ _ x=>by cases x) trivial|taken=>exact@HO.blank (ah.exact J fs) _ _ _ _ _ _ ((hO h1).2 λ_ _ _ x=>by cases x) trivial|number l V=>exact@HO.num (ah.exact J fs) _ _ _ _ _ l ((hO h1).2 λ_ _ _ x=>by cases x) (AR.id V)
  |shut t _ R hc hf=>exact F rfl rfl hc λx=>absurd (i8 c x) R
  |token s p i t _ L R=>exact@HO.blank (ah.exact J fs) _ _ _ _ _ _ ((hO h1).2 λ_ _ _ x=>by cases x) trivial
  |blank s p _ L=>exact@HO.blank (ah.exact J fs) _ _ _ _ _ _ ((hO h1).2 λ_ _ _ x=>by cases x) trivial
  |num l _ L=>exact@HO.num (ah.exact J fs) _ _ _ _ _ l ((hO h1).2 λ_ _ _ x=>by cases x) (AR.id L)
 ·exact Kt
 ·rw[(Ren.td hb).1]
def ac7{h:Array Obj}{X:Nat->Bool}(d:X b=Ba){cs:Array AS}{f:Nat×Nat}(h1:h[b]?=an (.cells cs t f)):(kJ X h)[b]?=an (.cells cs t (0,cs.size)):=by rw[vi,h1];simp[gK,d]
end
section
open Go.Conc (G)
section
variable[J:ah]{fs:Array Func}{φ χ ψ:Ren}(hb:∀a b c,χ a=an b->φ a=an c->ψ b=an c)(i8:∀a b,χ a=an b->ah.cl a->ah.cl b)
include hb
omit J in
def AR.comp{a b c:Addr}(h:AR φ a c)(k:AR χ a b):AR ψ b c:=⟨hb _ _ _ k.block h.block,h.off.trans k.off.symm,h.spot.trans k.spot.symm⟩
def fC.comp{a b c:Fn}(h:fC φ a c)(k:@fC (ah.exact J fs) χ a b):fC ψ b c:=by
 cases h with
 |func f h=>cases k with|func _ _=>exact .func f h
 |yield h=>cases k with|yield k=>exact .yield (hb _ _ _ k h)
omit hb in
include i8 in
theorem Tk.comp{v:AS}(q:Tk v):∀{u:AS},@VR (ah.exact J fs) χ v u->Tk u:=by
 induction q with
 |ptr p=>intro u k;cases k with|ptr k=>exact .ptr (i8 _ _ k.block p)
 |@agg xs _ d=>
  intro u k;cases k with
  |@agg _ l m e=>refine .agg λi y f=>?_;have hi:i<xs.size:=eW;exact d i xs[i] (eO hi) (e i xs[i] y (eO hi) f)
include i8 in
theorem VR.comp{v v':AS}(h:VR φ v v'):∀{u:AS},@VR (ah.exact J fs) χ v u->VR ψ u v':=by
 have d:∀{xs ys us:Array AS},xs.size=ys.size->(∀(i:Nat) x y,xs[i]?=an x->ys[i]?=an y->∀{u},@VR (ah.exact J fs) χ x u->VR ψ u y)->xs.size=us.size->
   (∀(i:Nat) x u,xs[i]?=an x->us[i]?=an u->@VR (ah.exact J fs) χ x u)->∀(i:Nat) u y,us[i]?=an u->ys[i]?=an y->VR ψ u y:=by
  intro xs ys us h1 D W F i u y hu G;have hi:i<xs.size:=eW;exact D i xs[i] y (eO hi) G (F i xs[i] u (eO hi) hu)
 induction h with
 |bool b=>intro u k;cases k;exact .bool b
 |int a n=>intro u k;cases k;exact .int a n
 |string s=>intro u k;cases k;exact .string s
 |nilFunc=>intro u k;cases k;exact .nilFunc
 |nilIface=>intro u k;cases k;exact .nilIface
 |nilPtr=>intro u k;cases k;exact .nilPtr
 |jZ=>intro u k;cases k;exact .jZ
 |jX=>intro u k;cases k;exact .jX
 |ptr h=>intro u k;cases k with|ptr k=>exact .ptr (h.comp hb k)
 |dU n c=>intro u k;cases k;exact .dU n c
 |slice n c h=>intro u k;cases k with|slice _ _ k=>exact .slice n c (h.comp hb k)|empty=>exact .empty
 |empty=>intro u k;cases k with|slice _ _ k=>exact .empty|empty=>exact .empty
 |iface t _ p m=>
  intro u k;cases k with
  |iface _ k _=>
   refine .iface t (m k) ?_;rcases p with p|⟨a,rfl,p⟩|⟨p,q⟩
   ·exact .inl p
   ·cases k with|ptr k=>exact .inr (.inl ⟨_,rfl,i8 _ _ k.block p⟩)
   ·exact .inr (.inr ⟨p,q.comp i8 k⟩)
 |@aX v' L N=>
  intro u k
  have e:u=aM.aX:=by cases k with|aX R _=>exact R|func r=>cases r
  subst e;exact .aX L N
 |agg f _ m=>intro u k;cases k with|agg l k=>exact .agg (l.symm.trans f) (d f m l k)
 |tuple f _ m=>intro u k;cases k with|tuple l k=>exact .tuple (l.symm.trans f) (d f m l k)
 |func r f _ A _ m z=>intro u k;cases k with|aX _ _=>cases r|func T l k C V=>exact .func (r.comp hb T) (l.symm.trans f) (d f m l k) (C.symm.trans A) (d A z C V)
include i8 in
def aB.comp{xs ys us:Array AS}(h:aB φ xs ys)(k:@aB (ah.exact J fs) χ xs us):aB ψ us ys:=by
 refine⟨(@aB.size (ah.exact J fs) _ _ _ k).symm.trans h.size,λi u y hu d=>?_⟩;have hi:i<xs.size:=by rw[(@aB.size (ah.exact J fs) _ _ _ k)];exact(bU.1 hu).1
 exact(h.at_ i xs[i] y (eO hi) d).comp hb i8 (@aB.at_ (ah.exact J fs) _ _ _ k i xs[i] u (eO hi) hu)
include i8 in
def cU.comp{s:Nat->Prop}{xs ys us:Array AS}(h:cU φ s xs ys)(k:@cU (ah.exact J fs) χ s xs us):cU ψ s us ys:=by
 refine⟨(@cU.size (ah.exact J fs) _ _ _ _ k).symm.trans h.size,λi u y d hu e=>?_,λi hi=>by rw[<-(@cU.size (ah.exact J fs) _ _ _ _ k)];exact h.tY i hi⟩;have hi:i<xs.size:=by rw[(@cU.size (ah.exact J fs) _ _ _ _ k)];exact(bU.1 hu).1
 exact(h.at_ i xs[i] y d (eO hi) e).comp hb i8 (@cU.at_ (ah.exact J fs) _ _ _ _ k i xs[i] u d (eO hi) hu)
include i8 in
def cL.comp{l l' m:Loop}(h:cL φ l l')(k:@cL (ah.exact J fs) χ l m):cL ψ m l':=by
 have e:=(@cL.fn (ah.exact J fs) _ _ _ k);refine⟨h.state.trans (@cL.state (ah.exact J fs) _ _ _ k).symm,h.pending.trans (@cL.pending (ah.exact J fs) _ _ _ k).symm,h.fn.trans (@cL.fn (ah.exact J fs) _ _ _ k).symm,?_,h.params.trans (@cL.params (ah.exact J fs) _ _ _ k).symm,h.assign.trans (@cL.assign (ah.exact J fs) _ _ _ k).symm,h.body.trans (@cL.body (ah.exact J fs) _ _ _ k).symm,hb _ _ _ (@cL.defers (ah.exact J fs) _ _ _ k) h.defers,?_,?_,?_,?_⟩
 ·rw[e];exact h.tmps.comp hb i8 (@cL.tmps (ah.exact J fs) _ _ _ k)
 ·rw[e,(@cL.assign (ah.exact J fs) _ _ _ k)];exact h.rz
 ·rw[e,(@cL.body (ah.exact J fs) _ _ _ k)];exact h.okB
 ·rw[(@cL.pending (ah.exact J fs) _ _ _ k)];exact h.tZ
 ·rw[e];exact h.okF
include i8 in
def OR.comp{o d p:Obj}(h:OR φ o d)(k:@OR (ah.exact J fs) χ o p):OR ψ p d:=by
 cases h with
 |cells t f h=>cases k with|cells _ _ k=>exact .cells t f (h.comp hb i8 k)
 |loop h=>cases k with|loop k=>exact .loop (h.comp hb i8 k)
 |deferred=>cases k;exact .deferred
 |taken=>cases k;exact .taken
 |number l h=>cases k with|number _ k=>exact .number l (h.comp hb k)
end
def OR.loose[ah]{φ:Ren}{o p:Obj}(h:OR φ o p)(d:Obj.loose o):Obj.loose p:=by cases h with|cells t f h=>exact d|_=>trivial
open Classical in
theorem HR.comp{I J:ah}{fs:Array Func}(hIJ:ah.Le J I){K Kc:aI}{ψ φ χ:Ren}{hA r hG h':Array Obj}{n0:Nat}(f:@HR I K ψ r h')(D:@HR J Kc φ hA h')(V:@HR (ah.exact J fs) Kc χ hA hG)(i8:∀a b,χ a=some b->J.cl a->J.cl b)
  (i:∀b,n0<=b->¬Kc.ro b/\¬Kc.tok b)(ii:Kc.strict=true)(US:Kc.G=K.G)(ahy:K.G<=n0)(W:r.size<=hG.size)(F:∀b,b<r.size->hG[b]?=r[b]?)
  (hold:∀a b c,a<n0->χ a=some b->φ a=some c->ψ b=some c)(X:∀a b,n0<=a->χ a=some b->r.size<=b)(A:∀b d,ψ b=some d->∀a,n0<=a->φ a≠some d):
  ∃e,Ren.le ψ e/\@HR I K e hG h'/\(∀a b c,χ a=some b->φ a=some c->e b=some c)/\∀b c,e b=some c->ψ b=some c\/(r.size<=b/\∃a,n0<=a/\φ a=some c):=by
 let e:Ren:=λb=>if b<r.size then ψ b else if h:∃a,n0<=a/\χ a=some b then φ h.choose else none
 have hlo:∀b,b<r.size->e b=ψ b:=λb hb=>if_pos hb
 have IE:∀a b,n0<=a->χ a=some b->e b=φ a:=by
  intro a b ha L;have hx:∃a,n0<=a/\χ a=some b:=⟨a,ha,L⟩
  have e1:e b=φ hx.choose:=by show(if b<r.size then ψ b else if h:∃a,n0<=a/\χ a=some b then φ h.choose else none)=_;rw[if_neg (Nat.not_lt.2 (X a b ha L)),dif_pos hx]
  rw[e1,(@HR.inj (ah.exact J fs) _ _ _ _ V _ _ _ hx.choose_spec.2 L).resolve_right λm=>m.2.1.elim (i a ha).1 (i a ha).2]
 have n:∀b c,e b=some c->ψ b=some c\/(r.size<=b/\∃a,n0<=a/\χ a=some b/\φ a=some c):=eW;have hle:Ren.le ψ e:=λb c Z=>by rw[hlo b (@HR.lt I _ _ _ _ f _ _ Z).1];exact Z
 have u:∀a b c,χ a=some b->φ a=some c->e b=some c:=by
  intro a b c h1 z;rcases cZ a n0 with aV|E'
  ·exact hle _ _ (hold a b c aV h1 z)
  ·rw[IE a b E' h1];exact z
 refine⟨e,hle,@HR.mk I _ _ _ _ (λb c d hb hc=>?_) (λb c hb=>?_) (λb hb=>have:=@HR.below I _ _ _ _ f b hb;⟨cC this.1 W,this.2⟩) (λb c hb=>?_) ⟨aQ (@HR.fX I _ _ _ _ f).1 W,(@HR.fX I _ _ _ _ f).2⟩,u,λb c hb=>(n b c hb).imp_right λ⟨h,a,h1,_,R⟩=>⟨h,a,h1,R⟩⟩
 ·rcases n b d hb with h1|⟨_,a1,z,R,T⟩<;>rcases n c d hc with k1|⟨_,a2,k2,N,k4⟩
  ·exact@HR.inj I _ _ _ _ f _ _ _ h1 k1
  ·exact absurd k4 (A b d h1 a2 k2)
  ·exact absurd T (A c d k1 a1 z)
  ·have:=(@HR.inj J _ _ _ _ D _ _ _ T k4).resolve_right λm=>m.1.elim (i _ z).1 (i _ z).2;subst this;rw[R] at N;exact .inl (aH N)
 ·rcases n b c hb with h1|⟨C,a,z,R,T⟩
  ·obtain⟨o,o',g1,g2,g3⟩:=@HR.obj I _ _ _ _ f b c h1;exact⟨o,o',by rw[F b (@HR.lt I _ _ _ _ f _ _ h1).1];exact g1,g2,@HO.mono I _ _ _ _ _ _ g3 hle⟩
  ·obtain⟨o,o',g1,g2,g3⟩:=@HR.obj J _ _ _ _ D a c T;obtain⟨p,p',k1,k2,N⟩:=@HR.obj (ah.exact J fs) _ _ _ _ V a b R;rw[g1] at k1;cases k1;have hc:=i a z;cases g3 with
   |own _ _ g3 gl=>cases N with|own _ _ N _=>exact⟨p',o',k2,g2,@HO.own I _ _ _ _ _ (λx=>absurd (@HR.below I _ _ _ _ f b (.inl x)).1 (pP.2 C)) (λx=>absurd (@HR.below I _ _ _ _ f b (.inr x)).1 (pP.2 C)) (OR.inst hIJ (@OR.comp J fs _ _ _ u i8 _ _ _ g3 N)) λ_=>@OR.loose (ah.exact J fs) _ _ _ N (gl ii)⟩|shut t h=>exact absurd h hc.1|token s p cs' t h=>exact absurd h hc.2|blank s p h=>exact absurd h hc.2|num l h=>exact absurd h hc.2
   |shut t h=>exact absurd h hc.1
   |token s p cs' t h=>exact absurd h hc.2
   |blank s p h=>exact absurd h hc.2
   |num l h=>exact absurd h hc.2
 ·rcases n b c hb with h1|⟨h1,a,z,R,T⟩
  ·exact@HR.low I _ _ _ _ f b c h1
  ·have:=@HR.low J _ _ _ _ D a c T;have:=(@HR.fX I _ _ _ _ f);omega
end
section
variable[ah]
open Go.Conc (G)
structure iu(K:aI)(φ ψ:Ren)(n:Nat)(h h1:Array Obj):Prop where
 size:h.size<=h1.size
 le:Ren.le φ ψ
 fresh:∀b c,ψ b=an c->φ b=an c\/(n<=b/\h.size<=c)
 apart:∀c,c<h.size->(∀b,φ b=an c->K.ro b\/K.tok b)->h1[c]?=h[c]?
theorem gw.h{K:aI}{φ ψ:Ren}{n:Nat}{w w1:rl}(h:gw K φ ψ n w w1):iu K φ ψ n w.heap w1.heap:=⟨h.left.size,h.le,h.fresh,h.apart⟩
theorem j3.h{K:aI}{φ ψ:Ren}{n:Nat}{w w1:rl}(h:j3 K φ ψ n w w1):iu K φ ψ n w.heap w1.heap:=⟨h.size,h.le,h.fresh,h.apart⟩
theorem iu.refl(K:aI)(φ:Ren)(n:Nat)(h:Array Obj):iu K φ φ n h h:=⟨ay _,Ren.le_refl φ,λ_ _ h=>.inl h,λ_ _ _=>rfl⟩
theorem iu.trans{K:aI}{φ ψ χ:Ren}{n m:Nat}{a b c:Array Obj}(h:iu K φ ψ n a b)(k:iu K ψ χ m b c)(d:n<=m):iu K φ χ n a c:=by
 refine⟨aQ h.size k.size,Ren.le_trans h.le k.le,λx y hx=>?_,λx hx hn=>?_⟩
 ·exact LO
 ·exact LP
section
variable{P:OF}{K:aI}{Q:BE->Array Obj->Prop}
theorem bO.SO(h:fJ P y x)(hw:bO P Q x.1 x.2):bO P Q y.1 y.2:=by induction h with|one h=>exact hw.next h|more h _ d=>exact(d hw).next h
theorem bO.calm{g1:BE}{w1:rl}(h:bO P Q g w)(d:Nx P (g1,w1) (g,w)):∀c,g1.frame.mode≠.panicking c:=by obtain⟨e,T,es,i,l⟩:=d;cases h with|lv h _=>exact absurd h e|step _ f _=>grind
theorem Ry{fr:ahY}{cs:List ahY}(d:2<=B.length):¬Lv P (G fr (cs++B)):=by rintro⟨f0,e,_⟩;have:cs++B=[c0 P]:=congrArg Goroutine.callers e;have:=congrArg List.length this;simp at this;omega
theorem MX(p:P.two=P)(C:∀c D,¬ah.dL c D)(hB:dz P)(hC:ef P)(hz:cN P)(hG:K.G=P.globals.size)(hF:dX P K)(F:2<=B.length){χ:Ren}{L gG:BE}{f e:rl}
  (h:dJ P K B χ g wg gG e)(hW:bO P Q g wg)(hn:Nx P (L,f) (g,wg)):
  ∃r s n,Nx P (s,n) (gG,e)/\dJ P K B r L f s n/\iu K χ r wg.heap.size e.heap n.heap/\wg.heap.size<=f.heap.size:=by
 have hp:=hW.calm hn;obtain⟨fr,gt,cs,cs',rfl,rfl,h1,h2,h3,h4,h5⟩:=h;obtain⟨hl,T,es,hT,hs⟩:=hn;have N:kk (spliced e (wg.on T wg.drawn)) e:=λj hj q=>MB e _ hj q;have R:WR K χ (wg.on T wg.drawn) (e.on (spliced e (wg.on T wg.drawn)) e.drawn):=⟨h3,λi q=>(zo e (wg.on T wg.drawn) i q).symm⟩;rcases vU (m:=AT) (m':=AT) (B:=[c0 P]) (B':=B) hB hC hz hG hF h4 h1 h2 h5 R (λ⟨e1,e2,e3⟩=>hl ⟨fr,by rw[e1];rfl,.inl ⟨e2,e3⟩⟩) (λ_⟨c,D,_,_,x⟩=>C c D x) L f es hs with⟨ψ,mt,O',u,l,c,h',rfl,_⟩|⟨ψ,V,u,z,l,W,d,rfl,h6,h7,h8,h9,X,Z,A,h13⟩
 ·exact absurd rfl (hp c)
 ·rw[p] at h6;have hv:gR ψ:=λg hg=>A.le _ _ (h4 g hg);exact⟨ψ,_,W,⟨Ry F,_,_,N,h6⟩,⟨V,z,u,l,rfl,rfl,h7,h8,X.heap,hv,h9⟩,A.h,Z.size⟩
theorem ac8(i:P.two=P)(l:∀c T,¬ah.dL c T)(L:dz P)(N:ef P)(R:cN P)(hG:K.G=P.globals.size)(hF:dX P K)(m:2<=B.length)(V:fJ P y x):
  ∀{χ:Ren}{p:BE}{n:rl},dJ P K B χ x.1 x.2 p n->bO P Q x.1 x.2->
  ∃e f d,fJ P (f,d) (p,n)/\dJ P K B e y.1 y.2 f d/\iu K χ e x.2.heap.size n.heap d.heap/\x.2.heap.size<=y.2.heap.size:=by
 induction V with
 |one h=>intro χ p n u r;obtain⟨e,f,d,h1,z,A,s⟩:=MX i l L N R hG hF m u r h;exact⟨e,f,d,.one h1,z,A,s⟩
 |more h W X=>intro χ p n u r;obtain⟨e,f,d,h1,z,A,s⟩:=X u r;obtain⟨C,D,F,Z,k2,k3,k4⟩:=MX i l L N R hG hF m z (r.SO W) h;exact⟨C,D,F,.more Z h1,k2,A.trans k3 s,aQ s k4⟩
theorem replay(i:P.two=P)(m:∀c u,¬ah.dL c u)(z:dz P)(A:ef P)(C:cN P)(hG:K.G=P.globals.size)(hF:dX P K){B:List ahY}(n:2<=B.length){y x:BE×rl}(p:fK P y x)
  {χ:Ren}{r:BE}{l:rl}(s:dJ P K B χ x.1 x.2 r l)(D:bO P Q x.1 x.2):
  ∃e f d,fK P (f,d) (r,l)/\dJ P K B e y.1 y.2 f d/\iu K χ e x.2.heap.size l.heap d.heap/\x.2.heap.size<=y.2.heap.size:=by
 rcases p with rfl|p
 ·exact⟨χ,r,l,.inl rfl,s,.refl _ _ _ _,ay _⟩
 ·obtain⟨e,f,d,h1,F⟩:=ac8 i m z A C hG hF n p s D;exact⟨e,f,d,.inr h1,F⟩
end
end
section
variable[ah]
open Go.Conc (G)
section
variable{P:OF}{K:aI}
def jl(P:OF)(R:AS->Array Obj->Prop)(g:BE)(h:Array Obj):Prop:=
 ∃fn v,g.frame.mode=.returning/\g.frame.defers=[]/\P.funcs[g.frame.fn]?=an fn/\(∀w:rl,w.heap=h->∃d,(results fn g.frame.tmps).run P w=.ok v d/\d.heap=h)/\((∀r∈fn.results,∃t,r=.tmp t)/\P.inits.idxOf? g.frame.fn=ns)/\R v h
def OA(hB:dz P){b:ahY}{B:List ahY}{φ:Ren}{g:BE}{wg:rl}{a:BE}{w:rl}{R:AS->Array Obj->Prop}(h:dJ P K (b::B) φ g wg a w)(hl:Lv P g)(hb:jl P R g wg.heap)(m:Bool):
  ∃ψ v v' w' d,aiq P.two m a w=.go (G (b.finish v') B) w' d/\R v wg.heap/\VR ψ v v'/\HR K ψ wg.heap w'.heap/\gw K φ ψ wg.heap.size w w'/\∀e∈d,fp K ψ e:=by
 obtain⟨fr,f,cs,cs',rfl,rfl,l,N,hH,_,_⟩:=h;obtain⟨f0,e0,_⟩:=hl
 have T:cs=[]:=by exact LU
 subst T;cases N;obtain⟨fn,v,A,e1,C,p,_,hR⟩:=hb;change fr.mode=.returning at A;change fr.defers=[] at e1;change P.funcs[fr.fn]?=an fn at C
 have r:f.mode=.returning:=by have h:=l.mode;rw[A] at h;generalize f.mode=q at h;cases h;rfl
 have e2:f.defers=[]:=by have hd:=l.defers;rw[e1] at hd;generalize f.defers=t' at hd;cases hd;rfl
 have V:=l.kind.2;obtain⟨fn0,D,z,n,F,_,W,_⟩:=hB fr.fn l.jL;rw[C] at z;cases z;have n:P.two.funcs[f.fn]?=an D:=by rw[l.fn];exact n
 have X:results D f.tmps=results fn f.tmps:=by unfold results;rw[F]
 have x2:aiq P.two m (G f ([]++b::B)) w=GStep.after (seen P.two f.fn ((results fn f.tmps).runT P.two w #[]).2) (match((results fn f.tmps).runT P.two w #[]).1 with
   |.ok v w=>doReturn P.two m f (b::B) ns v w
   |.halt (.stuck s) w=>.ended (.stuck s (f.pos P.two)) w
   |.halt _ w=>.ended (.stuck "return: the result variables cannot be read" (f.pos P.two)) w):=by
  have e0:aiq P.two m (G f ([]++b::B)) w=unwind P.two m f (b::B) ns w:=by unfold aiq G;dsimp only;rw[r];rfl
  rw[e0];unfold unwind;rw[e2];rw[r];rw[n];dsimp only;rw[X];rfl
 change∀w:rl,w.heap=wg.heap->∃Z,(results fn fr.tmps).run P w=.ok v Z/\Z.heap=wg.heap at p;obtain⟨Z,L,xz⟩:=p (wg.on (spliced wg w) wg.drawn) rfl;have BK:WR K φ (wg.on (spliced wg w) wg.drawn) w:=⟨hH,λi q=>zo wg w i q⟩;rcases(Eg (P:=P) (K:=K) fn W l.tmps).both BK with⟨x,w3,es3,hx,_⟩|⟨u,w3,es3,ψ,v',w',d,g1,g2,g3,g4,g5,g6,g7⟩
 ·simp_all
 ·have h1:=pJ P (results fn fr.tmps) (wg.on (spliced wg w) wg.drawn) #[];rw[g1,L] at h1;cases h1;refine⟨ψ,v,v',w',seen P.two f.fn d,?_,hR,g3,by rw[<-xz];exact g4.heap,g6,λe he=>g7 e (Go.Conc.mem_seen he)⟩;rw[x2,g2];simp only[doReturn,V,GStep.after];simp[G]
end
end
section
open Go.Conc (G touchAt Perm Quiet Knows touch_of getElem?_append_cases lt_of_act? act?_old knows_own)
open Go.ConcN (CT Apart PermW)
def LR{X:Type}(R:X->X->Prop)(d xs:List X):Prop:=∃i x y,xs[i]?=an x/\R y x/\d=xs.set i y
def vX{X:Type}{R:X->X->Prop}:∀(xs:List X),(∀x∈xs,Acc R x)->Acc (LR R) xs
 |[],_=>⟨_,λn⟨i,x,y,h,_⟩=>by simp at h⟩
 |x::xs,h=>by
  have h1:Acc R x:=h x au;have p:Acc (LR R) xs:=vX xs λy r=>h y (by simp[r]);clear h
  induction h1 generalizing xs with
  |intro x s e=>
   induction p with
   |intro xs f d=>
    refine⟨_,λn l=>?_⟩;obtain⟨i,a,b,h,m,rfl⟩:=l;cases i with
    |zero=>simp at h;subst h;exact e b m xs ⟨_,f⟩
    |succ i=>simp at h;exact d _ ⟨i,a,b,h,m,rfl⟩
section
variable[ah]
def HR.still{K:aI}{φ:Ren}{h h' d:Array Obj}(H:HR K φ h h')(e:h'.size<=d.size)(f:∀b c,φ b=an c->d[c]?=h'[c]?):HR K φ h d:=by refine⟨H.inj,λb c hb=>?_,H.below,H.low,H.fX.1,aQ H.fX.2 e⟩;obtain⟨o,o',h1,i,l⟩:=H.obj b c hb;exact⟨o,o',h1,by rw[f b c hb];exact i,l⟩
def dJ.still{P:OF}{K:aI}{B:List ahY}{φ:Ren}{g a:BE}{wg w d:rl}(h:dJ P K B φ g wg a w)(i:w.heap.size<=d.heap.size)(l:∀b c,φ b=an c->d.heap[c]?=w.heap[c]?):dJ P K B φ g wg a d:=by obtain⟨fr,e,m,f,h1,n,p,r,s,u⟩:=h;exact⟨fr,e,m,f,h1,n,p,r,s.still i l,u⟩
end
section
variable{Sh pA:Loc->Prop}{Own Bw Rd IM:Nat->Loc->Prop}{t:aiX}{j:Nat}
def mD(t:aiX)(l:Loc):Prop:=∀i x,touchAt t i=an x->x.loc≠l
def mD.perm{l:Loc}(h:mD t l)(g:Nat):Perm t g l:=λi a d e=>absurd e (h i a d)
def mD.SP{l:Loc}(h:mD t l)(g:Nat):PermW t g l:=λi a d e _=>absurd e (h i a d)
def CT.FF(h:CT Sh Own Rd t j)(u:∀l,pA l->Sh l\/mD t l)(e:∀l,Sh l->pA l)
  (n:∀k,1<=k->k<=j->∀l,Bw k l->Own k l\/mD t l)(z:∀k,1<=k->k<=j->∀l,IM k l->Rd k l\/mD t l)
  (f:∀l,¬pA l->(∀k,1<=k->k<=j->¬Bw k l/\¬IM k l)->(∀k,1<=k->k<=j->¬Own k l/\¬Rd k l)\/mD t l)
  (m:∀l,¬pA l->(∀k,1<=k->k<=j->¬Bw k l)->(∀k,1<=k->k<=j->¬Own k l)\/mD t l):CT pA Bw IM t j:=by
 refine⟨λi op a hi A d=>?_,λk p r l d=>?_,λk p r l d=>?_,λl s d=>?_,λl s d=>?_,h.nr,h.gs⟩
 ·rcases u _ d with h1|h1
  ·exact h.quiet i op a hi A h1
  ·exact absurd rfl (h1 i a (by rw[Go.Conc.touchAt_of hi];exact A))
 ·rcases n k p r l d with h1|h1
  ·exact h.own k p r l h1
  ·exact h1.perm k
 ·rcases z k p r l d with h1|h1
  ·exact h.rd k p r l h1
  ·exact h1.SP k
 ·rcases f l s d with h1|h1
  ·exact h.free l (λx=>s (e l x)) h1
  ·exact h1.perm 0
 ·rcases m l s d with h1|h1
  ·exact h.mine l (λx=>s (e l x)) h1
  ·exact h1.SP 0
def CT.join(h:CT Sh Own Rd t j)(F:t.HandedOver)(G:∀i x,touchAt t i=an x->¬Sh x.loc->x.loc.isMemory=AT->x.kind=.plain)
  (hm:∀k l,1<=k->k<=j->Own k l\/Rd k l->l.isMemory=AT):CT Sh uh uh t j:=by
 have m:∀l,¬Sh l->Perm t 0 l:=by
  intro l f;cases n:l.isMemory with
  |false=>exact h.free l f λk u A=>⟨λx=>(by have:=hm k l u A (.inl x);rw[n] at this;cases this),λx=>(by have:=hm k l u A (.inr x);rw[n] at this;cases this)⟩
  |true=>
   intro i a C d;obtain⟨op,e,p⟩:=touch_of C;by_cases D:op.g=0
   ·have:=knows_own e;rwa[D] at this
   ·have r:=G i a C (by rw[d];exact f) (by rw[d];exact n);obtain⟨q,hq,hb⟩:=F i op.g (by simp[Trace.g?,e]) D ⟨a,by simp[Trace.act?,e,p],by rw[d];exact n,.inl (by rw[r];simp)⟩;obtain⟨z,L,s⟩:=jR.1 hq;exact⟨q,z,L,s,.inr hb⟩
 exact⟨h.quiet,λ_ _ _ _ h=>h.elim,λ_ _ _ _ h=>h.elim,λl f _=>m l f,λl f _=>PermW.of (m l f),h.nr,h.gs⟩
end
end
section
variable[ah]
open Go.ConcN (upd upd_same upd_ne)
structure cO where
 φ:Ren
 h0:Array Obj
 h1:Array Obj
 K:aI
 os:Os
 out:Array (Nat×ByteArray)
def iZ(w w':rl):Prop:=w'.os=w.os/\w'.output=w.output
omit [ah] in
def iZ.refl(w:rl):iZ w w:=⟨rfl,rfl⟩
omit [ah] in
def iZ.trans{a b c:rl}(h:iZ a b)(k:iZ b c):iZ a c:=⟨k.1.trans h.1,k.2.trans h.2⟩
structure qi(S:cO):Prop where
 rel:HR S.K S.φ S.h0 S.h1
 old:∀b,b<S.h0.size->S.K.ro b\/S.K.tok b
 new:∀b,S.h0.size<=b->¬S.K.ro b/\¬S.K.tok b
 strict:S.K.strict=AT
def aK(S:cO)(Φ:Nat->Ren)(k c:Nat):Prop:=∃b,S.h0.size<=b/\Φ k b=an c
structure Mem(S:cO)(j:Nat)(Φ:Nat->Ren)(H:Nat->Array Obj)(M:Nat->Prop)(h:Array Obj):Prop where
 size:S.h1.size<=h.size
 old:∀b,b<S.h1.size->h[b]?=S.h1[b]?
 start:qi S
 rel:∀k,k<j->HR S.K (Φ k) (H k) h
 le:∀k,k<j->Ren.le S.φ (Φ k)
 dg:∀k,k<j->S.h0.size<=(H k).size
 fresh:∀k,k<j->∀b c,Φ k b=an c->S.φ b=an c\/(S.h0.size<=b/\S.h1.size<=c)
 apart:∀k k',k<j->k'<j->k≠k'->∀c,aK S Φ k c->¬aK S Φ k' c
 main:∀k,k<j->∀c,aK S Φ k c->¬M c
 mlt:∀c,M c->S.h1.size<=c/\c<h.size
section
variable{S:cO}{j:Nat}{Φ:Nat->Ren}{H:Nat->Array Obj}{M:Nat->Prop}{h h':Array Obj}
def aK.upd_ne{d:Nat}{ψ:Ren}(e:d≠k)(x:aK S (TO Φ k ψ) d c):aK S Φ d c:=by obtain⟨b,h1,f⟩:=x;rw[Go.ConcN.upd_ne Φ ψ e] at f;exact⟨b,h1,f⟩
def Mem.lJ(I:Mem S j Φ H M h){k c:Nat}(d:k<j)(x:aK S Φ k c):S.h1.size<=c/\c<h.size:=by
 obtain⟨b,h1,e⟩:=x;refine⟨?_,((I.rel k d).lt e).2⟩;rcases I.fresh k d b c e with f|f
 ·have:=(I.start.rel.lt f).1;omega
 ·omega
def Mem.image(I:Mem S j Φ H M h)(e:k<j)(x:Φ k b=an c):aK S Φ k c\/(c<S.h1.size/\S.φ b=an c):=by
 rcases I.fresh k e b c x with d|d
 ·exact .inr ⟨(I.start.rel.lt d).2,d⟩
 ·exact .inl ⟨b,d.1,x⟩
def Mem.leaves(I:Mem S j Φ H M h)(d:k<j){ψ:Ren}(hr:iu S.K (Φ k) ψ (H k).size h h')(hc:c<h.size)(f:¬aK S Φ k c):h'[c]?=h[c]?:=by
 refine hr.apart c hc λb hb=>?_;rcases I.image d hb with h1|⟨_,e⟩
 ·simp_all
 ·exact I.start.old b (I.start.rel.lt e).1
def Mem.step(I:Mem S j Φ H M h)(p:k<j){ψ:Ren}{r:Array Obj}(hr:iu S.K (Φ k) ψ (H k).size h h')(F:HR S.K ψ r h')(G:(H k).size<=r.size):Mem S j (TO Φ k ψ) (TO H k r) M h':=by
 have f:∀c,aK S (TO Φ k ψ) k c->aK S Φ k c\/h.size<=c:=by
  rintro c⟨b,h1,m⟩;rw[aix] at m;rcases hr.fresh b c m with l|l
  ·exact .inl ⟨b,h1,l⟩
  ·exact .inr l.2
 refine⟨aQ I.size hr.size,λb hb=>?_,I.start,λk' d=>?_,λk' d=>?_,λk' d=>?_,λk' d b c hb=>?_,λs u h1 m i c A n=>?_,λk' d c x=>?_,λc hc=>?_⟩
 ·rw[I.leaves p hr (Nat.lt_of_lt_of_le hb I.size) λx=>by have:=(I.lJ p x).1;omega];exact I.old b hb
 ·by_cases e:k'=k
  ·subst e;rw[aix,aix];exact F
  ·rw[upd_ne Φ ψ e,upd_ne H r e];refine(I.rel k' d).still hr.size λb c hb=>?_;refine I.leaves p hr ((I.rel k' d).lt hb).2 λx=>?_;rcases I.image d hb with h1|⟨h1,_⟩
   ·exact I.apart k' k d p e c h1 x
   ·have:=(I.lJ p x).1;omega
 ·by_cases e:k'=k
  ·subst e;rw[aix];exact Ren.le_trans (I.le k' d) hr.le
  ·rw[upd_ne Φ ψ e];exact I.le k' d
 ·by_cases e:k'=k
  ·subst e;rw[aix];exact aQ (I.dg k' d) G
  ·rw[upd_ne H r e];exact I.dg k' d
 ·by_cases e:k'=k
  ·subst e;rw[aix] at hb;rcases hr.fresh b c hb with l|l
   ·exact I.fresh k' d b c l
   ·exact .inr ⟨aQ (I.dg k' d) l.1,aQ I.size l.2⟩
  ·rw[upd_ne Φ ψ e] at hb;exact I.fresh k' d b c hb
 ·by_cases C:s=k
  ·subst C;have n:=n.upd_ne (iY i);rcases f c A with y|y
   ·exact I.apart s u h1 m i c y n
   ·have:=(I.lJ m n).2;omega
  ·have z:=A.upd_ne C;by_cases D:u=k
   ·subst D;rcases f c n with y|y
    ·exact I.apart s u h1 m i c z y
    ·have:=(I.lJ h1 z).2;omega
   ·exact I.apart s u h1 m i c z (n.upd_ne D)
 ·by_cases e:k'=k
  ·subst e;rcases f c x with y|y
   ·exact I.main k' d c y
   ·exactλhm=>by have:=(I.mlt c hm).2;omega
  ·exact I.main k' d c (x.upd_ne e)
 ·have:=I.mlt c hc;exact⟨this.1,cC this.2 hr.size⟩
def Mem.GY(I:Mem S j Φ H M h){M':Nat->Prop}(f:h.size<=h'.size)(i:∀c,c<h.size->¬M c->h'[c]?=h[c]?)(hm:∀c,M c->M' c)(e:∀c,M' c->M c\/(h.size<=c/\c<h'.size)):Mem S j Φ H M' h':=by
 refine⟨aQ I.size f,λb hb=>?_,I.start,λk d=>?_,I.le,I.dg,I.fresh,I.apart,λk d c x y=>?_,λc hc=>?_⟩
 ·rw[i b (Nat.lt_of_lt_of_le hb I.size) λx=>by have:=(I.mlt b x).1;omega];exact I.old b hb
 ·refine(I.rel k d).still f λb c hb=>i c ((I.rel k d).lt hb).2 λx=>?_;rcases I.image d hb with h1|⟨h1,_⟩
  ·exact I.main k d c h1 x
  ·have:=(I.mlt c x).1;omega
 ·rcases e c y with h1|h1
  ·exact I.main k d c x h1
  ·have:=(I.lJ d x).2;omega
 ·rcases e c hc with h1|h1
  ·have:=I.mlt c h1;omega
  ·have:=I.size;omega
def Mem.fork(I:Mem S j Φ H M h):Mem S (j+1) (TO Φ j S.φ) (TO H j S.h0) M h:=by
 have ns:∀c,¬aK S (TO Φ j S.φ) j c:=by rintro c⟨b,h1,f⟩;rw[aix] at f;have:=(I.start.rel.lt f).1;omega
 have lt:∀k,k<j+1->k≠j->k<j:=λk h1 f=>by omega
 have i:=I.start.rel.still I.size λb c hb=>I.old c (I.start.rel.lt hb).2;refine⟨I.size,I.old,I.start,λk d=>?_,λk d=>?_,λk d=>?_,λk d b c hb=>?_,λp r h1 f l c s u=>?_,λk d c x=>?_,I.mlt⟩
 ·by_cases e:k=j
  ·subst e;rw[aix,aix];exact i
  ·rw[upd_ne Φ _ e,upd_ne H _ e];exact I.rel k (lt k d e)
 ·by_cases e:k=j
  ·subst e;rw[aix];exact Ren.le_refl _
  ·rw[upd_ne Φ _ e];exact I.le k (lt k d e)
 ·by_cases e:k=j
  ·subst e;rw[aix];exact ay _
  ·rw[upd_ne H _ e];exact I.dg k (lt k d e)
 ·by_cases e:k=j
  ·subst e;rw[aix] at hb;exact .inl hb
  ·rw[upd_ne Φ _ e] at hb;exact I.fresh k (lt k d e) b c hb
 ·by_cases m:p=j
  ·subst m;exact ns c s
  ·by_cases n:r=j
   ·subst n;exact ns c u
   ·exact I.apart p r (lt _ h1 m) (lt _ f n) l c (s.upd_ne m) (u.upd_ne n)
 ·by_cases e:k=j
  ·subst e;exact absurd x (ns c)
  ·exact I.main k (lt k d e) c (x.upd_ne e)
end
end
end Go.Proofs.Q0.aM
