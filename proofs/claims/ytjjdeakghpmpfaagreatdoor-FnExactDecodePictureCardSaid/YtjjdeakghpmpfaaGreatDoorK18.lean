import Derived.Test.YtjjdeakghpmpfaaGreatDoorK17
import Derived.Conc.Beside
import Derived.Conc.CrowdCom2
set_option maxRecDepth 100000
set_option maxHeartbeats 8000000
set_option linter.all false
open Go.Value renaming int->U,slice->Y,bool->a9,agg->a5,pointer->ci,tuple->dl,iface->em
open Go.IntKind renaming i64->O
open Go.Obj renaming cells->ac
open Go.Ending renaming returned->be
open Array renaming getElem?_setIfInBounds_ne->ahM
open Go renaming Event->ajl,Frame->aiH,Goroutine->so,Program->Kx,Trace->ajy,TypeId->EV,Value->rl,World->ns,stepG->aiO
open Go.Conc renaming Deaf_other->alh,getElem?_append_cases->akz
open Go.ConcN renaming upd_same->aiV
open Go.MemAct renaming ofEvent->aiJ,touch?->ald
open Go.MemOp renaming ofEvents->SZ
namespace Go.Proofs
abbrev jG:=@Go.Conc.mem_ofEvents
def KF{p:Prop}(h:p:=by rw[Array.getElem?_setIfInBounds_ne aa,Array.getElem?_map] at hx;obtain⟨y,hy,rfl⟩:=jD.1 hx;have hq:=h.lv.old j y hj hy;rw[woken_quitsD hq,Deaf_other t aa _ hg];exact hq):p:=h
def KG{p:Prop}(h:p:=by rw[sP] at hj;rw[Deaf_other t (g':=0) (by have:=h.pos;omega) _ hg];exact h.lv.above j hj):p:=h
def Ci{p:Prop}(h:p:=by rw[Go.Conc.touchAt_of oQ];exact pm):p:=h
abbrev uz:=@Go.MemAct.low_mono
abbrev yP:=@Array.mem_iff_getElem
abbrev jE:=@Nat.eq_zero_or_pos
def L8{p:Prop}(h:p:=by exact⟨0,gs,a,w,sl,t,q,φ,x.1,x.2,rfl,rfl,h0,PJ,hW,.inl rfl,.refl _ _ _ _,au _,hA,hl,hD⟩):p:=h
def L9{p:Prop}(h:p:=by
  obtain rfl:g=a:=by rw[h0] at hi;exact(aL hi).symm
  obtain⟨g1,U3,ψ,a1,w1,es,hn,IQ,hs,BH,hR,cC,hev⟩:=OP (m:=true) hB hC hz hG hF (hD.at d) hW (λh=>hl (.inl h)) λh=>hl (.inr h);have Gj:=runT_crowd_go (P:=P.two) (sl:=pu) (i:=0) hi (show stepG P.two (0==0) g (w.at d)=_ from hs);have BI:=hA.next PJ.shl hR.fresh
  have hH:HR K ψ U3.heap w1.heap:=by obtain⟨_,_,_,_,_,_,_,_,h,_⟩:=BH;exact h
  have UV:=PJ.step0 (a:=g) (a':=a1) (w':=w1) (fn:=g.frame.fn) (pos:=g.frame.place) hH hR.left.size hev BI;have sV:=PJ.pos;obtain⟨N,JT,a',w',Gk,t',q',χ,g',tC,y1,y2,y3,y4,y5,y6,y7,y8,y9,y10⟩:=ih _ hn (sumTo ((gs.map (woken P.two g a1 w1)).setIfInBounds 0 a1).size q) _ a1 w1 pu _ q ψ (au _) IQ BH UV (by simp[sV]) BI;exact⟨N+1,JT,a',w',Gk,t',q',χ,g',tC,by simp only[runNT,f9,Gj];exact y1,y2.trans aj,y3,y4,y5,y6.then hn,hR.q.at.trans y7 cC,aJ cC y8,y9,y10⟩):p:=h
def KH{p:Prop}(h:p:=by have aT:=(bF.1 hi).1;have hle:=Go.ConcN.le_sumTo (f:=q) aT;have DP:q i=0:=aa;rw[DP] at hq;rw[hq.1] at hg;cases hg):p:=h
def xW{p:Prop}(h:p:=by rw[tB];exact AU (w.at d)):p:=h
def C9{p:Prop}(h:p:=by have:=sumTo_upd q k id aT;simpa[DP] using this):p:=h
def KI{p:Prop}(h:p:=by
  rw[yH];rcases hb with hb|hb
  ·exact⟨hb.1,rfl⟩
  ·exact⟨P4 hb,rfl⟩):p:=h
abbrev ph:=@Nat.not_lt
def Ma{p:Prop}(h:p:=by have:=congrArg (λg:Goroutine=>g.callers.length) e0;simp[G] at this;exact this):p:=h
end Go.Proofs
namespace Go.Proofs.Q0.aI
variable{h':Array Obj}{c k b:Nat}{w wg:ns}{q:Nat->Nat}{a g:so}{gs:Array so}{x y:so×ns}{E:Nat->Bool}{o:Obj}{v:rl}{t:EV}{fs:Array Func}{B:List aiH}
section
variable[ag]
open Go.Conc (G Leavers QuitsD crowd woken Deaf touchAt crowd_pick runT_crowd_go awake_of awake woken_quitsD woken_run Deaf_other Deaf_own getElem?_append_cases touch_of handedOver_app)
open Go.ConcN (CT Apart Ok0 OkW sumTo upd sumTo_upd upd_same upd_ne)
def tD:Nat->Loc->Prop:=λ_ _=>False
omit [ag] in
def Eo(Sh:Loc->Prop):Apart Sh tD tD:=⟨λ_ _ _ h=>h.elim,λ_ _ _ h=>h.elim,λ_ _ h=>h.elim,λ_ _ h=>h.elim⟩
structure dO(P:Kx)(Sh:Loc->Prop)(gs:Array so)(w:ns)(t:ajy)(q:Nat->Nat):Prop where
 lv:Leavers P t gs q
 ct:CT Sh tD tD t (gs.size-1)
 pos:0<gs.size
 plain:∀i x,touchAt t i=some x->¬Sh x.loc->x.loc.isMemory=true->x.kind=.plain
 over:t.HandedOver
 hears:Deaf t 0=0
 low:∀op∈t,op.act.low w.heap.size
 shl:∀l,Sh l->∃a,l=.cell a/\a.block<w.heap.size
def bG(c:Nat)(l:Loc):Prop:=(∃a,l=.cell a/\a.block=c)\/l=.obj c
section
variable{P:Kx}{K:aF}{ψ:Ren}
def zn{e:ajl}(h:ey K ψ e){x:Touch}(d:(aiJ e).touch?=some x):x.kind=.plain/\∃b c,ψ b=some c/\bG c x.loc/\(x.write=true->¬K.ro b/\¬K.tok b):=by
 obtain⟨s,wr,u⟩:=e;rcases h with⟨a,b,h1,i,n,l,p⟩|⟨r,b,h1,i,n,l⟩|⟨m,h1,hq⟩
 ·simp only at h1 i p;subst h1;subst i;simp only[aiJ,ald,Option.some.injEq] at d;subst d;exact⟨rfl,b,a.block,n,.inl ⟨a,rfl,rfl⟩,λhw=>⟨p hw,l⟩⟩
 ·simp only at h1 i l;subst h1;subst i;have e:(aiJ ⟨.obj r,wr,false⟩).touch?=some ⟨.obj r,wr,.plain⟩:=by cases wr<;>rfl
  rw[e] at d;cases d;exact⟨rfl,b,r,n,.inr rfl,λhw=>⟨(l hw).2,(l hw).1⟩⟩
 ·simp only at h1;subst h1;rcases hq with rfl|⟨f,rfl⟩<;>simp[aiJ,ald] at d
def Q6{e:ajl}{h:Array Obj}(H:HR K ψ h h')(he:ey K ψ e):(aiJ e).low h'.size:=by
 obtain⟨l,wr,p⟩:=e;rcases he with⟨a,b,h1,d,i,n,s⟩|⟨r,b,h1,d,i,n⟩|⟨m,h1,hq⟩
 ·simp only at h1 d;subst h1;exact(H.lt i).2
 ·simp only at h1 d;subst h1;subst d;have e:aiJ ⟨.obj r,wr,false⟩=.access ⟨.obj r,wr,false⟩:=by cases wr<;>rfl
  rw[e];exact(H.lt i).2
 ·simp only at h1;subst h1;rcases hq with rfl|⟨f,rfl⟩<;>trivial
def OQ{e:ajl}(h:ey K ψ e):e.loc≠.mark .disable/\e.loc≠.mark .enable:=by rcases h with⟨a,b,h1,_⟩|⟨r,b,h1,_⟩|⟨m,h1,rfl|⟨f,rfl⟩⟩<;>rw[h1]<;>exact⟨λe=>bw,λe=>bw⟩
omit [ag] in
theorem abZ{Sh:Loc->Prop}(d:∀l,Sh l->∃a,l=.cell a/\a.block<w.heap.size)(hc:w.heap.size<=c){l:Loc}(f:bG c l):¬Sh l:=by
 intro h;obtain⟨a,rfl,i⟩:=d l h;rcases f with⟨m,e,rfl⟩|e
 ·grind
 ·cases e
def kF(Sh:Loc->Prop)(ψ:Ren):Prop:=∀b c,ψ b=some c->∀l,bG c l->¬Sh l
omit [ag] in
def kF.next{Sh:Loc->Prop}{φ:Ren}{n:Nat}(h:kF Sh φ)(e:∀l,Sh l->∃a,l=.cell a/\a.block<w.heap.size)(f:∀b c,ψ b=some c->φ b=some c\/(n<=b/\w.heap.size<=c)):kF Sh ψ:=by
 intro b c hb l d;rcases f b c hb with h1|⟨_,h1⟩
 ·exact h b c h1 l d
 ·exact abZ e h1 d
def dO.step0{Sh:Loc->Prop}{a':so}{w':ns}{t:ajy}{d:Array ajl}{fn:FuncId}{pos:String}{h0:Array Obj}(h:dO P Sh gs w t q)(s:HR K ψ h0 w'.heap)(n:w.heap.size<=w'.heap.size)(hd:∀e∈d,ey K ψ e)(r:kF Sh ψ):
  dO P Sh ((gs.map (woken P a a' w')).setIfInBounds 0 a') w' (t++SZ 0 fn pos d) q:=by
 have f:∀op∈SZ 0 fn pos d,∃e∈d,op={g:=0,fn,pos,act:=.ofEvent e}:=λop f=>jG f;have hg:∀op∈SZ 0 fn pos d,op.g=0:=λop h=>by obtain⟨e,_,rfl⟩:=f op h;rfl
 have sP:((gs.map (woken P a a' w')).setIfInBounds 0 a').size=gs.size:=aj;refine⟨⟨λj x hj hx=>?_,λj hj=>?_⟩,?_,by rw[sP];exact h.pos,λi x hx u hm=>?_,handedOver_app h.over λop m=>.inl (hg op m),?_,λop m=>?_,λl z=>?_⟩
 ·exact KF
 ·exact KG
 ·rw[sP];refine h.ct.app0 (Eo Sh) λop m=>?_;obtain⟨e,he,rfl⟩:=f op m;refine⟨rfl,λx hx=>.inr ?_⟩;obtain⟨_,b,c,h1,A,_⟩:=zn (hd e he) hx;exact⟨r b c h1 _ A,λ_ _ _ h=>h,λ_ _ _ _ h=>h⟩
 ·obtain⟨op,m,pm⟩:=touch_of hx;rcases akz m with⟨_,oQ⟩|⟨_,p⟩
  ·exact h.plain i x Ci u hm
  ·obtain⟨e,he,rfl⟩:=f op p;exact(zn (hd e he) pm).1
 ·rw[Deaf_own,Go.Conc.deafBehind_still λe he=>OQ (hd e he)];exact h.hears
 ·rcases jc.1 m with m|m
  ·exact uz n (h.low op m)
  ·obtain⟨e,he,rfl⟩:=f op m;exact Q6 s (hd e he)
 ·obtain⟨a,e,r⟩:=h.shl l z;exact⟨a,e,aa⟩
def dO.Gl{Sh:Loc->Prop}{g':so}{t:ajy}{d:Array ajl}{i n:Nat}(h:dO P Sh gs w t q)(hi:gs[i]?=some g)(W:0<i)(hm:∀e∈d,e.mute=true)
  (C:QuitsD P k (deafBehind (Deaf t i) d) g'):
  dO P Sh ((gs.map (woken P g g' (w.at n))).setIfInBounds i g') (w.at n) (t++SZ i g.frame.fn g.frame.place d) (ConcN.upd q i k):=by
 have p:∀op∈SZ i g.frame.fn g.frame.place d,∃e∈d,op={g:=i,fn:=g.frame.fn,pos:=g.frame.place,act:=.ofEvent e}:=λop p=>jG p;have z:∀op∈SZ i g.frame.fn g.frame.place d,op.g=i:=λop h=>by obtain⟨e,_,rfl⟩:=p op h;rfl
 have G:∀op∈SZ i g.frame.fn g.frame.place d,op.act.touch?=none:=λop h=>by obtain⟨e,he,rfl⟩:=p op h;exact Go.Conc.touch_mute (hm e he)
 have D:=(bF.1 hi).1;have f:((gs.map (woken P g g' (w.at n))).setIfInBounds i g').size=gs.size:=aj;refine⟨⟨λj x A r=>?_,λj A=>?_⟩,?_,by rw[f];exact h.pos,λL x r N F=>?_,handedOver_app h.over λop m=>.inr (G op m),?_,λop m=>?_,λl R=>?_⟩
 ·by_cases s:i=j
  ·subst s;rw[Array.getElem?_setIfInBounds_self_of_lt (by simpa using D)] at r;obtain rfl:=aL r;rw[aiV,Deaf_own];exact C
  ·rw[ahM s,Array.getElem?_map] at r;obtain⟨y,T,rfl⟩:=jD.1 r;have u:=h.lv.old j y A T;rw[woken_quitsD u,upd_ne q k (Ne.symm s),alh t s _ z];exact u
 ·rw[f] at A;rw[alh t (g':=i) aa _ z];exact h.lv.above j A
 ·rw[f];exact h.ct.appW (Eo Sh) aa aa λop m=>⟨z op m,λx r=>by rw[G op m] at r;cases r⟩
 ·obtain⟨op,m,pm⟩:=touch_of r;rcases akz m with⟨_,oQ⟩|⟨_,V⟩
  ·exact h.plain L x Ci N F
  ·simp_all
 ·rw[alh t (g':=i) aa _ z];exact h.hears
 ·rcases jc.1 m with m|m
  ·exact h.low op m
  ·obtain⟨e,he,rfl⟩:=p op m;exact Go.Conc.low_mute (hm e he) _
 ·exact h.shl l R
def dO.at{Sh:Loc->Prop}{t:ajy}(h:dO P Sh gs w t q)(n:Nat):dO P Sh gs (w.at n) t q:=⟨h.lv,h.ct,h.pos,h.plain,h.over,h.hears,h.low,h.shl⟩
def dO.awake{Sh:Loc->Prop}{t:ajy}(h:dO P Sh gs w t q)(h0:gs[0]?=some a)(hr:a.status=.running):∀g∈gs,awake g:=by
 intro g e;obtain⟨i,hi,rfl⟩:=yP.1 e;rcases jE i with rfl|d
 ·have:gs[0]=a:=by simpa[Array.getElem?_eq_getElem hi] using h0
  rw[this];exact awake_of (.inl hr)
 ·exact awake_of ((h.lv.old i _ d (eE hi)).status.elim .inl λx=>.inr (.inr x))
end
end
section
variable[ag]
open Go.Conc (G Leavers QuitsD crowd woken Deaf touchAt crowd_pick runT_crowd_go awake_of awake woken_quitsD woken_run Deaf_other Deaf_own)
open Go.ConcN (CT Apart Ok0 OkW sumTo upd sumTo_upd upd_same upd_ne)
inductive fp(P:Kx):so×ns->so×ns->Prop
 |one {y x:so×ns}:Nx P y x->fp P y x
 |more {z y x:so×ns}:Nx P z y->fp P y x->fp P z x
omit [ag] in
def fp.trans{P:Kx}{z y x:so×ns}(h:fp P z y)(k:fp P y x):fp P z x:=by induction h with|one h=>exact .more h k|more h _ d=>exact .more h (d k)
omit [ag] in
def adD{P:Kx}(h:Acc (Nx P) x):Acc (fp P) x:=by
 induction h with
 |intro x _ d=>
  refine⟨_,λy e=>?_⟩
  have f:∀{y x:so×ns},fp P y x->(∀y,Nx P y x->Acc (fp P) y)->Acc (fp P) y:=by
   intro y x e
   induction e with
   |one h=>exactλd=>d _ h
   |more h _ i=>exactλd=>(i d).inv (.one h)
  exact f e d
def fq(P:Kx)(y x:so×ns):Prop:=y=x\/fp P y x
omit [ag] in
def fq.then{P:Kx}{z:so×ns}(h:fq P z y)(k:Nx P y x):fq P z x:=by
 rcases h with rfl|h
 ·exact .inr (.one k)
 ·exact .inr (h.trans (.one k))
section
variable{P:Kx}{K:aF}{Q:so->Array Obj->Prop}{B:List aiH}{Sh:Loc->Prop}
def dE.running{φ:Ren}(h:dE P K B φ g wg a w):a.status=.running:=by obtain⟨fr,d,f,e,rfl,rfl,_⟩:=h;rfl
def dE.at{φ:Ren}(h:dE P K B φ g wg a w)(n:Nat):dE P K B φ g wg a (w.at n):=h
def Yj(hB:cJ P)(hC:dc P)(hz:bZ P)(hG:K.G=P.globals.size)(hF:dn P K)(T:Acc (Nx P) x):
  ∀(M:Nat)(gs:Array so)(a:so)(w:ns)(sl:Option (Nat×Nat))(t:ajy)(q:Nat->Nat)(φ:Ren),sumTo gs.size q<=M->bE P Q x.1 x.2->dE P K B φ x.1 x.2 a w->dO P.two Sh gs w t q->gs[0]?=some a->kF Sh φ->
   ∃(N:Nat)(f:Array so)(a':so)(w':ns)(pu:Option (Nat×Nat))(s:ajy)(u:Nat->Nat)(ψ:Ren)(g':so)(l:ns),
    runNT P.two N (crowd gs w sl) t=(.next (crowd f w' pu),s)/\f.size=gs.size/\f[0]?=some a'/\dO P.two Sh f w' s u/\bE P Q g' l/\fq P (g',l) x/\jM K φ ψ x.2.heap.size w w'/\x.2.heap.size<=l.heap.size/\kF Sh ψ/\
     (Lv P g'\/sI g')/\dE P K B ψ g' l a' w':=by
 induction T with
 |intro x L ih=>
  intro M
  induction M with
  |zero=>
   intro gs a w sl t q φ V hW hD PJ h0 hA;by_cases hl:Lv P x.1\/sI x.1
   ·exact L8
   ·obtain⟨i,g,d,pu,hi,hg,f9⟩:=crowd_pick (P:=P.two) (w:=w) (sl:=sl) (PJ.awake h0 hD.running) ⟨0,a,h0,hD.running⟩;rcases jE i with rfl|e
    ·exact L9
    ·exfalso;have hq:=PJ.lv.old i g e hi;exact KH
  |succ M z=>
   intro gs a w sl t q φ V hW hD PJ h0 hA;by_cases hl:Lv P x.1\/sI x.1
   ·exact L8
   ·obtain⟨i,g,d,pu,hi,hg,f9⟩:=crowd_pick (P:=P.two) (w:=w) (sl:=sl) (PJ.awake h0 hD.running) ⟨0,a,h0,hD.running⟩;rcases jE i with rfl|e
    ·exact L9
    ·have hq:=PJ.lv.old i g e hi;have tB:(i==0)=false:=aA;have aT:=(bF.1 hi).1;cases DP:q i with
     |zero=>rw[DP] at hq;rw[hq.1] at hg;cases hg
     |succ k=>
      rw[DP] at hq;rcases hq with⟨W,_⟩|⟨_,g',es,hm,AU,A⟩
      ·rw[W] at hg;cases hg
      have m:=runT_crowd_go (P:=P.two) (sl:=pu) (i:=i) hi xW
      have R:sumTo gs.size (ConcN.upd q i k)+(k+1)=sumTo gs.size q+k:=by exact C9
      have C:=PJ.Gl (n:=d) hi e hm A;have r:((gs.map (woken P.two g g' (w.at d))).setIfInBounds i g').size=gs.size:=aj
      obtain⟨N,f,a',w',p,s,u,χ,D,l,X,Z,y3,y4,y5,y6,y7,y8,y9,F⟩:=z _ a (w.at d) pu _ (ConcN.upd q i k) φ (by rw[r];omega) hW (hD.at d) C
       (by rw[ahM (by omega),Array.getElem?_map,h0];simp[woken_run hD.running]) hA
      exact⟨N+1,f,a',w',p,s,u,χ,D,l,by simp only[runNT,f9,m];exact X,by rw[Z,r],y3,y4,y5,y6,y7.at,y8,y9,F⟩
end
end
section
variable[ag]
open Go.Conc (G)
def gh(e:Bool):Obj->Obj
 |.cells cs t _=>if e&&0<cs.size then .stringIter default 0 else .cells cs t (0,cs.size)
 |.number a l=>.number a l
 |_=>.stringIter default 0
def kj(E:Nat->Bool)(h:Array Obj):Array Obj:=h.mapIdx λb o=>gh (E b) o
def om(E:Nat->Bool)(h:Array Obj)(b:Nat):Prop:=∃o,h[b]?=some o/\∀cs t f,gh (E b) o≠.cells cs t f
def qj(E:Nat->Bool)(h:Array Obj)(G:Nat):aF where
 ro b:=b<h.size/\¬om E h b
 tok b:=om E h b
 strict:=true
 G:=G
def Ren.fE(φ:Ren):Ren:=λb=>if(φ b).isSome then some b else none
omit [ag] in
def Ren.zo{φ:Ren}(h:φ b=some c):Ren.fE φ b=some b:=by simp[Ren.fE,h]
omit [ag] in
def Ren.sw{φ:Ren}(h:Ren.fE φ b=some c):c=b/\∃d,φ b=some d:=by
 unfold Ren.fE at h;split at h
 ·next x=>exact⟨(aL h).symm,pe.1 x⟩
 ·cases h
omit [ag] in
def AR.id{φ:Ren}{a a':Addr}(h:AR φ a a'):AR (Ren.fE φ) a a:=⟨Ren.zo h.block,rfl,rfl⟩
omit [ag] in
def uE{h:Array Obj}(b:Nat):(kj E h)[b]?=(h[b]?).map (gh (E b)):=by simp[kj]
omit [ag] in
def yH{h:Array Obj}:(kj E h).size=h.size:=by simp[kj]
omit [ag] in
def P4{h:Array Obj}(hb:om E h b):b<h.size:=by obtain⟨o,d,_⟩:=hb;exact(bF.1 d).1
omit [ag] in
def gK{h:Array Obj}(d:h[b]?=some o):om E h b<->∀cs t f,gh (E b) o≠.cells cs t f:=by
 constructor
 ·rintro⟨i,h1,e⟩;rw[d] at h1;cases h1;exact e
 ·exactλh=>⟨o,d,h⟩
end
abbrev ag.exact(J:ag)(fs:Array Func):ag:={J with fs:=fs,dH:=λ_ _=>False,jk:=λv=>v=aX}
section
variable{I J:ag}{φ:Ren}
structure ag.j4(I J:ag):Prop where
 fv:∀f,I.fv f<->J.fv f
 np:∀t,I.np t<->J.np t
 cl:∀b,I.cl b<->J.cl b
 hd:∀t,I.hd t<->J.hd t
 jk:∀v,I.jk v<->J.jk v
def ag.j4.symm(h:ag.j4 I J):ag.j4 J I:=⟨λf=>(h.fv f).symm,λf=>(h.np f).symm,λf=>(h.cl f).symm,λf=>(h.hd f).symm,λf=>(h.jk f).symm⟩
structure ag.Le(I J:ag):Prop extends ag.j4 I J where
 ok:∀f,I.ok f->J.ok f
 lv:∀f i,I.ok f->J.lv f i->I.lv f i
 cd:∀f c,I.cd f c->J.cd f c
def Tk.inst(h:ag.j4 I J)(x:@Tk I v):@Tk J v:=by induction x with|ptr x=>exact@Tk.ptr J _ ((h.cl _).1 x)|agg _ d=>exact@Tk.agg J _ d
def Pl.inst(h:ag.j4 I J)(x:@Pl I t v):@Pl J t v:=by
 rcases x with x|⟨a,e,x⟩|⟨x,y⟩
 ·exact .inl ((h.np _).1 x)
 ·exact .inr (.inl ⟨a,e,(h.cl _).1 x⟩)
 ·exact .inr (.inr ⟨(h.hd _).1 x,y.inst h⟩)
def fe.inst(h:ag.j4 I J){f f':Fn}(x:@fe I φ f f'):@fe J φ f f':=by cases x with|func f d=>exact@fe.func J φ f ((h.fv f).1 d)|yield e=>exact@fe.yield J φ _ _ e
def VR.inst(h:ag.j4 I J){v':rl}(x:@VR I φ v v'):@VR J φ v v':=by induction x with|bool b=>exact@VR.bool J φ b|int a n=>exact@VR.int J φ a n|string s=>exact@VR.string J φ s|nilFunc=>exact@VR.nilFunc J φ|nilIface=>exact@VR.nilIface J φ|nilPtr=>exact@VR.nilPtr J φ|hQ=>exact@VR.hQ J φ|gZ=>exact@VR.gZ J φ|ptr h=>exact@VR.ptr J φ _ _ h|dk n c=>exact@VR.dk J φ n c|slice n c h=>exact@VR.slice J φ _ _ n c h|empty=>exact@VR.empty J φ _ _|iface t _ p d=>exact@VR.iface J φ t _ _ d (p.inst h)|aX i l=>exact@VR.aX J φ _ ((h.jk _).1 i) l|agg e _ d=>exact@VR.agg J φ _ _ e d|tuple e _ d=>exact@VR.tuple J φ _ _ e d|func m e _ r _ d f=>exact@VR.func J φ _ _ _ _ _ _ (fe.inst h m) e d r f
def ax.inst(h:ag.j4 I J){xs ys:Array rl}(x:@ax I φ xs ys):@ax J φ xs ys:=@ax.mk J φ _ _ (@ax.size I φ _ _ x) λi a b d hb=>VR.inst h (@ax.at_ I φ _ _ x i a b d hb)
def cB.inst(h:ag.Le I J){l l':Loop}(x:@cB I φ l l'):@cB J φ l l':=
 @cB.mk J φ _ _ (@cB.state I _ _ _ x) (@cB.pending I _ _ _ x) (@cB.fn I _ _ _ x) (@cN.mk J _ _ _ _ (@cN.size I _ _ _ _ (@cB.tmps I _ _ _ x)) (λi a b hi d hb=>VR.inst h.toj4 (@cN.at_ I _ _ _ _ (@cB.tmps I _ _ _ x) i a b (h.lv _ i (@cB.okF I _ _ _ x) hi) d hb)) λi hi=>@cN.tl I _ _ _ _ (@cB.tmps I _ _ _ x) i (h.lv _ i (@cB.okF I _ _ _ x) hi)) (@cB.params I _ _ _ x) (@cB.assign I _ _ _ x) (@cB.body I _ _ _ x) (@cB.defers I _ _ _ x) (h.cd _ _ (@cB.qv I _ _ _ x)) (h.cd _ _ (@cB.okB I _ _ _ x)) (@cB.tn I _ _ _ x) (h.ok _ (@cB.okF I _ _ _ x))
def OR.inst(h:ag.Le I J){d:Obj}(x:@OR I φ o d):@OR J φ o d:=by cases x with|cells t f x=>exact@OR.cells J φ _ _ t f (ax.inst h.toj4 x)|loop x=>exact@OR.loop J φ _ _ (cB.inst h x)|deferred=>exact@OR.deferred J φ|taken=>exact@OR.taken J φ|number l x=>exact@OR.number J φ _ _ l x
def HO.inst(h:ag.Le I J){K:aF}{o':Obj}(x:@HO I K φ b o o'):@HO J K φ b o o':=by
 cases x with
 |own h1 d i f=>exact@HO.own J K φ b _ _ h1 d (OR.inst h i) f
 |shut t h1 d i f=>exact@HO.shut J K φ b _ _ t _ h1 d (ax.inst h.toj4 i) λe=>f ((h.cl b).2 e)
 |token s p cs' t h1 d f=>exact@HO.token J K φ b s p cs' t _ h1 d λe=>f ((h.cl b).2 e)
 |blank s p h1 d=>exact@HO.blank J K φ b s p _ h1 d
 |num l h1 d=>exact@HO.num J K φ b _ _ l h1 d
def HR.inst(h:ag.Le I J){K:aF}{g g':Array Obj}(x:@HR I K φ g g'):@HR J K φ g g':=
 @HR.mk J K φ g g' (λb c d hb hc=>(@HR.inj I _ _ _ _ x b c d hb hc).imp_right λm=>⟨m.1,m.2.1,λn=>m.2.2.1 ⟨(h.cl b).2 n.1,(h.cl c).2 n.2⟩,m.2.2.2⟩) (λb c hb=>let⟨o,o',h1,e,f⟩:=@HR.obj I _ _ _ _ x b c hb;⟨o,o',h1,e,HO.inst h f⟩) (@HR.below I _ _ _ _ x) (@HR.low I _ _ _ _ x) (@HR.fJ I _ _ _ _ x)
def fe.id{f f':Fn}(h:@fe J φ f f'):@fe (ag.exact J fs) (Ren.fE φ) f f:=by cases h with|func f h=>exact@fe.func (ag.exact J fs) _ f h|yield h=>exact@fe.yield (ag.exact J fs) _ _ _ (Ren.zo h)
def Tk.exact(fs:Array Func)(x:@Tk J v):@Tk (ag.exact J fs) v:=by induction x with|ptr x=>exact@Tk.ptr (ag.exact J fs) _ x|agg _ d=>exact@Tk.agg (ag.exact J fs) _ d
def Pl.exact(fs:Array Func)(x:@Pl J t v):@Pl (ag.exact J fs) t v:=by
 rcases x with x|x|⟨x,y⟩
 ·exact .inl x
 ·exact .inr (.inl x)
 ·exact .inr (.inr ⟨x,y.exact fs⟩)
theorem VR.id{v':rl}(h:@VR J φ v v'):@VR (ag.exact J fs) (Ren.fE φ) v v:=by
 have d:∀{xs ys:Array rl},xs.size=ys.size->(∀(i:Nat) x y,xs[i]?=some x->ys[i]?=some y->@VR (ag.exact J fs) (Ren.fE φ) x x)->∀(i:Nat) x y,xs[i]?=some x->xs[i]?=some y->@VR (ag.exact J fs) (Ren.fE φ) x y:=eO
 induction h with|bool b=>exact@VR.bool (ag.exact J fs) _ b|int a n=>exact@VR.int (ag.exact J fs) _ a n|string s=>exact@VR.string (ag.exact J fs) _ s|nilFunc=>exact@VR.nilFunc (ag.exact J fs) _|nilIface=>exact@VR.nilIface (ag.exact J fs) _|nilPtr=>exact@VR.nilPtr (ag.exact J fs) _|hQ=>exact@VR.hQ (ag.exact J fs) _|gZ=>exact@VR.gZ (ag.exact J fs) _|ptr h=>exact@VR.ptr (ag.exact J fs) _ _ _ h.id|dk n c=>exact@VR.dk (ag.exact J fs) _ n c|slice n c h=>exact@VR.slice (ag.exact J fs) _ _ _ n c h.id|empty=>exact@VR.empty (ag.exact J fs) _ _ _|iface t _ p f=>exact@VR.iface (ag.exact J fs) _ t _ _ f (p.exact fs)|aX z A=>exact@VR.aX (ag.exact J fs) _ _ rfl ⟨λ_ e=>bw,λ_ e=>bw,λ_ e=>bw⟩|agg l _ f=>exact@VR.agg (ag.exact J fs) _ _ _ rfl (d l f)|tuple l _ f=>exact@VR.tuple (ag.exact J fs) _ _ _ rfl (d l f)|func r l _ u _ f m=>exact@VR.func (ag.exact J fs) _ _ _ _ _ _ _ (fe.id r) rfl (d l f) rfl (d u m)
def ax.id{xs ys:Array rl}(h:@ax J φ xs ys):@ax (ag.exact J fs) (Ren.fE φ) xs xs:=by refine@ax.mk (ag.exact J fs) _ _ _ rfl λi x y d e=>?_;rw[d] at e;cases e;obtain⟨z,_,f⟩:=@ax.get J _ _ _ h i x d;exact f.id
def P5(X:Nat->Bool){h:Array Obj}{G:Nat}(hb:b<h.size):(aI.qj X h G).ro b\/(aI.qj X h G).tok b:=by
 by_cases e:om X h b
 ·exact .inr e
 ·exact .inl ⟨hb,e⟩
def HR.afF{K:aF}{h:Array Obj}(X:Nat->Bool)(i:ag.j4 I J)(H:@HR I K φ h h')(R:K.strict=true):@HR J (aI.qj X h K.G) φ (kj X h) h':=by
 refine@HR.mk J _ _ _ _ (λb c d hb hc=>(@HR.inj I _ _ _ _ H b c d hb hc).imp_right λm=>⟨(P5 X (@HR.lt I _ _ _ _ H _ _ hb).1),(P5 X (@HR.lt I _ _ _ _ H _ _ hc).1),λn=>m.2.2.1 ⟨(i.cl b).2 n.1,(i.cl c).2 n.2⟩,m.2.2.2⟩) (λb c hb=>?_) (λb hb=>?_) (@HR.low I K φ h h' H) (by rw[yH];exact@HR.fJ I K φ h h' H)
 ·obtain⟨o,o',h1,T,F⟩:=@HR.obj I _ _ _ _ H b c hb;refine⟨gh (X b) o,o',by rw[uE,h1];rfl,T,?_⟩;have L:=(bF.1 h1).1
  have z:∀{u r:Array rl}{t:EV}{f N:Nat×Nat},o=.cells u t f->o'=.cells r t N->@ax I φ u r->(J.cl b->N=(0,0))->@HO J (aI.qj X h K.G) φ b (gh (X b) o) o':=by
   rintro u r t f N rfl rfl hc A;by_cases he:(X b&&decide (0<u.size))=true
   ·have e:gh (X b) (.cells u t f)=.stringIter default 0:=by simp only[gh];rw[if_pos he]
    rw[e];exact@HO.token J _ _ _ _ _ _ _ _ ((gK h1).2 (by rw[e];exactλ_ _ _ x=>by cases x)) (by simp at he;rw[<-@ax.size I _ _ _ hc];exact he.2) A
   ·have e:gh (X b) (.cells u t f)=.cells u t (0,u.size):=by simp only[gh];rw[if_neg he]
    rw[e];have C:¬om X h b:=λx=>(gK h1).1 x _ _ _ e;refine@HO.shut J _ _ _ _ _ t _ ⟨L,C⟩ C ?_ A;exact ax.inst i hc
  cases F with
  |own _ _ F V=>
   have W:=V R;cases F with
   |@cells u r t f hc=>have:f=(0,0):=W;exact z rfl rfl hc λ_=>this
   |loop _=>exact@HO.blank J _ _ _ _ _ _ ((gK h1).2 λ_ _ _ x=>by cases x) trivial
   |deferred=>exact@HO.blank J _ _ _ _ _ _ ((gK h1).2 λ_ _ _ x=>by cases x) trivial
   |taken=>exact@HO.blank J _ _ _ _ _ _ ((gK h1).2 λ_ _ _ x=>by cases x) trivial
   |number l Z=>exact@HO.num J _ _ _ _ _ l ((gK h1).2 λ_ _ _ x=>by cases x) Z
  |shut t _ _ hc hf=>exact z rfl rfl hc λx=>hf ((i.cl b).2 x)
  |token s p r t _ D h6=>exact@HO.token J _ _ _ _ _ _ _ _ ((gK h1).2 λ_ _ _ x=>by cases x) D λx=>h6 ((i.cl b).2 x)
  |blank s p _ D=>exact@HO.blank J _ _ _ _ _ _ ((gK h1).2 λ_ _ _ x=>by cases x) D
  |num l _ D=>exact@HO.num J _ _ _ _ _ l ((gK h1).2 λ_ _ _ x=>by cases x) D
 ·exact KI
theorem HR.RZ{K:aF}{h hG:Array Obj}(X:Nat->Bool)(fs:Array Func)(z:ag.j4 I J)(H:@HR I K φ h h')(W:K.strict=true)(g0:∀b,J.cl b->K.tok b)(A:h.size<=hG.size)(C:∀b,b<h.size->hG[b]?=h[b]?):@HR (ag.exact J fs) (aI.qj X h K.G) (Ren.fE φ) (kj X h) hG:=by
 have fJ:=(@HR.fJ I K φ h h' H).1;refine@HR.mk (ag.exact J fs) _ _ _ _ (λb c d hb hc=>?_) (λb c hb=>?_) (λb hb=>?_) (λb c hb=>?_) (by rw[yH];exact⟨fJ,aJ fJ A⟩)
 ·have h1:=(Ren.sw hb).1;have T:=(Ren.sw hc).1;exact .inl aa
 ·obtain⟨rfl,d,hd⟩:=Ren.sw hb;obtain⟨o,o',h1,T,D⟩:=@HR.obj I _ _ _ _ H c d hd;have n:=(bF.1 h1).1;refine⟨gh (X c) o,o,by rw[uE,h1];rfl,by rw[C c n,h1],?_⟩
  have F:∀{m i:Array rl}{t:EV}{f N:Nat×Nat},o=.cells m t f->o'=.cells i t N->@ax I φ m i->(J.cl c->f=(0,0))->@HO (ag.exact J fs) (aI.qj X h K.G) (Ren.fE φ) c (gh (X c) o) o:=by
   rintro m i t f N rfl rfl hc r;by_cases he:(X c&&decide (0<m.size))=true
   ·have e:gh (X c) (.cells m t f)=.stringIter default 0:=by simp only[gh];rw[if_pos he]
    rw[e];exact@HO.token (ag.exact J fs) _ _ _ _ _ _ _ _ ((gK h1).2 (by rw[e];exactλ_ _ _ x=>by cases x)) (by simp at he;exact he.2) r
   ·have e:gh (X c) (.cells m t f)=.cells m t (0,m.size):=by simp only[gh];rw[if_neg he]
    rw[e];have u:¬om X h c:=λx=>(gK h1).1 x _ _ _ e;refine@HO.shut (ag.exact J fs) _ _ _ _ _ t _ ⟨n,u⟩ u ?_ r;exact(ax.inst z hc).id
  cases D with
  |own _ _ D Z=>cases D with|@cells m i t f hc=>grind|loop _=>exact@HO.blank (ag.exact J fs) _ _ _ _ _ _ ((gK h1).2 λ_ _ _ x=>by cases x) trivial|deferred=>exact@HO.blank (ag.exact J fs) _ _ _ _ _ _ ((gK h1).2 λ_ _ _ x=>by cases x) trivial|taken=>exact@HO.blank (ag.exact J fs) _ _ _ _ _ _ ((gK h1).2 λ_ _ _ x=>by cases x) trivial|number l V=>exact@HO.num (ag.exact J fs) _ _ _ _ _ l ((gK h1).2 λ_ _ _ x=>by cases x) (AR.id V)
  |shut t _ R hc hf=>exact F rfl rfl hc λx=>absurd (g0 c x) R
  |token s p i t _ L R=>exact@HO.blank (ag.exact J fs) _ _ _ _ _ _ ((gK h1).2 λ_ _ _ x=>by cases x) trivial
  |blank s p _ L=>exact@HO.blank (ag.exact J fs) _ _ _ _ _ _ ((gK h1).2 λ_ _ _ x=>by cases x) trivial
  |num l _ L=>exact@HO.num (ag.exact J fs) _ _ _ _ _ l ((gK h1).2 λ_ _ _ x=>by cases x) (AR.id L)
 ·exact KI
 ·rw[(Ren.sw hb).1]
def adE{h:Array Obj}{X:Nat->Bool}(d:X b=false){cs:Array rl}{f:Nat×Nat}(h1:h[b]?=some (.cells cs t f)):(kj X h)[b]?=some (.cells cs t (0,cs.size)):=by rw[uE,h1];simp[gh,d]
end
section
open Go.Conc (G)
section
variable[J:ag]{fs:Array Func}{φ χ ψ:Ren}(hb:∀a b c,χ a=some b->φ a=some c->ψ b=some c)(g0:∀a b,χ a=some b->ag.cl a->ag.cl b)
include hb
omit J in
def AR.comp{a b c:Addr}(h:AR φ a c)(k:AR χ a b):AR ψ b c:=⟨hb _ _ _ k.block h.block,h.off.trans k.off.symm,h.spot.trans k.spot.symm⟩
def fe.comp{a b c:Fn}(h:fe φ a c)(k:@fe (ag.exact J fs) χ a b):fe ψ b c:=by
 cases h with
 |func f h=>cases k with|func _ _=>exact .func f h
 |yield h=>cases k with|yield k=>exact .yield (hb _ _ _ k h)
omit hb in
include g0 in
theorem Tk.comp{v:rl}(q:Tk v):∀{u:rl},@VR (ag.exact J fs) χ v u->Tk u:=by
 induction q with
 |ptr p=>intro u k;cases k with|ptr k=>exact .ptr (g0 _ _ k.block p)
 |@agg xs _ d=>
  intro u k;cases k with
  |@agg _ l m e=>refine .agg λi y f=>?_;have hi:i<xs.size:=eO;exact d i xs[i] (eE hi) (e i xs[i] y (eE hi) f)
include g0 in
theorem VR.comp{v v':rl}(h:VR φ v v'):∀{u:rl},@VR (ag.exact J fs) χ v u->VR ψ u v':=by
 have d:∀{xs ys us:Array rl},xs.size=ys.size->(∀(i:Nat) x y,xs[i]?=some x->ys[i]?=some y->∀{u},@VR (ag.exact J fs) χ x u->VR ψ u y)->xs.size=us.size->
   (∀(i:Nat) x u,xs[i]?=some x->us[i]?=some u->@VR (ag.exact J fs) χ x u)->∀(i:Nat) u y,us[i]?=some u->ys[i]?=some y->VR ψ u y:=by
  intro xs ys us h1 D W F i u y hu G;have hi:i<xs.size:=eO;exact D i xs[i] y (eE hi) G (F i xs[i] u (eE hi) hu)
 induction h with
 |bool b=>intro u k;cases k;exact .bool b
 |int a n=>intro u k;cases k;exact .int a n
 |string s=>intro u k;cases k;exact .string s
 |nilFunc=>intro u k;cases k;exact .nilFunc
 |nilIface=>intro u k;cases k;exact .nilIface
 |nilPtr=>intro u k;cases k;exact .nilPtr
 |hQ=>intro u k;cases k;exact .hQ
 |gZ=>intro u k;cases k;exact .gZ
 |ptr h=>intro u k;cases k with|ptr k=>exact .ptr (h.comp hb k)
 |dk n c=>intro u k;cases k;exact .dk n c
 |slice n c h=>intro u k;cases k with|slice _ _ k=>exact .slice n c (h.comp hb k)|empty=>exact .empty
 |empty=>intro u k;cases k with|slice _ _ k=>exact .empty|empty=>exact .empty
 |iface t _ p m=>
  intro u k;cases k with
  |iface _ k _=>
   refine .iface t (m k) ?_;rcases p with p|⟨a,rfl,p⟩|⟨p,q⟩
   ·exact .inl p
   ·cases k with|ptr k=>exact .inr (.inl ⟨_,rfl,g0 _ _ k.block p⟩)
   ·exact .inr (.inr ⟨p,q.comp g0 k⟩)
 |@aX v' L N=>
  intro u k
  have e:u=aI.aX:=by cases k with|aX R _=>exact R|func r=>cases r
  subst e;exact .aX L N
 |agg f _ m=>intro u k;cases k with|agg l k=>exact .agg (l.symm.trans f) (d f m l k)
 |tuple f _ m=>intro u k;cases k with|tuple l k=>exact .tuple (l.symm.trans f) (d f m l k)
 |func r f _ A _ m z=>intro u k;cases k with|aX _ _=>cases r|func T l k C V=>exact .func (r.comp hb T) (l.symm.trans f) (d f m l k) (C.symm.trans A) (d A z C V)
include g0 in
def ax.comp{xs ys us:Array rl}(h:ax φ xs ys)(k:@ax (ag.exact J fs) χ xs us):ax ψ us ys:=by
 refine⟨(@ax.size (ag.exact J fs) _ _ _ k).symm.trans h.size,λi u y hu d=>?_⟩;have hi:i<xs.size:=by rw[(@ax.size (ag.exact J fs) _ _ _ k)];exact(bF.1 hu).1
 exact(h.at_ i xs[i] y (eE hi) d).comp hb g0 (@ax.at_ (ag.exact J fs) _ _ _ k i xs[i] u (eE hi) hu)
include g0 in
def cN.comp{s:Nat->Prop}{xs ys us:Array rl}(h:cN φ s xs ys)(k:@cN (ag.exact J fs) χ s xs us):cN ψ s us ys:=by
 refine⟨(@cN.size (ag.exact J fs) _ _ _ _ k).symm.trans h.size,λi u y d hu e=>?_,λi hi=>by rw[<-(@cN.size (ag.exact J fs) _ _ _ _ k)];exact h.tl i hi⟩;have hi:i<xs.size:=by rw[(@cN.size (ag.exact J fs) _ _ _ _ k)];exact(bF.1 hu).1
 exact(h.at_ i xs[i] y d (eE hi) e).comp hb g0 (@cN.at_ (ag.exact J fs) _ _ _ _ k i xs[i] u d (eE hi) hu)
include g0 in
def cB.comp{l l' m:Loop}(h:cB φ l l')(k:@cB (ag.exact J fs) χ l m):cB ψ m l':=by
 have e:=(@cB.fn (ag.exact J fs) _ _ _ k);refine⟨h.state.trans (@cB.state (ag.exact J fs) _ _ _ k).symm,h.pending.trans (@cB.pending (ag.exact J fs) _ _ _ k).symm,h.fn.trans (@cB.fn (ag.exact J fs) _ _ _ k).symm,?_,h.params.trans (@cB.params (ag.exact J fs) _ _ _ k).symm,h.assign.trans (@cB.assign (ag.exact J fs) _ _ _ k).symm,h.body.trans (@cB.body (ag.exact J fs) _ _ _ k).symm,hb _ _ _ (@cB.defers (ag.exact J fs) _ _ _ k) h.defers,?_,?_,?_,?_⟩
 ·rw[e];exact h.tmps.comp hb g0 (@cB.tmps (ag.exact J fs) _ _ _ k)
 ·rw[e,(@cB.assign (ag.exact J fs) _ _ _ k)];exact h.qv
 ·rw[e,(@cB.body (ag.exact J fs) _ _ _ k)];exact h.okB
 ·rw[(@cB.pending (ag.exact J fs) _ _ _ k)];exact h.tn
 ·rw[e];exact h.okF
include g0 in
def OR.comp{o d p:Obj}(h:OR φ o d)(k:@OR (ag.exact J fs) χ o p):OR ψ p d:=by
 cases h with
 |cells t f h=>cases k with|cells _ _ k=>exact .cells t f (h.comp hb g0 k)
 |loop h=>cases k with|loop k=>exact .loop (h.comp hb g0 k)
 |deferred=>cases k;exact .deferred
 |taken=>cases k;exact .taken
 |number l h=>cases k with|number _ k=>exact .number l (h.comp hb k)
end
def OR.loose[ag]{φ:Ren}{o p:Obj}(h:OR φ o p)(d:Obj.loose o):Obj.loose p:=by cases h with|cells t f h=>exact d|_=>trivial
open Classical in
theorem HR.comp{I J:ag}{fs:Array Func}(hIJ:ag.Le J I){K Kc:aF}{ψ φ χ:Ren}{hA r hG h':Array Obj}{n0:Nat}(f:@HR I K ψ r h')(D:@HR J Kc φ hA h')(V:@HR (ag.exact J fs) Kc χ hA hG)(g0:∀a b,χ a=some b->J.cl a->J.cl b)
  (i:∀b,n0<=b->¬Kc.ro b/\¬Kc.tok b)(f9:Kc.strict=true)(U4:Kc.G=K.G)(ah7:K.G<=n0)(W:r.size<=hG.size)(F:∀b,b<r.size->hG[b]?=r[b]?)
  (hold:∀a b c,a<n0->χ a=some b->φ a=some c->ψ b=some c)(X:∀a b,n0<=a->χ a=some b->r.size<=b)(A:∀b d,ψ b=some d->∀a,n0<=a->φ a≠some d):
  ∃e,Ren.le ψ e/\@HR I K e hG h'/\(∀a b c,χ a=some b->φ a=some c->e b=some c)/\∀b c,e b=some c->ψ b=some c\/(r.size<=b/\∃a,n0<=a/\φ a=some c):=by
 let e:Ren:=λb=>if b<r.size then ψ b else if h:∃a,n0<=a/\χ a=some b then φ h.choose else none
 have AC:∀b,b<r.size->e b=ψ b:=λb hb=>if_pos hb
 have Bz:∀a b,n0<=a->χ a=some b->e b=φ a:=by
  intro a b ha L;have hx:∃a,n0<=a/\χ a=some b:=⟨a,ha,L⟩
  have e1:e b=φ hx.choose:=by show(if b<r.size then ψ b else if h:∃a,n0<=a/\χ a=some b then φ h.choose else none)=_;rw[if_neg (Nat.not_lt.2 (X a b ha L)),dif_pos hx]
  rw[e1,(@HR.inj (ag.exact J fs) _ _ _ _ V _ _ _ hx.choose_spec.2 L).resolve_right λm=>m.2.1.elim (i a ha).1 (i a ha).2]
 have n:∀b c,e b=some c->ψ b=some c\/(r.size<=b/\∃a,n0<=a/\χ a=some b/\φ a=some c):=eO;have hle:Ren.le ψ e:=λb c Z=>by rw[AC b (@HR.lt I _ _ _ _ f _ _ Z).1];exact Z
 have u:∀a b c,χ a=some b->φ a=some c->e b=some c:=by
  intro a b c h1 z;rcases de a n0 with aT|wt
  ·exact hle _ _ (hold a b c aT h1 z)
  ·rw[Bz a b wt h1];exact z
 refine⟨e,hle,@HR.mk I _ _ _ _ (λb c d hb hc=>?_) (λb c hb=>?_) (λb hb=>have:=@HR.below I _ _ _ _ f b hb;⟨cG this.1 W,this.2⟩) (λb c hb=>?_) ⟨aJ (@HR.fJ I _ _ _ _ f).1 W,(@HR.fJ I _ _ _ _ f).2⟩,u,λb c hb=>(n b c hb).imp_right λ⟨h,a,h1,_,R⟩=>⟨h,a,h1,R⟩⟩
 ·rcases n b d hb with h1|⟨_,a1,z,R,T⟩<;>rcases n c d hc with k1|⟨_,a2,k2,N,k4⟩
  ·exact@HR.inj I _ _ _ _ f _ _ _ h1 k1
  ·exact absurd k4 (A b d h1 a2 k2)
  ·exact absurd T (A c d k1 a1 z)
  ·have:=(@HR.inj J _ _ _ _ D _ _ _ T k4).resolve_right λm=>m.1.elim (i _ z).1 (i _ z).2;subst this;rw[R] at N;exact .inl (aL N)
 ·rcases n b c hb with h1|⟨C,a,z,R,T⟩
  ·obtain⟨o,o',g1,g2,g3⟩:=@HR.obj I _ _ _ _ f b c h1;exact⟨o,o',by rw[F b (@HR.lt I _ _ _ _ f _ _ h1).1];exact g1,g2,@HO.mono I _ _ _ _ _ _ g3 hle⟩
  ·obtain⟨o,o',g1,g2,g3⟩:=@HR.obj J _ _ _ _ D a c T;obtain⟨p,p',k1,k2,N⟩:=@HR.obj (ag.exact J fs) _ _ _ _ V a b R;rw[g1] at k1;cases k1;have hc:=i a z;cases g3 with
   |own _ _ g3 gl=>cases N with|own _ _ N _=>exact⟨p',o',k2,g2,@HO.own I _ _ _ _ _ (λx=>absurd (@HR.below I _ _ _ _ f b (.inl x)).1 (ph.2 C)) (λx=>absurd (@HR.below I _ _ _ _ f b (.inr x)).1 (ph.2 C)) (OR.inst hIJ (@OR.comp J fs _ _ _ u g0 _ _ _ g3 N)) λ_=>@OR.loose (ag.exact J fs) _ _ _ N (gl f9)⟩|shut t h=>exact absurd h hc.1|token s p cs' t h=>exact absurd h hc.2|blank s p h=>exact absurd h hc.2|num l h=>exact absurd h hc.2
   |shut t h=>exact absurd h hc.1
   |token s p cs' t h=>exact absurd h hc.2
   |blank s p h=>exact absurd h hc.2
   |num l h=>exact absurd h hc.2
 ·rcases n b c hb with h1|⟨h1,a,z,R,T⟩
  ·exact@HR.low I _ _ _ _ f b c h1
  ·have:=@HR.low J _ _ _ _ D a c T;have:=(@HR.fJ I _ _ _ _ f);omega
end
section
variable[ag]
open Go.Conc (G)
structure hU(K:aF)(φ ψ:Ren)(n:Nat)(h h1:Array Obj):Prop where
 size:h.size<=h1.size
 le:Ren.le φ ψ
 fresh:∀b c,ψ b=some c->φ b=some c\/(n<=b/\h.size<=c)
 apart:∀c,c<h.size->(∀b,φ b=some c->K.ro b\/K.tok b)->h1[c]?=h[c]?
theorem eH.h{K:aF}{φ ψ:Ren}{n:Nat}{w w1:ns}(h:eH K φ ψ n w w1):hU K φ ψ n w.heap w1.heap:=⟨h.left.size,h.le,h.fresh,h.apart⟩
theorem jM.h{K:aF}{φ ψ:Ren}{n:Nat}{w w1:ns}(h:jM K φ ψ n w w1):hU K φ ψ n w.heap w1.heap:=⟨h.size,h.le,h.fresh,h.apart⟩
theorem hU.refl(K:aF)(φ:Ren)(n:Nat)(h:Array Obj):hU K φ φ n h h:=⟨au _,Ren.le_refl φ,λ_ _ h=>.inl h,λ_ _ _=>rfl⟩
theorem hU.trans{K:aF}{φ ψ χ:Ren}{n m:Nat}{a b c:Array Obj}(h:hU K φ ψ n a b)(k:hU K ψ χ m b c)(d:n<=m):hU K φ χ n a c:=by
 refine⟨aJ h.size k.size,Ren.le_trans h.le k.le,λx y hx=>?_,λx hx hn=>?_⟩
 ·exact L3
 ·exact L4
section
variable{P:Kx}{K:aF}{Q:so->Array Obj->Prop}
theorem bE.S3(h:fp P y x)(hw:bE P Q x.1 x.2):bE P Q y.1 y.2:=by induction h with|one h=>exact hw.next h|more h _ d=>exact(d hw).next h
theorem bE.calm{g1:so}{w1:ns}(h:bE P Q g w)(d:Nx P (g1,w1) (g,w)):∀c,g1.frame.mode≠.panicking c:=by obtain⟨e,T,es,i,l⟩:=d;cases h with|lv h _=>exact absurd h e|step _ f _=>grind
theorem R0{fr:aiH}{cs:List aiH}(d:2<=B.length):¬Lv P (G fr (cs++B)):=by rintro⟨f0,e,_⟩;have:cs++B=[c0 P]:=congrArg Goroutine.callers e;have:=congrArg List.length this;simp at this;omega
theorem Nj(n:P.two=P)(A:∀c C,¬ag.dH c C)(hB:cJ P)(hC:dc P)(hz:bZ P)(hG:K.G=P.globals.size)(hF:dn P K)(D:2<=B.length){χ:Ren}{F Z:so}{f e:ns}
  (h:dE P K B χ g wg Z e)(hW:bE P Q g wg)(hn:Nx P (F,f) (g,wg)):
  ∃p r m,Nx P (r,m) (Z,e)/\dE P K B p F f r m/\hU K χ p wg.heap.size e.heap m.heap/\wg.heap.size<=f.heap.size:=by
 have hp:=hW.calm hn;obtain⟨fr,bi,cs,cs',rfl,rfl,h1,h2,h3,h4,h5⟩:=h;obtain⟨hl,T,es,hT,hs⟩:=hn;have L:jY (spliced e (wg.on T wg.drawn)) e:=λj hj q=>MP e _ hj q;have N:WR K χ (wg.on T wg.drawn) (e.on (spliced e (wg.on T wg.drawn)) e.drawn):=⟨h3,λi q=>(yO e (wg.on T wg.drawn) i q).symm⟩;rcases vo (B:=[c0 P]) (B':=B) hB hC hz hG hF true true h4 h1 h2 N h5 (λ⟨e1,e2,e3⟩=>hl ⟨fr,by rw[e1];rfl,.inl ⟨e2,e3⟩⟩) (λ_⟨c,C,_,_,x⟩=>A c C x) F f es hs with⟨ψ,li,NE,s,l,c,h',rfl,_⟩|⟨ψ,R,s,u,l,V,d,rfl,h6,h7,h8,h9,W,X,z,h13⟩
 ·exact absurd rfl (hp c)
 ·rw[n] at h6;have hv:ep ψ:=λg hg=>z.le _ _ (h4 g hg);exact⟨ψ,_,V,⟨R0 D,_,_,L,h6⟩,⟨R,u,s,l,rfl,rfl,h7,h8,W.heap,hv,h9 h5⟩,z.h,X.size⟩
theorem adF(i:P.two=P)(l:∀c T,¬ag.dH c T)(L:cJ P)(N:dc P)(R:bZ P)(hG:K.G=P.globals.size)(hF:dn P K)(m:2<=B.length)(V:fp P y x):
  ∀{χ:Ren}{p:so}{n:ns},dE P K B χ x.1 x.2 p n->bE P Q x.1 x.2->
  ∃e f d,fp P (f,d) (p,n)/\dE P K B e y.1 y.2 f d/\hU K χ e x.2.heap.size n.heap d.heap/\x.2.heap.size<=y.2.heap.size:=by
 induction V with
 |one h=>intro χ p n u r;obtain⟨e,f,d,h1,z,A,s⟩:=Nj i l L N R hG hF m u r h;exact⟨e,f,d,.one h1,z,A,s⟩
 |more h W X=>intro χ p n u r;obtain⟨e,f,d,h1,z,A,s⟩:=X u r;obtain⟨C,D,F,Z,k2,k3,k4⟩:=Nj i l L N R hG hF m z (r.S3 W) h;exact⟨C,D,F,.more Z h1,k2,A.trans k3 s,aJ s k4⟩
theorem replay(i:P.two=P)(m:∀c u,¬ag.dH c u)(z:cJ P)(A:dc P)(C:bZ P)(hG:K.G=P.globals.size)(hF:dn P K){B:List aiH}(n:2<=B.length){y x:so×ns}(p:fq P y x)
  {χ:Ren}{r:so}{l:ns}(s:dE P K B χ x.1 x.2 r l)(D:bE P Q x.1 x.2):
  ∃e f d,fq P (f,d) (r,l)/\dE P K B e y.1 y.2 f d/\hU K χ e x.2.heap.size l.heap d.heap/\x.2.heap.size<=y.2.heap.size:=by
 rcases p with rfl|p
 ·exact⟨χ,r,l,.inl rfl,s,.refl _ _ _ _,au _⟩
 ·obtain⟨e,f,d,h1,F⟩:=adF i m z A C hG hF n p s D;exact⟨e,f,d,.inr h1,F⟩
end
end
section
variable[ag]
open Go.Conc (G)
section
variable{P:Kx}{K:aF}
def iV(P:Kx)(R:rl->Array Obj->Prop)(g:so)(h:Array Obj):Prop:=
 ∃fn v,g.frame.mode=.returning/\g.frame.defers=[]/\P.funcs[g.frame.fn]?=some fn/\(∀w:ns,w.heap=h->∃d,(results fn g.frame.tmps).run P w=.ok v d/\d.heap=h)/\((∀r∈fn.results,∃t,r=.tmp t)/\P.inits.idxOf? g.frame.fn=none)/\R v h
def OS(hB:cJ P){b:aiH}{B:List aiH}{φ:Ren}{g:so}{wg:ns}{a:so}{w:ns}{R:rl->Array Obj->Prop}(h:dE P K (b::B) φ g wg a w)(hl:Lv P g)(hb:iV P R g wg.heap)(m:Bool):
  ∃ψ v v' w' d,aiO P.two m a w=.go (G (b.finish v') B) w' d/\R v wg.heap/\VR ψ v v'/\HR K ψ wg.heap w'.heap/\eH K φ ψ wg.heap.size w w'/\∀e∈d,ey K ψ e:=by
 obtain⟨fr,bi,cs,cs',rfl,rfl,ii,D,hH,_,_⟩:=h;obtain⟨f0,e0,_⟩:=hl
 have F:cs=[]:=by exact Ma
 subst F;cases D;obtain⟨fn,v,oN,e1,r,l,_,hR⟩:=hb;change fr.mode=.returning at oN;change fr.defers=[] at e1;change P.funcs[fr.fn]?=some fn at r
 have n:bi.mode=.returning:=by exact C8
 have e2:bi.defers=[]:=by have hd:=ii.defers;rw[e1] at hd;generalize bi.defers=t' at hd;cases hd;rfl
 have L:=ii.kind.2;obtain⟨fn0,z,p,f,A,_,N,_⟩:=hB fr.fn ii.iU;rw[r] at p;cases p;have f:P.two.funcs[bi.fn]?=some z:=by rw[ii.fn];exact f
 have T:results z bi.tmps=results fn bi.tmps:=by unfold results;rw[A]
 have x2:aiO P.two m (G bi ([]++b::B)) w=GStep.after (seen P.two bi.fn ((results fn bi.tmps).runT P.two w #[]).2) (match((results fn bi.tmps).runT P.two w #[]).1 with
   |.ok v w=>doReturn P.two m bi (b::B) none v w
   |.halt (.stuck s) w=>.ended (.stuck s (bi.pos P.two)) w
   |.halt _ w=>.ended (.stuck "return: the result variables cannot be read" (bi.pos P.two)) w):=by
  have e0:aiO P.two m (G bi ([]++b::B)) w=unwind P.two m bi (b::B) none w:=by unfold aiO G;dsimp only;rw[n];rfl
  rw[e0];unfold unwind;rw[e2];rw[n];rw[f];dsimp only;rw[T];rfl
 change∀w:ns,w.heap=wg.heap->∃V,(results fn fr.tmps).run P w=.ok v V/\V.heap=wg.heap at l;obtain⟨V,C,W⟩:=l (wg.on (spliced wg w) wg.drawn) rfl;have X:WR K φ (wg.on (spliced wg w) wg.drawn) w:=⟨hH,λi q=>yO wg w i q⟩;rcases(yY (P:=P) (K:=K) fn N ii.tmps).both X with⟨x,w3,Z,hx,_⟩|⟨u,w3,Z,ψ,v',w',d,g1,g2,g3,g4,g5,g6,g7⟩
 ·simp_all
 ·have h1:=nM P (results fn fr.tmps) (wg.on (spliced wg w) wg.drawn) #[];rw[g1,C] at h1;cases h1;refine⟨ψ,v,v',w',seen P.two bi.fn d,?_,hR,g3,by rw[<-W];exact g4.heap,g6,λe he=>g7 e (l4 he)⟩;rw[x2,g2];simp only[doReturn,L,GStep.after];simp[G]
end
end
section
open Go.Conc (G touchAt Perm Quiet Knows touch_of getElem?_append_cases lt_of_act? act?_old knows_own)
open Go.ConcN (CT Apart PermW)
def LR{X:Type}(R:X->X->Prop)(d xs:List X):Prop:=∃i x y,xs[i]?=some x/\R y x/\d=xs.set i y
def vq{X:Type}{R:X->X->Prop}:∀(xs:List X),(∀x∈xs,Acc R x)->Acc (LR R) xs
 |[],_=>⟨_,λn⟨i,x,y,h,_⟩=>by simp at h⟩
 |x::xs,h=>by
  have h1:Acc R x:=h x aj;have p:Acc (LR R) xs:=vq xs λy r=>h y (by simp[r]);clear h
  induction h1 generalizing xs with
  |intro x s e=>
   induction p with
   |intro xs f d=>
    refine⟨_,λn l=>?_⟩;obtain⟨i,a,b,h,m,rfl⟩:=l;cases i with
    |zero=>simp at h;subst h;exact e b m xs ⟨_,f⟩
    |succ i=>simp at h;exact d _ ⟨i,a,b,h,m,rfl⟩
section
variable[ag]
def HR.still{K:aF}{φ:Ren}{h h' d:Array Obj}(H:HR K φ h h')(e:h'.size<=d.size)(f:∀b c,φ b=some c->d[c]?=h'[c]?):HR K φ h d:=by refine⟨H.inj,λb c hb=>?_,H.below,H.low,H.fJ.1,aJ H.fJ.2 e⟩;obtain⟨o,o',h1,i,l⟩:=H.obj b c hb;exact⟨o,o',h1,by rw[f b c hb];exact i,l⟩
def dE.still{P:Kx}{K:aF}{B:List aiH}{φ:Ren}{g a:so}{wg w d:ns}(h:dE P K B φ g wg a w)(i:w.heap.size<=d.heap.size)(l:∀b c,φ b=some c->d.heap[c]?=w.heap[c]?):dE P K B φ g wg a d:=by obtain⟨fr,e,m,f,h1,n,p,r,s,u⟩:=h;exact⟨fr,e,m,f,h1,n,p,r,s.still i l,u⟩
end
section
variable{Sh oR:Loc->Prop}{Own AV Rd IS:Nat->Loc->Prop}{t:ajy}{j:Nat}
def l7(t:ajy)(l:Loc):Prop:=∀i x,touchAt t i=some x->x.loc≠l
def l7.perm{l:Loc}(h:l7 t l)(g:Nat):Perm t g l:=λi a d e=>absurd e (h i a d)
def l7.S4{l:Loc}(h:l7 t l)(g:Nat):PermW t g l:=λi a d e _=>absurd e (h i a d)
def CT.Fy(h:CT Sh Own Rd t j)(u:∀l,oR l->Sh l\/l7 t l)(e:∀l,Sh l->oR l)
  (n:∀k,1<=k->k<=j->∀l,AV k l->Own k l\/l7 t l)(z:∀k,1<=k->k<=j->∀l,IS k l->Rd k l\/l7 t l)
  (f:∀l,¬oR l->(∀k,1<=k->k<=j->¬AV k l/\¬IS k l)->(∀k,1<=k->k<=j->¬Own k l/\¬Rd k l)\/l7 t l)
  (m:∀l,¬oR l->(∀k,1<=k->k<=j->¬AV k l)->(∀k,1<=k->k<=j->¬Own k l)\/l7 t l):CT oR AV IS t j:=by
 refine⟨λi op a hi A d=>?_,λk p r l d=>?_,λk p r l d=>?_,λl s d=>?_,λl s d=>?_,h.nr,h.gs⟩
 ·rcases u _ d with h1|h1
  ·exact h.quiet i op a hi A h1
  ·exact absurd rfl (h1 i a (by rw[Go.Conc.touchAt_of hi];exact A))
 ·rcases n k p r l d with h1|h1
  ·exact h.own k p r l h1
  ·exact h1.perm k
 ·rcases z k p r l d with h1|h1
  ·exact h.rd k p r l h1
  ·exact h1.S4 k
 ·rcases f l s d with h1|h1
  ·exact h.free l (λx=>s (e l x)) h1
  ·exact h1.perm 0
 ·rcases m l s d with h1|h1
  ·exact h.mine l (λx=>s (e l x)) h1
  ·exact h1.S4 0
def CT.join(h:CT Sh Own Rd t j)(F:t.HandedOver)(G:∀i x,touchAt t i=some x->¬Sh x.loc->x.loc.isMemory=true->x.kind=.plain)
  (hm:∀k l,1<=k->k<=j->Own k l\/Rd k l->l.isMemory=true):CT Sh tD tD t j:=by
 have m:∀l,¬Sh l->Perm t 0 l:=by
  intro l f;cases n:l.isMemory with
  |false=>exact h.free l f λk u A=>⟨λx=>(by have:=hm k l u A (.inl x);rw[n] at this;cases this),λx=>(by have:=hm k l u A (.inr x);rw[n] at this;cases this)⟩
  |true=>
   intro i a C d;obtain⟨op,e,p⟩:=touch_of C;by_cases D:op.g=0
   ·have:=knows_own e;rwa[D] at this
   ·have r:=G i a C (by rw[d];exact f) (by rw[d];exact n);obtain⟨q,hq,hb⟩:=F i op.g (by simp[Trace.g?,e]) D ⟨a,by simp[Trace.act?,e,p],by rw[d];exact n,.inl (by rw[r];simp)⟩;obtain⟨z,L,s⟩:=jD.1 hq;exact⟨q,z,L,s,.inr hb⟩
 exact⟨h.quiet,λ_ _ _ _ h=>h.elim,λ_ _ _ _ h=>h.elim,λl f _=>m l f,λl f _=>PermW.of (m l f),h.nr,h.gs⟩
end
end
section
variable[ag]
open Go.ConcN (upd upd_same upd_ne)
structure Start where
 φ:Ren
 h0:Array Obj
 h1:Array Obj
 K:aF
 os:Os
 out:Array (Nat×ByteArray)
def iK(w w':ns):Prop:=w'.os=w.os/\w'.output=w.output
omit [ag] in
def iK.refl(w:ns):iK w w:=⟨rfl,rfl⟩
omit [ag] in
def iK.trans{a b c:ns}(h:iK a b)(k:iK b c):iK a c:=⟨k.1.trans h.1,k.2.trans h.2⟩
structure pH(S:Start):Prop where
 rel:HR S.K S.φ S.h0 S.h1
 old:∀b,b<S.h0.size->S.K.ro b\/S.K.tok b
 new:∀b,S.h0.size<=b->¬S.K.ro b/\¬S.K.tok b
 strict:S.K.strict=true
def aK(S:Start)(Φ:Nat->Ren)(k c:Nat):Prop:=∃b,S.h0.size<=b/\Φ k b=some c
structure Mem(S:Start)(j:Nat)(Φ:Nat->Ren)(H:Nat->Array Obj)(M:Nat->Prop)(h:Array Obj):Prop where
 size:S.h1.size<=h.size
 old:∀b,b<S.h1.size->h[b]?=S.h1[b]?
 start:pH S
 rel:∀k,k<j->HR S.K (Φ k) (H k) h
 le:∀k,k<j->Ren.le S.φ (Φ k)
 cC:∀k,k<j->S.h0.size<=(H k).size
 fresh:∀k,k<j->∀b c,Φ k b=some c->S.φ b=some c\/(S.h0.size<=b/\S.h1.size<=c)
 apart:∀k k',k<j->k'<j->k≠k'->∀c,aK S Φ k c->¬aK S Φ k' c
 main:∀k,k<j->∀c,aK S Φ k c->¬M c
 mlt:∀c,M c->S.h1.size<=c/\c<h.size
section
variable{S:Start}{j:Nat}{Φ:Nat->Ren}{H:Nat->Array Obj}{M:Nat->Prop}{h h':Array Obj}
def aK.upd_ne{d:Nat}{ψ:Ren}(e:d≠k)(x:aK S (ConcN.upd Φ k ψ) d c):aK S Φ d c:=by obtain⟨b,h1,f⟩:=x;rw[Go.ConcN.upd_ne Φ ψ e] at f;exact⟨b,h1,f⟩
def Mem.kZ(I:Mem S j Φ H M h){k c:Nat}(d:k<j)(x:aK S Φ k c):S.h1.size<=c/\c<h.size:=by
 obtain⟨b,h1,e⟩:=x;refine⟨?_,((I.rel k d).lt e).2⟩;rcases I.fresh k d b c e with f|f
 ·have:=(I.start.rel.lt f).1;omega
 ·omega
def Mem.image(I:Mem S j Φ H M h)(e:k<j)(x:Φ k b=some c):aK S Φ k c\/(c<S.h1.size/\S.φ b=some c):=by
 rcases I.fresh k e b c x with d|d
 ·exact .inr ⟨(I.start.rel.lt d).2,d⟩
 ·exact .inl ⟨b,d.1,x⟩
def Mem.leaves(I:Mem S j Φ H M h)(d:k<j){ψ:Ren}(hr:hU S.K (Φ k) ψ (H k).size h h')(hc:c<h.size)(f:¬aK S Φ k c):h'[c]?=h[c]?:=by
 refine hr.apart c hc λb hb=>?_;rcases I.image d hb with h1|⟨_,e⟩
 ·simp_all
 ·exact I.start.old b (I.start.rel.lt e).1
def Mem.step(I:Mem S j Φ H M h)(p:k<j){ψ:Ren}{r:Array Obj}(hr:hU S.K (Φ k) ψ (H k).size h h')(F:HR S.K ψ r h')(G:(H k).size<=r.size):Mem S j (ConcN.upd Φ k ψ) (ConcN.upd H k r) M h':=by
 have f:∀c,aK S (ConcN.upd Φ k ψ) k c->aK S Φ k c\/h.size<=c:=by
  rintro c⟨b,h1,m⟩;rw[aiV] at m;rcases hr.fresh b c m with l|l
  ·exact .inl ⟨b,h1,l⟩
  ·exact .inr l.2
 refine⟨aJ I.size hr.size,λb hb=>?_,I.start,λk' d=>?_,λk' d=>?_,λk' d=>?_,λk' d b c hb=>?_,λs u h1 m i c A n=>?_,λk' d c x=>?_,λc hc=>?_⟩
 ·rw[I.leaves p hr (Nat.lt_of_lt_of_le hb I.size) λx=>by have:=(I.kZ p x).1;omega];exact I.old b hb
 ·by_cases e:k'=k
  ·subst e;rw[aiV,aiV];exact F
  ·rw[upd_ne Φ ψ e,upd_ne H r e];refine(I.rel k' d).still hr.size λb c hb=>?_;refine I.leaves p hr ((I.rel k' d).lt hb).2 λx=>?_;rcases I.image d hb with h1|⟨h1,_⟩
   ·exact I.apart k' k d p e c h1 x
   ·have:=(I.kZ p x).1;omega
 ·by_cases e:k'=k
  ·subst e;rw[aiV];exact Ren.le_trans (I.le k' d) hr.le
  ·rw[upd_ne Φ ψ e];exact I.le k' d
 ·by_cases e:k'=k
  ·subst e;rw[aiV];exact aJ (I.cC k' d) G
  ·rw[upd_ne H r e];exact I.cC k' d
 ·by_cases e:k'=k
  ·subst e;rw[aiV] at hb;rcases hr.fresh b c hb with l|l
   ·exact I.fresh k' d b c l
   ·exact .inr ⟨aJ (I.cC k' d) l.1,aJ I.size l.2⟩
  ·rw[upd_ne Φ ψ e] at hb;exact I.fresh k' d b c hb
 ·by_cases C:s=k
  ·subst C;have n:=n.upd_ne (kS i);rcases f c A with y|y
   ·exact I.apart s u h1 m i c y n
   ·have:=(I.kZ m n).2;omega
  ·have z:=A.upd_ne C;by_cases D:u=k
   ·subst D;rcases f c n with y|y
    ·exact I.apart s u h1 m i c z y
    ·have:=(I.kZ h1 z).2;omega
   ·exact I.apart s u h1 m i c z (n.upd_ne D)
 ·by_cases e:k'=k
  ·subst e;rcases f c x with y|y
   ·exact I.main k' d c y
   ·exactλhm=>by have:=(I.mlt c hm).2;omega
  ·exact I.main k' d c (x.upd_ne e)
 ·have:=I.mlt c hc;exact⟨this.1,cG this.2 hr.size⟩
def Mem.GW(I:Mem S j Φ H M h){M':Nat->Prop}(f:h.size<=h'.size)(i:∀c,c<h.size->¬M c->h'[c]?=h[c]?)(hm:∀c,M c->M' c)(e:∀c,M' c->M c\/(h.size<=c/\c<h'.size)):Mem S j Φ H M' h':=by
 refine⟨aJ I.size f,λb hb=>?_,I.start,λk d=>?_,I.le,I.cC,I.fresh,I.apart,λk d c x y=>?_,λc hc=>?_⟩
 ·rw[i b (Nat.lt_of_lt_of_le hb I.size) λx=>by have:=(I.mlt b x).1;omega];exact I.old b hb
 ·refine(I.rel k d).still f λb c hb=>i c ((I.rel k d).lt hb).2 λx=>?_;rcases I.image d hb with h1|⟨h1,_⟩
  ·exact I.main k d c h1 x
  ·have:=(I.mlt c x).1;omega
 ·rcases e c y with h1|h1
  ·exact I.main k d c x h1
  ·have:=(I.kZ d x).2;omega
 ·rcases e c hc with h1|h1
  ·have:=I.mlt c h1;omega
  ·have:=I.size;omega
def Mem.fork(I:Mem S j Φ H M h):Mem S (j+1) (ConcN.upd Φ j S.φ) (ConcN.upd H j S.h0) M h:=by
 have none:∀c,¬aK S (ConcN.upd Φ j S.φ) j c:=by rintro c⟨b,h1,f⟩;rw[aiV] at f;have:=(I.start.rel.lt f).1;omega
 have lt:∀k,k<j+1->k≠j->k<j:=λk h1 f=>by omega
 have i:=I.start.rel.still I.size λb c hb=>I.old c (I.start.rel.lt hb).2;refine⟨I.size,I.old,I.start,λk d=>?_,λk d=>?_,λk d=>?_,λk d b c hb=>?_,λp r h1 f l c s u=>?_,λk d c x=>?_,I.mlt⟩
 ·by_cases e:k=j
  ·subst e;rw[aiV,aiV];exact i
  ·rw[upd_ne Φ _ e,upd_ne H _ e];exact I.rel k (lt k d e)
 ·by_cases e:k=j
  ·subst e;rw[aiV];exact Ren.le_refl _
  ·rw[upd_ne Φ _ e];exact I.le k (lt k d e)
 ·by_cases e:k=j
  ·subst e;rw[aiV];exact au _
  ·rw[upd_ne H _ e];exact I.cC k (lt k d e)
 ·by_cases e:k=j
  ·subst e;rw[aiV] at hb;exact .inl hb
  ·rw[upd_ne Φ _ e] at hb;exact I.fresh k (lt k d e) b c hb
 ·by_cases m:p=j
  ·subst m;exact none c s
  ·by_cases n:r=j
   ·subst n;exact none c u
   ·exact I.apart p r (lt _ h1 m) (lt _ f n) l c (s.upd_ne m) (u.upd_ne n)
 ·by_cases e:k=j
  ·subst e;exact absurd x (none c)
  ·exact I.main k (lt k d e) c (x.upd_ne e)
end
end
end Go.Proofs.Q0.aI
