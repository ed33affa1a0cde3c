import Derived.Test.YtfmnlpedhgficaaGreatDoorK16
set_option maxRecDepth 100000
set_option maxHeartbeats 8000000
set_option linter.all false
open Go.Value renaming int->U,slice->Y,bool->a5,agg->a9,pointer->bi,tuple->ci,iface->em
open Go.IntKind renaming i64->O
open Go.Obj renaming cells->ac
open Go.Ending renaming returned->be
open Bool renaming false->Bz,true->AT
open Go renaming Event->akh,Frame->ajs,FuncId->alo,Goroutine->BE,Program->NO,Trace->akt,TypeId->TO,Value->so,World->AS,deafBehind->aka,stepG->ajM
open Go.Conc renaming Aside->alk,Deaf_other->alV,aside_setCell->alh,getElem?_append_cases->alv
open Go.ConcN renaming Mode->ajY,WgLive->akp,get_map_set->amb,upd->TE,upd_same->ajP
open Go.ConcR renaming g_of_ofEvents->akP,ofEvent_loc_mark->aks
open Go.Frame renaming enter->ajC
open Go.MemAct renaming ofEvent->ajI,touch?->alR
open Go.MemOp renaming ofEvents->ajn
open Option renaming map_some->akK,none->ns,some->an
namespace Go.Proofs
abbrev lR:=@Array.mem_of_getElem?
def Ln{p:Prop}(h:p:=by simp only[MemAct.touch?,Option.some.injEq] at pu;subst pu;exact key (.cell a) PA hi):p:=h
abbrev ib:=@Nat.not_lt_zero
abbrev jK:=@Go.Conc.Goes.rely
abbrev ic:=@Go.Conc.Goes.running
def yY{p:Prop}(h:p:=by rw[touchAt_of pC];exact pu):p:=h
def DH{p:Prop}(h:p:=by exact⟨r,RelBy.appOther hr g_of_ofEvents aa⟩):p:=h
def MB{p:Prop}(h:p:=by obtain⟨loc,wr,sy⟩:=e;subst hs;cases loc<;>first|(cases wr<;>rfl)|cases hm):p:=h
def Lo{p:Prop}(h:p:=by rw[qO e he] at hx;simp only[MemAct.touch?,Option.some.injEq] at hx;rw[<-hx];simp[(hD.ev e he).1]):p:=h
abbrev iR:=@Go.Conc.Goes.cases
abbrev nC:=@Nat.le_of_eq
abbrev lS:=@Go.ConcN.RW.refl
def uZ{p:Prop}(h:p:=by simpa using kc):p:=h
def C4{p:Prop}(h:p:=by simp[deafBehind,semEvents]):p:=h
abbrev zv:=@Go.ConcN.RelBy.appOther
end Go.Proofs
namespace Go.Proofs.Q0.aL
variable{c n k:Nat}{pos:String}{fn:alo}{w:AS}{B:List ajs}{b:ajs}{g g':BE}
section
variable[ag]
open Go.Conc (G touchAt touch_of touchAt_of)
open Go.ConcN (CT Apart OkW Ok0 upd upd_same upd_ne)
structure bY where
 c0:Nat
 C:Nat
 off:Nat
 Wg:Nat
 jd:Loc->Prop
def bY.Sh(L:bY)(l:Loc):Prop:=L.jd l\/∃a,l=.cell a/\a.block=L.Wg
def ot(S:cJ)(L:bY)(j:Nat)(Φ:Nat->Ren)(g:Nat)(l:Loc):Prop:=∃k,k<j/\g=L.c0+k/\(l=.cell ⟨L.C,L.off+k,ns⟩\/∃c,aK S Φ k c/\bI c l)
def oD(S:cJ)(L:bY)(j:Nat)(X:Nat->Nat->Prop)(g:Nat)(l:Loc):Prop:=∃k,k<j/\g=L.c0+k/\¬L.Sh l/\∃c,(c<S.h1.size\/X k c)/\bI c l
structure pf(S:cJ)(L:bY)(M:Nat->Prop)(X:Nat->Nat->Prop):Prop where
 c0:1<=L.c0
 C:M L.C
 Wg:M L.Wg
 ne:L.C≠L.Wg
 sh:∀l,L.jd l->∃a,l=.cell a/\a.block<S.h1.size
 x:∀k c,X k c->M c/\c≠L.C/\c≠L.Wg
 HD:lD L.jd S.φ
section
variable{S:cJ}{L:bY}{j:Nat}{Φ:Nat->Ren}{H:Nat->Array Obj}{M:Nat->Prop}{X:Nat->Nat->Prop}{h h':Array Obj}{t:akt}{g:Nat}
omit [ag] in
def bI.inj{c d:Nat}{l:Loc}(h1:bI c l)(f:bI d l):c=d:=by rcases h1 with⟨a,rfl,rfl⟩|rfl<;>rcases f with⟨i,e,rfl⟩|e<;>cases e<;>rfl
omit [ag] in
def bI.mem{l:Loc}(h1:bI c l):l.isMemory=AT:=by rcases h1 with⟨a,rfl,rfl⟩|rfl<;>rfl
def tv(I:Mem S j Φ H M h)(O:pf S L M X):Apart L.Sh (ot S L j Φ) (oD S L j X):=by
 have z:=(I.mlt _ O.C).1;refine⟨λg g' l h1 f=>?_,λg g' l h1 f=>?_,λg l h1 f=>?_,λg l h1 f=>?_⟩
 ·obtain⟨k,i,rfl,x⟩:=h1;obtain⟨r,p,rfl,y⟩:=f;rcases x with rfl|⟨c,m,o⟩<;>rcases y with y|⟨s,d,u⟩
  ·simp at y;omega
  ·have:L.C=s:=bI.inj (l:=.cell ⟨L.C,L.off+k,ns⟩) (.inl ⟨_,rfl,rfl⟩) u;exact absurd O.C (this▸I.main r p s d)
  ·subst y;have:c=L.C:=bI.inj o (.inl ⟨_,rfl,rfl⟩);exact absurd O.C (this▸I.main k i c m)
  ·have:=bI.inj o u;subst this;by_cases e:k=r
   ·rw[e]
   ·exact absurd d (I.apart k r i p e c m)
 ·obtain⟨k,i,rfl,x⟩:=h1;obtain⟨r,p,_,_,s,d,u⟩:=f;rcases x with rfl|⟨c,m,o⟩
  ·have:L.C=s:=bI.inj (l:=.cell ⟨L.C,L.off+k,ns⟩) (.inl ⟨_,rfl,rfl⟩) u;rcases d with d|d
   ·omega
   ·exact(O.x r s d).2.1 this.symm
  ·have:=bI.inj o u;subst this;rcases d with d|d
   ·have:=(I.l6 i m).1;omega
   ·exact I.main k i c m (O.x r c d).1
 ·obtain⟨k,i,rfl,x⟩:=h1;rcases f with f|⟨a,rfl,v⟩
  ·obtain⟨a,rfl,v⟩:=O.sh l f;rcases x with x|⟨c,m,o⟩
   ·cases x;simp only at v;omega
   ·have:c=a.block:=bI.inj o (.inl ⟨_,rfl,rfl⟩);have:=(I.l6 i m).1;omega
  ·rcases x with x|⟨c,m,o⟩
   ·cases x;exact O.ne v
   ·have:c=a.block:=bI.inj o (.inl ⟨_,rfl,rfl⟩);exact I.main k i c m (by rw[this,v];exact O.Wg)
 ·obtain⟨k,i,_,x,_⟩:=h1;exact x f
omit [ag] in
def Pq{l:Loc}(d:∀op∈t,op.act.low n)(hc:n<=c)(hi:bI c l):mS t l:=by
 intro i x f e;obtain⟨op,o,pu⟩:=touch_of f;have PA:=d op (lR o);obtain⟨_,_,_,act⟩:=op;subst e
 have key:∀l:Loc,l.low n->bI c l->False:=by
  rintro l h1(⟨a,rfl,p⟩|rfl)
  ·have h1:a.block<n:=h1;omega
  ·have h1:c<n:=h1;omega
 cases act with
 |access e=>simp only[alR,Option.some.injEq] at pu;subst pu;exact key _ PA hi
 |mark m=>
  cases m with
  |read a=>exact Ln
  |write a=>exact Ln
  |_=>simp[alR] at pu
 |_=>simp[alR] at pu
def aep(I:Mem S j Φ H M h)(O:pf S L M X)(l:k<j){d:Array akh}(hd:∀e∈d,gJ S.K (Φ k) e):∀op∈ajn (L.c0+k) fn pos d,OkW L.Sh (ot S L j Φ) (oD S L j X) (L.c0+k) op:=by
 intro op m;obtain⟨e,he,rfl⟩:=j9 m;refine⟨rfl,λx s=>?_⟩;obtain⟨_,b,c,h1,i,u⟩:=zW (hd e he) s;rcases I.image l h1 with o|⟨o,r⟩
 ·exact .inr (.inl ⟨k,l,rfl,.inr ⟨c,o,i⟩⟩)
 ·refine .inr (.inr ⟨⟨k,l,rfl,?_,c,.inl o,i⟩,?_⟩)
  ·rintro(v|⟨a,y,E⟩)
   ·exact O.HD b c r _ i v
   ·have f:=i;rw[y] at f;have:c=a.block:=bI.inj f (.inl ⟨_,rfl,rfl⟩);have:=(I.mlt _ O.Wg).1;omega
  ·cases hw:x.write with
   |false=>rfl
   |true=>exfalso;obtain⟨z,A⟩:=u hw;have p:=(I.start.rel.lt r).1;exact(I.start.old b p).elim z A
def CT.run(I:Mem S j Φ H M h)(O:pf S L M X)(r:CT L.Sh (ot S L j Φ) (oD S L j X) t g)(G:∀op∈t,op.act.low h.size)(V:L.c0+j<=g+1){k:Nat}(v:k<j){f:Ren}{z:Array Obj}
  (hr:iF S.K (Φ k) f (H k).size h h')(N:HR S.K f z h')(Q:(H k).size<=z.size){d:Array akh}(hd:∀e∈d,gJ S.K f e){fn:alo}{pos:String}:
  CT L.Sh (ot S L j (TE Φ k f)) (oD S L j X) (t++ajn (L.c0+k) fn pos d) g:=by
 have A:=I.step v hr N Q
 have m:CT L.Sh (ot S L j (TE Φ k f)) (oD S L j X) t g:=by
  refine CT.Gc r (λl x=>.inl x) (λl x=>x) (λg' _ _ l x=>?_) (λ_ _ _ l x=>.inl x) (λl _ x=>.inl λg' h1 o=>⟨λy=>(x g' h1 o).1 ?_,(x g' h1 o).2⟩) (λl _ x=>.inl λg' h1 o y=>x g' h1 o ?_)
  ·obtain⟨i,a,rfl,x⟩:=x;rcases x with x|⟨c,⟨b,E,p⟩,s⟩
   ·exact .inl ⟨i,a,rfl,.inl x⟩
   ·by_cases e:i=k
    ·subst e;rw[ajP] at p;rcases hr.fresh b c p with u|u
     ·exact .inl ⟨i,a,rfl,.inr ⟨c,⟨b,E,u⟩,s⟩⟩
     ·exact .inr (Pq G u.2 s)
    ·rw[upd_ne Φ f e] at p;exact .inl ⟨i,a,rfl,.inr ⟨c,⟨b,E,p⟩,s⟩⟩
  all_goals
   obtain⟨i,a,rfl,y⟩:=y;refine⟨i,a,rfl,y.imp_right λ⟨c,⟨b,R,F⟩,T⟩=>⟨c,⟨b,R,?_⟩,T⟩⟩;by_cases e:i=k
   ·subst e;rw[ajP];exact hr.le _ _ F
   ·rw[upd_ne Φ f e];exact F
 refine m.appW (tv A O) (k:=L.c0+k) (by have:=O.c0;omega) aa (aep A O v (d:=d) λe he=>?_);rw[ajP];exact hd e he
end
end
section
variable[ag]
open Go.Conc (G)
section
variable{P:NO}{K:aH}
omit [ag] in
def Qu{P:NO}(ts:Array so)(f:ResultVar->Sem so)(a:∀t,f (.tmp t)=pure (ts.getD t undef)):∀(l:List ResultVar),(∀r∈l,∃t,r=.tmp t)->∃vs:List so,∀w:AS,Sem.run P (l.mapM f) w=.ok vs w
 |[],_=>⟨[],λw=>rfl⟩
 |r::l,h=>by obtain⟨vs,d⟩:=Qu ts f a l λx e=>h x (by simp[e]);obtain⟨t,rfl⟩:=h r aj;refine⟨ts.getD t undef::vs,λw=>?_⟩;rw[List.mapM_cons,a];simp only[pure_bind];rw[Sem.run_bind,d];rfl
omit [ag] in
def results_tmp{P:NO}(fn:Func)(h:∀r∈fn.results,∃t,r=.tmp t)(ts:Array so):∃v,∀w:AS,(results fn ts).run P w=.ok v w:=by
 obtain⟨d,e⟩:=Qu (P:=P) ts (λr=>match r with|.tmp t=>pure (ts.getD t undef)|.cell a t=>do loadVar t (<-asAddr (ts.getD a undef))) (λt=>rfl) fn.results.toList λr f=>h r (jI.1 f);refine⟨if h:d.toArray.size=1 then d.toArray[0] else .tuple d.toArray,λw=>?_⟩;unfold results;rw[Array.mapM_eq_mapM_toList];rw[Sem.run_bind,map_eq_pure_bind,Sem.run_bind]
 erw [e]
 rfl
def MX(E:dA P)(F:ee P)(I:cO P)(hG:K.G=P.globals.size)(hF:dY P K)(x:∀c N,¬ag.dM c N){f:alo}{fn:Func}(m:P.funcs[f]?=an fn)(a:∀r∈fn.results,∃t,r=.tmp t)(o:P.inits.idxOf? f=ns)(y:ag.ok f)
  {args i:Array so}{p:AS}{φ:Ren}{h':Array Obj}(Q:aw φ args i)(V:HR K φ p.heap h')(W:gE φ){R:so->Array Obj->Prop}
  (s:∀T:Tape,kI T p->Calls P f args (p.on T p.drawn) λ|be v,w'=>R v w'.heap|_,_=>False):
  bG P (jw P R) (G (ajC P f args .normal) [c0 P]) p:=by
 refine Yr (K:=K) E F I hG hF x ⟨φ,_,_,[],[],h',rfl,wA E y Q,.nil,V,W,?_⟩ λT Z=>?_
 ·rfl
 ·obtain⟨e,w',fr,z,hc,l,A⟩:=s T Z [c0 P];cases e with
  |panicked c=>exact z.elim
  |outgrown=>exact z.elim
  |returned v=>obtain⟨n,hn⟩:=hc;obtain⟨hm,hd,hk,fn2,d,hr⟩:=A;rw[l,m] at d;cases d;refine⟨n,fr,w',hn,.inl ⟨hm,hd⟩,fn,v,hm,hd,by show P.funcs[fr.fn]?=an fn;rw[l];exact m,λw hw=>?_,⟨a,by show P.inits.idxOf? fr.fn=ns;rw[l];exact o⟩,z⟩;obtain⟨v2,u⟩:=results_tmp (P:=P) fn a fr.tmps;have:=(u w').symm.trans hr;cases this;exact⟨w,u w,hw⟩
end
end
section
variable[ag]
open Go.Conc
open Go.ConcN (upd upd_same upd_ne WgLive PayAt Has RW WSit AtR0 AsideCell OkW cell_of_block)
open Go.ConcR (KK WgAt stA smA rd wr mk Payload)
structure RP[Payload](N0:Nat)(X:Nat->Prop)(ty:TO)(Wg C n off k:Nat)(w w₁:AS):Prop where
 low:∀c,c<N0\/X c->w₁.heap[c]?=w.heap[c]?
 live:akp ty Wg w->akp ty Wg w₁
 pay:PayAt C n w->PayAt C n w₁
 cell:w₁.cell? ⟨C,off+k,ns⟩=w.cell? ⟨C,off+k,ns⟩
def UZ(N0:Nat)(Sh:Loc->Prop)(X:Nat->Prop)(l:Loc):Prop:=¬Sh l/\∃c,(c<N0\/X c)/\bI c l
structure GP[Payload](N0:Nat)(Sh:Loc->Prop)(X:Nat->Prop)(C n off k:Nat)(w w':AS)(es:Array akh):Prop where
 aside:AsideCell C n (off+k) w w'
 ev:∀e∈es,e.sync=Bz/\((e.loc=.cell ⟨C,off+k,ns⟩)\/(UZ N0 Sh X e.loc/\e.write=Bz))
section
variable[Payload]{N0:Nat}{Sh:Loc->Prop}{X:Nat->Prop}{ty:TO}{Wg C n off k:Nat}{w w₁ Ur:AS}
omit [ag] in
def RP.refl(w:AS):RP N0 X ty Wg C n off k w w:=⟨λ_ _=>rfl,id,id,rfl⟩
omit [ag] in
def RP.trans(h:RP N0 X ty Wg C n off k w w₁)(h':RP N0 X ty Wg C n off k w₁ Ur):RP N0 X ty Wg C n off k w Ur:=
 ⟨λc hc=>(h'.low c hc).trans (h.low c hc),h'.live∘h.live,h'.pay∘h.pay,h'.cell.trans h.cell⟩
omit [ag] in
def RP.at(w:AS)(d:Nat):RP N0 X ty Wg C n off k w (w.at d):=⟨λ_ _=>rfl,id,id,rfl⟩
omit [ag] in
def RP.rw(h:RP N0 X ty Wg C n off k w w₁):RW ty Wg C n 0 (off+k+1-1) w w₁:=⟨λb a=>absurd a (ib b),h.live,h.pay,h.cell⟩
omit [ag] in
def RP.Fb(h:∀c,c<N0\/X c\/c=Wg\/c=C->w₁.heap[c]?=w.heap[c]?):RP N0 X ty Wg C n off k w w₁:=
 ⟨λc hc=>h c (hc.imp_right .inl),λ⟨st,sm,a⟩=>⟨st,sm,a.of_block (h Wg (.inr (.inr (.inl rfl))))⟩,λ⟨d,hc,e⟩=>⟨d,(h C (.inr (.inr (.inr rfl)))).trans hc,e⟩,cell_of_block (h C (.inr (.inr (.inr rfl)))) _⟩
omit [ag] in
def RP.of_cell{e:Nat}(h:AsideCell C n e w w₁)(a:off+k≠e)(d:C≠Wg)(l:N0<=C)(f:∀c,X c->c≠C):RP N0 X ty Wg C n off k w w₁:=
 ⟨λc hc=>h.block c (by rcases hc with hc|hc;omega;exact f c hc),λ⟨st,sm,i⟩=>⟨st,sm,i.of_block (h.block Wg (jG d))⟩,h.pay,h.cells _ a⟩
omit [ag] in
def RP.of_wg(h:alk Wg w w₁)(d:akp ty Wg w₁)(a:C≠Wg)(l:N0<=Wg)(e:∀c,X c->c≠Wg):RP N0 X ty Wg C n off k w w₁:=
 ⟨λc hc=>h.block c (by rcases hc with hc|hc;omega;exact e c hc),λ_=>d,λ⟨f,hc,i⟩=>⟨f,(h.block C a).trans hc,i⟩,cell_of_block (h.block C a) _⟩
end
structure WS where
 stage:Nat
 e:Nat
 fuel:Nat
 deaf:Nat
 x:BE×AS
 φ:Ren
 val:so
 X:Nat->Prop
structure dC where
 ty:TO
 n:Nat
 f:alo
 start:Nat->BE×AS
 R:Nat->so->Array Obj->Prop
 pick:so->so
 shape:so->Prop
section
variable(P:NO)[Payload](S:cJ)(L:bY)(J:dC)
def pE:Nat->Loc->Prop:=λ_ _=>False
def TJ(X:Nat->Prop)(k:Nat)(v:so)(m:Nat)(g:BE)(w:AS):Prop:=
 Goes P.two Bz (RP S.h1.size X J.ty L.Wg L.C J.n L.off k) (GP S.h1.size L.Sh X L.C J.n L.off k) (AtR0 P.two J.ty L.Wg L.C J.n 0 (L.off+k+1) v) m g w
def px(X:Nat->Prop)(k:Nat)(b:ajs)(B:List ajs)(w:AS):Prop:=∀v' a,J.shape v'->(RP S.h1.size X J.ty L.Wg L.C J.n L.off k) w a->∃m,TJ P S L J X k (J.pick v') m (G (b.finish v') B) a
def SC(X:Nat->Prop)(k:Nat)(g:BE)(w:AS):Prop:=
 g.status=.running/\∃(a:Array so)(b:ajs)(B:List ajs),ajM P.two Bz g w=.go (G (ajC P.two J.f a .normal) (b::B)) w #[]/\
  (∃args,aw S.φ args a/\J.start k=(G (ajC P J.f args .normal) [c0 P],(J.start k).2))/\px P S L J X k b B w
def BA(k:Nat)(d:WS):Prop:=fP P d.x (J.start k)/\Lv P d.x.1/\∃v,VR d.φ v d.val/\J.R k v d.x.2.heap/\jw P (λu _=>u=v) d.x.1 d.x.2.heap
inductive fF(k:Nat)(d:WS)(g:BE)(w:AS):Prop
 |pre:d.e=3->d.stage=7->d.deaf=0->d.φ=S.φ->d.x=J.start k->Goes P.two Bz (RP S.h1.size d.X J.ty L.Wg L.C J.n L.off k) (GP S.h1.size L.Sh d.X L.C J.n L.off k) (SC P S L J d.X k) d.fuel g w->fF k d g w
 |run {b:ajs} {B:List ajs}:d.e=2->d.stage=7->d.deaf=0->fP P d.x (J.start k)->bG P (jw P (J.R k)) d.x.1 d.x.2->dK P S.K (b::B) d.φ d.x.1 d.x.2 g w->px P S L J d.X k b B w->fF k d g w
 |post:d.e=1->d.stage=7->d.deaf=0->BA P J k d->TJ P S L J d.X k (J.pick d.val) d.fuel g w->fF k d g w
 |fQ:d.e=0->d.stage<=6->BA P J k d->WSit P.two J.ty L.Wg L.C J.n pE pE 0 (L.off+k+1) (J.pick d.val) d.stage d.fuel d.deaf g w->fF k d g w
variable{P S L J}
def px.rely{X:Nat->Prop}{a:AS}(h:px P S L J X k b B w)(hr:(RP S.h1.size X J.ty L.Wg L.C J.n L.off k) w a):px P S L J X k b B a:=λd e h1 f=>h d e h1 (hr.trans f)
def fF.rely{d:WS}{m:AS}(h:fF P S L J k d g w)(hr:(RP S.h1.size d.X J.ty L.Wg L.C J.n L.off k) w m)(r:w.heap.size<=m.heap.size)(hi:∀b c,d.φ b=an c->m.heap[c]?=w.heap[c]?):fF P S L J k d g m:=by have p:∀a b c,(RP S.h1.size d.X J.ty L.Wg L.C J.n L.off k) a b->(RP S.h1.size d.X J.ty L.Wg L.C J.n L.off k) b c->(RP S.h1.size d.X J.ty L.Wg L.C J.n L.off k) a c:=λ_ _ _ h1 e=>h1.trans e;cases h with|pre h1 e f i l o=>exact .pre h1 e f i l (jK p o hr)|run h1 e f i l o s=>exact .run h1 e f i l (o.still r hi) (s.rely hr)|post h1 e f i l=>exact .post h1 e f i (jK p l hr)|fQ h1 h0 e f=>exact .fQ h1 h0 e (f.rely hr.rw)
def fF.status{d:WS}(h:fF P S L J k d g w):g.status=.running\/g.status=.finished:=by cases h with|pre h1 e a l f i=>exact .inl (ic (λ_ _ x=>x.1) w (RP.refl w) i)|run h1 e a l f i m=>exact .inl i.running|post h1 e a l f=>exact .inl (ic (λ_ _ x=>x.1) w (RP.refl w) f)|fQ h1 h0 e a=>exact a.status
def fF.woken{d:WS}(h:fF P S L J k d g w)(a a':BE)(w':AS):woken P.two a a' w' g=g:=by
 unfold Go.Conc.woken;split
 ·exact again_running _ h.status
 ·rfl
end
end
section
variable[ag]
open Go.Conc
open Go.ConcN (upd upd_same upd_ne WgLive PayAt Has RW WSit AsideCell OkW Ok0 CT Apart RelBy RelBy.appOther norel_of get_map_set get_map_set_same sumTo)
open Go.ConcR (KK WgAt stA smA rd wr mk Payload g_of_ofEvents)
def fV(D:Nat->WS)(k:Nat):Ren:=(D k).φ
def mi(D:Nat->WS)(k:Nat):Array Obj:=(D k).x.2.heap
def reads(D:Nat->WS)(k:Nat):Nat->Prop:=(D k).X
def vY(D:Nat->WS)(k:Nat)(d:WS):fV (TE D k d)=TE (fV D) k d.φ:=by funext i;simp only[fV,TE];split<;>rfl
def Pr(D:Nat->WS)(k:Nat)(d:WS):mi (TE D k d)=TE (mi D) k d.x.2.heap:=by funext i;simp only[mi,TE];split<;>rfl
def Ps(D:Nat->WS)(k:Nat)(d:WS)(h:d.X=(D k).X):reads (TE D k d)=reads D:=by
 funext i;simp only[reads,TE];split
 ·simp_all
 ·rfl
section
variable(P:NO)[Payload](S:cJ)(L:bY)(J:dC)
structure Com(j:Nat)(D:Nat->WS)(M:Nat->Prop)(gs:Array BE)(w:AS)(t:akt)(q:Nat->Nat)(d0:Nat):Prop where
 size:gs.size=L.c0+j
 old:∀i,0<i->i<L.c0->∃g,gs[i]?=an g/\QuitsD P.two (q i) (Deaf t i) g
 wk:∀k,k<j->∃g,gs[L.c0+k]?=an g/\fF P S L J k (D k) g w
 mem:Mem S j (fV D) (mi D) M w.heap
 lay:pf S L M (reads D)
 ct:CT L.Sh (ot S L j (fV D)) (oD S L j (reads D)) t (L.c0+j-1)
 plain:∀i x,touchAt t i=an x->¬L.Sh x.loc->x.loc.isMemory=AT->x.kind=.plain
 low:∀op∈t,op.act.low w.heap.size
 norel:NoRelease (stA L.Wg) t
 over:∀i g,t.g? i=an g->g≠0->g<L.c0->t.counts i->∃q,t.g? q=an 0/\HappensBefore t i q
 deaf0:Deaf t 0=d0
 deafW:∀k,k<j->Deaf t (L.c0+k)=(D k).deaf
 rel:∀k,k<j->(D k).stage<=6->∃r,RelBy (stA L.Wg) t (L.c0+k) r
 has:∀k,k<j->(D k).stage<=6->Has L.C (L.off+k) (J.pick (D k).val) w
 pay:PayAt L.C J.n w
 io:w.os=S.os/\w.output=S.out
end
section
variable{P:NO}[Payload]{S:cJ}{L:bY}{J:dC}{j:Nat}{D:Nat->WS}{M:Nat->Prop}{gs:Array BE}{w w':AS}{t:akt}{q:Nat->Nat}{d0:Nat}
omit [ag] in
def As{t u:akt}(h:∀i g,t.g? i=an g->g≠0->g<c->t.counts i->∃q,t.g? q=an 0/\HappensBefore t i q)(hu:∀op∈u,op.g=0\/c<=op.g\/op.act.touch?=ns):
  ∀i g,(t++u).g? i=an g->g≠0->g<c->(t++u).counts i->∃q,(t++u).g? q=an 0/\HappensBefore (t++u) i q:=by
 intro i g f h0 hc a;rcases dg i t.size with d|m
 ·obtain⟨q,h1,o⟩:=h i g (by rw[<-g?_old (u:=u) d];exact f) h0 hc ((counts_old d).1 a)
  have hq:q<t.size:=by obtain⟨z,p,_⟩:=j6.1 h1;exact(bE.1 p).1
  exact⟨q,by rw[g?_old hq];exact h1,hb_app u o⟩
 ·exfalso;obtain⟨op,l,r⟩:=j6.1 f;rcases alv l with⟨h1,_⟩|⟨_,e⟩
  ·omega
  ·obtain⟨x,s,_⟩:=a;have:(t++u).act? i=an op.act:=by simp[Trace.act?,l]
   rcases hu op e with h1|h1|h1
   ·omega
   ·omega
   ·simp_all
def Com.stepW(h:Com P S L J j D M gs w t q d0)(hk:k<j){es:Array akh}{m:WS}(hX:m.X=(D k).X)
  (s:fF P S L J k m g' w')(u:Mem S j (TE (fV D) k m.φ) (TE (mi D) k m.x.2.heap) M w'.heap)
  (v:∀a,a<j->a≠k->RP S.h1.size (D a).X J.ty L.Wg L.C J.n L.off a w w')(y:∀a,a<j->a≠k->∀b c,(D a).φ b=an c->w'.heap[c]?=w.heap[c]?)(z:w.heap.size<=w'.heap.size)
  (R:CT L.Sh (ot S L j (TE (fV D) k m.φ)) (oD S L j (reads D)) (t++ajn (L.c0+k) fn pos es) (L.c0+j-1))
  (T:∀e∈es,∀x,(ajI e).touch?=an x->¬L.Sh x.loc->x.kind=.plain)(A:∀e∈es,(ajI e).low w'.heap.size)(V:∀e∈es,e.loc≠.mark (.release (stA L.Wg)))
  (o:aka (D k).deaf es=m.deaf)(hrel:m.stage<=6->∃r,RelBy (stA L.Wg) (t++ajn (L.c0+k) fn pos es) (L.c0+k) r)(E:m.stage<=6->Has L.C (L.off+k) (J.pick m.val) w')(F:PayAt L.C J.n w')(G:jl w w'):
  Com P S L J j (TE D k m) M ((gs.map (woken P.two g g' w')).setIfInBounds (L.c0+k) g') w' (t++ajn (L.c0+k) fn pos es) q d0:=by
 have RC:=h.lay.c0;have p:∀op∈ajn (L.c0+k) fn pos es,∃e∈es,op={g:=L.c0+k,fn,pos,act:=.ofEvent e}:=λop l=>j9 l;refine⟨by simp[h.size],λi hi W=>?_,λa d=>?_,by rw[vY,Pr];exact u,by rw[Ps _ _ _ hX];exact h.lay,by rw[vY,Ps _ _ _ hX];exact R,λi x I hs hm=>?_,λop l=>?_,h.norel.app (norel_of V),?_,by rw[alV t aa _ akP,h.deaf0],λa d=>?_,λa d f=>?_,λa d f=>?_,F,G.1.trans h.io.1,G.2.trans h.io.2⟩
 ·obtain⟨x,I,hq⟩:=h.old i hi W;refine⟨x,by rw[amb _ _ _ _ aa,I,akK,woken_quitsD hq],?_⟩;rw[alV t aa _ akP];exact hq
 ·by_cases e:a=k
  ·subst e;exact⟨g',get_map_set_same _ _ _ (by rw[h.size];omega),by rw[ajP];exact s⟩
  ·obtain⟨x,I,N⟩:=h.wk a d;refine⟨x,by rw[amb _ _ _ _ aa,I,akK,N.woken],?_⟩;rw[upd_ne D _ e];exact N.rely (v a d e) z (y a d e)
 ·obtain⟨op,Q,pu⟩:=touch_of I;rcases alv Q with⟨_,pC⟩|⟨_,Z⟩
  ·exact h.plain i x yY hs hm
  ·obtain⟨e,he,rfl⟩:=p op Z;exact T e he x pu hs
 ·rcases j7.1 l with Q|Q
  ·exact vC z (h.low op Q)
  ·obtain⟨e,he,rfl⟩:=p op Q;exact A e he
 ·refine As h.over λop l=>.inr (.inl ?_);obtain⟨e,_,rfl⟩:=p op l;exact Nat.le_add_right _ _
 ·by_cases e:a=k
  ·subst e;rw[Deaf_own,h.deafW a d,ajP];exact o
  ·rw[alV t aa _ akP,h.deafW a d,upd_ne D _ e]
 ·by_cases e:a=k
  ·subst e;rw[ajP] at f;exact hrel f
  ·rw[upd_ne D _ e] at f;obtain⟨r,hr⟩:=h.rel a d f;exact DH
 ·by_cases e:a=k
  ·subst e;rw[ajP] at f⊢;exact E f
  ·rw[upd_ne D _ e] at f⊢;exact(v a d e).cell.trans (h.has a d f)
end
end
section
variable[ag]
open Go.Conc
open Go.ConcN (upd upd_same upd_ne WgLive PayAt Has RW WSit AsideCell OkW Ok0 CT Apart deafBehind_idle)
open Go.ConcR (KK WgAt stA smA rd wr mk Payload)
omit [ag] in
def sZ{α:Type}(f:Nat->α)(k:Nat){x:α}(h:x=f k):TE f k x=f:=by
 funext i;unfold TE;split
 ·simp_all
 ·rfl
section
variable{P:NO}[Payload]{S:cJ}{L:bY}{J:dC}{j:Nat}{D:Nat->WS}{M:Nat->Prop}{gs:Array BE}{w w':AS}{t:akt}{q:Nat->Nat}{d0:Nat}
def NS{e:akh}(hs:e.sync=Bz)(hm:e.loc.isMemory=AT):ajI e=.access e:=by exact MB
def Com.G0(h:Com P S L J j D M gs w t q d0)(z:k<j){es:Array akh}{i:WS}(G:i.X=(D k).X)(r:i.φ=(D k).φ)(hx:i.x=(D k).x)
  (I:i.stage=7)(A:i.deaf=(D k).deaf)(hD:GP S.h1.size L.Sh (D k).X L.C J.n L.off k w w' es)(s:fF P S L J k i g' w'):
  Com P S L J j (TE D k i) M ((gs.map (woken P.two g g' w')).setIfInBounds (L.c0+k) g') w' (t++ajn (L.c0+k) fn pos es) q d0:=by
 have N:=h.mem.mlt _ h.lay.C;have u:w.heap.size<=w'.heap.size:=by rw[hD.aside.size];exact av _
 have d:∀e∈es,e.loc.isMemory=AT:=λe he=>by
  rcases(hD.ev e he).2 with h1|⟨⟨_,c,_,h1⟩,_⟩
  ·rw[h1];rfl
  ·exact h1.mem
 have qO:∀e∈es,ajI e=.access e:=λe he=>NS (hD.ev e he).1 (d e he)
 have f:∀e∈es,∀x,(ajI e).touch?=an x->x=⟨e.loc,e.write,.plain⟩:=λe he x hx=>by exact Lo
 have l:∀e∈es,∀m,e.loc≠.mark m:=λe he m hm=>by have:=d e he;rw[hm] at this;cases this
 refine h.stepW z G s ?_ (λy o e=>?_) (λy o e b c Q=>hD.aside.block c λx=>?_) u ?_ (λe he x hx _=>by rw[f e he x hx]) (λe he=>?_) (λe he=>l e he _)
  (by rw[deafBehind_idle λe he=>⟨l e he _,l e he _⟩];exact A.symm) (λR=>aa) (λR=>aa) (hD.aside.pay h.pay) ⟨hD.aside.os,hD.aside.output⟩
 ·rw[sZ (fV D) k r,sZ (mi D) k (by rw[hx];rfl)];exact h.mem.Hz u (λc _ T=>hD.aside.block c λx=>T (x▸h.lay.C)) (λ_ x=>x) (λ_ x=>.inl x)
 ·exact .of_cell hD.aside aa h.lay.ne N.1 λc hc=>(h.lay.x y c hc).2.1
 ·rcases h.mem.image (k:=y) o Q with h1|⟨h1,_⟩
  ·exact h.mem.main y o c h1 (x▸h.lay.C)
  ·omega
 ·rw[sZ (fV D) k r];refine h.ct.appW (tv h.mem h.lay) (k:=L.c0+k) (by have:=h.lay.c0;omega) aa λop E=>?_;obtain⟨e,he,rfl⟩:=j9 E;refine⟨rfl,λx hx=>?_⟩;rw[f e he x hx];rcases(hD.ev e he).2 with h1|⟨⟨h1,c,p,F⟩,v⟩
  ·exact .inr (.inl ⟨k,z,rfl,.inl h1⟩)
  ·exact .inr (.inr ⟨⟨k,z,rfl,h1,c,p,F⟩,v⟩)
 ·rw[qO e he];show e.loc.low _;rcases(hD.ev e he).2 with h1|⟨⟨_,c,p,F⟩,_⟩
  ·rw[h1];show L.C<_;omega
  ·have hc:c<w'.heap.size:=by
    rcases p with p|p
    ·omega
    ·have:=(h.mem.mlt c (h.lay.x k c p).1).2;omega
   rcases F with⟨a,v,V⟩|v
   ·rw[v];show a.block<_;omega
   ·rw[v];exact hc
structure kC(P:NO)(S:cJ)(J:dC)(n:Nat):Prop where
 qP:∀k,k<n->bG P (jw P (J.R k)) (J.start k).1 (J.start k).2
 heap:∀k,k<n->(J.start k).2.heap=S.h0
 vars:gE S.φ
 ok:ag.ok J.f
 shape:∀k,k<n->∀v h φ v',J.R k v h->VR φ v v'->J.shape v'
def Com.mW(h:Com P S L J j D M gs w t q d0)(u:dA P)(i:kC P S J n)(r:k<j)(l:k<n){a:Array so}{args:Array so}
  (s:(D k).stage=7)(m:(D k).deaf=0)(o:(D k).φ=S.φ)(p:(D k).x=J.start k)(v:aw S.φ args a)(y:J.start k=(G (ajC P J.f args .normal) [c0 P],(J.start k).2))(z:px P S L J (D k).X k b B w):
  Com P S L J j (TE D k {D k with e:=2}) M ((gs.map (woken P.two g (G (ajC P.two J.f a .normal) (b::B)) w)).setIfInBounds (L.c0+k) (G (ajC P.two J.f a .normal) (b::B))) w (t++ajn (L.c0+k) fn pos #[]) q d0:=by
 refine h.G0 r rfl rfl rfl s rfl ⟨⟨rfl,rfl,rfl,rfl,λ_ _=>rfl,id,λ_ _=>rfl⟩,λe he=>(by simp at he)⟩ (.run (b:=b) rfl s m ?_ ?_ ?_ z)
 ·show fP P (D k).x _;rw[p];exact .inl rfl
 ·show bG P _ (D k).x.1 (D k).x.2;rw[p];exact i.qP k l
 ·show dK P S.K (b::B) (D k).φ (D k).x.1 (D k).x.2 _ w;have d:=h.mem.rel k r;simp only[fV,mi] at d;rw[o] at d⊢;rw[p] at d⊢;refine⟨ajC P J.f args .normal,ajC P.two J.f a .normal,[],[],by rw[y];rfl,rfl,wA u i.ok v,.nil,d,i.vars,rfl⟩
end
end
section
variable[ag]
open Go.Conc
open Go.ConcN (upd upd_same upd_ne WgLive PayAt Has RW WSit AsideCell OkW Ok0 CT Apart deafBehind_idle)
open Go.ConcR (KK WgAt stA smA rd wr mk Payload)
section
variable{P:NO}[Payload]{S:cJ}{L:bY}{J:dC}{j:Nat}{D:Nat->WS}{M:Nat->Prop}{gs:Array BE}{w w':AS}{t:akt}{q:Nat->Nat}{d0:Nat}
def Com.leaves(h:Com P S L J j D M gs w t q d0)(d:k<j){e:Ren}{h':Array Obj}(hr:iF S.K (fV D k) e (mi D k).size w.heap h'){X:Nat->Prop}(f:∀c,X c->M c)(hc:c<S.h1.size\/X c\/c=L.Wg\/c=L.C):h'[c]?=w.heap[c]?:=by
 have a:∀c,M c->h'[c]?=w.heap[c]?:=λc hm=>h.mem.leaves d hr (h.mem.mlt c hm).2 λx=>h.mem.main k d c x hm;rcases hc with hc|hc|rfl|rfl
 ·exact h.mem.leaves d hr (bH hc h.mem.size) λx=>by have:=(h.mem.l6 d x).1;omega
 ·simp_all
 ·exact a _ h.lay.Wg
 ·exact a _ h.lay.C
def Z1{K:aH}{d:Ren}{e:akh}(h:gJ K d e){a:Addr}:e.loc≠.mark (.release a):=by rcases h with⟨a,b,h1,_⟩|⟨r,b,h1,_⟩|⟨m,h1,rfl|⟨f,rfl⟩⟩<;>rw[h1]<;>exactλe=>by cases e
omit [ag] in
def fP.next{z y x:BE×AS}(h:fP P y x)(k:Nx P z y):fP P z x:=by
 rcases h with rfl|h
 ·exact .inr (.one k)
 ·exact .inr (.more k h)
def Com.TL(h:Com P S L J j D M gs w t q d0)(l:k<j){d:Array akh}{f:WS}(z:f.X=(D k).X)(A:f.stage=7)(r:f.deaf=(D k).deaf)
  (hr:iF S.K (D k).φ f.φ (D k).x.2.heap.size w.heap w'.heap)(s:HR S.K f.φ f.x.2.heap w'.heap)(p:(D k).x.2.heap.size<=f.x.2.heap.size)(a:∀e∈d,gJ S.K f.φ e)
  (o:RP S.h1.size (D k).X J.ty L.Wg L.C J.n L.off k w w'->fF P S L J k f g' w')(u:jl w w'):
  Com P S L J j (TE D k f) M ((gs.map (woken P.two g g' w')).setIfInBounds (L.c0+k) g') w' (t++ajn (L.c0+k) fn pos d) q d0:=by
 have v:∀i,RP S.h1.size (D i).X J.ty L.Wg L.C J.n L.off i w w':=λi=>.Fb λc hc=>h.leaves l hr (λc hc=>(h.lay.x i c hc).1) hc
 refine h.stepW l z (o (v k)) (h.mem.step l hr s p) (λi _ _=>v i) (λi m e b c y=>?_) hr.size ?_ (λe he x E _=>(zW (a e he) E).1) (λe he=>RI s (a e he)) (λe he=>Z1 (a e he))
  (by rw[deafBehind_idle λe he=>Po (a e he)];exact r.symm) (λp=>aa) (λp=>aa) ((v k).pay h.pay) u
 ·refine h.mem.leaves l hr ((h.mem.rel i m).lt y).2 λx=>?_;rcases h.mem.image (k:=i) m y with h1|⟨h1,_⟩
  ·exact h.mem.apart i k m l e c h1 x
  ·have:=(h.mem.l6 l x).1;omega
 ·exact CT.run h.mem h.lay h.ct h.low aa l hr s p a
def Com.ahJ(I:dA P)(N:ee P)(Q:cO P)(hG:S.K.G=P.globals.size)(hF:dY P S.K)(p:∀c r,¬ag.dM c r)
  (h:Com P S L J j D M gs w t q d0)(z:k<j)(he:(D k).e=2)(A:(D k).stage=7)(s:(D k).deaf=0)(T:fP P (D k).x (J.start k))
  (V:bG P (jw P (J.R k)) (D k).x.1 (D k).x.2)(W:dK P S.K (b::B) (D k).φ (D k).x.1 (D k).x.2 g w)(Z:px P S L J (D k).X k b B w)(hl:¬Lv P (D k).x.1):
  ∃(E:BE×AS)(o:Ren)(g':BE)(w':AS)(d:Array akh),ajM P.two Bz g w=.go g' w' d/\(w.heap.size<=w'.heap.size/\∀c,M c->w'.heap[c]?=w.heap[c]?)/\Nx P E (D k).x/\
   Com P S L J j (TE D k {D k with x:=E,φ:=o}) M ((gs.map (woken P.two g g' w')).setIfInBounds (L.c0+k) g') w' (t++ajn (L.c0+k) fn pos d) q d0:=by
 obtain⟨g1,a,o,a1,F,d,f,u,hs,i,l,v,y⟩:=Pn (m:=Bz) I N Q hG hF W V hl (λ⟨_,c,r,_,_,x⟩=>p c r x)
 have hH:HR S.K o a.heap F.heap:=by obtain⟨_,_,_,_,_,_,_,_,h,_⟩:=i;exact h
 exact⟨(g1,a),o,a1,F,d,hs,⟨l.h.size,λc hc=>h.leaves z (X:=M) l.h (λ_ x=>x) (.inr (.inl hc))⟩,f,h.TL z rfl A rfl l.h hH v y (λrp=>.run (b:=b) he A s (T.next f) u i (Z.rely rp)) ⟨l.left.os,l.left.out⟩⟩
def Com.agp(G:dA P)(I:kC P S J n)(i:k<n)(h:Com P S L J j D M gs w t q d0)(l:k<j)(z:(D k).stage=7)(o:(D k).deaf=0)(N:fP P (D k).x (J.start k))
  (Q:bG P (jw P (J.R k)) (D k).x.1 (D k).x.2)(T:dK P S.K (b::B) (D k).φ (D k).x.1 (D k).x.2 g w)(V:px P S L J (D k).X k b B w)(p:Lv P (D k).x.1):
  ∃(f:Ren)(v':so)(m:Nat)(g':BE)(w':AS)(d:Array akh),ajM P.two Bz g w=.go g' w' d/\
   (w.heap.size<=w'.heap.size/\∀c,M c->w'.heap[c]?=w.heap[c]?)/\Com P S L J j (TE D k {D k with e:=1,φ:=f,val:=v',fuel:=m}) M ((gs.map (woken P.two g g' w')).setIfInBounds (L.c0+k) g') w' (t++ajn (L.c0+k) fn pos d) q d0:=by
 have W:jw P (J.R k) (D k).x.1 (D k).x.2.heap:=by cases Q with|lv _ h=>exact h|step h _ _=>exact absurd p h
 obtain⟨r,A,Z,b2,b3,b4,b6,E⟩:=W;have a:jw P (λu _=>u=A) (D k).x.1 (D k).x.2.heap:=⟨r,A,Z,b2,b3,b4,b6,rfl⟩;obtain⟨f,v,v',s,d,hs,hR,F,hH,hK,y⟩:=Pp G T p a Bz;subst hR;have rp:RP S.h1.size (D k).X J.ty L.Wg L.C J.n L.off k w s:=.Fb λc hc=>h.leaves l hK.h (λc hc=>(h.lay.x k c hc).1) hc;obtain⟨m,hp⟩:=V v' s (I.shape k i v _ f v' E F) rp;exact⟨f,v',m,_,s,d,hs,⟨hK.h.size,λc hc=>h.leaves l (X:=M) hK.h (λ_ x=>x) (.inr (.inl hc))⟩,h.TL l rfl z rfl hK.h hH (av _) y (λ_=>.post rfl z o ⟨N,p,v,F,E,a⟩ hp) ⟨hK.left.os,hK.left.out⟩⟩
end
end
section
variable[ag]
open Go.Conc
open Go.ConcN (upd upd_same upd_ne WgLive PayAt Has RW WSit AsideCell OkW Ok0 CT Apart RelBy deafBehind_idle WD Mode CTag cnt)
open Go.ConcR (KK WgAt stA smA rd wr mk Payload Bk ofEvent_loc_mark ofEvent_cell)
section
variable{P:NO}[Payload]{S:cJ}{L:bY}{J:dC}{j:Nat}{D:Nat->WS}{M:Nat->Prop}{gs:Array BE}{w w':AS}{t:akt}{q:Nat->Nat}{d0:Nat}
def tK(L:bY)(e:akh):Prop:=e.loc=.mark .disable\/e.loc=.mark .enable\/e.loc=.mark (.releaseMerge (stA L.Wg))\/∃a wr,e=⟨.cell a,wr,AT⟩/\a.block=L.Wg
omit [ag] in
def Ox{L:bY}{e:akh}(h:Bk L.Wg e):tK L e:=by
 rcases h with h|h|⟨a,wr,h1,d⟩
 ·exact .inl h
 ·exact .inr (.inl h)
 ·exact .inr (.inr (.inr ⟨a,wr,h1,d⟩))
def EH{L:bY}{e:akh}(h:tK L e){x:Touch}(d:(ajI e).touch?=an x):L.Sh x.loc/\x.kind=.atomic:=by
 rcases h with h|h|h|⟨a,wr,rfl,h⟩
 ·rw[aks h] at d;cases d
 ·rw[aks h] at d;cases d
 ·rw[aks h] at d;cases d
 ·rw[ofEvent_cell] at d;simp only[alR,Option.some.injEq] at d;subst d;exact⟨.inr ⟨a,rfl,h⟩,rfl⟩
def Qv{L:bY}{e:akh}(h:tK L e)(d:L.Wg<n):(ajI e).low n:=by
 rcases h with h|h|h|⟨a,wr,rfl,h⟩
 ·rw[aks h];trivial
 ·rw[aks h];trivial
 ·rw[aks h];exact d
 ·show a.block<n;omega
def Oy{L:bY}{e:akh}(h:tK L e):e.loc≠.mark (.release (stA L.Wg)):=by
 rcases h with h|h|h|⟨a,wr,rfl,h⟩
 ·simp_all
 ·simp_all
 ·simp_all
 ·simp
def Com.Us(h:Com P S L J j D M gs w t q d0)(G:k<j){es:Array akh}{d:WS}(I:d.X=(D k).X)(o:d.φ=(D k).φ)(p:d.x=(D k).x)
  (a:alk L.Wg w w')(l:akp J.ty L.Wg w')(f:∀e∈es,tK L e)(s:fF P S L J k d g' w')(m:aka (D k).deaf es=d.deaf)
  (hrel:d.stage<=6->∃r,RelBy (stA L.Wg) (t++ajn (L.c0+k) fn pos es) (L.c0+k) r)(u:d.stage<=6->Has L.C (L.off+k) (J.pick d.val) w):
  Com P S L J j (TE D k d) M ((gs.map (woken P.two g g' w')).setIfInBounds (L.c0+k) g') w' (t++ajn (L.c0+k) fn pos es) q d0:=by
 have N:=h.mem.mlt _ h.lay.Wg;have v:w.heap.size<=w'.heap.size:=by rw[a.size];exact av _
 have z:∀i,RP S.h1.size (D i).X J.ty L.Wg L.C J.n L.off i w w':=λi=>.of_wg a l h.lay.ne N.1 λc hc=>(h.lay.x i c hc).2.2
 refine h.stepW G I s ?_ (λi _ _=>z i) (λi y e b c Q=>a.block c λx=>?_) v ?_ (λe he x p A=>absurd (EH (f e he) p).1 A) (λe he=>Qv (f e he) aa) (λe he=>Oy (f e he)) m hrel
  (λA=>(z k).cell.trans (u A)) ((z k).pay h.pay) ⟨a.os,a.output⟩
 ·rw[sZ (fV D) k o,sZ (mi D) k (by rw[p];rfl)];exact h.mem.Hz v (λc _ R=>a.block c λx=>R (x▸h.lay.Wg)) (λ_ x=>x) (λ_ x=>.inl x)
 ·rcases h.mem.image (k:=i) y Q with h1|⟨h1,_⟩
  ·exact h.mem.main i y c h1 (x▸h.lay.Wg)
  ·omega
 ·rw[sZ (fV D) k o];refine h.ct.appW (tv h.mem h.lay) (k:=L.c0+k) (by have:=h.lay.c0;omega) aa λop E=>?_;obtain⟨e,he,rfl⟩:=j9 E;refine⟨rfl,λx p=>.inl ?_⟩;obtain⟨h1,F⟩:=EH (f e he) p;exact⟨h1,by rw[F];simp,by rw[F];simp⟩
end
end
section
variable[ag]
open Go.Conc
open Go.ConcN (upd upd_same upd_ne WgLive PayAt Has RW WSit AtR0 AsideCell OkW Ok0 CT Apart RelBy WD CTag cnt Vc OpenSt pend isW3 Vc_upd others_uncounted bk_cell le_sumTo)
open Go.ConcR (KK WgAt stA smA rd wr mk Payload Bk bk_of_mute ofEvent_loc_mark g_of_ofEvents)
def wd(D:Nat->WS)(k:Nat):WD:=⟨(D k).stage,(D k).fuel,(D k).deaf⟩
def tw(D:Nat->WS)(k:Nat)(d:WS):wd (TE D k d)=TE (wd D) k ⟨d.stage,d.fuel,d.deaf⟩:=by funext i;simp only[wd,TE];split<;>rfl
def AcqAll(L:bY)(j:Nat)(t:akt):Prop:=
 ∃q,t.act? q=an (.mark (.acquire (stA L.Wg)))/\t.g? q=an 0/\t.heard q/\∀k,k<j->∃r,RelBy (stA L.Wg) t (L.c0+k) r/\r<q
omit [ag] in
def AcqAll.app{L:bY}{j:Nat}{t u:akt}(h:AcqAll L j t)(hu:∀k r,k<j->RelBy (stA L.Wg) t (L.c0+k) r->RelBy (stA L.Wg) (t++u) (L.c0+k) r):AcqAll L j (t++u):=by obtain⟨q,h1,e,f,i⟩:=h;have hq:=lt_of_act? h1;exact⟨q,by rw[act?_old hq];exact h1,by rw[g?_old hq];exact e,(heard_old hq).2 f,λk d=>let⟨r,l,a⟩:=i k d;⟨r,hu k r d l,a⟩⟩
def H7(P:NO)(a d:WS):Prop:=
 (a.stage<d.stage/\a.x=d.x/\a.e<=d.e/\(5<=a.stage->5<=d.stage))\/(a.stage=d.stage/\((a.e<d.e/\a.x=d.x)\/(a.e=d.e/\(Nx P a.x d.x\/(a.x=d.x/\a.fuel+1=d.fuel)))))
section
variable{P:NO}[Payload]{S:cJ}{L:bY}{J:dC}{j:Nat}{D:Nat->WS}{M:Nat->Prop}{gs:Array BE}{w:AS}{t:akt}{q:Nat->Nat}{d0:Nat}
structure RS[Payload](N1:Nat)(M:Nat->Prop)(ty:TO)(Wg C n:Nat)(w w₁:AS):Prop where
 size:w.heap.size<=w₁.heap.size
 keep:∀c,(c<N1\/(M c/\c≠C/\c≠Wg))->w₁.heap[c]?=w.heap[c]?
 live:akp ty Wg w->akp ty Wg w₁
 pay:PayAt C n w->PayAt C n w₁
omit [ag] in
def RS.refl[Payload]{N1:Nat}{M:Nat->Prop}{ty:TO}{Wg C:Nat}(w:AS):RS N1 M ty Wg C n w w:=⟨av _,λ_ _=>rfl,id,id⟩
omit [ag] in
def RS.trans[Payload]{N1:Nat}{M:Nat->Prop}{ty:TO}{Wg C n:Nat}{a b c:AS}(h:RS N1 M ty Wg C n a b)(k:RS N1 M ty Wg C n b c):RS N1 M ty Wg C n a c:=
 ⟨aI h.size k.size,λx d=>(k.keep x d).trans (h.keep x d),k.live∘h.live,k.pay∘h.pay⟩
omit [ag] in
def RS.at[Payload]{N1:Nat}{M:Nat->Prop}{ty:TO}{Wg C:Nat}(w:AS)(d:Nat):RS N1 M ty Wg C n w (w.at d):=⟨av _,λ_ _=>rfl,id,id⟩
abbrev mL[Payload](S:cJ)(L:bY)(J:dC)(M:Nat->Prop):=RS S.h1.size M J.ty L.Wg L.C J.n
structure Kept(L:bY)(M:Nat->Prop)(w w':AS):Prop where
 size:w.heap.size<=w'.heap.size
 keep:∀c,M c->c≠L.C->c≠L.Wg->w'.heap[c]?=w.heap[c]?
def qE(P:NO)(S:cJ)(L:bY)(J:dC)(j:Nat)(D:Nat->WS)(M:Nat->Prop)(gs:Array BE)(w:AS)(t:akt)(q:Nat->Nat)(d0:Nat)(k:Nat)(g:BE)(tag:CTag):Prop:=
 ∃(g':BE)(w':AS)(es:Array akh)(e:WS)(a d:Int),ajM P.two Bz g w=.go g' w' es/\
  Com P S L J j (TE D k e) M ((gs.map (woken P.two g g' w')).setIfInBounds (L.c0+k) g') w' (t++ajn (L.c0+k) g.frame.fn g.frame.place es) q d0/\WgAt J.ty L.Wg w' a d/\
  (∀tag',(tag'=tag\/(tag=.blk/\tag'=.w3))->(mayWake P.two g=AT->g'.status=.running->tag'≠.blk)->ajY j (wd (TE D k e)) tag' a d)/\
  (tag=.ret->AcqAll L j (t++ajn (L.c0+k) g.frame.fn g.frame.place es))/\H7 P e (D k)/\Kept L M w w'/\e.X=(D k).X
def aa0(hB:dA P)(hC:ee P)(hz:cO P)(hG:S.K.G=P.globals.size)(hF:dY P S.K)(un:∀c c',¬ag.dM c c')(hJ:kC P S J n)
  (h:Com P S L J j D M gs w t q d0){st sm:Int}{tag:CTag}(o:WgAt J.ty L.Wg w st sm)(p:ajY j (wd D) tag st sm)(F:k<j)(V:k<n)(W:fF P S L J k (D k) g w)(v:(D k).stage=7):
  qE P S L J j D M gs w t q d0 k g tag:=by
 have l:∀(R:WS),R.stage=7->∀a,(a=tag\/(tag=.blk/\a=.w3))->ajY j (wd (TE D k R)) a st sm:=λR e a y=>by rw[tw];have:=p.same (i:=k) R.fuel R.deaf;have e2:(wd D k).stage=R.stage:=v.trans e.symm;rw[e2] at this;exact this.retag y
 have T:=p.not_ret F (by show(D k).stage≠1;omega);have Z:=h.lay.ne;cases W with
 |pre he _ f VI hx N=>
  rcases iR N with r|⟨m',hm,s⟩
  ·obtain⟨_,aiI,b,B,A,⟨args,ha,f9⟩,hT⟩:=r w (RP.refl w);exact⟨_,w,#[],{D k with e:=2},st,sm,A,h.mW hB hJ F V v f VI hx ha f9 hT,o,λa y _=>l _ (by exact v) a y,λe=>absurd e T,.inr ⟨rfl,.inl ⟨by show 2<_;omega,rfl⟩⟩,⟨av _,λ_ _ _ _=>rfl⟩,rfl⟩
  ·obtain⟨g',w',es,A,z,Q⟩:=s w (RP.refl w);exact⟨g',w',es,{D k with fuel:=m'},st,sm,A,h.G0 F rfl rfl rfl v rfl z (.pre he v f VI hx Q),o.of_block (z.aside.block _ (jG Z)),λa y _=>l _ (by exact v) a y,λe=>absurd e T,.inr ⟨rfl,.inr ⟨rfl,.inr ⟨rfl,hm.symm⟩⟩⟩,⟨nC z.aside.size.symm,λc _ hc _=>z.aside.block c hc⟩,rfl⟩
 |@run b B he _ f hn hW z hT=>
  by_cases hl:Lv P (D k).x.1
  ·obtain⟨ψ,v',m,g',w',d,A,u,E⟩:=h.agp (fn:=g.frame.fn) (pos:=g.frame.place) hB hJ V F v f hn hW z hT hl;exact⟨g',w',d,_,st,sm,A,E,o.of_block (u.2 _ h.lay.Wg),λa y _=>l _ (by exact v) a y,λe=>absurd e T,.inr ⟨rfl,.inl ⟨by show 1<_;omega,rfl⟩⟩,⟨u.1,λc hc _ _=>u.2 c hc⟩,rfl⟩
  ·obtain⟨x',ψ,g',w',d,A,u,i9,E⟩:=h.ahJ (fn:=g.frame.fn) (pos:=g.frame.place) hB hC hz hG hF un F he v f hn hW z hT hl;exact⟨g',w',d,_,st,sm,A,E,o.of_block (u.2 _ h.lay.Wg),λa y _=>l _ (by exact v) a y,λe=>absurd e T,.inr ⟨rfl,.inr ⟨rfl,.inl i9⟩⟩,⟨u.1,λc hc _ _=>u.2 c hc⟩,rfl⟩
 |post he _ f I N=>
  rcases iR N with r|⟨m',hm,s⟩
  ·obtain⟨_,ahK,g',A,m2,rx⟩:=r w (RP.refl w);have Cu:Deaf t (L.c0+k)=0:=by rw[h.deafW k F,f]
   refine⟨g',w,_,{D k with stage:=6,e:=0,fuel:=m2,deaf:=0},st,sm,A,h.Us F rfl rfl rfl (.refl L.Wg w) ⟨st,sm,o⟩ (λe he=>?_) (.fQ rfl (av 6) I (.k1 rx)) ?_ (λ_=>⟨t.size,RelBy.new Cu _ _⟩) (λ_=>by simpa using ahK),o,λa y _=>?_,λe=>absurd e T,.inl ⟨by show 6<_;omega,rfl,dk _,λ_=>aa⟩,⟨av _,λ_ _ _ _=>rfl⟩,rfl⟩
   ·simp at he;subst he;exact .inr (.inr (.inl rfl))
   ·rw[f];rfl
   ·rw[tw];exact(p.counted F (by show 5<=(D k).stage;omega) (.inl rfl) _ _).retag y
  ·obtain⟨g',w',es,A,z,Q⟩:=s w (RP.refl w);exact⟨g',w',es,{D k with fuel:=m'},st,sm,A,h.G0 F rfl rfl rfl v rfl z (.post he v f I Q),o.of_block (z.aside.block _ (jG Z)),λa y _=>l _ (by exact v) a y,λe=>absurd e T,.inr ⟨rfl,.inr ⟨rfl,.inr ⟨rfl,hm.symm⟩⟩⟩,⟨nC z.aside.size.symm,λc _ hc _=>z.aside.block c hc⟩,rfl⟩
 |fQ _ h6=>omega
end
end
section
variable[ag]
open Go.Conc
open Go.ConcN (upd upd_same upd_ne WgLive PayAt Has RW WSit AtR0 AsideCell OkW Ok0 CT Apart RelBy WD CTag cnt Vc OpenSt pend isW3 Vc_upd others_uncounted bk_cell le_sumTo)
open Go.ConcR (KK WgAt stA smA rd wr mk Payload Bk bk_of_mute ofEvent_loc_mark g_of_ofEvents)
section
variable{P:NO}[Payload]{S:cJ}{L:bY}{J:dC}{j:Nat}{D:Nat->WS}{M:Nat->Prop}{gs:Array BE}{w:AS}{t:akt}{q:Nat->Nat}{d0:Nat}
def Qw(h:Com P S L J j D M gs w t q d0){st sm:Int}{tag:CTag}(kc:WgAt J.ty L.Wg w st sm)(o:ajY j (wd D) tag st sm)(ahL:tag=.ret->AcqAll L j t)(hb:j+pend tag<2147483648)
  (F:k<j)(ahM:fF P S L J k (D k) g w)(h6:(D k).stage<=6)(tL:g.status=.running):qE P S L J j D M gs w t q d0 k g tag:=by
 cases ahM with
 |pre _ h7=>omega
 |run _ h7=>omega
 |post _ h7=>omega
 |fQ he _ wZ hs=>
 generalize f9:(D k).stage=s at hs;generalize hfu:(D k).fuel=m at hs;generalize VJ:(D k).deaf=dd at hs;have u:(wd D k).stage=s:=f9;have Cu:Deaf t (L.c0+k)=dd:=by rw[h.deafW k F,VJ]
 have TN:∀{g':BE}{w':AS}{es:Array akh}{V I dd':Nat}{R T:Int},ajM P.two Bz g w=.go g' w' es->alk L.Wg w w'->WgAt J.ty L.Wg w' R T->(∀e∈es,Bk L.Wg e)->
   (∀A e,es[A]?=an e->(ajI e).touch?=ns\/0<aka dd (es.extract 0 A))->WSit P.two J.ty L.Wg L.C J.n pE pE 0 (L.off+k+1) (J.pick (D k).val) V I dd' g' w'->aka dd es=dd'->V<=6->
   (∀y,(y=tag\/(tag=.blk/\y=.w3))->(mayWake P.two g=AT->g'.status=.running->y≠.blk)->ajY j (TE (wd D) k ⟨V,I,dd'⟩) y R T)->(tag=.ret->AcqAll L j (t++ajn (L.c0+k) g.frame.fn g.frame.place es))->((V<s/\(5<=V->5<=s))\/(V=s/\I+1=m))->
   qE P S L J j D M gs w t q d0 k g tag:=by
  intro g' w' es V I dd' R T d xT BW W hd xU hdd Cv N Z aV;refine⟨g',w',es,{D k with stage:=V,fuel:=I,deaf:=dd'},R,T,d,h.Us F rfl rfl rfl xT ⟨R,T,BW⟩ (λe he=>Ox (W e he)) (.fQ he Cv wZ xU) (by rw[VJ];exact hdd) (λ_=>?_) λ_=>h.has k F h6,BW,λy ht hw=>by rw[tw];exact N y ht hw,Z,?_,⟨nC xT.size.symm,λc _ _ hc=>xT.block c hc⟩,rfl⟩
  ·obtain⟨r,hr⟩:=h.rel k F h6;exact⟨r,Go.ConcN.RelBy.book (Wg:=L.Wg) hr Cu _ _ W hd⟩
  ·rcases aV with⟨h1,h2⟩|⟨h1,h2⟩
   ·exact .inl ⟨by show V<(D k).stage;omega,rfl,av _,λx=>by have:=h2 x;omega⟩
   ·exact .inr ⟨h1.trans f9.symm,.inr ⟨rfl,.inr ⟨rfl,h2.trans hfu.symm⟩⟩⟩
 have z:∀{g':BE}{w':AS}{es:Array akh}{V I dd':Nat}{R T:Int},ajM P.two Bz g w=.go g' w' es->alk L.Wg w w'->WgAt J.ty L.Wg w' R T->(∀e∈es,Bk L.Wg e)->
   (∀A e,es[A]?=an e->(ajI e).touch?=ns\/0<aka dd (es.extract 0 A))->WSit P.two J.ty L.Wg L.C J.n pE pE 0 (L.off+k+1) (J.pick (D k).val) V I dd' g' w'->aka dd es=dd'->V<=6->
   ajY j (TE (wd D) k ⟨V,I,dd'⟩) tag R T->(tag=.ret->AcqAll L j (t++ajn (L.c0+k) g.frame.fn g.frame.place es))->((V<s/\(5<=V->5<=s))\/(V=s/\I+1=m))->
   qE P S L J j D M gs w t q d0 k g tag:=
  λd xT BW W hd xU hdd Cv N Z aV=>TN d xT BW W hd xU hdd Cv (λ_ ht _=>N.retag ht) Z aV
 have idle:∀{g':BE}{I:Nat},ajM P.two Bz g w=.go g' w #[]->WSit P.two J.ty L.Wg L.C J.n pE pE 0 (L.off+k+1) (J.pick (D k).val) s I dd g' w->I+1=m->s≠1->qE P S L J j D M gs w t q d0 k g tag:=by intro g' I d xU hm h1;exact z d (.refl L.Wg w) kc aj aj xU rfl aa (by have:=o.same (i:=k) I dd;rwa[u] at this) (λe=>absurd e (o.not_ret F (by rw[u];omega))) (.inr ⟨rfl,hm⟩)
 have nr:s≠1->tag≠.ret:=λh=>o.not_ret F (by rw[u];omega);cases hs with
 |r0 h=>omega
 |k1 h=>
  rcases iR h with p|⟨I,rfl,l⟩
  ·obtain⟨_,g',d,G,rx⟩:=p w (lS w)
   exact z d (.refl L.Wg w) kc (by intro e he;simp at he;subst he;exact .inl rfl) (by intro A e he;exact .inl (by have:=lR he;simp at this;subst this;rfl)) (.d1 rx) rfl aa
    (o.counted F (by rw[u];omega) (.inr rfl) _ _) (λe=>absurd e (nr aa)) (.inl ⟨aa,λ_=>aa⟩)
  ·obtain⟨g',w',es,d,⟨rfl,rfl⟩,Q⟩:=l w (lS w);exact idle d (.k1 Q) rfl aa
 |d1 h=>
  rcases iR h with p|⟨I,rfl,l⟩
  ·obtain⟨_,qQ⟩:=p w (lS w);have qZ:cnt (wd D k)=1:=by simp[cnt,u]
   have hV1:1<=Vc j (wd D):=by have:=le_sumTo (f:=λx=>cnt (wd D x)) F;simp only[Vc];omega
   have hVj:=Go.ConcN.Vc_le j (wd D);have bk2:∀e∈#[rd (stA L.Wg),wr (stA L.Wg)],Bk L.Wg e:=by intro e he;simp at he;rcases he with rfl|rfl<;>exact bk_cell _ _ rfl
   have Jk:∀A e,(#[rd (stA L.Wg),wr (stA L.Wg)]:Array akh)[A]?=an e->(ajI e).touch?=ns\/0<aka 1 ((#[rd (stA L.Wg),wr (stA L.Wg)]:Array akh).extract 0 A):=by
    intro A e he
    match A,he with
    |0,_=>exact .inr (by simp[aka])
    |1,_=>exact .inr (by simp[aka,rd])
    |A+2,he=>simp at he
   have uh:∀q,cnt (⟨1,q,1⟩:WD)=0:=λ_=>rfl
   have VK:∀q,OpenSt j (wd D)->OpenSt j (TE (wd D) k ⟨1,q,1⟩):=λq h a ha=>by
    by_cases e:a=k
    ·subst e;rw[ajP];simp
    ·rw[upd_ne (wd D) _ e];exact h a ha
   cases o with
   |opn h1 h2 h3=>
    obtain⟨v,hv⟩:∃v,Vc j (wd D)+pend tag=v+1:=⟨Vc j (wd D)+pend tag-1,aa⟩;rw[hv] at kc;have xS:WgAt J.ty L.Wg w (((v:Nat)+1)*KK+((0:Nat):Int)) 0:=uZ;obtain⟨g',d,_,hq⟩:=qQ v 0 aa aa xS;obtain⟨q,hq⟩:=hq aa;have pF:Vc j (TE (wd D) k ⟨1,q,1⟩)+pend tag=v:=by have:=Vc_upd (wd D) (⟨1,q,1⟩:WD) F;have:=uh q;omega
    refine z d (alh w (stA L.Wg) _) (kc.setSt _) bk2 Jk (.quit hq) rfl aa ?_ (λe=>absurd e (nr aa)) (.inl ⟨aa,λ_=>aa⟩);have e:((v:Nat):Int)*KK+((0:Nat):Int)=((Vc j (TE (wd D) k ⟨1,q,1⟩)+pend tag:Nat):Int)*KK:=by rw[pF];simp
    rw[e];exact .opn h1 (VK q h2) (λvs ev=>by have:=h3 vs ev;omega)
   |reg h1 h2 h3=>
    obtain⟨v,hv⟩:∃v,Vc j (wd D)=v+1:=⟨Vc j (wd D)-1,aa⟩;rw[hv] at kc;have hp:pend tag=0:=by cases tag<;>first|rfl|exact h1.elim
    have xS:WgAt J.ty L.Wg w (((v:Nat)+1)*KK+((1:Nat):Int)) 0:=uZ;obtain⟨g',d,hl,hq⟩:=qQ v 1 aa aa xS;by_cases hv0:v=0
    ·subst hv0;obtain⟨G,rx⟩:=hl ⟨rfl,rfl⟩;refine z d (alh w (stA L.Wg) _) (kc.setSt _) bk2 Jk (.d2 rx) rfl aa ?_ (λe=>absurd e (nr aa)) (.inl ⟨aa,λ_=>aa⟩)
     have E:∀a,a<j->a≠k->(wd D a).stage=1:=λa ha e=>by have c0:=others_uncounted F hv qZ a ha e;have:=h2 a ha;simp only[cnt] at c0;split at c0<;>omega
     have:=Go.ConcN.Mode.last (j:=j) (D:=TE (wd D) k ⟨4,G,1⟩) (tag:=tag) k h1 F (by rw[ajP];simp) (λa ha e=>by rw[upd_ne (wd D) _ e];exact E a ha e);rw[ajP] at this;simpa using this
    ·obtain⟨q,hq⟩:=hq aa;have pF:Vc j (TE (wd D) k ⟨1,q,1⟩)=v:=by have:=Vc_upd (wd D) (⟨1,q,1⟩:WD) F;have:=uh q;omega
     refine z d (alh w (stA L.Wg) _) (kc.setSt _) bk2 Jk (.quit hq) rfl aa ?_ (λe=>absurd e (nr aa)) (.inl ⟨aa,λ_=>aa⟩);have e:((v:Nat):Int)*KK+((1:Nat):Int)=((Vc j (TE (wd D) k ⟨1,q,1⟩):Nat):Int)*KK+1:=by rw[pF];simp
     rw[e];exact .reg h1 (VK q h2) aa
   |last Lx _ h2 h3 h4=>
    by_cases e:k=Lx
    ·subst e;omega
    ·have:=h4 k F e;omega
   |sema h2=>have:=h2 k F;omega
   |fin _ h2=>have:=h2 k F;omega
  ·obtain⟨g',w',es,d,⟨rfl,rfl⟩,Q⟩:=l w (lS w);exact idle d (.d1 Q) rfl aa
 |d2 h=>
  rcases iR h with p|⟨I,rfl,l⟩
  ·obtain⟨_,hx⟩:=p w (lS w);obtain⟨rG,E,rfl,rfl⟩:=o.isLast F aa;simp only[u] at kc;obtain⟨g',d,G,rx⟩:=hx uZ;refine z d (.refl L.Wg w) kc (by intro e he;simp at he;subst he;exact bk_cell _ _ rfl) (by intro A e he;match A,he with|0,_=>exact .inr (by simp[aka])|A+1,he=>simp at he) (.d3 rx) rfl aa ?_ (λe=>absurd e (nr aa)) (.inl ⟨aa,λ_=>aa⟩);have:=Go.ConcN.Mode.last (j:=j) (D:=TE (wd D) k ⟨3,G,1⟩) (tag:=tag) k rG F (by rw[ajP];simp) (λa ha e=>by rw[upd_ne (wd D) _ e];exact E a ha e);rw[ajP] at this;simpa using this
  ·obtain⟨g',w',es,d,⟨rfl,rfl⟩,Q⟩:=l w (lS w);exact idle d (.d2 Q) rfl aa
 |d3 h=>
  rcases iR h with p|⟨I,rfl,l⟩
  ·obtain⟨_,hx⟩:=p w (lS w);obtain⟨rG,E,rfl,rfl⟩:=o.isLast F aa;simp only[u] at kc;obtain⟨g',d,G,rx⟩:=hx uZ;refine z d (alh w (stA L.Wg) _) (kc.setSt 0) (by intro e he;simp at he;subst he;exact bk_cell _ _ rfl) (by intro A e he;match A,he with|0,_=>exact .inr (by simp[aka])|A+1,he=>simp at he) (.d4 rx) rfl aa ?_ (λe=>absurd e (nr aa)) (.inl ⟨aa,λ_=>aa⟩);have:=Go.ConcN.Mode.last (j:=j) (D:=TE (wd D) k ⟨2,G,1⟩) (tag:=tag) k rG F (by rw[ajP];simp) (λa ha e=>by rw[upd_ne (wd D) _ e];exact E a ha e);rw[ajP] at this;simpa using this
  ·obtain⟨g',w',es,d,⟨rfl,rfl⟩,Q⟩:=l w (lS w);exact idle d (.d3 Q) rfl aa
 |d4 h=>
  rcases iR h with p|⟨I,rfl,l⟩
  ·obtain⟨_,hmw,hx⟩:=p w (lS w);obtain⟨rG,E,rfl,rfl⟩:=o.isLast F aa;simp only[u] at kc;obtain⟨g',d,q,hq⟩:=hx uZ
   have agq:g'.status=.running:=by cases q with|zero=>exact absurd hq.2 al|succ q=>exact hq.elim (λx=>absurd x.2 al) (λx=>x.1)
   refine TN d (alh w (smA L.Wg) _) (kc.setSm 1) (es:=semEvents (smA L.Wg)) ?_ ?_ (.quit hq) C4 aa ?_ (λe=>absurd e (nr aa)) (.inl ⟨aa,λ_=>aa⟩)
   ·intro e he;simp[semEvents] at he;rcases he with rfl|rfl|rfl|rfl
    ·exact .inl rfl
    ·exact bk_cell _ _ rfl
    ·exact bk_cell _ _ rfl
    ·exact .inr (.inl rfl)
   ·intro A e he
    match A,he with
    |0,he=>simp[semEvents] at he;subst he;exact .inl rfl
    |1,_=>exact .inr C4
    |2,_=>exact .inr C4
    |3,he=>simp[semEvents] at he;subst he;exact .inl rfl
    |A+4,he=>simp[semEvents] at he
   ·intro y ht hw;have hnb:=hw hmw agq
    have e3:y=.w3:=by
     rcases ht with rfl|⟨_,rfl⟩
     ·cases y<;>first|rfl|exact rG.elim|exact absurd rfl hnb
     ·rfl
    subst e3;simp only[if_true]
    exact .sema λa ha=>by
     by_cases e:a=k
     ·subst e;rw[ajP]
     ·rw[upd_ne (wd D) _ e];exact E a ha e
  ·obtain⟨g',w',es,d,⟨rfl,rfl⟩,Q⟩:=l w (lS w);exact idle d (.d4 Q) rfl aa
 |quit h=>
  cases m with
  |zero=>rw[h.1] at tL;cases tL
  |succ q=>
   rcases h with⟨hf,_⟩|⟨_,g',es,G1,l,hq⟩
   ·rw[hf] at tL;cases tL
   ·have W:∀e∈es,Bk L.Wg e:=λe he=>bk_of_mute (G1 e he)
    have rF:∀A e,es[A]?=an e->(ajI e).touch?=ns\/0<aka dd (es.extract 0 A):=λA e he=>.inl (by
     rcases bk_of_mute (Wg:=L.Wg) (G1 e (lR he)) with h1|h1|⟨a,wr,rfl,_⟩
     ·rw[aks h1];rfl
     ·rw[aks h1];rfl
     ·have:=G1 _ (lR he);simp[Event.mute] at this)
    refine z (l w) (.refl L.Wg w) kc W rF (.quit hq) rfl aa (by have:=o.same (i:=k) q (aka dd es);rwa[u] at this) (λe=>(ahL e).app λi' r kw hr=>?_) (.inr ⟨rfl,rfl⟩);by_cases e':i'=k
    ·subst e';exact Go.ConcN.RelBy.book (Wg:=L.Wg) hr Cu _ _ W rF
    ·exact zv hr akP aa
end
end
end Go.Proofs.Q0.aL
