import Derived.Test.YtnbpokndlaebbaaGreatDoorK16
set_option maxRecDepth 100000
set_option maxHeartbeats 8000000
set_option linter.all false
open Go.Value renaming int->U,slice->Y,bool->ci,agg->bi,pointer->d9,tuple->em,iface->gc
open Go.IntKind renaming i64->O
open Go.Obj renaming cells->ap
open Go.Ending renaming returned->dl
open Bool renaming false->Ba,true->AT
open Go renaming Event->aiK,Frame->ahY,FuncId->ajH,Goroutine->BE,Program->OF,Trace->aiX,TypeId->SL,Value->AS,World->rl,deafBehind->aiJ,stepG->aiq
open Go.Conc renaming Aside->ajU,Deaf_other->akD,aside_setCell->ajQ,getElem?_append_cases->akc
open Go.ConcN renaming Mode->aiH,WgLive->aiT,get_map_set->akL,upd->TO,upd_same->aix
open Go.ConcR renaming g_of_ofEvents->ajy,ofEvent_loc_mark->aiW
open Go.Frame renaming enter->aid
open Go.MemAct renaming ofEvent->ail,touch?->akz
open Go.MemOp renaming ofEvents->aft
open Option renaming map_some->ajc,none->ns,some->an
namespace Go.Proofs
abbrev lB:=@Array.mem_of_getElem?
def Ku{p:Prop}(h:p:=by simp only[MemAct.touch?,Option.some.injEq] at pu;subst pu;exact key (.cell a) ST hi):p:=h
abbrev gX:=@Nat.not_lt_zero
abbrev jx:=@Go.Conc.Goes.rely
abbrev gY:=@Go.Conc.Goes.running
def yE{p:Prop}(h:p:=by rw[touchAt_of pz];exact pu):p:=h
def Dp{p:Prop}(h:p:=by exact⟨r,RelBy.appOther hr g_of_ofEvents aa⟩):p:=h
def LV{p:Prop}(h:p:=by obtain⟨loc,wr,sy⟩:=e;subst hs;cases loc<;>first|(cases wr<;>rfl)|cases hm):p:=h
def Kv{p:Prop}(h:p:=by rw[qN e he] at hx;simp only[MemAct.touch?,Option.some.injEq] at hx;rw[<-hx];simp[(hD.ev e he).1]):p:=h
abbrev iJ:=@Go.Conc.Goes.cases
abbrev nf:=@Nat.le_of_eq
abbrev lC:=@Go.ConcN.RW.refl
def uL{p:Prop}(h:p:=by simpa using li):p:=h
def CL{p:Prop}(h:p:=by simp[deafBehind,semEvents]):p:=h
abbrev zi:=@Go.ConcN.RelBy.appOther
end Go.Proofs
namespace Go.Proofs.Q0.aM
variable{c n k:Nat}{pos:String}{fn:ajH}{w:rl}{B:List ahY}{b:ahY}{g g':BE}
section
variable[ah]
open Go.Conc (G touchAt touch_of touchAt_of)
open Go.ConcN (CT Apart OkW Ok0 upd upd_same upd_ne)
structure cB where
 c0:Nat
 C:Nat
 off:Nat
 Wg:Nat
 iU:Loc->Prop
def cB.Sh(L:cB)(l:Loc):Prop:=L.iU l\/∃a,l=.cell a/\a.block=L.Wg
def nU(S:cO)(L:cB)(j:Nat)(Φ:Nat->Ren)(g:Nat)(l:Loc):Prop:=∃k,k<j/\g=L.c0+k/\(l=.cell ⟨L.C,L.off+k,ns⟩\/∃c,aK S Φ k c/\bQ c l)
def od(S:cO)(L:cB)(j:Nat)(X:Nat->Nat->Prop)(g:Nat)(l:Loc):Prop:=∃k,k<j/\g=L.c0+k/\¬L.Sh l/\∃c,(c<S.h1.size\/X k c)/\bQ c l
structure oS(S:cO)(L:cB)(M:Nat->Prop)(X:Nat->Nat->Prop):Prop where
 c0:1<=L.c0
 C:M L.C
 Wg:M L.Wg
 ne:L.C≠L.Wg
 sh:∀l,L.iU l->∃a,l=.cell a/\a.block<S.h1.size
 x:∀k c,X k c->M c/\c≠L.C/\c≠L.Wg
 GZ:kX L.iU S.φ
section
variable{S:cO}{L:cB}{j:Nat}{Φ:Nat->Ren}{H:Nat->Array Obj}{M:Nat->Prop}{X:Nat->Nat->Prop}{h h':Array Obj}{t:aiX}{g:Nat}
omit [ah] in
def bQ.inj{c d:Nat}{l:Loc}(h1:bQ c l)(f:bQ d l):c=d:=by rcases h1 with⟨a,rfl,rfl⟩|rfl<;>rcases f with⟨i,e,rfl⟩|e<;>cases e<;>rfl
omit [ah] in
def bQ.mem{l:Loc}(h1:bQ c l):l.isMemory=AT:=by rcases h1 with⟨a,rfl,rfl⟩|rfl<;>rfl
def tn(I:Mem S j Φ H M h)(O:oS S L M X):Apart L.Sh (nU S L j Φ) (od S L j X):=by
 have z:=(I.mlt _ O.C).1;refine⟨λg g' l h1 f=>?_,λg g' l h1 f=>?_,λg l h1 f=>?_,λg l h1 f=>?_⟩
 ·obtain⟨k,i,rfl,x⟩:=h1;obtain⟨r,p,rfl,y⟩:=f;rcases x with rfl|⟨c,m,o⟩<;>rcases y with y|⟨s,d,u⟩
  ·simp at y;omega
  ·have:L.C=s:=bQ.inj (l:=.cell ⟨L.C,L.off+k,ns⟩) (.inl ⟨_,rfl,rfl⟩) u;exact absurd O.C (this▸I.main r p s d)
  ·subst y;have:c=L.C:=bQ.inj o (.inl ⟨_,rfl,rfl⟩);exact absurd O.C (this▸I.main k i c m)
  ·have:=bQ.inj o u;subst this;by_cases e:k=r
   ·rw[e]
   ·exact absurd d (I.apart k r i p e c m)
 ·obtain⟨k,i,rfl,x⟩:=h1;obtain⟨r,p,_,_,s,d,u⟩:=f;rcases x with rfl|⟨c,m,o⟩
  ·have:L.C=s:=bQ.inj (l:=.cell ⟨L.C,L.off+k,ns⟩) (.inl ⟨_,rfl,rfl⟩) u;rcases d with d|d
   ·omega
   ·exact(O.x r s d).2.1 this.symm
  ·have:=bQ.inj o u;subst this;rcases d with d|d
   ·have:=(I.lJ i m).1;omega
   ·exact I.main k i c m (O.x r c d).1
 ·obtain⟨k,i,rfl,x⟩:=h1;rcases f with f|⟨a,rfl,v⟩
  ·obtain⟨a,rfl,v⟩:=O.sh l f;rcases x with x|⟨c,m,o⟩
   ·cases x;simp only at v;omega
   ·have:c=a.block:=bQ.inj o (.inl ⟨_,rfl,rfl⟩);have:=(I.lJ i m).1;omega
  ·rcases x with x|⟨c,m,o⟩
   ·cases x;exact O.ne v
   ·have:c=a.block:=bQ.inj o (.inl ⟨_,rfl,rfl⟩);exact I.main k i c m (by rw[this,v];exact O.Wg)
 ·obtain⟨k,i,_,x,_⟩:=h1;exact x f
omit [ah] in
def OB{l:Loc}(d:∀op∈t,op.act.low n)(hc:n<=c)(hi:bQ c l):mD t l:=by
 intro i x f e;obtain⟨op,o,pu⟩:=touch_of f;have ST:=d op (lB o);obtain⟨_,_,_,act⟩:=op;subst e
 have key:∀l:Loc,l.low n->bQ c l->False:=by
  rintro l h1(⟨a,rfl,p⟩|rfl)
  ·have h1:a.block<n:=h1;omega
  ·have h1:c<n:=h1;omega
 cases act with
 |access e=>simp only[akz,Option.some.injEq] at pu;subst pu;exact key _ ST hi
 |mark m=>
  cases m with
  |read a=>exact Ku
  |write a=>exact Ku
  |_=>simp[akz] at pu
 |_=>simp[akz] at pu
def ac9(I:Mem S j Φ H M h)(O:oS S L M X)(l:k<j){d:Array aiK}(hd:∀e∈d,fp S.K (Φ k) e):∀op∈aft (L.c0+k) fn pos d,OkW L.Sh (nU S L j Φ) (od S L j X) (L.c0+k) op:=by
 intro op m;obtain⟨e,he,rfl⟩:=jT m;refine⟨rfl,λx s=>?_⟩;obtain⟨_,b,c,h1,i,u⟩:=zM (hd e he) s;rcases I.image l h1 with o|⟨o,r⟩
 ·exact .inr (.inl ⟨k,l,rfl,.inr ⟨c,o,i⟩⟩)
 ·refine .inr (.inr ⟨⟨k,l,rfl,?_,c,.inl o,i⟩,?_⟩)
  ·rintro(v|⟨a,y,E⟩)
   ·exact O.GZ b c r _ i v
   ·have f:=i;rw[y] at f;have:c=a.block:=bQ.inj f (.inl ⟨_,rfl,rfl⟩);have:=(I.mlt _ O.Wg).1;omega
  ·cases hw:x.write with
   |false=>rfl
   |true=>exfalso;obtain⟨z,A⟩:=u hw;have p:=(I.start.rel.lt r).1;exact(I.start.old b p).elim z A
def CT.run(I:Mem S j Φ H M h)(O:oS S L M X)(r:CT L.Sh (nU S L j Φ) (od S L j X) t g)(G:∀op∈t,op.act.low h.size)(V:L.c0+j<=g+1){k:Nat}(v:k<j){f:Ren}{z:Array Obj}
  (hr:iu S.K (Φ k) f (H k).size h h')(N:HR S.K f z h')(Q:(H k).size<=z.size){d:Array aiK}(hd:∀e∈d,fp S.K f e){fn:ajH}{pos:String}:
  CT L.Sh (nU S L j (TO Φ k f)) (od S L j X) (t++aft (L.c0+k) fn pos d) g:=by
 have A:=I.step v hr N Q
 have m:CT L.Sh (nU S L j (TO Φ k f)) (od S L j X) t g:=by
  refine CT.FF r (λl x=>.inl x) (λl x=>x) (λg' _ _ l x=>?_) (λ_ _ _ l x=>.inl x) (λl _ x=>.inl λg' h1 o=>⟨λy=>(x g' h1 o).1 ?_,(x g' h1 o).2⟩) (λl _ x=>.inl λg' h1 o y=>x g' h1 o ?_)
  ·obtain⟨i,a,rfl,x⟩:=x;rcases x with x|⟨c,⟨b,E,p⟩,s⟩
   ·exact .inl ⟨i,a,rfl,.inl x⟩
   ·by_cases e:i=k
    ·subst e;rw[aix] at p;rcases hr.fresh b c p with u|u
     ·exact .inl ⟨i,a,rfl,.inr ⟨c,⟨b,E,u⟩,s⟩⟩
     ·exact .inr (OB G u.2 s)
    ·rw[upd_ne Φ f e] at p;exact .inl ⟨i,a,rfl,.inr ⟨c,⟨b,E,p⟩,s⟩⟩
  all_goals
   obtain⟨i,a,rfl,y⟩:=y;refine⟨i,a,rfl,y.imp_right λ⟨c,⟨b,R,F⟩,T⟩=>⟨c,⟨b,R,?_⟩,T⟩⟩;by_cases e:i=k
   ·subst e;rw[aix];exact hr.le _ _ F
   ·rw[upd_ne Φ f e];exact F
 refine m.appW (tn A O) (k:=L.c0+k) (by have:=O.c0;omega) aa (ac9 A O v (d:=d) λe he=>?_);rw[aix];exact hd e he
end
end
section
variable[ah]
open Go.Conc (G)
section
variable{P:OF}{K:aI}
omit [ah] in
def PK{P:OF}(ts:Array AS)(f:ResultVar->Sem AS)(a:∀t,f (.tmp t)=pure (ts.getD t undef)):∀(l:List ResultVar),(∀r∈l,∃t,r=.tmp t)->∃vs:List AS,∀w:rl,Sem.run P (l.mapM f) w=.ok vs w
 |[],_=>⟨[],λw=>rfl⟩
 |r::l,h=>by obtain⟨vs,d⟩:=PK ts f a l λx e=>h x (by simp[e]);obtain⟨t,rfl⟩:=h r au;refine⟨ts.getD t undef::vs,λw=>?_⟩;rw[List.mapM_cons,a];simp only[pure_bind];rw[Sem.run_bind,d];rfl
omit [ah] in
def results_tmp{P:OF}(fn:Func)(h:∀r∈fn.results,∃t,r=.tmp t)(ts:Array AS):∃v,∀w:rl,(results fn ts).run P w=.ok v w:=by
 obtain⟨d,e⟩:=PK (P:=P) ts (λr=>match r with|.tmp t=>pure (ts.getD t undef)|.cell a t=>do loadVar t (<-asAddr (ts.getD a undef))) (λt=>rfl) fn.results.toList λr f=>h r (jw.1 f);refine⟨if h:d.toArray.size=1 then d.toArray[0] else .tuple d.toArray,λw=>?_⟩;unfold results;rw[Array.mapM_eq_mapM_toList];rw[Sem.run_bind,map_eq_pure_bind,Sem.run_bind]
 erw [e]
 rfl
def Mj(E:dz P)(F:ef P)(I:cN P)(hG:K.G=P.globals.size)(hF:dX P K)(x:∀c N,¬ah.dL c N){f:ajH}{fn:Func}(m:P.funcs[f]?=an fn)(a:∀r∈fn.results,∃t,r=.tmp t)(o:P.inits.idxOf? f=ns)(y:ah.ok f)
  {args i:Array AS}{p:rl}{φ:Ren}{h':Array Obj}(Q:aB φ args i)(V:HR K φ p.heap h')(W:gR φ){R:AS->Array Obj->Prop}
  (s:∀T:Tape,kk T p->Calls P f args (p.on T p.drawn) λ|dl v,w'=>R v w'.heap|_,_=>False):
  bO P (jl P R) (G (aid P f args .normal) [c0 P]) p:=by
 refine Xu (K:=K) E F I hG hF x ⟨φ,_,_,[],[],h',rfl,vO E y Q,.nil,V,W,?_⟩ λT Z=>?_
 ·rfl
 ·obtain⟨e,w',fr,z,hc,l,A⟩:=s T Z [c0 P];cases e with
  |panicked c=>exact z.elim
  |outgrown=>exact z.elim
  |returned v=>obtain⟨n,hn⟩:=hc;obtain⟨hm,hd,hk,fn2,d,hr⟩:=A;rw[l,m] at d;cases d;refine⟨n,fr,w',hn,.inl ⟨hm,hd⟩,fn,v,hm,hd,by show P.funcs[fr.fn]?=an fn;rw[l];exact m,λw hw=>?_,⟨a,by show P.inits.idxOf? fr.fn=ns;rw[l];exact o⟩,z⟩;obtain⟨v2,u⟩:=results_tmp (P:=P) fn a fr.tmps;have:=(u w').symm.trans hr;cases this;exact⟨w,u w,hw⟩
end
end
section
variable[ah]
open Go.Conc
open Go.ConcN (upd upd_same upd_ne WgLive PayAt Has RW WSit AtR0 AsideCell OkW cell_of_block)
open Go.ConcR (KK WgAt stA smA rd wr mk Payload)
structure RP[Payload](N0:Nat)(X:Nat->Prop)(ty:SL)(Wg C n off k:Nat)(w w₁:rl):Prop where
 low:∀c,c<N0\/X c->w₁.heap[c]?=w.heap[c]?
 live:aiT ty Wg w->aiT ty Wg w₁
 pay:PayAt C n w->PayAt C n w₁
 cell:w₁.cell? ⟨C,off+k,ns⟩=w.cell? ⟨C,off+k,ns⟩
def Ub(N0:Nat)(Sh:Loc->Prop)(X:Nat->Prop)(l:Loc):Prop:=¬Sh l/\∃c,(c<N0\/X c)/\bQ c l
structure GP[Payload](N0:Nat)(Sh:Loc->Prop)(X:Nat->Prop)(C n off k:Nat)(w w':rl)(es:Array aiK):Prop where
 aside:AsideCell C n (off+k) w w'
 ev:∀e∈es,e.sync=Ba/\((e.loc=.cell ⟨C,off+k,ns⟩)\/(Ub N0 Sh X e.loc/\e.write=Ba))
section
variable[Payload]{N0:Nat}{Sh:Loc->Prop}{X:Nat->Prop}{ty:SL}{Wg C n off k:Nat}{w w₁ Tw:rl}
omit [ah] in
def RP.refl(w:rl):RP N0 X ty Wg C n off k w w:=⟨λ_ _=>rfl,id,id,rfl⟩
omit [ah] in
def RP.trans(h:RP N0 X ty Wg C n off k w w₁)(h':RP N0 X ty Wg C n off k w₁ Tw):RP N0 X ty Wg C n off k w Tw:=
 ⟨λc hc=>(h'.low c hc).trans (h.low c hc),h'.live∘h.live,h'.pay∘h.pay,h'.cell.trans h.cell⟩
omit [ah] in
def RP.at(w:rl)(d:Nat):RP N0 X ty Wg C n off k w (w.at d):=⟨λ_ _=>rfl,id,id,rfl⟩
omit [ah] in
def RP.rw(h:RP N0 X ty Wg C n off k w w₁):RW ty Wg C n 0 (off+k+1-1) w w₁:=⟨λb a=>absurd a (gX b),h.live,h.pay,h.cell⟩
omit [ah] in
def RP.EG(h:∀c,c<N0\/X c\/c=Wg\/c=C->w₁.heap[c]?=w.heap[c]?):RP N0 X ty Wg C n off k w w₁:=
 ⟨λc hc=>h c (hc.imp_right .inl),λ⟨st,sm,a⟩=>⟨st,sm,a.of_block (h Wg (.inr (.inr (.inl rfl))))⟩,λ⟨d,hc,e⟩=>⟨d,(h C (.inr (.inr (.inr rfl)))).trans hc,e⟩,cell_of_block (h C (.inr (.inr (.inr rfl)))) _⟩
omit [ah] in
def RP.of_cell{e:Nat}(h:AsideCell C n e w w₁)(a:off+k≠e)(d:C≠Wg)(l:N0<=C)(f:∀c,X c->c≠C):RP N0 X ty Wg C n off k w w₁:=
 ⟨λc hc=>h.block c (by rcases hc with hc|hc;omega;exact f c hc),λ⟨st,sm,i⟩=>⟨st,sm,i.of_block (h.block Wg (iY d))⟩,h.pay,h.cells _ a⟩
omit [ah] in
def RP.of_wg(h:ajU Wg w w₁)(d:aiT ty Wg w₁)(a:C≠Wg)(l:N0<=Wg)(e:∀c,X c->c≠Wg):RP N0 X ty Wg C n off k w w₁:=
 ⟨λc hc=>h.block c (by rcases hc with hc|hc;omega;exact e c hc),λ_=>d,λ⟨f,hc,i⟩=>⟨f,(h.block C a).trans hc,i⟩,cell_of_block (h.block C a) _⟩
end
structure WS where
 stage:Nat
 e:Nat
 fuel:Nat
 deaf:Nat
 x:BE×rl
 φ:Ren
 val:AS
 X:Nat->Prop
structure dB where
 ty:SL
 n:Nat
 f:ajH
 start:Nat->BE×rl
 R:Nat->AS->Array Obj->Prop
 pick:AS->AS
 shape:AS->Prop
section
variable(P:OF)[Payload](S:cO)(L:cB)(J:dB)
def pB:Nat->Loc->Prop:=λ_ _=>False
def SQ(X:Nat->Prop)(k:Nat)(v:AS)(m:Nat)(g:BE)(w:rl):Prop:=
 Goes P.two Ba (RP S.h1.size X J.ty L.Wg L.C J.n L.off k) (GP S.h1.size L.Sh X L.C J.n L.off k) (AtR0 P.two J.ty L.Wg L.C J.n 0 (L.off+k+1) v) m g w
def pf(X:Nat->Prop)(k:Nat)(b:ahY)(B:List ahY)(w:rl):Prop:=∀v' a,J.shape v'->(RP S.h1.size X J.ty L.Wg L.C J.n L.off k) w a->∃m,SQ P S L J X k (J.pick v') m (G (b.finish v') B) a
def Rz(X:Nat->Prop)(k:Nat)(g:BE)(w:rl):Prop:=
 g.status=.running/\∃(a:Array AS)(b:ahY)(B:List ahY),aiq P.two Ba g w=.go (G (aid P.two J.f a .normal) (b::B)) w #[]/\
  (∃args,aB S.φ args a/\J.start k=(G (aid P J.f args .normal) [c0 P],(J.start k).2))/\pf P S L J X k b B w
def Bb(k:Nat)(d:WS):Prop:=fK P d.x (J.start k)/\Lv P d.x.1/\∃v,VR d.φ v d.val/\J.R k v d.x.2.heap/\jl P (λu _=>u=v) d.x.1 d.x.2.heap
inductive fD(k:Nat)(d:WS)(g:BE)(w:rl):Prop
 |pre:d.e=3->d.stage=7->d.deaf=0->d.φ=S.φ->d.x=J.start k->Goes P.two Ba (RP S.h1.size d.X J.ty L.Wg L.C J.n L.off k) (GP S.h1.size L.Sh d.X L.C J.n L.off k) (Rz P S L J d.X k) d.fuel g w->fD k d g w
 |run {b:ahY} {B:List ahY}:d.e=2->d.stage=7->d.deaf=0->fK P d.x (J.start k)->bO P (jl P (J.R k)) d.x.1 d.x.2->dJ P S.K (b::B) d.φ d.x.1 d.x.2 g w->pf P S L J d.X k b B w->fD k d g w
 |post:d.e=1->d.stage=7->d.deaf=0->Bb P J k d->SQ P S L J d.X k (J.pick d.val) d.fuel g w->fD k d g w
 |fL:d.e=0->d.stage<=6->Bb P J k d->WSit P.two J.ty L.Wg L.C J.n pB pB 0 (L.off+k+1) (J.pick d.val) d.stage d.fuel d.deaf g w->fD k d g w
variable{P S L J}
def pf.rely{X:Nat->Prop}{a:rl}(h:pf P S L J X k b B w)(hr:(RP S.h1.size X J.ty L.Wg L.C J.n L.off k) w a):pf P S L J X k b B a:=λd e h1 f=>h d e h1 (hr.trans f)
def fD.rely{d:WS}{m:rl}(h:fD P S L J k d g w)(hr:(RP S.h1.size d.X J.ty L.Wg L.C J.n L.off k) w m)(r:w.heap.size<=m.heap.size)(hi:∀b c,d.φ b=an c->m.heap[c]?=w.heap[c]?):fD P S L J k d g m:=by have p:∀a b c,(RP S.h1.size d.X J.ty L.Wg L.C J.n L.off k) a b->(RP S.h1.size d.X J.ty L.Wg L.C J.n L.off k) b c->(RP S.h1.size d.X J.ty L.Wg L.C J.n L.off k) a c:=λ_ _ _ h1 e=>h1.trans e;cases h with|pre h1 e f i l o=>exact .pre h1 e f i l (jx p o hr)|run h1 e f i l o s=>exact .run h1 e f i l (o.still r hi) (s.rely hr)|post h1 e f i l=>exact .post h1 e f i (jx p l hr)|fL h1 h0 e f=>exact .fL h1 h0 e (f.rely hr.rw)
def fD.status{d:WS}(h:fD P S L J k d g w):g.status=.running\/g.status=.finished:=by cases h with|pre h1 e a l f i=>exact .inl (gY (λ_ _ x=>x.1) w (RP.refl w) i)|run h1 e a l f i m=>exact .inl i.running|post h1 e a l f=>exact .inl (gY (λ_ _ x=>x.1) w (RP.refl w) f)|fL h1 h0 e a=>exact a.status
def fD.woken{d:WS}(h:fD P S L J k d g w)(a a':BE)(w':rl):woken P.two a a' w' g=g:=by
 unfold Go.Conc.woken;split
 ·exact again_running _ h.status
 ·rfl
end
end
section
variable[ah]
open Go.Conc
open Go.ConcN (upd upd_same upd_ne WgLive PayAt Has RW WSit AsideCell OkW Ok0 CT Apart RelBy RelBy.appOther norel_of get_map_set get_map_set_same sumTo)
open Go.ConcR (KK WgAt stA smA rd wr mk Payload g_of_ofEvents)
def fT(D:Nat->WS)(k:Nat):Ren:=(D k).φ
def lR(D:Nat->WS)(k:Nat):Array Obj:=(D k).x.2.heap
def reads(D:Nat->WS)(k:Nat):Nat->Prop:=(D k).X
def vF(D:Nat->WS)(k:Nat)(d:WS):fT (TO D k d)=TO (fT D) k d.φ:=by funext i;simp only[fT,TO];split<;>rfl
def OC(D:Nat->WS)(k:Nat)(d:WS):lR (TO D k d)=TO (lR D) k d.x.2.heap:=by funext i;simp only[lR,TO];split<;>rfl
def OD(D:Nat->WS)(k:Nat)(d:WS)(h:d.X=(D k).X):reads (TO D k d)=reads D:=by
 funext i;simp only[reads,TO];split
 ·simp_all
 ·rfl
section
variable(P:OF)[Payload](S:cO)(L:cB)(J:dB)
structure Com(j:Nat)(D:Nat->WS)(M:Nat->Prop)(gs:Array BE)(w:rl)(t:aiX)(q:Nat->Nat)(d0:Nat):Prop where
 size:gs.size=L.c0+j
 old:∀i,0<i->i<L.c0->∃g,gs[i]?=an g/\QuitsD P.two (q i) (Deaf t i) g
 wk:∀k,k<j->∃g,gs[L.c0+k]?=an g/\fD P S L J k (D k) g w
 mem:Mem S j (fT D) (lR D) M w.heap
 lay:oS S L M (reads D)
 ct:CT L.Sh (nU S L j (fT D)) (od S L j (reads D)) t (L.c0+j-1)
 plain:∀i x,touchAt t i=an x->¬L.Sh x.loc->x.loc.isMemory=AT->x.kind=.plain
 low:∀op∈t,op.act.low w.heap.size
 norel:NoRelease (stA L.Wg) t
 over:∀i g,t.g? i=an g->g≠0->g<L.c0->t.counts i->∃q,t.g? q=an 0/\HappensBefore t i q
 deaf0:Deaf t 0=d0
 deafW:∀k,k<j->Deaf t (L.c0+k)=(D k).deaf
 rel:∀k,k<j->(D k).stage<=6->∃r,RelBy (stA L.Wg) t (L.c0+k) r
 has:∀k,k<j->(D k).stage<=6->Has L.C (L.off+k) (J.pick (D k).val) w
 pay:PayAt L.C J.n w
 io:w.os=S.os/\w.output=S.out
end
section
variable{P:OF}[Payload]{S:cO}{L:cB}{J:dB}{j:Nat}{D:Nat->WS}{M:Nat->Prop}{gs:Array BE}{w w':rl}{t:aiX}{q:Nat->Nat}{d0:Nat}
omit [ah] in
def Aa{t u:aiX}(h:∀i g,t.g? i=an g->g≠0->g<c->t.counts i->∃q,t.g? q=an 0/\HappensBefore t i q)(hu:∀op∈u,op.g=0\/c<=op.g\/op.act.touch?=ns):
  ∀i g,(t++u).g? i=an g->g≠0->g<c->(t++u).counts i->∃q,(t++u).g? q=an 0/\HappensBefore (t++u) i q:=by
 intro i g f h0 hc a;rcases cZ i t.size with d|m
 ·obtain⟨q,h1,o⟩:=h i g (by rw[<-g?_old (u:=u) d];exact f) h0 hc ((counts_old d).1 a)
  have hq:q<t.size:=by obtain⟨z,p,_⟩:=jR.1 h1;exact(bU.1 p).1
  exact⟨q,by rw[g?_old hq];exact h1,hb_app u o⟩
 ·exfalso;obtain⟨op,l,r⟩:=jR.1 f;rcases akc l with⟨h1,_⟩|⟨_,e⟩
  ·omega
  ·obtain⟨x,s,_⟩:=a;have:(t++u).act? i=an op.act:=by simp[Trace.act?,l]
   rcases hu op e with h1|h1|h1
   ·omega
   ·omega
   ·simp_all
def Com.stepW(h:Com P S L J j D M gs w t q d0)(hk:k<j){es:Array aiK}{m:WS}(hX:m.X=(D k).X)
  (s:fD P S L J k m g' w')(u:Mem S j (TO (fT D) k m.φ) (TO (lR D) k m.x.2.heap) M w'.heap)
  (v:∀a,a<j->a≠k->RP S.h1.size (D a).X J.ty L.Wg L.C J.n L.off a w w')(y:∀a,a<j->a≠k->∀b c,(D a).φ b=an c->w'.heap[c]?=w.heap[c]?)(z:w.heap.size<=w'.heap.size)
  (R:CT L.Sh (nU S L j (TO (fT D) k m.φ)) (od S L j (reads D)) (t++aft (L.c0+k) fn pos es) (L.c0+j-1))
  (T:∀e∈es,∀x,(ail e).touch?=an x->¬L.Sh x.loc->x.kind=.plain)(A:∀e∈es,(ail e).low w'.heap.size)(V:∀e∈es,e.loc≠.mark (.release (stA L.Wg)))
  (o:aiJ (D k).deaf es=m.deaf)(hrel:m.stage<=6->∃r,RelBy (stA L.Wg) (t++aft (L.c0+k) fn pos es) (L.c0+k) r)(E:m.stage<=6->Has L.C (L.off+k) (J.pick m.val) w')(F:PayAt L.C J.n w')(G:iZ w w'):
  Com P S L J j (TO D k m) M ((gs.map (woken P.two g g' w')).setIfInBounds (L.c0+k) g') w' (t++aft (L.c0+k) fn pos es) q d0:=by
 have IN:=h.lay.c0;have p:∀op∈aft (L.c0+k) fn pos es,∃e∈es,op={g:=L.c0+k,fn,pos,act:=.ofEvent e}:=λop l=>jT l;refine⟨by simp[h.size],λi hi W=>?_,λa d=>?_,by rw[vF,OC];exact u,by rw[OD _ _ _ hX];exact h.lay,by rw[vF,OD _ _ _ hX];exact R,λi x I hs hm=>?_,λop l=>?_,h.norel.app (norel_of V),?_,by rw[akD t aa _ ajy,h.deaf0],λa d=>?_,λa d f=>?_,λa d f=>?_,F,G.1.trans h.io.1,G.2.trans h.io.2⟩
 ·obtain⟨x,I,hq⟩:=h.old i hi W;refine⟨x,by rw[akL _ _ _ _ aa,I,ajc,woken_quitsD hq],?_⟩;rw[akD t aa _ ajy];exact hq
 ·by_cases e:a=k
  ·subst e;exact⟨g',get_map_set_same _ _ _ (by rw[h.size];omega),by rw[aix];exact s⟩
  ·obtain⟨x,I,N⟩:=h.wk a d;refine⟨x,by rw[akL _ _ _ _ aa,I,ajc,N.woken],?_⟩;rw[upd_ne D _ e];exact N.rely (v a d e) z (y a d e)
 ·obtain⟨op,Q,pu⟩:=touch_of I;rcases akc Q with⟨_,pz⟩|⟨_,Z⟩
  ·exact h.plain i x yE hs hm
  ·obtain⟨e,he,rfl⟩:=p op Z;exact T e he x pu hs
 ·rcases jv.1 l with Q|Q
  ·exact uX z (h.low op Q)
  ·obtain⟨e,he,rfl⟩:=p op Q;exact A e he
 ·refine Aa h.over λop l=>.inr (.inl ?_);obtain⟨e,_,rfl⟩:=p op l;exact Nat.le_add_right _ _
 ·by_cases e:a=k
  ·subst e;rw[Deaf_own,h.deafW a d,aix];exact o
  ·rw[akD t aa _ ajy,h.deafW a d,upd_ne D _ e]
 ·by_cases e:a=k
  ·subst e;rw[aix] at f;exact hrel f
  ·rw[upd_ne D _ e] at f;obtain⟨r,hr⟩:=h.rel a d f;exact Dp
 ·by_cases e:a=k
  ·subst e;rw[aix] at f⊢;exact E f
  ·rw[upd_ne D _ e] at f⊢;exact(v a d e).cell.trans (h.has a d f)
end
end
section
variable[ah]
open Go.Conc
open Go.ConcN (upd upd_same upd_ne WgLive PayAt Has RW WSit AsideCell OkW Ok0 CT Apart deafBehind_idle)
open Go.ConcR (KK WgAt stA smA rd wr mk Payload)
omit [ah] in
def sR{α:Type}(f:Nat->α)(k:Nat){x:α}(h:x=f k):TO f k x=f:=by
 funext i;unfold TO;split
 ·simp_all
 ·rfl
section
variable{P:OF}[Payload]{S:cO}{L:cB}{J:dB}{j:Nat}{D:Nat->WS}{M:Nat->Prop}{gs:Array BE}{w w':rl}{t:aiX}{q:Nat->Nat}{d0:Nat}
def MY{e:aiK}(hs:e.sync=Ba)(hm:e.loc.isMemory=AT):ail e=.access e:=by exact LV
def Com.Gs(h:Com P S L J j D M gs w t q d0)(z:k<j){es:Array aiK}{i:WS}(G:i.X=(D k).X)(r:i.φ=(D k).φ)(hx:i.x=(D k).x)
  (I:i.stage=7)(A:i.deaf=(D k).deaf)(hD:GP S.h1.size L.Sh (D k).X L.C J.n L.off k w w' es)(s:fD P S L J k i g' w'):
  Com P S L J j (TO D k i) M ((gs.map (woken P.two g g' w')).setIfInBounds (L.c0+k) g') w' (t++aft (L.c0+k) fn pos es) q d0:=by
 have N:=h.mem.mlt _ h.lay.C;have u:w.heap.size<=w'.heap.size:=by rw[hD.aside.size];exact ay _
 have d:∀e∈es,e.loc.isMemory=AT:=λe he=>by
  rcases(hD.ev e he).2 with h1|⟨⟨_,c,_,h1⟩,_⟩
  ·rw[h1];rfl
  ·exact h1.mem
 have qN:∀e∈es,ail e=.access e:=λe he=>MY (hD.ev e he).1 (d e he)
 have f:∀e∈es,∀x,(ail e).touch?=an x->x=⟨e.loc,e.write,.plain⟩:=λe he x hx=>by exact Kv
 have l:∀e∈es,∀m,e.loc≠.mark m:=λe he m hm=>by have:=d e he;rw[hm] at this;cases this
 refine h.stepW z G s ?_ (λy o e=>?_) (λy o e b c Q=>hD.aside.block c λx=>?_) u ?_ (λe he x hx _=>by rw[f e he x hx]) (λe he=>?_) (λe he=>l e he _)
  (by rw[deafBehind_idle λe he=>⟨l e he _,l e he _⟩];exact A.symm) (λR=>aa) (λR=>aa) (hD.aside.pay h.pay) ⟨hD.aside.os,hD.aside.output⟩
 ·rw[sR (fT D) k r,sR (lR D) k (by rw[hx];rfl)];exact h.mem.GY u (λc _ T=>hD.aside.block c λx=>T (x▸h.lay.C)) (λ_ x=>x) (λ_ x=>.inl x)
 ·exact .of_cell hD.aside aa h.lay.ne N.1 λc hc=>(h.lay.x y c hc).2.1
 ·rcases h.mem.image (k:=y) o Q with h1|⟨h1,_⟩
  ·exact h.mem.main y o c h1 (x▸h.lay.C)
  ·omega
 ·rw[sR (fT D) k r];refine h.ct.appW (tn h.mem h.lay) (k:=L.c0+k) (by have:=h.lay.c0;omega) aa λop E=>?_;obtain⟨e,he,rfl⟩:=jT E;refine⟨rfl,λx hx=>?_⟩;rw[f e he x hx];rcases(hD.ev e he).2 with h1|⟨⟨h1,c,p,F⟩,v⟩
  ·exact .inr (.inl ⟨k,z,rfl,.inl h1⟩)
  ·exact .inr (.inr ⟨⟨k,z,rfl,h1,c,p,F⟩,v⟩)
 ·rw[qN e he];show e.loc.low _;rcases(hD.ev e he).2 with h1|⟨⟨_,c,p,F⟩,_⟩
  ·rw[h1];show L.C<_;omega
  ·have hc:c<w'.heap.size:=by
    rcases p with p|p
    ·omega
    ·have:=(h.mem.mlt c (h.lay.x k c p).1).2;omega
   rcases F with⟨a,v,V⟩|v
   ·rw[v];show a.block<_;omega
   ·rw[v];exact hc
structure j8(P:OF)(S:cO)(J:dB)(n:Nat):Prop where
 qO:∀k,k<n->bO P (jl P (J.R k)) (J.start k).1 (J.start k).2
 heap:∀k,k<n->(J.start k).2.heap=S.h0
 vars:gR S.φ
 ok:ah.ok J.f
 shape:∀k,k<n->∀v h φ v',J.R k v h->VR φ v v'->J.shape v'
def Com.mG(h:Com P S L J j D M gs w t q d0)(u:dz P)(i:j8 P S J n)(r:k<j)(l:k<n){a:Array AS}{args:Array AS}
  (s:(D k).stage=7)(m:(D k).deaf=0)(o:(D k).φ=S.φ)(p:(D k).x=J.start k)(v:aB S.φ args a)(y:J.start k=(G (aid P J.f args .normal) [c0 P],(J.start k).2))(z:pf P S L J (D k).X k b B w):
  Com P S L J j (TO D k {D k with e:=2}) M ((gs.map (woken P.two g (G (aid P.two J.f a .normal) (b::B)) w)).setIfInBounds (L.c0+k) (G (aid P.two J.f a .normal) (b::B))) w (t++aft (L.c0+k) fn pos #[]) q d0:=by
 refine h.Gs r rfl rfl rfl s rfl ⟨⟨rfl,rfl,rfl,rfl,λ_ _=>rfl,id,λ_ _=>rfl⟩,λe he=>(by simp at he)⟩ (.run (b:=b) rfl s m ?_ ?_ ?_ z)
 ·show fK P (D k).x _;rw[p];exact .inl rfl
 ·show bO P _ (D k).x.1 (D k).x.2;rw[p];exact i.qO k l
 ·show dJ P S.K (b::B) (D k).φ (D k).x.1 (D k).x.2 _ w;have d:=h.mem.rel k r;simp only[fT,lR] at d;rw[o] at d⊢;rw[p] at d⊢;refine⟨aid P J.f args .normal,aid P.two J.f a .normal,[],[],by rw[y];rfl,rfl,vO u i.ok v,.nil,d,i.vars,rfl⟩
end
end
section
variable[ah]
open Go.Conc
open Go.ConcN (upd upd_same upd_ne WgLive PayAt Has RW WSit AsideCell OkW Ok0 CT Apart deafBehind_idle)
open Go.ConcR (KK WgAt stA smA rd wr mk Payload)
section
variable{P:OF}[Payload]{S:cO}{L:cB}{J:dB}{j:Nat}{D:Nat->WS}{M:Nat->Prop}{gs:Array BE}{w w':rl}{t:aiX}{q:Nat->Nat}{d0:Nat}
def Com.leaves(h:Com P S L J j D M gs w t q d0)(d:k<j){e:Ren}{h':Array Obj}(hr:iu S.K (fT D k) e (lR D k).size w.heap h'){X:Nat->Prop}(f:∀c,X c->M c)(hc:c<S.h1.size\/X c\/c=L.Wg\/c=L.C):h'[c]?=w.heap[c]?:=by
 have a:∀c,M c->h'[c]?=w.heap[c]?:=λc hm=>h.mem.leaves d hr (h.mem.mlt c hm).2 λx=>h.mem.main k d c x hm;rcases hc with hc|hc|rfl|rfl
 ·exact h.mem.leaves d hr (cC hc h.mem.size) λx=>by have:=(h.mem.lJ d x).1;omega
 ·simp_all
 ·exact a _ h.lay.Wg
 ·exact a _ h.lay.C
def Y6{K:aI}{d:Ren}{e:aiK}(h:fp K d e){a:Addr}:e.loc≠.mark (.release a):=by rcases h with⟨a,b,h1,_⟩|⟨r,b,h1,_⟩|⟨m,h1,rfl|⟨f,rfl⟩⟩<;>rw[h1]<;>exactλe=>by cases e
omit [ah] in
def fK.next{z y x:BE×rl}(h:fK P y x)(k:Nx P z y):fK P z x:=by
 rcases h with rfl|h
 ·exact .inr (.one k)
 ·exact .inr (.more k h)
def Com.SS(h:Com P S L J j D M gs w t q d0)(l:k<j){d:Array aiK}{f:WS}(z:f.X=(D k).X)(A:f.stage=7)(r:f.deaf=(D k).deaf)
  (hr:iu S.K (D k).φ f.φ (D k).x.2.heap.size w.heap w'.heap)(s:HR S.K f.φ f.x.2.heap w'.heap)(p:(D k).x.2.heap.size<=f.x.2.heap.size)(a:∀e∈d,fp S.K f.φ e)
  (o:RP S.h1.size (D k).X J.ty L.Wg L.C J.n L.off k w w'->fD P S L J k f g' w')(u:iZ w w'):
  Com P S L J j (TO D k f) M ((gs.map (woken P.two g g' w')).setIfInBounds (L.c0+k) g') w' (t++aft (L.c0+k) fn pos d) q d0:=by
 have v:∀i,RP S.h1.size (D i).X J.ty L.Wg L.C J.n L.off i w w':=λi=>.EG λc hc=>h.leaves l hr (λc hc=>(h.lay.x i c hc).1) hc
 refine h.stepW l z (o (v k)) (h.mem.step l hr s p) (λi _ _=>v i) (λi m e b c y=>?_) hr.size ?_ (λe he x E _=>(zM (a e he) E).1) (λe he=>QM s (a e he)) (λe he=>Y6 (a e he))
  (by rw[deafBehind_idle λe he=>Oz (a e he)];exact r.symm) (λp=>aa) (λp=>aa) ((v k).pay h.pay) u
 ·refine h.mem.leaves l hr ((h.mem.rel i m).lt y).2 λx=>?_;rcases h.mem.image (k:=i) m y with h1|⟨h1,_⟩
  ·exact h.mem.apart i k m l e c h1 x
  ·have:=(h.mem.lJ l x).1;omega
 ·exact CT.run h.mem h.lay h.ct h.low aa l hr s p a
def Com.agc(I:dz P)(N:ef P)(Q:cN P)(hG:S.K.G=P.globals.size)(hF:dX P S.K)(p:∀c r,¬ah.dL c r)
  (h:Com P S L J j D M gs w t q d0)(z:k<j)(he:(D k).e=2)(A:(D k).stage=7)(s:(D k).deaf=0)(T:fK P (D k).x (J.start k))
  (V:bO P (jl P (J.R k)) (D k).x.1 (D k).x.2)(W:dJ P S.K (b::B) (D k).φ (D k).x.1 (D k).x.2 g w)(Z:pf P S L J (D k).X k b B w)(hl:¬Lv P (D k).x.1):
  ∃(E:BE×rl)(o:Ren)(g':BE)(w':rl)(d:Array aiK),aiq P.two Ba g w=.go g' w' d/\(w.heap.size<=w'.heap.size/\∀c,M c->w'.heap[c]?=w.heap[c]?)/\Nx P E (D k).x/\
   Com P S L J j (TO D k {D k with x:=E,φ:=o}) M ((gs.map (woken P.two g g' w')).setIfInBounds (L.c0+k) g') w' (t++aft (L.c0+k) fn pos d) q d0:=by
 obtain⟨g1,a,o,a1,F,d,f,u,hs,i,l,v,y⟩:=Oy (m:=Ba) I N Q hG hF W V hl (λ⟨_,c,r,_,_,x⟩=>p c r x)
 have hH:HR S.K o a.heap F.heap:=by obtain⟨_,_,_,_,_,_,_,_,h,_⟩:=i;exact h
 exact⟨(g1,a),o,a1,F,d,hs,⟨l.h.size,λc hc=>h.leaves z (X:=M) l.h (λ_ x=>x) (.inr (.inl hc))⟩,f,h.SS z rfl A rfl l.h hH v y (λrp=>.run (b:=b) he A s (T.next f) u i (Z.rely rp)) ⟨l.left.os,l.left.out⟩⟩
def Com.aeZ(G:dz P)(I:j8 P S J n)(i:k<n)(h:Com P S L J j D M gs w t q d0)(l:k<j)(z:(D k).stage=7)(o:(D k).deaf=0)(N:fK P (D k).x (J.start k))
  (Q:bO P (jl P (J.R k)) (D k).x.1 (D k).x.2)(T:dJ P S.K (b::B) (D k).φ (D k).x.1 (D k).x.2 g w)(V:pf P S L J (D k).X k b B w)(p:Lv P (D k).x.1):
  ∃(f:Ren)(v':AS)(m:Nat)(g':BE)(w':rl)(d:Array aiK),aiq P.two Ba g w=.go g' w' d/\
   (w.heap.size<=w'.heap.size/\∀c,M c->w'.heap[c]?=w.heap[c]?)/\Com P S L J j (TO D k {D k with e:=1,φ:=f,val:=v',fuel:=m}) M ((gs.map (woken P.two g g' w')).setIfInBounds (L.c0+k) g') w' (t++aft (L.c0+k) fn pos d) q d0:=by
 have W:jl P (J.R k) (D k).x.1 (D k).x.2.heap:=by cases Q with|lv _ h=>exact h|step h _ _=>exact absurd p h
 obtain⟨r,A,Z,b2,b3,b4,b6,E⟩:=W;have a:jl P (λu _=>u=A) (D k).x.1 (D k).x.2.heap:=⟨r,A,Z,b2,b3,b4,b6,rfl⟩;obtain⟨f,v,v',s,d,hs,hR,F,hH,hK,y⟩:=OA G T p a Ba;subst hR;have rp:RP S.h1.size (D k).X J.ty L.Wg L.C J.n L.off k w s:=.EG λc hc=>h.leaves l hK.h (λc hc=>(h.lay.x k c hc).1) hc;obtain⟨m,hp⟩:=V v' s (I.shape k i v _ f v' E F) rp;exact⟨f,v',m,_,s,d,hs,⟨hK.h.size,λc hc=>h.leaves l (X:=M) hK.h (λ_ x=>x) (.inr (.inl hc))⟩,h.SS l rfl z rfl hK.h hH (ay _) y (λ_=>.post rfl z o ⟨N,p,v,F,E,a⟩ hp) ⟨hK.left.os,hK.left.out⟩⟩
end
end
section
variable[ah]
open Go.Conc
open Go.ConcN (upd upd_same upd_ne WgLive PayAt Has RW WSit AsideCell OkW Ok0 CT Apart RelBy deafBehind_idle WD Mode CTag cnt)
open Go.ConcR (KK WgAt stA smA rd wr mk Payload Bk ofEvent_loc_mark ofEvent_cell)
section
variable{P:OF}[Payload]{S:cO}{L:cB}{J:dB}{j:Nat}{D:Nat->WS}{M:Nat->Prop}{gs:Array BE}{w w':rl}{t:aiX}{q:Nat->Nat}{d0:Nat}
def tE(L:cB)(e:aiK):Prop:=e.loc=.mark .disable\/e.loc=.mark .enable\/e.loc=.mark (.releaseMerge (stA L.Wg))\/∃a wr,e=⟨.cell a,wr,AT⟩/\a.block=L.Wg
omit [ah] in
def ND{L:cB}{e:aiK}(h:Bk L.Wg e):tE L e:=by
 rcases h with h|h|⟨a,wr,h1,d⟩
 ·exact .inl h
 ·exact .inr (.inl h)
 ·exact .inr (.inr (.inr ⟨a,wr,h1,d⟩))
def Eh{L:cB}{e:aiK}(h:tE L e){x:Touch}(d:(ail e).touch?=an x):L.Sh x.loc/\x.kind=.atomic:=by
 rcases h with h|h|h|⟨a,wr,rfl,h⟩
 ·rw[aiW h] at d;cases d
 ·rw[aiW h] at d;cases d
 ·rw[aiW h] at d;cases d
 ·rw[ofEvent_cell] at d;simp only[akz,Option.some.injEq] at d;subst d;exact⟨.inr ⟨a,rfl,h⟩,rfl⟩
def PL{L:cB}{e:aiK}(h:tE L e)(d:L.Wg<n):(ail e).low n:=by
 rcases h with h|h|h|⟨a,wr,rfl,h⟩
 ·rw[aiW h];trivial
 ·rw[aiW h];trivial
 ·rw[aiW h];exact d
 ·show a.block<n;omega
def NF{L:cB}{e:aiK}(h:tE L e):e.loc≠.mark (.release (stA L.Wg)):=by
 rcases h with h|h|h|⟨a,wr,rfl,h⟩
 ·simp_all
 ·simp_all
 ·simp_all
 ·simp
def Com.Tx(h:Com P S L J j D M gs w t q d0)(G:k<j){es:Array aiK}{d:WS}(I:d.X=(D k).X)(o:d.φ=(D k).φ)(p:d.x=(D k).x)
  (a:ajU L.Wg w w')(l:aiT J.ty L.Wg w')(f:∀e∈es,tE L e)(s:fD P S L J k d g' w')(m:aiJ (D k).deaf es=d.deaf)
  (hrel:d.stage<=6->∃r,RelBy (stA L.Wg) (t++aft (L.c0+k) fn pos es) (L.c0+k) r)(u:d.stage<=6->Has L.C (L.off+k) (J.pick d.val) w):
  Com P S L J j (TO D k d) M ((gs.map (woken P.two g g' w')).setIfInBounds (L.c0+k) g') w' (t++aft (L.c0+k) fn pos es) q d0:=by
 have N:=h.mem.mlt _ h.lay.Wg;have v:w.heap.size<=w'.heap.size:=by rw[a.size];exact ay _
 have z:∀i,RP S.h1.size (D i).X J.ty L.Wg L.C J.n L.off i w w':=λi=>.of_wg a l h.lay.ne N.1 λc hc=>(h.lay.x i c hc).2.2
 refine h.stepW G I s ?_ (λi _ _=>z i) (λi y e b c Q=>a.block c λx=>?_) v ?_ (λe he x p A=>absurd (Eh (f e he) p).1 A) (λe he=>PL (f e he) aa) (λe he=>NF (f e he)) m hrel
  (λA=>(z k).cell.trans (u A)) ((z k).pay h.pay) ⟨a.os,a.output⟩
 ·rw[sR (fT D) k o,sR (lR D) k (by rw[p];rfl)];exact h.mem.GY v (λc _ R=>a.block c λx=>R (x▸h.lay.Wg)) (λ_ x=>x) (λ_ x=>.inl x)
 ·rcases h.mem.image (k:=i) y Q with h1|⟨h1,_⟩
  ·exact h.mem.main i y c h1 (x▸h.lay.Wg)
  ·omega
 ·rw[sR (fT D) k o];refine h.ct.appW (tn h.mem h.lay) (k:=L.c0+k) (by have:=h.lay.c0;omega) aa λop E=>?_;obtain⟨e,he,rfl⟩:=jT E;refine⟨rfl,λx p=>.inl ?_⟩;obtain⟨h1,F⟩:=Eh (f e he) p;exact⟨h1,by rw[F];simp,by rw[F];simp⟩
end
end
section
variable[ah]
open Go.Conc
open Go.ConcN (upd upd_same upd_ne WgLive PayAt Has RW WSit AtR0 AsideCell OkW Ok0 CT Apart RelBy WD CTag cnt Vc OpenSt pend isW3 Vc_upd others_uncounted bk_cell le_sumTo)
open Go.ConcR (KK WgAt stA smA rd wr mk Payload Bk bk_of_mute ofEvent_loc_mark g_of_ofEvents)
def wd(D:Nat->WS)(k:Nat):WD:=⟨(D k).stage,(D k).fuel,(D k).deaf⟩
def tp(D:Nat->WS)(k:Nat)(d:WS):wd (TO D k d)=TO (wd D) k ⟨d.stage,d.fuel,d.deaf⟩:=by funext i;simp only[wd,TO];split<;>rfl
def AcqAll(L:cB)(j:Nat)(t:aiX):Prop:=
 ∃q,t.act? q=an (.mark (.acquire (stA L.Wg)))/\t.g? q=an 0/\t.heard q/\∀k,k<j->∃r,RelBy (stA L.Wg) t (L.c0+k) r/\r<q
omit [ah] in
def AcqAll.app{L:cB}{j:Nat}{t u:aiX}(h:AcqAll L j t)(hu:∀k r,k<j->RelBy (stA L.Wg) t (L.c0+k) r->RelBy (stA L.Wg) (t++u) (L.c0+k) r):AcqAll L j (t++u):=by obtain⟨q,h1,e,f,i⟩:=h;have hq:=lt_of_act? h1;exact⟨q,by rw[act?_old hq];exact h1,by rw[g?_old hq];exact e,(heard_old hq).2 f,λk d=>let⟨r,l,a⟩:=i k d;⟨r,hu k r d l,a⟩⟩
def G0(P:OF)(a d:WS):Prop:=
 (a.stage<d.stage/\a.x=d.x/\a.e<=d.e/\(5<=a.stage->5<=d.stage))\/(a.stage=d.stage/\((a.e<d.e/\a.x=d.x)\/(a.e=d.e/\(Nx P a.x d.x\/(a.x=d.x/\a.fuel+1=d.fuel)))))
section
variable{P:OF}[Payload]{S:cO}{L:cB}{J:dB}{j:Nat}{D:Nat->WS}{M:Nat->Prop}{gs:Array BE}{w:rl}{t:aiX}{q:Nat->Nat}{d0:Nat}
structure RS[Payload](N1:Nat)(M:Nat->Prop)(ty:SL)(Wg C n:Nat)(w w₁:rl):Prop where
 size:w.heap.size<=w₁.heap.size
 bK:∀c,(c<N1\/(M c/\c≠C/\c≠Wg))->w₁.heap[c]?=w.heap[c]?
 live:aiT ty Wg w->aiT ty Wg w₁
 pay:PayAt C n w->PayAt C n w₁
omit [ah] in
def RS.refl[Payload]{N1:Nat}{M:Nat->Prop}{ty:SL}{Wg C:Nat}(w:rl):RS N1 M ty Wg C n w w:=⟨ay _,λ_ _=>rfl,id,id⟩
omit [ah] in
def RS.trans[Payload]{N1:Nat}{M:Nat->Prop}{ty:SL}{Wg C n:Nat}{a b c:rl}(h:RS N1 M ty Wg C n a b)(k:RS N1 M ty Wg C n b c):RS N1 M ty Wg C n a c:=
 ⟨aQ h.size k.size,λx d=>(k.bK x d).trans (h.bK x d),k.live∘h.live,k.pay∘h.pay⟩
omit [ah] in
def RS.at[Payload]{N1:Nat}{M:Nat->Prop}{ty:SL}{Wg C:Nat}(w:rl)(d:Nat):RS N1 M ty Wg C n w (w.at d):=⟨ay _,λ_ _=>rfl,id,id⟩
abbrev mo[Payload](S:cO)(L:cB)(J:dB)(M:Nat->Prop):=RS S.h1.size M J.ty L.Wg L.C J.n
structure Kept(L:cB)(M:Nat->Prop)(w w':rl):Prop where
 size:w.heap.size<=w'.heap.size
 bK:∀c,M c->c≠L.C->c≠L.Wg->w'.heap[c]?=w.heap[c]?
def qD(P:OF)(S:cO)(L:cB)(J:dB)(j:Nat)(D:Nat->WS)(M:Nat->Prop)(gs:Array BE)(w:rl)(t:aiX)(q:Nat->Nat)(d0:Nat)(k:Nat)(g:BE)(tag:CTag):Prop:=
 ∃(g':BE)(w':rl)(es:Array aiK)(e:WS)(a d:Int),aiq P.two Ba g w=.go g' w' es/\
  Com P S L J j (TO D k e) M ((gs.map (woken P.two g g' w')).setIfInBounds (L.c0+k) g') w' (t++aft (L.c0+k) g.frame.fn g.frame.place es) q d0/\WgAt J.ty L.Wg w' a d/\
  (∀tag',(tag'=tag\/(tag=.blk/\tag'=.w3))->(mayWake P.two g=AT->g'.status=.running->tag'≠.blk)->aiH j (wd (TO D k e)) tag' a d)/\
  (tag=.ret->AcqAll L j (t++aft (L.c0+k) g.frame.fn g.frame.place es))/\G0 P e (D k)/\Kept L M w w'/\e.X=(D k).X
def ZV(hB:dz P)(hC:ef P)(hz:cN P)(hG:S.K.G=P.globals.size)(hF:dX P S.K)(ws:∀c c',¬ah.dL c c')(hJ:j8 P S J n)
  (h:Com P S L J j D M gs w t q d0){st sm:Int}{tag:CTag}(o:WgAt J.ty L.Wg w st sm)(p:aiH j (wd D) tag st sm)(F:k<j)(V:k<n)(W:fD P S L J k (D k) g w)(v:(D k).stage=7):
  qD P S L J j D M gs w t q d0 k g tag:=by
 have l:∀(R:WS),R.stage=7->∀a,(a=tag\/(tag=.blk/\a=.w3))->aiH j (wd (TO D k R)) a st sm:=λR e a y=>by rw[tp];have:=p.same (i:=k) R.fuel R.deaf;have e2:(wd D k).stage=R.stage:=v.trans e.symm;rw[e2] at this;exact this.retag y
 have T:=p.not_ret F (by show(D k).stage≠1;omega);have Z:=h.lay.ne;cases W with
 |pre he _ f UT hx N=>
  rcases iJ N with r|⟨m',hm,s⟩
  ·obtain⟨_,aha,b,B,A,⟨args,ha,ii⟩,hT⟩:=r w (RP.refl w);exact⟨_,w,#[],{D k with e:=2},st,sm,A,h.mG hB hJ F V v f UT hx ha ii hT,o,λa y _=>l _ (by exact v) a y,λe=>absurd e T,.inr ⟨rfl,.inl ⟨by show 2<_;omega,rfl⟩⟩,⟨ay _,λ_ _ _ _=>rfl⟩,rfl⟩
  ·obtain⟨g',w',es,A,z,Q⟩:=s w (RP.refl w);exact⟨g',w',es,{D k with fuel:=m'},st,sm,A,h.Gs F rfl rfl rfl v rfl z (.pre he v f UT hx Q),o.of_block (z.aside.block _ (iY Z)),λa y _=>l _ (by exact v) a y,λe=>absurd e T,.inr ⟨rfl,.inr ⟨rfl,.inr ⟨rfl,hm.symm⟩⟩⟩,⟨nf z.aside.size.symm,λc _ hc _=>z.aside.block c hc⟩,rfl⟩
 |@run b B he _ f hn hW z hT=>
  by_cases hl:Lv P (D k).x.1
  ·obtain⟨ψ,v',m,g',w',d,A,u,E⟩:=h.aeZ (fn:=g.frame.fn) (pos:=g.frame.place) hB hJ V F v f hn hW z hT hl;exact⟨g',w',d,_,st,sm,A,E,o.of_block (u.2 _ h.lay.Wg),λa y _=>l _ (by exact v) a y,λe=>absurd e T,.inr ⟨rfl,.inl ⟨by show 1<_;omega,rfl⟩⟩,⟨u.1,λc hc _ _=>u.2 c hc⟩,rfl⟩
  ·obtain⟨x',ψ,g',w',d,A,u,jt,E⟩:=h.agc (fn:=g.frame.fn) (pos:=g.frame.place) hB hC hz hG hF ws F he v f hn hW z hT hl;exact⟨g',w',d,_,st,sm,A,E,o.of_block (u.2 _ h.lay.Wg),λa y _=>l _ (by exact v) a y,λe=>absurd e T,.inr ⟨rfl,.inr ⟨rfl,.inl jt⟩⟩,⟨u.1,λc hc _ _=>u.2 c hc⟩,rfl⟩
 |post he _ f I N=>
  rcases iJ N with r|⟨m',hm,s⟩
  ·obtain⟨_,agd,g',A,m2,Do⟩:=r w (RP.refl w);have Cc:Deaf t (L.c0+k)=0:=by rw[h.deafW k F,f]
   refine⟨g',w,_,{D k with stage:=6,e:=0,fuel:=m2,deaf:=0},st,sm,A,h.Tx F rfl rfl rfl (.refl L.Wg w) ⟨st,sm,o⟩ (λe he=>?_) (.fL rfl (ay 6) I (.k1 Do)) ?_ (λ_=>⟨t.size,RelBy.new Cc _ _⟩) (λ_=>by simpa using agd),o,λa y _=>?_,λe=>absurd e T,.inl ⟨by show 6<_;omega,rfl,ez _,λ_=>aa⟩,⟨ay _,λ_ _ _ _=>rfl⟩,rfl⟩
   ·simp at he;subst he;exact .inr (.inr (.inl rfl))
   ·rw[f];rfl
   ·rw[tp];exact(p.counted F (by show 5<=(D k).stage;omega) (.inl rfl) _ _).retag y
  ·obtain⟨g',w',es,A,z,Q⟩:=s w (RP.refl w);exact⟨g',w',es,{D k with fuel:=m'},st,sm,A,h.Gs F rfl rfl rfl v rfl z (.post he v f I Q),o.of_block (z.aside.block _ (iY Z)),λa y _=>l _ (by exact v) a y,λe=>absurd e T,.inr ⟨rfl,.inr ⟨rfl,.inr ⟨rfl,hm.symm⟩⟩⟩,⟨nf z.aside.size.symm,λc _ hc _=>z.aside.block c hc⟩,rfl⟩
 |fL _ h6=>omega
end
end
section
variable[ah]
open Go.Conc
open Go.ConcN (upd upd_same upd_ne WgLive PayAt Has RW WSit AtR0 AsideCell OkW Ok0 CT Apart RelBy WD CTag cnt Vc OpenSt pend isW3 Vc_upd others_uncounted bk_cell le_sumTo)
open Go.ConcR (KK WgAt stA smA rd wr mk Payload Bk bk_of_mute ofEvent_loc_mark g_of_ofEvents)
section
variable{P:OF}[Payload]{S:cO}{L:cB}{J:dB}{j:Nat}{D:Nat->WS}{M:Nat->Prop}{gs:Array BE}{w:rl}{t:aiX}{q:Nat->Nat}{d0:Nat}
def PM(h:Com P S L J j D M gs w t q d0){st sm:Int}{tag:CTag}(li:WgAt J.ty L.Wg w st sm)(o:aiH j (wd D) tag st sm)(age:tag=.ret->AcqAll L j t)(hb:j+pend tag<2147483648)
  (F:k<j)(agf:fD P S L J k (D k) g w)(h6:(D k).stage<=6)(tF:g.status=.running):qD P S L J j D M gs w t q d0 k g tag:=by
 cases agf with
 |pre _ h7=>omega
 |run _ h7=>omega
 |post _ h7=>omega
 |fL he _ wH hs=>
 generalize ii:(D k).stage=s at hs;generalize hfu:(D k).fuel=m at hs;generalize UU:(D k).deaf=dd at hs;have u:(wd D k).stage=s:=ii;have Cc:Deaf t (L.c0+k)=dd:=by rw[h.deafW k F,UU]
 have SU:∀{g':BE}{w':rl}{es:Array aiK}{V I dd':Nat}{R T:Int},aiq P.two Ba g w=.go g' w' es->ajU L.Wg w w'->WgAt J.ty L.Wg w' R T->(∀e∈es,Bk L.Wg e)->
   (∀A e,es[A]?=an e->(ail e).touch?=ns\/0<aiJ dd (es.extract 0 A))->WSit P.two J.ty L.Wg L.C J.n pB pB 0 (L.off+k+1) (J.pick (D k).val) V I dd' g' w'->aiJ dd es=dd'->V<=6->
   (∀y,(y=tag\/(tag=.blk/\y=.w3))->(mayWake P.two g=AT->g'.status=.running->y≠.blk)->aiH j (TO (wd D) k ⟨V,I,dd'⟩) y R T)->(tag=.ret->AcqAll L j (t++aft (L.c0+k) g.frame.fn g.frame.place es))->((V<s/\(5<=V->5<=s))\/(V=s/\I+1=m))->
   qD P S L J j D M gs w t q d0 k g tag:=by
  intro g' w' es V I dd' R T d xA By W hd xB hdd Cd N Z aV;refine⟨g',w',es,{D k with stage:=V,fuel:=I,deaf:=dd'},R,T,d,h.Tx F rfl rfl rfl xA ⟨R,T,By⟩ (λe he=>ND (W e he)) (.fL he Cd wH xB) (by rw[UU];exact hdd) (λ_=>?_) λ_=>h.has k F h6,By,λy ht hw=>by rw[tp];exact N y ht hw,Z,?_,⟨nf xA.size.symm,λc _ _ hc=>xA.block c hc⟩,rfl⟩
  ·obtain⟨r,hr⟩:=h.rel k F h6;exact⟨r,Go.ConcN.RelBy.book (Wg:=L.Wg) hr Cc _ _ W hd⟩
  ·rcases aV with⟨h1,h2⟩|⟨h1,h2⟩
   ·exact .inl ⟨by show V<(D k).stage;omega,rfl,ay _,λx=>by have:=h2 x;omega⟩
   ·exact .inr ⟨h1.trans ii.symm,.inr ⟨rfl,.inr ⟨rfl,h2.trans hfu.symm⟩⟩⟩
 have z:∀{g':BE}{w':rl}{es:Array aiK}{V I dd':Nat}{R T:Int},aiq P.two Ba g w=.go g' w' es->ajU L.Wg w w'->WgAt J.ty L.Wg w' R T->(∀e∈es,Bk L.Wg e)->
   (∀A e,es[A]?=an e->(ail e).touch?=ns\/0<aiJ dd (es.extract 0 A))->WSit P.two J.ty L.Wg L.C J.n pB pB 0 (L.off+k+1) (J.pick (D k).val) V I dd' g' w'->aiJ dd es=dd'->V<=6->
   aiH j (TO (wd D) k ⟨V,I,dd'⟩) tag R T->(tag=.ret->AcqAll L j (t++aft (L.c0+k) g.frame.fn g.frame.place es))->((V<s/\(5<=V->5<=s))\/(V=s/\I+1=m))->
   qD P S L J j D M gs w t q d0 k g tag:=
  λd xA By W hd xB hdd Cd N Z aV=>SU d xA By W hd xB hdd Cd (λ_ ht _=>N.retag ht) Z aV
 have idle:∀{g':BE}{I:Nat},aiq P.two Ba g w=.go g' w #[]->WSit P.two J.ty L.Wg L.C J.n pB pB 0 (L.off+k+1) (J.pick (D k).val) s I dd g' w->I+1=m->s≠1->qD P S L J j D M gs w t q d0 k g tag:=by intro g' I d xB hm h1;exact z d (.refl L.Wg w) li au au xB rfl aa (by have:=o.same (i:=k) I dd;rwa[u] at this) (λe=>absurd e (o.not_ret F (by rw[u];omega))) (.inr ⟨rfl,hm⟩)
 have nr:s≠1->tag≠.ret:=λh=>o.not_ret F (by rw[u];omega);cases hs with
 |r0 h=>omega
 |k1 h=>
  rcases iJ h with p|⟨I,rfl,l⟩
  ·obtain⟨_,g',d,G,Do⟩:=p w (lC w)
   exact z d (.refl L.Wg w) li (by intro e he;simp at he;subst he;exact .inl rfl) (by intro A e he;exact .inl (by have:=lB he;simp at this;subst this;rfl)) (.d1 Do) rfl aa
    (o.counted F (by rw[u];omega) (.inr rfl) _ _) (λe=>absurd e (nr aa)) (.inl ⟨aa,λ_=>aa⟩)
  ·obtain⟨g',w',es,d,⟨rfl,rfl⟩,Q⟩:=l w (lC w);exact idle d (.k1 Q) rfl aa
 |d1 h=>
  rcases iJ h with p|⟨I,rfl,l⟩
  ·obtain⟨_,qP⟩:=p w (lC w);have X':cnt (wd D k)=1:=by simp[cnt,u]
   have hV1:1<=Vc j (wd D):=by have:=le_sumTo (f:=λx=>cnt (wd D x)) F;simp only[Vc];omega
   have hVj:=Go.ConcN.Vc_le j (wd D);have bk2:∀e∈#[rd (stA L.Wg),wr (stA L.Wg)],Bk L.Wg e:=by intro e he;simp at he;rcases he with rfl|rfl<;>exact bk_cell _ _ rfl
   have IP:∀A e,(#[rd (stA L.Wg),wr (stA L.Wg)]:Array aiK)[A]?=an e->(ail e).touch?=ns\/0<aiJ 1 ((#[rd (stA L.Wg),wr (stA L.Wg)]:Array aiK).extract 0 A):=by
    intro A e he
    match A,he with
    |0,_=>exact .inr (by simp[aiJ])
    |1,_=>exact .inr (by simp[aiJ,rd])
    |A+2,he=>simp at he
   have tR:∀q,cnt (⟨1,q,1⟩:WD)=0:=λ_=>rfl
   have UW:∀q,OpenSt j (wd D)->OpenSt j (TO (wd D) k ⟨1,q,1⟩):=λq h a ha=>by
    by_cases e:a=k
    ·subst e;rw[aix];simp
    ·rw[upd_ne (wd D) _ e];exact h a ha
   cases o with
   |opn h1 h2 h3=>
    obtain⟨v,hv⟩:∃v,Vc j (wd D)+pend tag=v+1:=⟨Vc j (wd D)+pend tag-1,aa⟩;rw[hv] at li;have xz:WgAt J.ty L.Wg w (((v:Nat)+1)*KK+((0:Nat):Int)) 0:=uL;obtain⟨g',d,_,hq⟩:=qP v 0 aa aa xz;obtain⟨q,hq⟩:=hq aa;have pC:Vc j (TO (wd D) k ⟨1,q,1⟩)+pend tag=v:=by have:=Vc_upd (wd D) (⟨1,q,1⟩:WD) F;have:=tR q;omega
    refine z d (ajQ w (stA L.Wg) _) (li.setSt _) bk2 IP (.quit hq) rfl aa ?_ (λe=>absurd e (nr aa)) (.inl ⟨aa,λ_=>aa⟩);have e:((v:Nat):Int)*KK+((0:Nat):Int)=((Vc j (TO (wd D) k ⟨1,q,1⟩)+pend tag:Nat):Int)*KK:=by rw[pC];simp
    rw[e];exact .opn h1 (UW q h2) (λvs ev=>by have:=h3 vs ev;omega)
   |reg h1 h2 h3=>
    obtain⟨v,hv⟩:∃v,Vc j (wd D)=v+1:=⟨Vc j (wd D)-1,aa⟩;rw[hv] at li;have hp:pend tag=0:=by cases tag<;>first|rfl|exact h1.elim
    have xz:WgAt J.ty L.Wg w (((v:Nat)+1)*KK+((1:Nat):Int)) 0:=uL;obtain⟨g',d,hl,hq⟩:=qP v 1 aa aa xz;by_cases IQ:v=0
    ·subst IQ;obtain⟨G,Do⟩:=hl ⟨rfl,rfl⟩;refine z d (ajQ w (stA L.Wg) _) (li.setSt _) bk2 IP (.d2 Do) rfl aa ?_ (λe=>absurd e (nr aa)) (.inl ⟨aa,λ_=>aa⟩)
     have E:∀a,a<j->a≠k->(wd D a).stage=1:=λa ha e=>by have c0:=others_uncounted F hv X' a ha e;have:=h2 a ha;simp only[cnt] at c0;split at c0<;>omega
     have:=Go.ConcN.Mode.last (j:=j) (D:=TO (wd D) k ⟨4,G,1⟩) (tag:=tag) k h1 F (by rw[aix];simp) (λa ha e=>by rw[upd_ne (wd D) _ e];exact E a ha e);rw[aix] at this;simpa using this
    ·obtain⟨q,hq⟩:=hq aa;have pC:Vc j (TO (wd D) k ⟨1,q,1⟩)=v:=by have:=Vc_upd (wd D) (⟨1,q,1⟩:WD) F;have:=tR q;omega
     refine z d (ajQ w (stA L.Wg) _) (li.setSt _) bk2 IP (.quit hq) rfl aa ?_ (λe=>absurd e (nr aa)) (.inl ⟨aa,λ_=>aa⟩);have e:((v:Nat):Int)*KK+((1:Nat):Int)=((Vc j (TO (wd D) k ⟨1,q,1⟩):Nat):Int)*KK+1:=by rw[pC];simp
     rw[e];exact .reg h1 (UW q h2) aa
   |last Lx _ h2 h3 h4=>
    by_cases e:k=Lx
    ·subst e;omega
    ·have:=h4 k F e;omega
   |sema h2=>have:=h2 k F;omega
   |fin _ h2=>have:=h2 k F;omega
  ·obtain⟨g',w',es,d,⟨rfl,rfl⟩,Q⟩:=l w (lC w);exact idle d (.d1 Q) rfl aa
 |d2 h=>
  rcases iJ h with p|⟨I,rfl,l⟩
  ·obtain⟨_,hx⟩:=p w (lC w);obtain⟨rD,E,rfl,rfl⟩:=o.isLast F aa;simp only[u] at li;obtain⟨g',d,G,Do⟩:=hx uL;refine z d (.refl L.Wg w) li (by intro e he;simp at he;subst he;exact bk_cell _ _ rfl) (by intro A e he;match A,he with|0,_=>exact .inr (by simp[aiJ])|A+1,he=>simp at he) (.d3 Do) rfl aa ?_ (λe=>absurd e (nr aa)) (.inl ⟨aa,λ_=>aa⟩);have:=Go.ConcN.Mode.last (j:=j) (D:=TO (wd D) k ⟨3,G,1⟩) (tag:=tag) k rD F (by rw[aix];simp) (λa ha e=>by rw[upd_ne (wd D) _ e];exact E a ha e);rw[aix] at this;simpa using this
  ·obtain⟨g',w',es,d,⟨rfl,rfl⟩,Q⟩:=l w (lC w);exact idle d (.d2 Q) rfl aa
 |d3 h=>
  rcases iJ h with p|⟨I,rfl,l⟩
  ·obtain⟨_,hx⟩:=p w (lC w);obtain⟨rD,E,rfl,rfl⟩:=o.isLast F aa;simp only[u] at li;obtain⟨g',d,G,Do⟩:=hx uL;refine z d (ajQ w (stA L.Wg) _) (li.setSt 0) (by intro e he;simp at he;subst he;exact bk_cell _ _ rfl) (by intro A e he;match A,he with|0,_=>exact .inr (by simp[aiJ])|A+1,he=>simp at he) (.d4 Do) rfl aa ?_ (λe=>absurd e (nr aa)) (.inl ⟨aa,λ_=>aa⟩);have:=Go.ConcN.Mode.last (j:=j) (D:=TO (wd D) k ⟨2,G,1⟩) (tag:=tag) k rD F (by rw[aix];simp) (λa ha e=>by rw[upd_ne (wd D) _ e];exact E a ha e);rw[aix] at this;simpa using this
  ·obtain⟨g',w',es,d,⟨rfl,rfl⟩,Q⟩:=l w (lC w);exact idle d (.d3 Q) rfl aa
 |d4 h=>
  rcases iJ h with p|⟨I,rfl,l⟩
  ·obtain⟨_,hmw,hx⟩:=p w (lC w);obtain⟨rD,E,rfl,rfl⟩:=o.isLast F aa;simp only[u] at li;obtain⟨g',d,q,hq⟩:=hx uL
   have ae0:g'.status=.running:=by cases q with|zero=>exact absurd hq.2 aw|succ q=>exact hq.elim (λx=>absurd x.2 aw) (λx=>x.1)
   refine SU d (ajQ w (smA L.Wg) _) (li.setSm 1) (es:=semEvents (smA L.Wg)) ?_ ?_ (.quit hq) CL aa ?_ (λe=>absurd e (nr aa)) (.inl ⟨aa,λ_=>aa⟩)
   ·intro e he;simp[semEvents] at he;rcases he with rfl|rfl|rfl|rfl
    ·exact .inl rfl
    ·exact bk_cell _ _ rfl
    ·exact bk_cell _ _ rfl
    ·exact .inr (.inl rfl)
   ·intro A e he
    match A,he with
    |0,he=>simp[semEvents] at he;subst he;exact .inl rfl
    |1,_=>exact .inr CL
    |2,_=>exact .inr CL
    |3,he=>simp[semEvents] at he;subst he;exact .inl rfl
    |A+4,he=>simp[semEvents] at he
   ·intro y ht hw;have hnb:=hw hmw ae0
    have e3:y=.w3:=by
     rcases ht with rfl|⟨_,rfl⟩
     ·cases y<;>first|rfl|exact rD.elim|exact absurd rfl hnb
     ·rfl
    subst e3;simp only[if_true]
    exact .sema λa ha=>by
     by_cases e:a=k
     ·subst e;rw[aix]
     ·rw[upd_ne (wd D) _ e];exact E a ha e
  ·obtain⟨g',w',es,d,⟨rfl,rfl⟩,Q⟩:=l w (lC w);exact idle d (.d4 Q) rfl aa
 |quit h=>
  cases m with
  |zero=>rw[h.1] at tF;cases tF
  |succ q=>
   rcases h with⟨hf,_⟩|⟨_,g',es,Gt,l,hq⟩
   ·rw[hf] at tF;cases tF
   ·have W:∀e∈es,Bk L.Wg e:=λe he=>bk_of_mute (Gt e he)
    have rC:∀A e,es[A]?=an e->(ail e).touch?=ns\/0<aiJ dd (es.extract 0 A):=λA e he=>.inl (by
     rcases bk_of_mute (Wg:=L.Wg) (Gt e (lB he)) with h1|h1|⟨a,wr,rfl,_⟩
     ·rw[aiW h1];rfl
     ·rw[aiW h1];rfl
     ·have:=Gt _ (lB he);simp[Event.mute] at this)
    refine z (l w) (.refl L.Wg w) li W rC (.quit hq) rfl aa (by have:=o.same (i:=k) q (aiJ dd es);rwa[u] at this) (λe=>(age e).app λi' r hi' hr=>?_) (.inr ⟨rfl,rfl⟩);by_cases e':i'=k
    ·subst e';exact Go.ConcN.RelBy.book (Wg:=L.Wg) hr Cc _ _ W rC
    ·exact zi hr ajy aa
end
end
end Go.Proofs.Q0.aM
