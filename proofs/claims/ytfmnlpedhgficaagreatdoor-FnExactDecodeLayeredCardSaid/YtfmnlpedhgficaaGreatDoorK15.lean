import Derived.Test.YtfmnlpedhgficaaGreatDoorK14
import Derived.Conc.Own
import Derived.Conc.Listed
import Derived.Conc.Events
set_option maxRecDepth 100000
set_option maxHeartbeats 8000000
set_option linter.all false
open Go.Value renaming int->U,slice->Y,bool->a5,agg->a9,pointer->bi,tuple->ci,iface->em
open Go.IntKind renaming i64->O
open Go.Obj renaming cells->ac
open Go.Ending renaming returned->be
open Bool renaming false->Bz,true->AT
open Go renaming Code->akA,Event->akh,Frame->ajs,FuncId->alo,Goroutine->BE,Operand->ajR,Program->NO,Value->so,World->AS,stepG->ajM,unwind->alN
open Go.Frame renaming enter->ajC
open Go.Instr renaming enterLoop->alB,takeDeferred->alJ
open Go.Sem renaming run_bind->ajy
open Go.stepG renaming exec->alu
open Option renaming none->ns,some->an
namespace Go.Proofs
def Mw{p:Prop}(h:p:=by
  rcases k.fresh x y hx with h1|⟨h1,h2⟩
  ·exact h.fresh x y h1
  ·exact .inr ⟨aa,aI h.size h2⟩):p:=h
def Mx{p:Prop}(h:p:=by
  rw[k.apart x (Nat.lt_of_lt_of_le hx h.size) λy hy=>?_,h.apart x hx hn];rcases h.fresh y x hy with h1|⟨_,h2⟩
  ·simp_all
  ·omega):p:=h
end Go.Proofs
namespace Go.Proofs.Q0.aL
variable{f:alo}{cs:List ajs}{fr:ajs}{w w' w1:AS}{P:NO}{g g1:BE}
section
variable[ag]
section
variable{P:NO}{K:aH}{φ:Ren}
def acE(id:Nat){s:Bool}{xs ys:List Item}(h:gW P φ f s xs ys):(exitTo id xs=ns/\(s=Bz->exitTo id ys=ns))\/∃a b,exitTo id xs=an a/\exitTo id ys=an b/\gW P φ f s a b:=by
 induction h with
 |stop e=>exact .inl ⟨rfl,λd=>by rw[e] at d;cases d⟩
 |nil=>exact .inl ⟨rfl,λ_=>rfl⟩
 |cons h k i=>
  cases h with
  |inBlock j=>
   unfold exitTo;split
   ·simp_all
   ·exact i
  |_=>exact i
def Eg{f:alo}(l:Nat):∀(c:akA)(r:akA),findLabel c l=an r->eF P f c->eF P f r
 |.seq a b,r,h,hc=>by
  unfold findLabel at h;cases d:findLabel a l with
  |none=>rw[d] at h;exact Eg l b r h hc.2
  |some x=>rw[d] at h;cases h;exact⟨Eg l a x d hc.1,hc.2⟩
 |.label e,r,h,_=>by
  unfold findLabel at h;split at h
  ·cases h;trivial
  ·cases h
 |.skip,r,h,_=>by cases h
 |.region _ _ _,r,h,_=>by cases h
 |.cond _ _ _,r,h,_=>by cases h
 |.block _ _,r,h,_=>by cases h
 |.loop _,r,h,_=>by cases h
 |.rangeFunc _ _ _ _,r,h,_=>by cases h
 |.exit _,r,h,_=>by cases h
 |.scope _,r,h,_=>by cases h
 |.goto _,r,h,_=>by cases h
 |.ret,r,h,_=>by cases h
 |.refuse _,r,h,_=>by cases h
def acF(l:Nat){s:Bool}{xs ys:List Item}(h:gW P φ f s xs ys):(gotoIn l xs=ns/\(s=Bz->gotoIn l ys=ns))\/∃a b,gotoIn l xs=an a/\gotoIn l ys=an b/\gW P φ f s a b:=by
 induction h with
 |stop e=>exact .inl ⟨rfl,λd=>by rw[e] at d;cases d⟩
 |nil=>exact .inl ⟨rfl,λ_=>rfl⟩
 |cons h k i=>
  cases h with
  |@inScope body j=>unfold gotoIn;cases n:findLabel body l with|none=>exact i|some r=>exact .inr ⟨_,_,rfl,rfl,.cons (.code (.same (Eg l body r n j))) (.cons (.inScope j) k)⟩
  |_=>exact i
def qD(s:Nat->Prop):ResultVar->Prop
 |.tmp t=>s t
 |.cell a _=>s a
def dA(P:NO):Prop:=∀f,pv f->∃fn a,P.funcs[f]?=an fn/\P.two.funcs[f]?=an a/\a.results=fn.results/\a.ntmps=fn.ntmps/\(∀r∈fn.results,qD (ag.lv f) r)/\(∀i,ag.lv f i->i<fn.ntmps)/\
 iz P f AT (fn.body.getD (.refuse "unsupported: a function without a Go body is entered")) (a.body.getD (.refuse "unsupported: a function without a Go body is entered"))
def ee(P:NO):Prop:=∀f c,ag.cd f c->eF P f c
def wA(hB:dA P){f:alo}(d:ag.ok f){xs ys:Array so}(h:aw φ xs ys):eX P φ (ajC P f xs .normal) (ajC P.two f ys .normal):=by
 obtain⟨fn,j,k,l,o,n,_,b,hB⟩:=hB f d;unfold ajC;rw[k,l];refine⟨rfl,?_,.cons (.code hB) .nil,.nil,.run,⟨rfl,rfl⟩,.none,d⟩;simp only[Option.map_some,Option.getD_some];rw[n,h.size];refine(h.append ⟨rfl,λi x y a e=>?_⟩).tmR λi hi=>by have:=b i hi;have:=h.size;simp;omega
 rw[a] at e;cases e;rw[Array.getElem?_replicate] at a;split at a
 ·cases a;exact Ao
 ·cases a
def aei(hC:ee P){l d:Nat}(e:φ l=an d){xs ys:Array so}(h:cT φ (ag.lv f) xs ys){a b:akA}(i:ag.cd f a)(j:ag.cd f b)(k:pv f):eX P φ (Frame.round l f xs a b .normal) (Frame.round d f ys a b .normal):=
 ⟨rfl,h,.cons (.code (.same (hC f a i))) (.cons .beginRound (.cons (.code (.same (hC f b j))) .nil)),.nil,.run,⟨rfl,rfl⟩,.some e,k⟩
end
end
section
variable[ag]
open Go.Conc (G)
section
variable{P:NO}{K:aH}{φ:Ren}
def Rz{a:Ren}{p:ResultVar->Prop}{f f':ResultVar->Sem so}(h:∀(φ:Ren),Ren.le a φ->∀r,p r->SR P K VR φ (f r) (f' r)):∀(l:List ResultVar)(φ:Ren),(∀r∈l,p r)->Ren.le a φ->SR P K iy φ (l.mapM f) (l.mapM f')
 |[],φ,_,_=>by simp only[List.mapM_nil];exact .pure .nil
 |r::l,φ,i,b=>by simp only[List.mapM_cons];refine SR.bind (h φ b r (i r aj)) λj v v' d hv=>?_;exact SR.bind (Rz h l j (λx k=>i x (by simp[k])) (Ren.le_trans b d)) λo vs n b e=>.pure (.cons (hv.mono b) e)
def EG(fn:Func){s:Nat->Prop}(b:∀r∈fn.results,qD s r){xs ys:Array so}(h:cT φ s xs ys):SR P K VR φ (results fn xs) (results fn ys):=by
 unfold results;rw[Array.mapM_eq_mapM_toList,Array.mapM_eq_mapM_toList];refine SR.bind (R:=aw) (SR.bind (Rz (p:=qD s) (λi j r d=>?_) _ φ (λr d=>b r (jI.1 d)) (Ren.le_refl _)) λi k e _ hv=>.pure hv.toArray) λi k e _ hv=>?_
 ·cases r with
  |tmp t=>exact .pure ((h.mono j).getD t d)
  |cell a t=>exact SR.bind (vS ((h.mono j).getD a d)) λl u n _ hu=>vJ t hu
 ·refine .pure ?_;have b:=hv.size;split
  ·rename_i h1;rw[dif_pos (by rw[<-b];exact h1)];exact hv.at_ 0 _ _ (eQ aa) (eQ aa)
  ·rename_i h1;rw[dif_neg (by rw[<-b];exact h1)];exact .tuple hv.size hv.at_
end
end
section
variable[ag]
open Go.Conc (G)
def lO:ajs->List ajs->Prop
 |fr,[]=>fr.roundOf=ns
 |_,c::cs=>lO c cs
section
omit [ag]
def lO.congr{a:ajs}(h:lO fr cs)(e:a.roundOf=fr.roundOf):lO a cs:=by cases cs with|nil=>exact e.trans h|cons c cs=>exact h
def vE(fr:ajs)(v:so):(fr.finish v).roundOf=fr.roundOf:=by unfold Frame.finish;split<;>rfl
def raise_mode(fr:ajs)(vs:List PanicEntry):∃c,fr.raise vs={fr with mode:=.panicking c}:=by unfold Frame.raise;split<;>exact⟨_,rfl⟩
abbrev mK:=ajs×List ajs
def Uq(P:NO)(fr:ajs)(cs:List ajs):Next->Sem mK
 |.value v=>pure (fr.finish v,cs)
 |.skip=>pure (fr.finish undef,cs)
 |.enter f a=>pure (ajC P f a .normal,fr::cs)
 |.round l f ts a b=>pure (Frame.round l f ts a b .normal,fr::cs)
 |_=>.halt .blocked
def qt(P:NO)(fr:ajs)(cs:List ajs)(s:Sem Next):Sem mK:=s>>=Uq P fr cs
def l4(fr:ajs)(cs:List ajs)(j:Option akA):Sem mK:=
 match fr.roundOf with
 |none=>match j with|none|some .ret=>pure ({fr with mode:=.returning,roundOf:=ns},cs)|_=>stuck ""
 |some l=>Instr.endRound l j>>=λv=>match cs with|[]=>.halt .blocked|c::rest=>pure (c.finish v,rest)
def sY(a:ajR->so)(f:ajR)(l:Nat):Sem Next:=do
 let d<-resolve a {callee:=.value f,args:=#[.const (.func (.yield l) #[] #[])],argTypes:=#[]} 0
 invoke d.target d.args
def GW(P:NO)(fr:ajs)(cs:List ajs)(a:Array Oper)(i:Nat):Sem mK:=
 match a[i]? with
 |none=>stuck ""
 |some o=>match o.op with|.defer _=>.halt .blocked|_=>qt P fr cs (execOp fr.eval o)
def nX(P:NO)(fr:ajs)(cs:List ajs):Sem mK:=
 let t9 (t:List Item):Sem mK:=pure ({fr with todo:=t},cs)
 match fr.todo with
 |[]=>l4 fr cs ns
 |x::k=>match x with
  |.inBlock _|.inScope _|.inRegion _ []=>t9 k
  |.inLoop b=>t9 (.code b::.inLoop b::k)
  |.inRangeFunc _=>stuck ""
  |.beginRound=>qt P fr cs (do fr.roundOf.elim (stuck "beginRound: no round") Instr.beginRound;pure .skip)
  |.endRangeFunc l=>Instr.endLoop l>>=λj=>t9 ((j.map Item.code).toList++k)
  |.inRegion d (i::_)=>if((d[i]?).map (Region.wanted · (yielded d fr.tmps))).getD Bz then GW P fr cs d i else pure (fr.finish undef,cs)
  |.call .. |.extern .. =>.halt .blocked
  |.code c=>match c with
   |.ret=>l4 fr cs (an .ret)
   |.skip|.label _=>t9 k
   |.seq a b=>t9 (.code a::.code b::k)
   |.cond c a b=>match fr.eval c with|.bool t=>t9 (.code (if t then a else b)::k)|_=>stuck ""
   |.block id b=>t9 (.code b::.inBlock id::k)
   |.loop b=>t9 (.code b::.inLoop b::k)
   |.scope b=>t9 (.code b::.inScope b::k)
   |.exit id=>(exitTo id k).elim (l4 fr cs (an (.exit id))) t9
   |.goto l=>(gotoIn l k).elim (l4 fr cs (an (.goto l))) t9
   |.refuse _=>stuck ""
   |.region id d e=>if !e then t9 (.inRegion d (List.range d.size)::k) else choose (.order fr.fn id)>>=λt=>t9 (.inRegion d (Region.schedule (P.follows .mixedOrders) d t)::k)
   |.rangeFunc f h a b=>alB fr.fn fr.tmps h a b fr.roundOf>>=λ(l,mk)=>qt P {fr with todo:=.inRangeFunc l::k,defers:=mk++fr.defers} cs (sY ({fr with todo:=.inRangeFunc l::k,defers:=mk++fr.defers}:ajs).eval f l)
def Ga(P:NO)(fr:ajs)(cs:List ajs):Sem mK:=
 match fr.defers with
 |{target:=.collected r,..}::a=>alJ r>>=λc=>pure ({fr with defers:=c++a},cs)
 |_::_=>.halt .blocked
 |[]=>match cs,P.funcs[fr.fn]? with
  |c::rest,an fn=>results fn fr.tmps>>=λv=>pure (c.finish v,rest)
  |_,_=>.halt .blocked
def pw(P:NO)(fr:ajs)(cs:List ajs):Sem mK:=match fr.mode with
 |.run=>nX P fr cs
 |.returning=>Ga P fr cs
 |_=>.halt .blocked
def Jg(P:NO)(fr:ajs)(w:AS)(f:ajs)(w1:AS):Prop:=f=fr\/fr.mode=.run/\∃g d a b k l mk w2 x,fr.todo=.code (.rangeFunc g d a b)::k/\(alB fr.fn fr.tmps d a b fr.roundOf).run P w=.ok (l,mk) w2/\
 f={fr with todo:=.inRangeFunc l::k,defers:=mk++fr.defers}/\(sY f.eval g l).run P w2=.halt x w1
def Is(P:NO)(B cs:List ajs)(O:ajs->AS->Prop)(s:Sem mK)(g:GStep)(w:AS):Prop:=
 match s.run P w with
 |.ok x w1=>∃es,g=.go (G x.1 (x.2++B)) w1 es/\∀e∈es,e∈s.events P w #[]
 |.halt x w1=>lh x->(∃o w2 es,g=.ended o w2 es)\/∃f c es,g=.go (G {f with mode:=.panicking c} (cs++B)) w1 es/\O f w1
section
variable{P:NO}{B cs:List ajs}{O:ajs->AS->Prop}{w:AS}{fr:ajs}{m:Bool}
def Is.of{f:ajs}{c:List ajs}:Is P B cs O (pure (f,c)) (.go (G f (c++B)) w) w:=⟨#[],rfl,aj⟩
def Is.lost{o:Outcome}{w2:AS}{es:Array akh}{a:String}:Is P B cs O (stuck a) (.ended o w2 es) w:=λ_=>.inl ⟨o,w2,es,rfl⟩
def Is.no{g:GStep}:Is P B cs O (.halt .blocked) g w:=λh=>h.elim
def Is.bind{α:Type}{s:Sem α}{k:α->Sem mK}{fn:alo}{M:Result α->GStep}(i:∀a w2,s.run P w=.ok a w2->Is P B cs O (k a) (M (.ok a w2)) w2)
  (j:∀x w2,s.run P w=.halt x w2->(∃o w3 es,M (.halt x w2)=.ended o w3 es)\/∃f c es,M (.halt x w2)=.go (G {f with mode:=.panicking c} (cs++B)) w2 es/\O f w2):
  Is P B cs O (s>>=k) (GStep.after (seen P fn (s.runT P w #[]).2) (M (s.runT P w #[]).1)) w:=by
 have e:=Sem.events_bind P w #[] s k;unfold Is;rw[ajy,Sem.runT_fst];cases b:s.run P w with
 |halt x w2=>
  intro _;rcases j x w2 b with⟨o,w3,es,h⟩|⟨f,c,es,h,d⟩<;>rw[h]
  ·exact .inl ⟨_,_,_,rfl⟩
  ·exact .inr ⟨_,_,_,rfl,d⟩
 |ok a w2=>
  have:=i a w2 b;unfold Is at this;rw[b] at e;simp only[Result.andThen_ok,Result.evThen_ok] at e⊢;cases hq:(k a).run P w2 with
  |ok x w3=>rw[hq] at this;obtain⟨es,h1,l⟩:=this;refine⟨_,by rw[h1];rfl,λev he=>?_⟩;rw[e,Sem.events_acc,Array.mem_append];exact(j7.1 he).imp (λh=>Go.Conc.mem_seen h) (l ev)
  |halt x w3=>
   rw[hq] at this;intro n;rcases this n with⟨o,w3,es,h⟩|⟨f,c,es,h,d⟩<;>rw[h]
   ·exact .inl ⟨_,_,_,rfl⟩
   ·exact .inr ⟨_,_,_,rfl,d⟩
def FH(l:fr.kind=.normal)(d:(match fr.todo with|.call _ AT _ _::_=>CallKind.wrapped|_=>.normal)=.normal){s:Sem Next}(o:∀x w1,s.run P w=.halt x w1->O fr w1):
  Is P B cs O (qt P fr cs s) (stepG.apply P AT fr (cs++B) ns s w) w:=by
 have b:(fr.kind==CallKind.early)=Bz:=by rw[l];rfl
 have e:=Sem.events_bind P w #[] s (Uq P fr cs);have h1:=pM P s w #[];unfold Is qt stepG.apply;rw[ajy];unfold Sem.events at e;generalize s.runT P w #[]=q at h1 e;obtain⟨q1,es⟩:=q;simp only at h1;subst h1;simp only[if_true,b,Bool.false_eq_true,if_false,d];cases i:s.run P w with
 |halt x w1=>
  intro j;cases x with
  |panic v=>obtain⟨c,hc⟩:=raise_mode fr [{v,recovered:=Bz}];exact .inr ⟨fr,c,_,by rw[<-hc];rfl,o _ _ i⟩
  |stuck m=>exact .inl ⟨_,_,_,rfl⟩
  |unsupported u=>cases u<;>first|exact j.elim|exact .inl ⟨_,_,_,rfl⟩
  |_=>exact j.elim
 |ok n w1=>
  rw[i] at e;have mem:∀ev,ev∈seen P fr.fn es++#[]->ev∈es:=λev he=>Go.Conc.mem_seen (P:=P) (fn:=fr.fn) (by simpa using he);cases n with
  |value|skip|round=>exact⟨_,rfl,λev he=>by unfold Sem.events;rw[e];exact mem ev he⟩
  |enter f a=>exact⟨_,congrArg (λk=>GStep.go (G (ajC P f a k) (fr::(cs++B))) w1 _) d,λev he=>by unfold Sem.events;rw[e];exact mem ev he⟩
  |_=>exactλh=>h.elim
def raised{vs:List PanicEntry}{L:List ajs}(a:O fr w):∃f c es,GStep.go (G (fr.raise vs) L) w=.go (G {f with mode:=.panicking c} L) w es/\O f w:=by obtain⟨c,hc⟩:=raise_mode fr vs;exact⟨fr,c,#[],by rw[hc],a⟩
def Ap(a:fr.kind=.normal)(j:Option akA)(b:O fr w):
  Is P B cs O (l4 fr cs j) (match fr.roundOf with
   |none=>if j matches ns|some .ret then .go (G {fr with mode:=.returning} (cs++B)) w else .ended (.stuck "exit, goto: no such block or label" (fr.pos P)) w
   |some l=>GStep.after (seen P fr.fn ((Instr.endRound l j).runT P w #[]).2) (match((Instr.endRound l j).runT P w #[]).1 with
    |.ok v w=>doReturn P m fr (cs++B) ns v w
    |.halt _ w=>.ended (.stuck "range over a function: no such loop" (fr.pos P)) w)) w:=by
 unfold l4;cases fr.roundOf with
 |none=>
  rcases j with _|c
  ·exact .of
  ·cases c<;>first|exact .of|exact .lost
 |some l=>refine Is.bind (M:=λr=>match r with|.ok v w=>doReturn P m fr (cs++B) ns v w|.halt _ w=>.ended (.stuck "range over a function: no such loop" (fr.pos P)) w) (λv d _=>?_) λ_ _ _=>.inl ⟨_,_,_,rfl⟩;cases cs with|nil=>exact .no|cons c rest=>simp only[List.cons_append,doReturn,a];exact .of
def aej(e:fr.kind=.normal)(hm:fr.mode=.run):Is P B cs (Jg P fr w) (nX P fr cs) (alu P m AT fr (cs++B) ns w) w:=by
 obtain⟨fn,tmps,todo,defers,mode,kind,ro⟩:=fr;have j:∀w1,Jg P ⟨fn,tmps,todo,defers,mode,kind,ro⟩ w ⟨fn,tmps,todo,defers,mode,kind,ro⟩ w1:=λ_=>.inl rfl;cases todo with
 |nil=>exact Ap e ns (j _)
 |cons x k=>
  cases x with
  |inBlock|inScope|inLoop=>exact .of
  |inRangeFunc=>exact .lost
  |call|extern=>exact .no
  |beginRound=>exact FH e rfl λ_ _ _=>j _
  |endRangeFunc l=>
   refine Is.bind (M:=λ(r:Result (Option akA))=>match r with
    |.ok n w=>.go (G ⟨fn,tmps,(n.map Item.code).toList++k,defers,mode,kind,ro⟩ (cs++B)) w
    |.halt (.panic v) w=>.go (G (Frame.raise _ [{v,recovered:=Bz}]) (cs++B)) w
    |.halt _ w=>.ended (.stuck "range over a function: no such loop" (Frame.pos P _)) w) (λ_ _ _=>.of) (λx q _=>?_)
   cases x with|panic v=>exact .inr (raised (j _))|_=>exact .inl ⟨_,_,_,rfl⟩
  |inRegion p t=>
   cases t with
   |nil=>exact .of
   |cons i t=>
    dsimp only[nX,alu];split
    ·unfold GW stepG.oper Frame.oper?;dsimp only;cases p[i]? with
     |none=>exact .lost
     |some o=>dsimp only;cases hd:o.op<;>first|exact .no|(cases ro<;>exact FH e rfl λ_ _ _=>j _)
    ·exact .of
  |code c=>
   cases c with
   |ret=>exact Ap e (an .ret) (j _)
   |skip|label|seq|block|loop|scope=>exact .of
   |refuse=>exact .lost
   |cond c a b=>dsimp only[nX,alu];cases Frame.eval _ c<;>first|exact .of|exact .lost
   |exit id=>dsimp only[nX,alu];cases exitTo id k<;>first|exact Ap e (an (.exit id)) (j _)|exact .of
   |goto id=>dsimp only[nX,alu];cases gotoIn id k<;>first|exact Ap e (an (.goto id)) (j _)|exact .of
   |region id p d=>cases d with|false=>exact .of|true=>exact⟨#[],rfl,λ_ h=>by simp at h⟩
   |rangeFunc f s a b=>
    refine Is.bind (M:=λ(r:Result (Nat×List Deferred))=>match r with
     |.ok (l,mark) w=>stepG.apply P AT ⟨fn,tmps,.inRangeFunc l::k,mark++defers,mode,kind,ro⟩ (cs++B) ns (sY (Frame.eval ⟨fn,tmps,.inRangeFunc l::k,mark++defers,mode,kind,ro⟩) f l) w
     |.halt _ w=>.ended (.stuck "range over a function: no such loop" (Frame.pos P _)) w) (λu q hu=>?_) (λ_ _ _=>.inl ⟨_,_,_,rfl⟩)
    obtain⟨l,mk⟩:=u;exact FH (fr:=⟨fn,tmps,.inRangeFunc l::k,mk++defers,mode,kind,ro⟩) e rfl λx w1 y=>.inr ⟨hm,f,s,a,b,k,l,mk,q,x,rfl,hu,rfl,y⟩
def Gb(e:fr.kind=.normal):Is P B cs (Jg P fr w) (pw P fr cs) (ajM P m (G fr (cs++B)) w) w:=by
 have h:ajM P m (G fr (cs++B)) w=match fr.mode with|.run=>alu P m AT fr (cs++B) ns w|_=>alN P m fr (cs++B) ns w:=by unfold ajM G;dsimp only;cases fr.mode<;>rfl
 rw[h];unfold pw;cases hm:fr.mode with
 |run=>exact aej e hm
 |panicking=>exact .no
 |returning=>
  dsimp only;rcases hd:fr.defers with _|⟨d,i⟩<;>unfold Ga alN<;>rw[hd]<;>dsimp only
  ·rw[hm];dsimp only;cases cs with
   |nil=>exact .no
   |cons c rest=>
    cases P.funcs[fr.fn]? with
    |none=>exact .no
    |some fn=>
     refine Is.bind (M:=λ(r:Result so)=>match r with
      |.ok v w=>doReturn P m fr (c::rest++B) ns v w
      |.halt (.stuck s) w=>.ended (.stuck s (fr.pos P)) w
      |.halt _ w=>.ended (.stuck "return: the result variables cannot be read" (fr.pos P)) w) (λv j _=>?_) (λx _ _=>by cases x<;>exact .inl ⟨_,_,_,rfl⟩)
     simp only[List.cons_append,doReturn,e];exact .of
  ·obtain⟨t,a⟩:=d
   cases t<;>first|exact .no|exact Is.bind (M:=λ(r:Result (List Deferred))=>match r with
    |.ok b w=>.go (G {fr with defers:=b++i} (cs++B)) w
    |.halt _ w=>.ended (.stuck "the deferred calls of a range-over-func loop have been taken" (fr.pos P)) w) (λ_ _ _=>.of) (λ_ _ _=>.inl ⟨_,_,_,rfl⟩)
end
end
def BS(fr:ajs):Prop:=∃c c' k,fr.todo=.code c::k/\ag.dM c c'
section
variable{P:NO}{K:aH}{φ:Ren}{fr eq:ajs}{cs cs' B B':List ajs}{w w':AS}{m m':Bool}
def eX.to(h:eX P φ fr eq){t a:List Item}(b:gW P φ fr.fn fr.roundOf.isNone t a):eX P φ {fr with todo:=t} {eq with todo:=a}:=⟨h.fn,h.tmps,b,h.defers,h.mode,h.kind,h.round,h.jX⟩
def tI(P:NO)(a:Ren)(x y:mK):Prop:=eX P a x.1 y.1/\iM P a x.2 y.2/\lO x.1 x.2
def NM(hF:dY P K)(he:ER φ (ag.lv fr.fn) fr.eval eq.eval)(f:ajR)(d:eo (ag.lv fr.fn) f){l e:Nat}(r:φ l=an e):SR P K NR φ (sY fr.eval f l) (sY eq.eval f e):=by
 have a:aw φ (#[Operand.const (.func (.yield l) #[] #[])].map fr.eval) (#[Operand.const (.func (.yield e) #[] #[])].map eq.eval):=by
  refine⟨aj,λi x y b p=>?_⟩
  match i with
  |0=>simp[Frame.eval] at b p;subst b;subst p;exact .func (.yield r) rfl (λi x y b _=>by simp at b) rfl (λi x y b _=>by simp at b)
  |i+1=>simp at b
 have d:=he.1 f d;unfold sY resolve;dsimp only;generalize fr.eval f=u at d;generalize eq.eval f=s at d;cases d with
 |nilFunc=>exact .dead (eE (P:=P) (α:=Next) .nilDeref)
 |aW _ _=>exact .dead MW
 |func j q b k n=>cases j with|func f o=>exact hF.2.2 f (hF.2.1 f o) φ _ _ he.2.2.2 ((aw.append ⟨q,b⟩ a).append ⟨k,n⟩)|yield h=>exact Qr h (aw.append ⟨q,b⟩ a)
 |_=>exact .halt _ _
variable(hB:dA P)(hC:ee P)(hz:cO P)(hG:K.G=P.globals.size)(hF:dY P K)(hv:gE φ)(d9:eX P φ fr eq)(gt:iM P φ cs cs')(jp:lO fr cs)
include hB hC d9 gt jp in
def FI(e:¬wy fr){s l:Sem Next}(o:SR P K NR φ s l):SR P K (tI P) φ (qt P fr cs s) (qt P.two eq cs' l):=
 SR.bind o λr n t d h=>by cases h with|value hv=>exact .pure ⟨(d9.mono d).finish e hv,gt.mono d,jp.congr (vE _ _)⟩|skip=>exact .pure ⟨(d9.mono d).finish e Ao,gt.mono d,jp.congr (vE _ _)⟩|enter f i j=>exact .pure ⟨wA hB i j,.cons (d9.mono d) e (gt.mono d),jp⟩|round f a b h j p q k=>exact .pure ⟨aei hC h j p q k,.cons (d9.mono d) e (gt.mono d),jp⟩
include hB hC hz hG hF hv d9 gt jp in
def aek(In:¬BS fr):SR P K (tI P) φ (nX P fr cs) (nX P.two eq cs'):=by
 have T:=d9.todo;have A:=d9.round;have t9:∀{t V:List Item},gW P φ fr.fn fr.roundOf.isNone t V->SR P K (tI P) φ (pure ({fr with todo:=t},cs)) (pure ({eq with todo:=V},cs')):=λh=>.pure ⟨d9.to h,gt,jp.congr rfl⟩
 have p:∀j,Jump j->SR P K (tI P) φ (l4 fr cs j) (l4 eq cs' j):=λj S=>by
  unfold l4;generalize C:fr.roundOf=q at A;generalize eq.roundOf=q' at A;cases A with
  |none=>have r:SR P K (tI P) φ (pure ({fr with mode:=.returning,roundOf:=ns},cs)) (pure ({eq with mode:=.returning,roundOf:=ns},cs')):=.pure ⟨⟨d9.fn,d9.tmps,by have:=d9.todo;rw[C] at this;exact this,d9.defers,.returning,d9.kind,.none,d9.jX⟩,gt,jp.congr C.symm⟩;rcases S with rfl|rfl|⟨i,rfl⟩|⟨i,rfl⟩<;>first|exact r|exact .dead iC
  |some h=>refine SR.bind (Y6 h S) λD v v' z hv=>?_;cases gt with|nil=>exact absurd (C.symm.trans jp) aj|cons hc W H=>exact .pure ⟨(hc.mono z).finish W hv,H.mono z,lO.congr jp (vE _ _)⟩
 unfold nX;generalize e1:fr.todo=t at T;generalize e2:eq.todo=V at T;have M:∀{x k},t=x::k->(∀E,x≠.code (.refuse E))->¬wy fr:=λh X⟨E,e⟩=>by rw[e1,h] at e;cases e;exact X E rfl
 cases T with
 |stop=>exact .halt _ _
 |nil=>exact p ns (.inl rfl)
 |@cons x y k k' X s=>
  cases X with
  |inBlock|inScope=>exact t9 s
  |inLoop h=>exact t9 (.cons (.code (.same h)) (.cons (.inLoop h) s))
  |tk=>exact .halt _ _
  |@inRegion N todo h=>
   cases todo with
   |nil=>exact t9 s
   |cons i t=>
    have n:=M rfl (λ_ e=>by cases e);dsimp only;rw[d9.tmps.wanted h i];split
    ·unfold GW;cases ho:N[i]? with
     |none=>exact .halt _ _
     |some o=>
      have I:=(h i o ho).1;have Z:=FI hB hC d9 gt jp n (aaZ hz hG hF I (d9.eval hv));dsimp only;split
      ·next c e=>rw[e] at I;exact I.elim
      ·exact Z
    ·exact .pure ⟨d9.finish n Ao,gt,jp.congr (vE _ _)⟩
  |@sX l l' z=>
   refine SR.bind (ZY z) λD j j' J e=>?_;obtain⟨rfl,S⟩:=e;have R:=s.mono J
   have:gW P D fr.fn fr.roundOf.isNone ((j.map Item.code).toList++k) ((j.map Item.code).toList++k'):=by
    rcases S with rfl|rfl|⟨i,rfl⟩|⟨i,rfl⟩
    ·exact R
    all_goals exact .cons (.code (.same trivial)) R
   exact .pure ⟨(d9.mono J).to this,gt.mono J,jp.congr rfl⟩
  |beginRound=>
   refine FI hB hC d9 gt jp (M rfl λ_ e=>by cases e) ?_;generalize fr.roundOf=q at A;generalize eq.roundOf=q' at A;cases A with
   |none=>exact .dead (fz iC)
   |some h=>exact SR.bind (XO h) λD _ _ _ _=>.pure .skip
  |@code c c' hc=>
   cases hc with
   |dM h=>exact absurd ⟨c,c',k,e1,h⟩ In
   |seq ha hb=>exact t9 (.cons (.code ha) (.cons (.code hb) s))
   |same hc=>
   cases c with
   |skip|label=>exact t9 s
   |seq a b=>exact t9 (.cons (.code (.same hc.1)) (.cons (.code (.same hc.2)) s))
   |block id b=>exact t9 (.cons (.code (.same hc)) (.cons (.inBlock id) s))
   |loop b=>exact t9 (.cons (.code (.same hc)) (.cons (.inLoop hc) s))
   |scope b=>exact t9 (.cons (.code (.same hc)) (.cons (.inScope hc) s))
   |ret=>exact p (an .ret) (.inr (.inl rfl))
   |refuse=>exact .halt _ _
   |cond x a b=>have he:=(d9.eval hv).1 x hc.1;dsimp only;generalize fr.eval x=v at he;generalize eq.eval x=v' at he;cases he with|bool t=>cases t<;>exact t9 (.cons (.code (.same (by first|exact hc.2.1|exact hc.2.2))) s)|_=>exact .halt _ _
   |exit id=>
    rcases acE id s with⟨h1,L⟩|⟨a,b,h1,L,h⟩<;>dsimp only<;>rw[h1]
    ·cases C:fr.roundOf with|none=>unfold Option.elim l4;rw[C];exact .halt _ _|some l=>rw[L (by rw[C];rfl)];exact p _ (.inr (.inr (.inl ⟨id,rfl⟩)))
    ·rw[L];exact t9 h
   |goto id=>
    rcases acF id s with⟨h1,L⟩|⟨a,b,h1,L,h⟩<;>dsimp only<;>rw[h1]
    ·cases C:fr.roundOf with|none=>unfold Option.elim l4;rw[C];exact .halt _ _|some l=>rw[L (by rw[C];rfl)];exact p _ (.inr (.inr (.inr ⟨id,rfl⟩)))
    ·rw[L];exact t9 h
   |region id N d=>
    cases d with
    |false=>exact t9 (.cons (.inRegion _ hc) s)
    |true=>
     have h:SR P K aZ φ (choose (.order fr.fn id)) (choose (.order eq.fn id)):=by rw[d9.fn];exact E8
     exact SR.bind h λD t _ z e=>by subst e;exact .pure ⟨(d9.mono z).to (.cons (.inRegion _ hc) (s.mono z)),gt.mono z,jp.congr rfl⟩
   |rangeFunc f ps a b=>
    have h:SR P K (λD u v=>D u.1=an v.1/\jB D u.2 v.2) φ (alB fr.fn fr.tmps ps a b fr.roundOf) (alB eq.fn eq.tmps ps a b eq.roundOf):=by rw[d9.fn];exact Nr fr.fn d9.jX d9.tmps ps a b hc.2.2.2.1 hc.2.2.2.2 d9.round
    refine SR.bind h λD u v z e=>?_
    have F:eX P D {fr with todo:=.inRangeFunc u.1::k,defers:=u.2++fr.defers} {eq with todo:=.inRangeFunc v.1::k',defers:=v.2++eq.defers}:=
     ⟨d9.fn,d9.tmps.mono z,.cons (.tk e.1) (s.mono z),e.2.append (d9.defers.mono z),d9.mode,d9.kind,d9.round.mono z,d9.jX⟩
    exact FI hB hC F (gt.mono z) (jp.congr rfl) (λ⟨E,e⟩=>by cases e) (NM hF (F.eval (hv.mono z)) f hc.1 e.1)
include hB hC hz hG hF hv d9 gt jp in
def RD(g0:¬(cs=[]/\fr.mode=.returning/\fr.defers=[]))(In:fr.mode=.run->¬BS fr):SR P K (tI P) φ (pw P fr cs) (pw P.two eq cs'):=by
 have b:=d9.mode;have hd:=d9.defers;unfold pw;generalize r:fr.mode=q at b;generalize eq.mode=y at b;cases b with
 |run=>exact aek hB hC hz hG hF hv d9 gt jp (In r)
 |returning=>
  dsimp only;unfold Ga;generalize s:fr.defers=t at hd;generalize eq.defers=z at hd;cases hd with
  |cons hd j=>
   cases hd with
   |mark u=>
    exact SR.bind (Li u) λx c c' a e=>by obtain⟨rfl,rfl⟩:=e;exact .pure ⟨⟨d9.fn,d9.tmps.mono a,d9.todo.mono a,j.mono a,d9.mode,d9.kind,d9.round.mono a,d9.jX⟩,gt.mono a,jp.congr rfl⟩
  |nil=>
   cases gt with
   |nil=>exact absurd ⟨rfl,r,s⟩ g0
   |cons hc k d=>
    obtain⟨fn,l,n,h,i,_,o,_⟩:=hB fr.fn d9.jX;have p:results l eq.tmps=results fn eq.tmps:=by unfold results;rw[i]
    dsimp only;rw[d9.fn,n,h];dsimp only;rw[p];exact SR.bind (EG fn o d9.tmps) λx v A a hv=>.pure ⟨(hc.mono a).finish k hv,d.mono a,lO.congr jp (vE _ _)⟩
def Out(P:NO)(K:aH)(φ:Ren)(B B':List ajs)(w w':AS)(s l:GStep):Prop:=
 ∀g1 w1 es,s=.go g1 w1 es->(∃h mp K' b a c n,g1=G {mp with mode:=.panicking c} (b++B)/\eX P h mp K'/\iM P h b a/\HR K h w1.heap n)\/
  ∃h j b i a k d,g1=G j (b++B)/\l=.go (G i (a++B')) k d/\eX P h j i/\iM P h b a/\
   lO j b/\WR K h w1 k/\lu w w1/\ik K φ h w.heap.size w' k/\∀e∈d,gJ K h e
variable(hw:WR K φ w w')(g0:¬(cs=[]/\fr.mode=.returning/\fr.defers=[]))(In:fr.mode=.run->¬BS fr)
include hB hC hz hG hF hv d9 gt jp hw g0 In
def wG:Out P K φ B B' w w' (ajM P m (G fr (cs++B)) w) (ajM P.two m' (G eq (cs'++B')) w'):=by
 intro g1 w1 es he;have h1:=Gb (P:=P) (m:=m) (B:=B) (cs:=cs) (w:=w) d9.kind.1;have s:=Gb (P:=P.two) (m:=m') (B:=B') (cs:=cs') (w:=w') d9.kind.2;have H:=RD hB hC hz hG hF hv d9 gt jp g0 In;unfold Is at h1 s;cases r:(pw P fr cs).run P w with
 |halt x I=>
  rw[r] at h1;obtain⟨M,t,N,hle,R⟩:=H.wO w w' hw x I r;rcases h1 M with⟨o,w3,u,e⟩|⟨f,c,u,e,S⟩<;>rw[e] at he<;>cases he
  left
  rcases S with rfl|⟨hm,g,T,a,b,k,l,mk,w3,x,J,hu,rfl,V⟩
  ·exact⟨t,_,eq,cs,cs',c,N,rfl,d9.mono hle,gt.mono hle,R⟩
  ·have n:=d9.todo;rw[J] at n;generalize eq.todo=t' at n;cases n with
   |@cons _ _ _ W z X=>
   cases z with
   |code hc=>
   cases hc with
   |dM h=>exact absurd ⟨_,_,k,J,h⟩ (In hm)
   |same hc=>
   obtain⟨Z,v,A,d,g1,p,C,_,i,_⟩:=(Nr (P:=P) (K:=K) fr.fn d9.jX d9.tmps T a b hc.2.2.2.1 hc.2.2.2.2 d9.round).run #[] hw hu
   have j:eX P Z {fr with todo:=.inRangeFunc l::k,defers:=mk++fr.defers} {eq with todo:=.inRangeFunc v.1::W,defers:=v.2++eq.defers}:=
    ⟨d9.fn,d9.tmps.mono i.le,.cons (.tk p.1) (X.mono i.le),p.2.append (d9.defers.mono i.le),d9.mode,d9.kind,d9.round.mono i.le,d9.jX⟩
   obtain⟨_,ω,h3,q,D⟩:=(NM hF (j.eval (hv.mono i.le)) g hc.1 p.1).wO w3 A C x w1 V;exact⟨ω,_,_,cs,cs',c,h3,rfl,j.mono q,(gt.mono i.le).mono q,D⟩
 |ok x I=>rw[r] at h1;obtain⟨es1,e1,_⟩:=h1;obtain⟨t,y,E,d,g1,p,C,g4,i,g6⟩:=H.run #[] hw r;have L:=pM P.two (pw P.two eq cs') w' #[];rw[g1] at L;rw[<-L] at s;obtain⟨F,e3,m2⟩:=s;rw[e1] at he;cases he;exact .inr ⟨t,x.1,x.2,y.1,y.2,E,F,rfl,e3,p.1,p.2.1,p.2.2,C,g4,i,λe h=>g6 e (by have:=m2 e h;unfold Sem.events at this;rw[g1] at this;simpa using this)⟩
omit [ag] hB hC hz hG hF hv d9 gt jp hw g0 In in
def RG(S:AS->GStep)(w:AS):Prop:=((∃o w1 es,S w=.ended o w1 es)\/∃g w1 es,S w=.go g w1 es)/\∀g1 w1 es,S w=.go g1 w1 es->(∀c,g1.frame.mode≠.panicking c)->
 ∃k,w1.drawn=w.drawn+k/\w1.tape=w.tape/\∀T:Tape,(∀j,j<k->∀q,T (w.drawn+j) q=w.tape (w.drawn+j) q)->∃a,S (w.on T w.drawn)=.go g1 (w1.on T (w.drawn+k)) a
def acG:RG (λw=>ajM P m (G fr (cs++B)) w) w:=by
 have h1:=λw=>Gb (P:=P) (m:=m) (B:=B) (cs:=cs) (w:=w) d9.kind.1;have i:=RD hB hC hz hG hF hv d9 gt jp g0 In;unfold Is at h1;have a:=h1 w;cases b:(pw P fr cs).run P w with
 |halt x j=>
  rw[b] at a;rcases a (i.wO w w' hw x j b).1 with⟨o,w3,d,e⟩|⟨f,c,d,e,_⟩
  ·exact⟨.inl ⟨_,_,_,e⟩,λg1 w1 es he=>by dsimp only at he;rw[e] at he;cases he⟩
  ·exact⟨.inr ⟨_,_,_,e⟩,λg1 w1 es he l=>by dsimp only at he;rw[e] at he;cases he;exact absurd rfl (l c)⟩
 |ok x j=>rw[b] at a;obtain⟨q,n,_⟩:=a;refine⟨.inr ⟨_,_,_,n⟩,λg1 w1 es he l=>?_⟩;dsimp only at he;rw[n] at he;cases he;obtain⟨k,r,s,t⟩:=i.ahE w w' hw x _ b;refine⟨k,r,s,λT u=>?_⟩;have p:=h1 (w.on T w.drawn);rw[t T _ u] at p;obtain⟨h,e,_⟩:=p;exact⟨h,e⟩
end
def SR.both{K:aH}{φ:Ren}{α β:Type}{R:Ren->α->β->Prop}{s:Sem α}{l:Sem β}(h:SR P K R φ s l)(hw:WR K φ w w'):
  (∃x w1 es,s.runT P w #[]=(.halt x w1,es)/\lh x/\∃j n,Ren.le φ j/\HR K j w1.heap n)\/∃a w1 es j b i d,s.runT P w #[]=(.ok a w1,es)/\l.runT P.two w' #[]=(.ok b i,d)/\R j a b/\WR K j w1 i/\lu w w1/\ik K φ j w.heap.size w' i/\∀e∈d,gJ K j e:=by
 have h1:=pM P s w #[];cases k:s.run P w with
 |halt x w1=>exact .inl ⟨x,w1,(s.runT P w #[]).2,by rw[k] at h1;rw[<-h1],h.wO w w' hw x w1 k⟩
 |ok a w1=>obtain⟨j,b,i,d,g1,o,p,q,r,t⟩:=h.run #[] hw k;exact .inr ⟨a,w1,(s.runT P w #[]).2,j,b,i,d,by rw[k] at h1;rw[<-h1],by simpa using g1,o,p,q,r,t⟩
end
section
variable[ag]
open Go.Conc (G)
def c0(P:NO):ajs:={fn:=P.funcs.size,tmps:=#[],todo:=[.code (.refuse "")],defers:=[{target:=.nil,args:=#[]}],mode:=.run,kind:=.normal}
def wH(fr:ajs):Prop:=(fr.mode=.returning/\fr.defers=[])\/(fr.mode=.run/\wy fr)
def Lv(P:NO)(g:BE):Prop:=∃fr,g=G fr [c0 P]/\wH fr
omit [ag] in
def sC{eq:ajs}{cs':List ajs}{es:Array akh}(h:ajM P AT (G fr cs) w=.go (G eq cs') w' es):Go.step P (lone fr cs w)=.next (lone eq cs' w'):=
 step_lone_go (by rw[show({frame:=fr,callers:=cs,status:=.running,dying:=ns}:BE)=G fr cs from rfl,h];rfl)
omit [ag] in
def pQ{o:Outcome}{es:Array akh}(h:ajM P AT (G fr cs) w=.ended o w' es):Go.step P (lone fr cs w)=.ended o w':=
 step_lone_ended (by rw[show({frame:=fr,callers:=cs,status:=.running,dying:=ns}:BE)=G fr cs from rfl,h];rfl)
omit [ag] in
def sM{m a:Machine}(h:Go.step P m=.next a)(n:Nat):runN P (n+1) m=runN P n a:=by show(match Go.step P m with|.next m=>runN P n m|e=>e)=_;rw[h]
omit [ag] in
def qf{m a:Machine}{o:Outcome}(h:Go.step P m=.ended o w)(n:Nat):runN P (n+1) m≠.next a:=by show(match Go.step P m with|.next m=>runN P n m|e=>e)≠_;rw[h];exactλe=>by cases e
omit [ag] in
def Aq{eq:ajs}{cs':List ajs}(h:lone fr cs w=lone eq cs' w'):fr=eq/\cs=cs'/\w=w':=by unfold lone at h;simp only[Machine.mk.injEq,Array.mk.injEq,List.cons.injEq,Goroutine.mk.injEq] at h;exact⟨h.2.1.1.1,h.2.1.1.2.1,h.1⟩
section
variable{P:NO}{K:aH}
omit [ag] in
def Ki{c:List PanicEntry}(hm:fr.mode=.panicking c):ajM P AT (G fr cs) w=alN P AT fr cs ns w:=by unfold ajM G;dsimp only;rw[hm]
def GB:∀(n:Nat){s:Ren}{mp K':ajs}{a b:List ajs}{c:List PanicEntry}{w w':AS}{A:Array Obj}{fr:ajs},
  eX P s mp K'->iM P s a b->HR K s w.heap A->runN P n (lone {mp with mode:=.panicking c} (a++[c0 P]) w)=.next (lone fr [c0 P] w')->¬wH fr
 |0,s,mp,K',a,b,c,w,w',A,fr,d9,gt,D,hr=>by have:=Aq (Stepped.next.inj hr);rw[<-this.1];rintro(⟨e,_⟩|⟨e,_⟩)<;>cases e
 |n+1,s,mp,K',a,b,c,w,w',A,fr,d9,gt,D,hr=>by
  have h:=Ki (P:=P) (fr:={mp with mode:=.panicking c}) (cs:=a++[c0 P]) (w:=w) (c:=c) rfl;have hd:=d9.defers;generalize C:mp.defers=t at hd;generalize e2:K'.defers=t' at hd;cases hd with
  |@cons d d' N E hd F=>
   cases hd with
   |@mark r r' H=>
   have i:alN P AT {mp with mode:=.panicking c} (a++[c0 P]) ns w=GStep.after (seen P mp.fn ((alJ r).runT P w #[]).2) (match((alJ r).runT P w #[]).1 with
     |.ok j w=>.go (G {mp with mode:=.panicking c,defers:=j++N} (a++[c0 P])) w
     |.halt _ w=>.ended (.stuck "the deferred calls of a range-over-func loop have been taken" (Frame.pos P {mp with mode:=.panicking c})) w):=by
    conv=>lhs;unfold alN
    dsimp only;rw[C];rfl
   rw[i] at h;have hw:WR K s w {w with heap:=A}:=⟨D,λ_ _=>rfl⟩;rcases(Li (P:=P) (K:=K) H).both hw with⟨x,k,I,S,hf⟩|⟨u,k,I,T,v,V,d,g1,g2,W,X,g5,y,g7⟩
   ·rw[S] at h;exact absurd hr (qf (pQ h) n)
   ·obtain⟨rfl,rfl⟩:=W;rw[g1] at h;rw[sM (sC h) n] at hr;exact GB n (mp:={mp with defers:=N}) (K':={K' with defers:=E}) ⟨d9.fn,d9.tmps.mono y.le,d9.todo.mono y.le,F.mono y.le,d9.mode,d9.kind,d9.round.mono y.le,d9.jX⟩ (gt.mono y.le) X.heap hr
  |nil=>
   by_cases l:Frame.catches P {mp with mode:=.panicking c,defers:=[]}=AT
   ·have i:∃o k,alN P AT {mp with mode:=.panicking c} (a++[c0 P]) ns w=.ended o k:=by unfold alN;dsimp only;rw[C];dsimp only;rw[if_pos l];exact⟨_,_,rfl⟩
    obtain⟨o,k,i⟩:=i;rw[i] at h;exact absurd hr (qf (pQ h) n)
   ·cases gt with
    |@cons z J rest L hc Z p=>
     have hm:z.raise c={z with mode:=.panicking c}:=by unfold Frame.raise;have:=hc.mode;generalize z.mode=q at this;generalize J.mode=q' at this;cases this<;>rfl
     have i:alN P AT {mp with mode:=.panicking c} (z::rest++[c0 P]) ns w=.go (G (z.raise c) (rest++[c0 P])) w:=by unfold alN;dsimp only;rw[C];dsimp only;rw[if_neg l];rfl
     rw[i,hm] at h;rw[sM (sC h) n] at hr;exact GB n hc p D hr
    |nil=>
     have i:alN P AT {mp with mode:=.panicking c} ([]++[c0 P]) ns w=.go (G {c0 P with mode:=.panicking c} []) w:=by unfold alN;dsimp only;rw[C];dsimp only;rw[if_neg l];rfl
     rw[i] at h;rw[sM (sC h) n] at hr;cases n with
     |zero=>have:=(Aq (Stepped.next.inj hr)).2.1;cases this
     |succ n=>have R:=Ki (P:=P) (fr:={c0 P with mode:=.panicking c}) (cs:=[]) (w:=w) (c:=c) rfl;have M:∃o k,alN P AT {c0 P with mode:=.panicking c} [] ns w=.ended o k:=⟨_,_,rfl⟩;obtain⟨o,k,M⟩:=M;rw[M] at R;exact absurd hr (qf (pQ R) n)
end
end
section
variable[ag]
open Go.Conc (G)
def kI(T:Tape)(w:AS):Prop:=∀j,j<w.drawn->∀q,T j q=w.tape j q
inductive bG(P:NO)(Q:BE->Array Obj->Prop):BE->AS->Prop
 |lv {g:BE} {w:AS}:Lv P g->Q g w.heap->bG P Q g w
 |step {g:BE} {w:AS}:¬Lv P g->(∀T:Tape,kI T w->∃g1 w1 es,ajM P AT g (w.on T w.drawn)=.go g1 w1 es/\∀c,g1.frame.mode≠.panicking c)->
   (∀T:Tape,kI T w->∀g1 w1 es,ajM P AT g (w.on T w.drawn)=.go g1 w1 es->bG P Q g1 w1)->bG P Q g w
def ael(i:Lv P g)(n:Nat)(l:1<=n)(hr:runN P n (lone g.frame g.callers w)=.next (lone fr [c0 P] w')):False:=by
 obtain⟨f0,rfl,d⟩:=i;obtain⟨n,rfl⟩:∃m,n=m+1:=⟨n-1,aa⟩;rcases d with⟨hm,hd⟩|⟨hm,j,k⟩
 case inr=>
  have b:∃o a es,ajM P AT (G f0 [c0 P]) w=.ended o a es:=by
   have e:ajM P AT (G f0 [c0 P]) w=alu P AT AT f0 [c0 P] ns w:=by unfold ajM G;dsimp only;rw[hm]
   rw[e];unfold alu;rw[k];exact⟨_,_,_,rfl⟩
  obtain⟨o,a,es,b⟩:=b;exact qf (pQ b) n hr
 have back:∀v w,∃es,doReturn P AT f0 [c0 P] ns v w=.go (G (c0 P) []) w es:=by intro v w;unfold doReturn;dsimp only;split<;>exact⟨_,rfl⟩
 have b:(∃a es,ajM P AT (G f0 [c0 P]) w=.go (G (c0 P) []) a es)\/∃o a es,ajM P AT (G f0 [c0 P]) w=.ended o a es:=by
  have e:ajM P AT (G f0 [c0 P]) w=alN P AT f0 [c0 P] ns w:=by unfold ajM G;dsimp only;rw[hm]
  rw[e];unfold alN;rw[hd];dsimp only;rw[hm];dsimp only;split
  ·obtain⟨es,h⟩:=back (f0.tmps.getD 0 undef) w;exact .inl ⟨_,_,h⟩
  ·split
   ·next v a _=>obtain⟨es,h⟩:=back v a;rw[h];exact .inl ⟨_,_,rfl⟩
   ·exact .inr ⟨_,_,_,rfl⟩
   ·exact .inr ⟨_,_,_,rfl⟩
 rcases b with⟨a,es,b⟩|⟨o,a,es,b⟩
 ·have hr:runN P (n+1) (lone f0 [c0 P] w)=.next (lone fr [c0 P] w'):=hr
  rw[sM (sC b) n] at hr;cases n with
  |zero=>have:=(Aq (Stepped.next.inj hr)).2.1;cases this
  |succ n=>exact qf (pQ (w':=a) (es:=#[]) rfl) n hr
 ·exact qf (pQ b) n hr
section
variable{P:NO}{K:aH}
structure Good(P:NO)(K:aH)(g:BE)(w:AS):Prop where
 ok:∃φ fr eq cs cs' h',g=G fr (cs++[c0 P])/\eX P φ fr eq/\iM P φ cs cs'/\HR K φ w.heap h'/\gE φ/\lO fr cs
def Good.on(h:Good P K g w)(T:Tape)(n:Nat):Good P K g (w.on T n):=⟨h.ok⟩
def Good.shape(h:Good P K g w):g=G g.frame g.callers:=by obtain⟨φ,fr,eq,cs,cs',h',rfl,_⟩:=h.ok;rfl
variable(hB:dA P)(hC:ee P)(hz:cO P)(hG:K.G=P.globals.size)(hF:dY P K)(un:∀c c',¬ag.dM c c')
include hB hC hz hG hF un
def Good.loc(h:Good P K g w)(a:¬Lv P g):RG (λw=>ajM P AT g w) w:=by obtain⟨φ,fr,eq,cs,cs',h',rfl,h1,b,d,e,i⟩:=h.ok;have hw:WR K φ w {w with heap:=h'}:=⟨d,λ_ _=>rfl⟩;exact acG hB hC hz hG hF e h1 b i hw (λ⟨j,k,l⟩=>a ⟨fr,by rw[j];rfl,.inl ⟨k,l⟩⟩) (λ_⟨c,c',_,_,h⟩=>un c c' h)
def Good.next{es:Array akh}(h:Good P K g w)(p:¬Lv P g)(q:ajM P AT g w=.go g1 w1 es)(r:∀c,g1.frame.mode≠.panicking c):Good P K g1 w1:=by
 obtain⟨φ,fr,eq,cs,cs',h',rfl,h1,s,t,l,u⟩:=h.ok;have hw:WR K φ w {w with heap:=h'}:=⟨t,λ_ _=>rfl⟩;rcases wG (m:=AT) (m':=AT) (B:=[c0 P]) (B':=[]) hB hC hz hG hF l h1 s u hw (λ⟨v,x,y⟩=>p ⟨fr,by rw[v];rfl,.inl ⟨x,y⟩⟩) (λ_⟨c,c',_,_,h⟩=>un c c' h) g1 w1 es q with⟨n,z,o,b,a,c,h',rfl,_⟩|⟨n,i,b,e,a,j,d,rfl,_,A,C,D,E,_,k,_⟩
 ·exact absurd rfl (r c)
 ·exact⟨n,i,e,b,a,j.heap,rfl,A,C,E.heap,λg F=>k.le _ _ (l g F),D⟩
def Good.ahG{es:Array akh}(h:Good P K g w)(o:¬Lv P g)(p:ajM P AT g w=.go g1 w1 es){c:List PanicEntry}(q:g1.frame.mode=.panicking c)(n:Nat)(fr:ajs)(w':AS)(hm:wH fr):
  runN P n (lone g1.frame g1.callers w1)≠.next (lone fr [c0 P] w'):=by
 obtain⟨φ,b,eq,cs,cs',h',rfl,h1,r,s,t,u⟩:=h.ok;have hw:WR K φ w {w with heap:=h'}:=⟨s,λ_ _=>rfl⟩;rcases wG (m:=AT) (m':=AT) (B:=[c0 P]) (B':=[]) hB hC hz hG hF t h1 r u hw (λ⟨v,x,y⟩=>o ⟨b,by rw[v];rfl,.inl ⟨x,y⟩⟩) (λ_⟨c,c',_,_,h⟩=>un c c' h) g1 w1 es p with⟨z,A,k,i,a,J,h',rfl,C,D,E⟩|⟨z,j,i,l,a,F,d,rfl,_,H,L,M,N,_,I,_⟩
 ·exactλe=>GB n C D E e hm
 ·have:=H.mode;rw[show j.mode=.panicking c from q] at this;cases this
open Classical in
def Yr{Q:Goroutine->Array Obj->Prop}{L:Goroutine}{J:World}(h0:Good P K L J)
  (M:∀T:Tape,kI T J->∃N fr w',runN P N (lone L.frame L.callers (J.on T J.drawn))=.next (lone fr [c0 P] w')/\wH fr/\Q (G fr [c0 P]) w'.heap):bG P Q L J:=by
 apply byContradiction;intro rF
 have pick:∀g w,¬bG P Q g w->¬Lv P g->∃T:Tape,kI T w/\∀g1 w1 es,stepG P true g (w.on T w.drawn)=.go g1 w1 es->(∀c,g1.frame.mode≠.panicking c)->¬bG P Q g1 w1:=by
  intro g w F b;apply byContradiction;intro s;refine F (.step b (λT t=>?_) λT t g1 w1 es u=>?_)
  ·apply byContradiction;intro hy;exact s ⟨T,t,λg1 w1 es u D hw=>hy ⟨g1,w1,es,u,D⟩⟩
  ·apply byContradiction;intro hy
   exact s ⟨T,t,λg2 w2 es2 v Ja Cd=>by rw[u] at v;cases v;exact hy Cd⟩
 let A:Goroutine×World->Tape:=λx=>if h:¬bG P Q x.1 x.2/\¬Lv P x.1 then(pick x.1 x.2 h.1 h.2).choose else x.2.tape
 have y:∀x:Goroutine×World,¬bG P Q x.1 x.2->¬Lv P x.1->kI (A x) x.2/\∀g1 w1 es,stepG P true x.1 (x.2.on (A x) x.2.drawn)=.go g1 w1 es->(∀c,g1.frame.mode≠.panicking c)->¬bG P Q g1 w1:=by intro x s b;have:A x=(pick x.1 x.2 s b).choose:=dif_pos ⟨s,b⟩;rw[this];exact(pick x.1 x.2 s b).choose_spec
 have n:∀x:Goroutine×World,¬bG P Q x.1 x.2->kI (A x) x.2:=by
  intro x s;by_cases b:Lv P x.1
  ·have:A x=x.2.tape:=dif_neg λh=>h.2 b;rw[this];exactλ_ _ _=>rfl
  ·exact(y x s b).1
 let nx:Goroutine×World->Goroutine×World:=λx=>match stepG P true x.1 (x.2.on (A x) x.2.drawn) with
  |.go g1 w1 _=>(g1,w1)
  |_=>x
 let seq:Nat->Goroutine×World:=λi=>Nat.rec (L,J) (λ_ x=>nx x) i
 have r:∀i,seq (i+1)=nx (seq i):=λi=>rfl
 let l:Nat->Prop:=λi=>¬Lv P (seq i).1/\∃g1 w1 es,stepG P true (seq i).1 ((seq i).2.on (A (seq i)) (seq i).2.drawn)=.go g1 w1 es/\∀c,g1.frame.mode≠.panicking c
 have inv:∀i,(∀j,j<i->l j)->¬bG P Q (seq i).1 (seq i).2/\Good P K (seq i).1 (seq i).2:=by
  intro i
  induction i with
  |zero=>exactλ_=>⟨rF,h0⟩
  |succ i S=>
   intro z;obtain⟨F,I⟩:=S λj C=>z j aa;obtain⟨b,g1,w1,es,u,D⟩:=z i aa;have e:seq (i+1)=(g1,w1):=by rw[r];show(match stepG P true (seq i).1 ((seq i).2.on (A (seq i)) (seq i).2.drawn) with|.go g1 w1 _=>(g1,w1)|_=>seq i)=_;rw[u]
   rw[e];exact⟨(y _ F b).2 _ _ _ u D,(I.on _ _).next hB hC hz hG hF un b u D⟩
 have one:∀i,(∀j,j<i+1->l j)->∃k,(seq (i+1)).2.drawn=(seq i).2.drawn+k/\(seq (i+1)).2.tape=A (seq i)/\∀T:Tape,(∀j,j<k->∀q,T ((seq i).2.drawn+j) q=A (seq i) ((seq i).2.drawn+j) q)->
   ∃X,stepG P true (seq i).1 ((seq i).2.on T (seq i).2.drawn)=.go (seq (i+1)).1 ((seq (i+1)).2.on T ((seq i).2.drawn+k)) X:=by
  intro i z;obtain⟨F,I⟩:=inv i λj C=>z j aa;obtain⟨b,g1,w1,es,u,D⟩:=z i aa;have e:seq (i+1)=(g1,w1):=by rw[r];show(match stepG P true (seq i).1 ((seq i).2.on (A (seq i)) (seq i).2.drawn) with|.go g1 w1 _=>(g1,w1)|_=>seq i)=_;rw[u]
  obtain⟨k,x1,W,x3⟩:=((I.on (A (seq i)) (seq i).2.drawn).loc hB hC hz hG hF un b).2 g1 w1 es u D;rw[e];exact⟨k,x1,W,λT t=>x3 T t⟩
 have mono:∀i,(∀j,j<i->l j)->∀j,j<=i->(seq j).2.drawn<=(seq i).2.drawn/\∀p,p<(seq j).2.drawn->∀q,(seq i).2.tape p q=(seq j).2.tape p q:=by
  intro i
  induction i with
  |zero=>intro _ j C;obtain rfl:j=0:=aa;exact⟨av _,λ_ _ _=>rfl⟩
  |succ i S=>
   intro z j C;rcases dg j (i+1) with aV|Z
   ·obtain⟨k,x1,W,_⟩:=one i z;obtain⟨y1,y2⟩:=S (λj C=>z j aa) j aa;obtain⟨F,_⟩:=inv i λj C=>z j aa;refine⟨aa,λp D q=>?_⟩;rw[W,(n _ F) p aa q];exact y2 p D q
   ·obtain rfl:j=i+1:=by omega
    exact⟨av _,λ_ _ _=>rfl⟩
 have follow:∀i,(∀j,j<i->l j)->∀T:Tape,kI T (seq i).2->runN P i (lone L.frame L.callers (J.on T J.drawn))=.next (lone (seq i).1.frame (seq i).1.callers ((seq i).2.on T (seq i).2.drawn)):=by
  intro i
  induction i with
  |zero=>intro _ T _;rfl
  |succ i S=>
   intro z T t;obtain⟨k,x1,W,x3⟩:=one i z;obtain⟨F,I⟩:=inv i λj C=>z j aa;obtain⟨_,ut⟩:=inv (i+1) z
   have hi:=S (λj C=>z j aa) T (λj C q=>by rw[t j aa q,W];exact(n _ F) j C q)
   obtain⟨X,x4⟩:=x3 T (λj C q=>by rw[t _ aa q,W]);rw[I.shape,ut.shape] at x4;rw[runN_add,hi];show runN P 1 _=_;rw[show(1:Nat)=0+1 from rfl,sM (sC x4) 0,x1];rfl
 have R:∀i,(∀j,j<i->l j)->∀T:Tape,kI T (seq i).2->∀fr w',runN P i (lone L.frame L.callers (J.on T J.drawn))=.next (lone fr [c0 P] w')->wH fr->Q (G fr [c0 P]) w'.heap->False:=by
  intro i z T t fr w' H hm hq;obtain⟨F,I⟩:=inv i z;rw[follow i z T t] at H;obtain⟨e1,e2,e3⟩:=Aq (Stepped.next.inj H);have e:(seq i).1=G fr [c0 P]:=by rw[I.shape,e1,e2]
  exact F (.lv ⟨fr,e,hm⟩ (by rw[e];rw[<-e3] at hq;exact hq))
 by_cases E:∀i,l i
 ·
  let T:Tape:=λp=>if h:∃i,p<(seq i).2.drawn then(seq h.choose).2.tape p elseλ_=>0
  have t:∀i,kI T (seq i).2:=by
   intro i p D q;have s:∃i,p<(seq i).2.drawn:=⟨i,D⟩;have:T p=(seq s.choose).2.tape p:=dif_pos s;rw[this];have h2:=s.choose_spec;generalize s.choose=k at h2;rcases Nat.le_total k i with hle|hle
   ·exact((mono i (λj _=>E j) k hle).2 p h2 q).symm
   ·exact(mono k (λj _=>E j) i hle).2 p D q
  obtain⟨N,fr,w',H,hm,hq⟩:=M T (t 0);exact R N (λj _=>E j) T (t N) fr w' H hm hq
 ·
  obtain⟨i,F',a⟩:∃i,¬l i/\∀j,j<i->l j:=by
   apply byContradiction;intro s;refine E λi=>?_
   induction i using Nat.strongRecOn with
   |_ i S=>apply byContradiction;intro hi;exact s ⟨i,hi,S⟩
  obtain⟨F,I⟩:=inv i a;have t:=(n _ F);obtain⟨m1,m2⟩:=mono i a 0 aa;obtain⟨N,fr,w',H,hm,hq⟩:=M (A (seq i)) (λj C q=>by rw[t j (Nat.lt_of_lt_of_le C m1) q];exact m2 j C q);rcases dg i N with aV|Z
  ·obtain⟨m,rfl⟩:∃m,N=i+(m+1):=⟨N-i-1,aa⟩;rw[runN_add,follow i a _ t] at H;dsimp only at H;by_cases hl:Lv P (seq i).1
   ·exact ael hl (m+1) aa H
   have V:=I.on (A (seq i)) (seq i).2.drawn;rcases(V.loc hB hC hz hG hF un hl).1 with⟨o,w1,es,u⟩|⟨g1,w1,es,u⟩
   ·have v:=u;rw[I.shape] at v;exact qf (pQ v) m H
   ·have D:∃c,g1.frame.mode=.panicking c:=by apply byContradiction;intro s;exact F' ⟨hl,g1,w1,es,u,λc hc=>s ⟨c,hc⟩⟩
    obtain⟨c,D⟩:=D;have xQ:=V.ahG hB hC hz hG hF un hl u D m fr w' hm
    have xR:g1=G g1.frame g1.callers:=by
     obtain⟨φ,fr2,eq,cs,cs',h',e,h1,h2,h3,h4,h5⟩:=V.ok;have ra:=u;rw[e] at ra;have hw:WR K φ ((seq i).2.on (A (seq i)) (seq i).2.drawn) {((seq i).2.on (A (seq i)) (seq i).2.drawn) with heap:=h'}:=⟨h3,λ_ _=>rfl⟩;rcases wG (m:=true) (m':=true) (B:=[c0 P]) (B':=[]) hB hC hz hG hF h4 h1 h2 h5 hw (λ⟨e1,e2,e3⟩=>hl ⟨fr2,by rw[e,e1];rfl,.inl ⟨e2,e3⟩⟩) (λ_⟨c,c',_,_,h⟩=>un c c' h) g1 w1 es ra with⟨ψ,mp,K',VG,ahH,c2,h',rfl,_⟩|⟨ψ,fr1,VG,ai4,ahH,tY,d,rfl,_⟩
     ·rfl
     ·rfl
    have v:=u;rw[I.shape,xR] at v;rw[sM (sC v) m] at H;exact xQ H
  ·obtain⟨y1,y2⟩:=mono i a N Z;exact R N (λj C=>a j aa) _ (λj C q=>by rw[t j aa q];exact y2 j C q) fr w' H hm hq
end
end
section
variable[ag]
open Go.Conc (G)
structure kr(K:aH)(φ ψ:Ren)(n:Nat)(w w1:AS):Prop where
 tape:w1.tape=w.tape
 os:w1.os=w.os
 out:w1.output=w.output
 size:w.heap.size<=w1.heap.size
 le:Ren.le φ ψ
 fresh:∀b c,ψ b=an c->φ b=an c\/(n<=b/\w.heap.size<=c)
 apart:∀c,c<w.heap.size->(∀b,φ b=an c->K.ro b\/K.tok b)->w1.heap[c]?=w.heap[c]?
def ik.q{K:aH}{φ ψ:Ren}{n:Nat}(h:ik K φ ψ n w w1):kr K φ ψ n w w1:=⟨h.left.tape,h.left.os,h.left.out,h.left.size,h.le,h.fresh,h.apart⟩
def kr.refl(K:aH)(φ:Ren)(n:Nat)(w:AS):kr K φ φ n w w:=⟨rfl,rfl,rfl,av _,Ren.le_refl φ,λ_ _ h=>.inl h,λ_ _ _=>rfl⟩
def kr.at{K:aH}{φ ψ:Ren}{n:Nat}{d:Nat}(h:kr K φ ψ n (w.at d) w1):kr K φ ψ n w w1:=⟨h.tape,h.os,h.out,h.size,h.le,h.fresh,h.apart⟩
def kr.trans{K:aH}{φ ψ d:Ren}{n m:Nat}{a b c:AS}(h:kr K φ ψ n a b)(k:kr K ψ d m b c)(e:n<=m):kr K φ d n a c:=by
 refine⟨k.tape.trans h.tape,k.os.trans h.os,k.out.trans h.out,aI h.size k.size,Ren.le_trans h.le k.le,λx y hx=>?_,λx hx hn=>?_⟩
 ·exact Mw
 ·exact Mx
def dK(P:NO)(K:aH)(B:List ajs)(φ:Ren)(g:BE)(wg:AS)(a:BE)(w:AS):Prop:=
 ∃fr eq cs cs',g=G fr (cs++[c0 P])/\a=G eq (cs'++B)/\eX P φ fr eq/\iM P φ cs cs'/\HR K φ wg.heap w.heap/\gE φ/\lO fr cs
def tu(g:BE):Prop:=g.frame.mode=.run/\BS g.frame
def Nx(P:NO)(y x:BE×AS):Prop:=¬Lv P x.1/\∃T es,kI T x.2/\ajM P AT x.1 (x.2.on T x.2.drawn)=.go y.1 y.2 es
section
variable{P:NO}{K:aH}{Q:BE->Array Obj->Prop}
def bG.acc(h:bG P Q g w):Acc (Nx P) (g,w):=by
 induction h with
 |lv h _=>exact⟨_,λy a=>absurd h a.1⟩
 |step _ _ _ b=>refine⟨_,λy a=>?_⟩;obtain⟨_,T,es,d,e⟩:=a;exact b T d _ _ es e
def bG.next(h:bG P Q g w)(a:Nx P (g1,w1) (g,w)):bG P Q g1 w1:=by obtain⟨b,T,es,d,e⟩:=a;cases h with|lv h _=>exact absurd h b|step _ _ h=>exact h T d _ _ es e
def spliced(wg w:AS):Tape:=λj q=>if j<wg.drawn then wg.tape j q else w.tape (w.drawn+(j-wg.drawn)) q
omit [ag] in
def Ns(wg w:AS){j:Nat}(h:j<wg.drawn)(q:Question):spliced wg w j q=wg.tape j q:=if_pos h
omit [ag] in
def zB(wg w:AS)(i:Nat)(q:Question):spliced wg w (wg.drawn+i) q=w.tape (w.drawn+i) q:=by unfold spliced;rw[if_neg aa,show wg.drawn+i-wg.drawn=i by omega]
def Pn(hB:dA P)(hC:ee P)(hz:cO P)(hG:K.G=P.globals.size)(hF:dY P K){B:List ajs}{φ:Ren}{wg:AS}{a:BE}
  (h:dK P K B φ g wg a w)(hw:bG P Q g wg)(r:¬Lv P g)(In:¬tu g){m:Bool}:
  ∃g1 b l F w1 d,Nx P (g1,b) (g,wg)/\bG P Q g1 b/\ajM P.two m a w=.go F w1 d/\dK P K B l g1 b F w1/\ik K φ l wg.heap.size w w1/\wg.heap.size<=b.heap.size/\∀e∈d,gJ K l e:=by
 obtain⟨fr,eq,cs,cs',rfl,rfl,h1,J,L,H,M⟩:=h;have s:kI (spliced wg w) wg:=λj N q=>Ns wg w N q;cases hw with
 |lv h _=>exact absurd h r
 |step _ t u=>
  obtain⟨g1,b,es,v,R⟩:=t _ s;have S:Nx P (g1,b) (G fr (cs++[c0 P]),wg):=⟨r,_,es,s,v⟩;have y:WR K φ (wg.on (spliced wg w) wg.drawn) w:=⟨L,λi q=>zB wg w i q⟩;rcases wG (m:=AT) (m':=m) (B:=[c0 P]) (B':=B) hB hC hz hG hF H h1 J M y (λ⟨T,V,W⟩=>r ⟨fr,by rw[T];rfl,.inl ⟨V,W⟩⟩) (λe x=>In ⟨e,x⟩) g1 b es v with⟨l,X,I,n,k,c,h',rfl,_⟩|⟨l,z,n,o,k,A,d,rfl,Z,h7,h8,h9,C,D,p,E⟩
  ·exact absurd rfl (R c)
  ·refine⟨_,b,l,_,A,d,S,u _ s _ _ es v,Z,?_,p,D.size,E⟩;have hv:gE l:=λg hg=>p.le _ _ (H g hg);exact⟨z,o,n,k,rfl,rfl,h7,h8,C.heap,hv,h9⟩
end
end
end Go.Proofs.Q0.aL
