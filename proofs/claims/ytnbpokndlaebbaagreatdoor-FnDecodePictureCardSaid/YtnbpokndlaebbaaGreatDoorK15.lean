import Derived.Test.YtnbpokndlaebbaaGreatDoorK14
import Derived.Conc.Listed
import Derived.Conc.Events
set_option maxRecDepth 100000
set_option maxHeartbeats 8000000
set_option linter.all false
open Go.Value renaming int->U,slice->Y,bool->ci,agg->bi,pointer->d9,tuple->em,iface->gc
open Go.IntKind renaming i64->O
open Go.Obj renaming cells->ap
open Go.Ending renaming returned->dl
open Bool renaming false->Ba,true->AT
open Go renaming Event->aiK,Frame->ahY,Goroutine->BE,Operand->aiD,Program->OF,World->rl,stepG->aiq,unwind->akw
open Go.Frame renaming enter->aid
open Go.Instr renaming enterLoop->akk,takeDeferred->aks
open Go.Sem renaming run_bind->aih
open Go.stepG renaming exec->akb
open Option renaming none->ns,some->an
namespace Go.Proofs
def LO{p:Prop}(h:p:=by
  rcases k.fresh x y hx with h1|⟨h1,h2⟩
  ·exact h.fresh x y h1
  ·exact .inr ⟨aa,aQ h.size h2⟩):p:=h
def LP{p:Prop}(h:p:=by
  rw[k.apart x (Nat.lt_of_lt_of_le hx h.size) λy hy=>?_,h.apart x hx hn];rcases h.fresh y x hy with h1|⟨_,h2⟩
  ·simp_all
  ·omega):p:=h
end Go.Proofs
namespace Go.Proofs.Q0.aM
variable{cs:List ahY}{fr:ahY}{w w' w1:rl}{P:OF}{g g1:BE}
section
variable[ah]
open Go.Conc (G)
def lu:ahY->List ahY->Prop
 |fr,[]=>fr.roundOf=ns
 |_,c::cs=>lu c cs
section
omit [ah]
def lu.congr{a:ahY}(h:lu fr cs)(e:a.roundOf=fr.roundOf):lu a cs:=by cases cs with|nil=>exact e.trans h|cons c cs=>exact h
def vh(fr:ahY)(v:Value):(fr.finish v).roundOf=fr.roundOf:=by unfold Frame.finish;split<;>rfl
def raise_mode(fr:ahY)(vs:List PanicEntry):∃c,fr.raise vs={fr with mode:=.panicking c}:=by unfold Frame.raise;split<;>exact⟨_,rfl⟩
abbrev mm:=ahY×List ahY
def Tv(P:OF)(fr:ahY)(cs:List ahY):Next->Sem mm
 |.value v=>pure (fr.finish v,cs)
 |.skip=>pure (fr.finish undef,cs)
 |.enter f a=>pure (aid P f a .normal,fr::cs)
 |.round l f ts a b=>pure (Frame.round l f ts a b .normal,fr::cs)
 |_=>.halt .blocked
def qp(P:OF)(fr:ahY)(cs:List ahY)(s:Sem Next):Sem mm:=s>>=Tv P fr cs
def lI(fr:ahY)(cs:List ahY)(j:Option Code):Sem mm:=
 match fr.roundOf with
 |none=>match j with|none|some .ret=>pure ({fr with mode:=.returning,roundOf:=ns},cs)|_=>stuck ""
 |some l=>Instr.endRound l j>>=λv=>match cs with|[]=>.halt .blocked|c::rest=>pure (c.finish v,rest)
def sQ(a:aiD->Value)(f:aiD)(l:Nat):Sem Next:=do
 let d<-resolve a {callee:=.value f,args:=#[.const (.func (.yield l) #[] #[])],argTypes:=#[]} 0
 invoke d.target d.args
def Gn(P:OF)(fr:ahY)(cs:List ahY)(a:Array Oper)(i:Nat):Sem mm:=
 match a[i]? with
 |none=>stuck ""
 |some o=>match o.op with|.defer _=>.halt .blocked|_=>qp P fr cs (execOp fr.eval o)
def nM(P:OF)(fr:ahY)(cs:List ahY):Sem mm:=
 let t9 (t:List Item):Sem mm:=pure ({fr with todo:=t},cs)
 match fr.todo with
 |[]=>lI fr cs ns
 |x::k=>match x with
  |.inBlock _|.inScope _|.inRegion _ []=>t9 k
  |.inLoop b=>t9 (.code b::.inLoop b::k)
  |.inRangeFunc _=>stuck ""
  |.beginRound=>qp P fr cs (do fr.roundOf.elim (stuck "beginRound: no round") Instr.beginRound;pure .skip)
  |.endRangeFunc l=>Instr.endLoop l>>=λj=>t9 ((j.map Item.code).toList++k)
  |.inRegion d (i::_)=>if((d[i]?).map (Region.wanted · (yielded d fr.tmps))).getD Ba then Gn P fr cs d i else pure (fr.finish undef,cs)
  |.call .. |.extern .. =>.halt .blocked
  |.code c=>match c with
   |.ret=>lI fr cs (an .ret)
   |.skip|.label _=>t9 k
   |.seq a b=>t9 (.code a::.code b::k)
   |.cond c a b=>match fr.eval c with|.bool t=>t9 (.code (if t then a else b)::k)|_=>stuck ""
   |.block id b=>t9 (.code b::.inBlock id::k)
   |.loop b=>t9 (.code b::.inLoop b::k)
   |.scope b=>t9 (.code b::.inScope b::k)
   |.exit id=>(exitTo id k).elim (lI fr cs (an (.exit id))) t9
   |.goto l=>(gotoIn l k).elim (lI fr cs (an (.goto l))) t9
   |.refuse _=>stuck ""
   |.region id d e=>if !e then t9 (.inRegion d (List.range d.size)::k) else choose (.order fr.fn id)>>=λt=>t9 (.inRegion d (Region.schedule (P.follows .mixedOrders) d t)::k)
   |.rangeFunc f h a b=>akk fr.fn fr.tmps h a b fr.roundOf>>=λ(l,mk)=>qp P {fr with todo:=.inRangeFunc l::k,defers:=mk++fr.defers} cs (sQ ({fr with todo:=.inRangeFunc l::k,defers:=mk++fr.defers}:ahY).eval f l)
def FD(P:OF)(fr:ahY)(cs:List ahY):Sem mm:=
 match fr.defers with
 |{target:=.collected r,..}::a=>aks r>>=λc=>pure ({fr with defers:=c++a},cs)
 |_::_=>.halt .blocked
 |[]=>match cs,P.funcs[fr.fn]? with
  |c::rest,an fn=>results fn fr.tmps>>=λv=>pure (c.finish v,rest)
  |_,_=>.halt .blocked
def pe(P:OF)(fr:ahY)(cs:List ahY):Sem mm:=match fr.mode with
 |.run=>nM P fr cs
 |.returning=>FD P fr cs
 |_=>.halt .blocked
def IK(P:OF)(fr:ahY)(w:rl)(f:ahY)(w1:rl):Prop:=f=fr\/fr.mode=.run/\∃g d a b k l mk w2 x,fr.todo=.code (.rangeFunc g d a b)::k/\(akk fr.fn fr.tmps d a b fr.roundOf).run P w=.ok (l,mk) w2/\
 f={fr with todo:=.inRangeFunc l::k,defers:=mk++fr.defers}/\(sQ f.eval g l).run P w2=.halt x w1
def Is(P:OF)(B cs:List ahY)(O:ahY->rl->Prop)(s:Sem mm)(g:GStep)(w:rl):Prop:=
 match s.run P w with
 |.ok x w1=>∃es,g=.go (G x.1 (x.2++B)) w1 es/\∀e∈es,e∈s.events P w #[]
 |.halt x w1=>kO x->(∃o w2 es,g=.ended o w2 es)\/∃f c es,g=.go (G {f with mode:=.panicking c} (cs++B)) w1 es/\O f w1
section
variable{P:OF}{B cs:List ahY}{O:ahY->rl->Prop}{w:rl}{fr:ahY}{m:Bool}
def Is.of{f:ahY}{c:List ahY}:Is P B cs O (pure (f,c)) (.go (G f (c++B)) w) w:=⟨#[],rfl,au⟩
def Is.lost{o:Outcome}{w2:rl}{es:Array aiK}{a:String}:Is P B cs O (stuck a) (.ended o w2 es) w:=λ_=>.inl ⟨o,w2,es,rfl⟩
def Is.no{g:GStep}:Is P B cs O (.halt .blocked) g w:=λh=>h.elim
def Is.bind{α:Type}{s:Sem α}{k:α->Sem mm}{fn:FuncId}{M:Result α->GStep}(i:∀a w2,s.run P w=.ok a w2->Is P B cs O (k a) (M (.ok a w2)) w2)
  (j:∀x w2,s.run P w=.halt x w2->(∃o w3 es,M (.halt x w2)=.ended o w3 es)\/∃f c es,M (.halt x w2)=.go (G {f with mode:=.panicking c} (cs++B)) w2 es/\O f w2):
  Is P B cs O (s>>=k) (GStep.after (seen P fn (s.runT P w #[]).2) (M (s.runT P w #[]).1)) w:=by
 have e:=Sem.events_bind P w #[] s k;unfold Is;rw[aih,Sem.runT_fst];cases b:s.run P w with
 |halt x w2=>
  intro _;rcases j x w2 b with⟨o,w3,es,h⟩|⟨f,c,es,h,d⟩<;>rw[h]
  ·exact .inl ⟨_,_,_,rfl⟩
  ·exact .inr ⟨_,_,_,rfl,d⟩
 |ok a w2=>
  have:=i a w2 b;unfold Is at this;rw[b] at e;simp only[Result.andThen_ok,Result.evThen_ok] at e⊢;cases hq:(k a).run P w2 with
  |ok x w3=>rw[hq] at this;obtain⟨es,h1,l⟩:=this;refine⟨_,by rw[h1];rfl,λev he=>?_⟩;rw[e,Sem.events_acc,Array.mem_append];exact(jv.1 he).imp (λh=>Go.Conc.mem_seen h) (l ev)
  |halt x w3=>
   rw[hq] at this;intro n;rcases this n with⟨o,w3,es,h⟩|⟨f,c,es,h,d⟩<;>rw[h]
   ·exact .inl ⟨_,_,_,rfl⟩
   ·exact .inr ⟨_,_,_,rfl,d⟩
def Fg(l:fr.kind=.normal)(d:(match fr.todo with|.call _ AT _ _::_=>CallKind.wrapped|_=>.normal)=.normal){s:Sem Next}(o:∀x w1,s.run P w=.halt x w1->O fr w1):
  Is P B cs O (qp P fr cs s) (stepG.apply P AT fr (cs++B) ns s w) w:=by
 have b:(fr.kind==CallKind.early)=Ba:=by rw[l];rfl
 have e:=Sem.events_bind P w #[] s (Tv P fr cs);have h1:=pJ P s w #[];unfold Is qp stepG.apply;rw[aih];unfold Sem.events at e;generalize s.runT P w #[]=q at h1 e;obtain⟨q1,es⟩:=q;simp only at h1;subst h1;simp only[if_true,b,Bool.false_eq_true,if_false,d];cases i:s.run P w with
 |halt x w1=>
  intro j;cases x with
  |panic v=>obtain⟨c,hc⟩:=raise_mode fr [{v,recovered:=Ba}];exact .inr ⟨fr,c,_,by rw[<-hc];rfl,o _ _ i⟩
  |stuck m=>exact .inl ⟨_,_,_,rfl⟩
  |unsupported u=>cases u<;>first|exact j.elim|exact .inl ⟨_,_,_,rfl⟩
  |_=>exact j.elim
 |ok n w1=>
  rw[i] at e;have mem:∀ev,ev∈seen P fr.fn es++#[]->ev∈es:=λev he=>Go.Conc.mem_seen (P:=P) (fn:=fr.fn) (by simpa using he);cases n with
  |value|skip|round=>exact⟨_,rfl,λev he=>by unfold Sem.events;rw[e];exact mem ev he⟩
  |enter f a=>exact⟨_,congrArg (λk=>GStep.go (G (aid P f a k) (fr::(cs++B))) w1 _) d,λev he=>by unfold Sem.events;rw[e];exact mem ev he⟩
  |_=>exactλh=>h.elim
def raised{vs:List PanicEntry}{L:List ahY}(a:O fr w):∃f c es,GStep.go (G (fr.raise vs) L) w=.go (G {f with mode:=.panicking c} L) w es/\O f w:=by obtain⟨c,hc⟩:=raise_mode fr vs;exact⟨fr,c,#[],by rw[hc],a⟩
def z7(a:fr.kind=.normal)(j:Option Code)(b:O fr w):
  Is P B cs O (lI fr cs j) (match fr.roundOf with
   |none=>if j matches ns|some .ret then .go (G {fr with mode:=.returning} (cs++B)) w else .ended (.stuck "exit, goto: no such block or label" (fr.pos P)) w
   |some l=>GStep.after (seen P fr.fn ((Instr.endRound l j).runT P w #[]).2) (match((Instr.endRound l j).runT P w #[]).1 with
    |.ok v w=>doReturn P m fr (cs++B) ns v w
    |.halt _ w=>.ended (.stuck "range over a function: no such loop" (fr.pos P)) w)) w:=by
 unfold lI;cases fr.roundOf with
 |none=>
  rcases j with _|c
  ·exact .of
  ·cases c<;>first|exact .of|exact .lost
 |some l=>refine Is.bind (M:=λr=>match r with|.ok v w=>doReturn P m fr (cs++B) ns v w|.halt _ w=>.ended (.stuck "range over a function: no such loop" (fr.pos P)) w) (λv d _=>?_) λ_ _ _=>.inl ⟨_,_,_,rfl⟩;cases cs with|nil=>exact .no|cons c rest=>simp only[List.cons_append,doReturn,a];exact .of
def ac3(e:fr.kind=.normal)(hm:fr.mode=.run):Is P B cs (IK P fr w) (nM P fr cs) (akb P m AT fr (cs++B) ns w) w:=by
 obtain⟨fn,tmps,todo,defers,mode,kind,ro⟩:=fr;have j:∀w1,IK P ⟨fn,tmps,todo,defers,mode,kind,ro⟩ w ⟨fn,tmps,todo,defers,mode,kind,ro⟩ w1:=λ_=>.inl rfl;cases todo with
 |nil=>exact z7 e ns (j _)
 |cons x k=>
  cases x with
  |inBlock|inScope|inLoop=>exact .of
  |inRangeFunc=>exact .lost
  |call|extern=>exact .no
  |beginRound=>exact Fg e rfl λ_ _ _=>j _
  |endRangeFunc l=>
   refine Is.bind (M:=λ(r:Result (Option Code))=>match r with
    |.ok n w=>.go (G ⟨fn,tmps,(n.map Item.code).toList++k,defers,mode,kind,ro⟩ (cs++B)) w
    |.halt (.panic v) w=>.go (G (Frame.raise _ [{v,recovered:=Ba}]) (cs++B)) w
    |.halt _ w=>.ended (.stuck "range over a function: no such loop" (Frame.pos P _)) w) (λ_ _ _=>.of) (λx q _=>?_)
   cases x with|panic v=>exact .inr (raised (j _))|_=>exact .inl ⟨_,_,_,rfl⟩
  |inRegion p t=>
   cases t with
   |nil=>exact .of
   |cons i t=>
    dsimp only[nM,akb];split
    ·unfold Gn stepG.oper Frame.oper?;dsimp only;cases p[i]? with
     |none=>exact .lost
     |some o=>dsimp only;cases hd:o.op<;>first|exact .no|(cases ro<;>exact Fg e rfl λ_ _ _=>j _)
    ·exact .of
  |code c=>
   cases c with
   |ret=>exact z7 e (an .ret) (j _)
   |skip|label|seq|block|loop|scope=>exact .of
   |refuse=>exact .lost
   |cond c a b=>dsimp only[nM,akb];cases Frame.eval _ c<;>first|exact .of|exact .lost
   |exit id=>dsimp only[nM,akb];cases exitTo id k<;>first|exact z7 e (an (.exit id)) (j _)|exact .of
   |goto id=>dsimp only[nM,akb];cases gotoIn id k<;>first|exact z7 e (an (.goto id)) (j _)|exact .of
   |region id p d=>cases d with|false=>exact .of|true=>exact⟨#[],rfl,λ_ h=>by simp at h⟩
   |rangeFunc f s a b=>
    refine Is.bind (M:=λ(r:Result (Nat×List Deferred))=>match r with
     |.ok (l,mark) w=>stepG.apply P AT ⟨fn,tmps,.inRangeFunc l::k,mark++defers,mode,kind,ro⟩ (cs++B) ns (sQ (Frame.eval ⟨fn,tmps,.inRangeFunc l::k,mark++defers,mode,kind,ro⟩) f l) w
     |.halt _ w=>.ended (.stuck "range over a function: no such loop" (Frame.pos P _)) w) (λu q hu=>?_) (λ_ _ _=>.inl ⟨_,_,_,rfl⟩)
    obtain⟨l,mk⟩:=u;exact Fg (fr:=⟨fn,tmps,.inRangeFunc l::k,mk++defers,mode,kind,ro⟩) e rfl λx w1 y=>.inr ⟨hm,f,s,a,b,k,l,mk,q,x,rfl,hu,rfl,y⟩
def FE(e:fr.kind=.normal):Is P B cs (IK P fr w) (pe P fr cs) (aiq P m (G fr (cs++B)) w) w:=by
 have f:aiq P m (G fr (cs++B)) w=match fr.mode with|.run=>akb P m AT fr (cs++B) ns w|_=>akw P m fr (cs++B) ns w:=by unfold aiq G;dsimp only;cases fr.mode<;>rfl
 rw[f];unfold pe;cases hm:fr.mode with
 |run=>exact ac3 e hm
 |panicking=>exact .no
 |returning=>
  dsimp only;rcases hd:fr.defers with _|⟨d,h⟩<;>unfold FD akw<;>rw[hd]<;>dsimp only
  ·rw[hm];dsimp only;cases cs with
   |nil=>exact .no
   |cons c rest=>
    cases P.funcs[fr.fn]? with
    |none=>exact .no
    |some fn=>
     refine Is.bind (M:=λ(r:Result Value)=>match r with
      |.ok v w=>doReturn P m fr (c::rest++B) ns v w
      |.halt (.stuck s) w=>.ended (.stuck s (fr.pos P)) w
      |.halt _ w=>.ended (.stuck "return: the result variables cannot be read" (fr.pos P)) w) (λv i _=>?_) (λx _ _=>by cases x<;>exact .inl ⟨_,_,_,rfl⟩)
     simp only[List.cons_append,doReturn,e];exact .of
  ·obtain⟨t,a⟩:=d
   cases t<;>first|exact .no|exact Is.bind (M:=λ(r:Result (List Deferred))=>match r with
    |.ok b w=>.go (G {fr with defers:=b++h} (cs++B)) w
    |.halt _ w=>.ended (.stuck "the deferred calls of a range-over-func loop have been taken" (fr.pos P)) w) (λ_ _ _=>.of) (λ_ _ _=>.inl ⟨_,_,_,rfl⟩)
end
end
def Bu(fr:ahY):Prop:=∃c c' k,fr.todo=.code c::k/\ah.dL c c'
section
variable{P:OF}{K:aI}{φ:Ren}{fr gt:ahY}{cs cs' B B':List ahY}{w w':rl}{m m':Bool}
def eT.to(h:eT P φ fr gt){t a:List Item}(b:gS P φ fr.fn fr.roundOf.isNone t a):eT P φ {fr with todo:=t} {gt with todo:=a}:=⟨h.fn,h.tmps,b,h.defers,h.mode,h.kind,h.round,h.jL⟩
def tC(P:OF)(a:Ren)(x y:mm):Prop:=eT P a x.1 y.1/\iC P a x.2 y.2/\lu x.1 x.2
def MW(hF:dX P K)(he:ER φ (ah.lv fr.fn) fr.eval gt.eval)(f:aiD)(d:ej (ah.lv fr.fn) f){l e:Nat}(r:φ l=an e):SR P K NR φ (sQ fr.eval f l) (sQ gt.eval f e):=by
 have a:aB φ (#[Operand.const (.func (.yield l) #[] #[])].map fr.eval) (#[Operand.const (.func (.yield e) #[] #[])].map gt.eval):=by
  refine⟨au,λi x y b p=>?_⟩
  match i with
  |0=>simp[Frame.eval] at b p;subst b;subst p;exact .func (.yield r) rfl (λi x y b _=>by simp at b) rfl (λi x y b _=>by simp at b)
  |i+1=>simp at b
 have d:=he.1 f d;unfold sQ resolve;dsimp only;generalize fr.eval f=u at d;generalize gt.eval f=s at d;cases d with
 |nilFunc=>exact .dead (eG (P:=P) (α:=Next) .nilDeref)
 |aX _ _=>exact .dead Mi
 |func j q b k n=>cases j with|func f o=>exact hF.2.2 f (hF.2.1 f o) φ _ _ he.2.2.2 ((aB.append ⟨q,b⟩ a).append ⟨k,n⟩)|yield h=>exact PF h (aB.append ⟨q,b⟩ a)
 |_=>exact .halt _ _
variable(hB:dz P)(hC:ef P)(hz:cN P)(hG:K.G=P.globals.size)(hF:dX P K)(hv:gR φ)(fd:eT P φ fr gt)(i7:iC P φ cs cs')(ka:lu fr cs)
include hB hC fd i7 ka in
def Fh(e:¬vN fr){s l:Sem Next}(o:SR P K NR φ s l):SR P K (tC P) φ (qp P fr cs s) (qp P.two gt cs' l):=
 SR.bind o λr n t d h=>by cases h with|value hv=>exact .pure ⟨(fd.mono d).finish e hv,i7.mono d,ka.congr (vh _ _)⟩|skip=>exact .pure ⟨(fd.mono d).finish e z6,i7.mono d,ka.congr (vh _ _)⟩|enter f i j=>exact .pure ⟨vO hB i j,.cons (fd.mono d) e (i7.mono d),ka⟩|round f a b h j p q k=>exact .pure ⟨ac2 hC h j p q k,.cons (fd.mono d) e (i7.mono d),ka⟩
include hB hC hz hG hF hv fd i7 ka in
def ac4(J':¬Bu fr):SR P K (tC P) φ (nM P fr cs) (nM P.two gt cs'):=by
 have T:=fd.todo;have A:=fd.round;have t9:∀{t V:List Item},gS P φ fr.fn fr.roundOf.isNone t V->SR P K (tC P) φ (pure ({fr with todo:=t},cs)) (pure ({gt with todo:=V},cs')):=λh=>.pure ⟨fd.to h,i7,ka.congr rfl⟩
 have p:∀j,Jump j->SR P K (tC P) φ (lI fr cs j) (lI gt cs' j):=λj S=>by
  unfold lI;generalize C:fr.roundOf=q at A;generalize gt.roundOf=q' at A;cases A with
  |none=>have r:SR P K (tC P) φ (pure ({fr with mode:=.returning,roundOf:=ns},cs)) (pure ({gt with mode:=.returning,roundOf:=ns},cs')):=.pure ⟨⟨fd.fn,fd.tmps,by have:=fd.todo;rw[C] at this;exact this,fd.defers,.returning,fd.kind,.none,fd.jL⟩,i7,ka.congr C.symm⟩;rcases S with rfl|rfl|⟨i,rfl⟩|⟨i,rfl⟩<;>first|exact r|exact .dead iq
  |some h=>refine SR.bind (X0 h S) λD v v' z hv=>?_;cases i7 with|nil=>exact absurd (C.symm.trans ka) au|cons hc W H=>exact .pure ⟨(hc.mono z).finish W hv,H.mono z,lu.congr ka (vh _ _)⟩
 unfold nM;generalize e1:fr.todo=t at T;generalize e2:gt.todo=V at T;have M:∀{x k},t=x::k->(∀E,x≠.code (.refuse E))->¬vN fr:=λh X⟨E,e⟩=>by rw[e1,h] at e;cases e;exact X E rfl
 cases T with
 |stop=>exact .halt _ _
 |nil=>exact p ns (.inl rfl)
 |@cons x y k k' X s=>
  cases X with
  |inBlock|inScope=>exact t9 s
  |inLoop h=>exact t9 (.cons (.code (.same h)) (.cons (.inLoop h) s))
  |tc=>exact .halt _ _
  |@inRegion N todo h=>
   cases todo with
   |nil=>exact t9 s
   |cons i t=>
    have n:=M rfl (λ_ e=>by cases e);dsimp only;rw[fd.tmps.wanted h i];split
    ·unfold Gn;cases ho:N[i]? with
     |none=>exact .halt _ _
     |some o=>
      have I:=(h i o ho).1;have Z:=Fh hB hC fd i7 ka n (ZU hz hG hF I (fd.eval hv));dsimp only;split
      ·next c e=>rw[e] at I;exact I.elim
      ·exact Z
    ·exact .pure ⟨fd.finish n z6,i7,ka.congr (vh _ _)⟩
  |@sP l l' z=>
   refine SR.bind (YW z) λD j j' J e=>?_;obtain⟨rfl,S⟩:=e;have R:=s.mono J
   have:gS P D fr.fn fr.roundOf.isNone ((j.map Item.code).toList++k) ((j.map Item.code).toList++k'):=by
    rcases S with rfl|rfl|⟨i,rfl⟩|⟨i,rfl⟩
    ·exact R
    all_goals exact .cons (.code (.same trivial)) R
   exact .pure ⟨(fd.mono J).to this,i7.mono J,ka.congr rfl⟩
  |beginRound=>
   refine Fh hB hC fd i7 ka (M rfl λ_ e=>by cases e) ?_;generalize fr.roundOf=q at A;generalize gt.roundOf=q' at A;cases A with
   |none=>exact .dead (fu iq)
   |some h=>exact SR.bind (WI h) λD _ _ _ _=>.pure .skip
  |@code c c' hc=>
   cases hc with
   |dL h=>exact absurd ⟨c,c',k,e1,h⟩ J'
   |seq ha hb=>exact t9 (.cons (.code ha) (.cons (.code hb) s))
   |same hc=>
   cases c with
   |skip|label=>exact t9 s
   |seq a b=>exact t9 (.cons (.code (.same hc.1)) (.cons (.code (.same hc.2)) s))
   |block id b=>exact t9 (.cons (.code (.same hc)) (.cons (.inBlock id) s))
   |loop b=>exact t9 (.cons (.code (.same hc)) (.cons (.inLoop hc) s))
   |scope b=>exact t9 (.cons (.code (.same hc)) (.cons (.inScope hc) s))
   |ret=>exact p (an .ret) (.inr (.inl rfl))
   |refuse=>exact .halt _ _
   |cond x a b=>have he:=(fd.eval hv).1 x hc.1;dsimp only;generalize fr.eval x=v at he;generalize gt.eval x=v' at he;cases he with|bool t=>cases t<;>exact t9 (.cons (.code (.same (by first|exact hc.2.1|exact hc.2.2))) s)|_=>exact .halt _ _
   |exit id=>
    rcases abt id s with⟨h1,L⟩|⟨a,b,h1,L,h⟩<;>dsimp only<;>rw[h1]
    ·cases C:fr.roundOf with|none=>unfold Option.elim lI;rw[C];exact .halt _ _|some l=>rw[L (by rw[C];rfl)];exact p _ (.inr (.inr (.inl ⟨id,rfl⟩)))
    ·rw[L];exact t9 h
   |goto id=>
    rcases abu id s with⟨h1,L⟩|⟨a,b,h1,L,h⟩<;>dsimp only<;>rw[h1]
    ·cases C:fr.roundOf with|none=>unfold Option.elim lI;rw[C];exact .halt _ _|some l=>rw[L (by rw[C];rfl)];exact p _ (.inr (.inr (.inr ⟨id,rfl⟩)))
    ·rw[L];exact t9 h
   |region id N d=>
    cases d with
    |false=>exact t9 (.cons (.inRegion _ hc) s)
    |true=>
     have h:SR P K aZ φ (choose (.order fr.fn id)) (choose (.order gt.fn id)):=by rw[fd.fn];exact zH
     exact SR.bind h λD t _ z e=>by subst e;exact .pure ⟨(fd.mono z).to (.cons (.inRegion _ hc) (s.mono z)),i7.mono z,ka.congr rfl⟩
   |rangeFunc f ps a b=>
    have h:SR P K (λD u v=>D u.1=an v.1/\jr D u.2 v.2) φ (akk fr.fn fr.tmps ps a b fr.roundOf) (akk gt.fn gt.tmps ps a b gt.roundOf):=by rw[fd.fn];exact MA fr.fn fd.jL fd.tmps ps a b hc.2.2.2.1 hc.2.2.2.2 fd.round
    refine SR.bind h λD u v z e=>?_
    have F:eT P D {fr with todo:=.inRangeFunc u.1::k,defers:=u.2++fr.defers} {gt with todo:=.inRangeFunc v.1::k',defers:=v.2++gt.defers}:=
     ⟨fd.fn,fd.tmps.mono z,.cons (.tc e.1) (s.mono z),e.2.append (fd.defers.mono z),fd.mode,fd.kind,fd.round.mono z,fd.jL⟩
    exact Fh hB hC F (i7.mono z) (ka.congr rfl) (λ⟨E,e⟩=>by cases e) (MW hF (F.eval (hv.mono z)) f hc.1 e.1)
include hB hC hz hG hF hv fd i7 ka in
def QK(i6:¬(cs=[]/\fr.mode=.returning/\fr.defers=[]))(J':fr.mode=.run->¬Bu fr):SR P K (tC P) φ (pe P fr cs) (pe P.two gt cs'):=by
 have b:=fd.mode;have hd:=fd.defers;unfold pe;generalize p:fr.mode=q at b;generalize gt.mode=x at b;cases b with
 |run=>exact ac4 hB hC hz hG hF hv fd i7 ka (J' p)
 |returning=>
  dsimp only;unfold FD;generalize r:fr.defers=t at hd;generalize gt.defers=y at hd;cases hd with
  |cons hd i=>
   cases hd with
   |mark s=>
    exact SR.bind (Kp s) λu c c' a e=>by obtain⟨rfl,rfl⟩:=e;exact .pure ⟨⟨fd.fn,fd.tmps.mono a,fd.todo.mono a,i.mono a,fd.mode,fd.kind,fd.round.mono a,fd.jL⟩,i7.mono a,ka.congr rfl⟩
  |nil=>
   cases i7 with
   |nil=>exact absurd ⟨rfl,p,r⟩ i6
   |cons hc j d=>
    obtain⟨fn,k,l,f,h,_,n,_⟩:=hB fr.fn fd.jL;have o:results k gt.tmps=results fn gt.tmps:=by unfold results;rw[h]
    dsimp only;rw[fd.fn,l,f];dsimp only;rw[o];exact SR.bind (Eg fn n fd.tmps) λu v z a hv=>.pure ⟨(hc.mono a).finish j hv,d.mono a,lu.congr ka (vh _ _)⟩
def Out(P:OF)(K:aI)(φ:Ren)(B B':List ahY)(w w':rl)(s k:GStep):Prop:=
 ∀g1 w1 es,s=.go g1 w1 es->(∃f mt O' b a c h',g1=G {mt with mode:=.panicking c} (b++B)/\eT P f mt O'/\iC P f b a/\HR K f w1.heap h')\/
  ∃f i b h a j d,g1=G i (b++B)/\k=.go (G h (a++B')) j d/\eT P f i h/\iC P f b a/\
   lu i b/\WR K f w1 j/\jG w w1/\gw K φ f w.heap.size w' j/\∀e∈d,fp K f e
variable(hw:WR K φ w w')(i6:¬(cs=[]/\fr.mode=.returning/\fr.defers=[]))(J':fr.mode=.run->¬Bu fr)
include hB hC hz hG hF hv fd i7 ka hw i6 J'
def vU:Out P K φ B B' w w' (aiq P m (G fr (cs++B)) w) (aiq P.two m' (G gt (cs'++B')) w'):=by
 intro g1 w1 es he;have h1:=FE (P:=P) (m:=m) (B:=B) (cs:=cs) (w:=w) fd.kind.1;have s:=FE (P:=P.two) (m:=m') (B:=B') (cs:=cs') (w:=w') fd.kind.2;have H:=QK hB hC hz hG hF hv fd i7 ka i6 J';unfold Is at h1 s;cases r:(pe P fr cs).run P w with
 |halt x I=>
  rw[r] at h1;obtain⟨M,t,N,hle,R⟩:=H.wh w w' hw x I r;rcases h1 M with⟨o,w3,u,e⟩|⟨f,c,u,e,S⟩<;>rw[e] at he<;>cases he
  left
  rcases S with rfl|⟨hm,g,T,a,b,k,l,mk,w3,x,J,hu,rfl,V⟩
  ·exact⟨t,_,gt,cs,cs',c,N,rfl,fd.mono hle,i7.mono hle,R⟩
  ·have n:=fd.todo;rw[J] at n;generalize gt.todo=t' at n;cases n with
   |@cons _ _ _ W z X=>
   cases z with
   |code hc=>
   cases hc with
   |dL h=>exact absurd ⟨_,_,k,J,h⟩ (J' hm)
   |same hc=>
   obtain⟨Z,v,A,d,g1,p,C,_,i,_⟩:=(MA (P:=P) (K:=K) fr.fn fd.jL fd.tmps T a b hc.2.2.2.1 hc.2.2.2.2 fd.round).run #[] hw hu
   have j:eT P Z {fr with todo:=.inRangeFunc l::k,defers:=mk++fr.defers} {gt with todo:=.inRangeFunc v.1::W,defers:=v.2++gt.defers}:=
    ⟨fd.fn,fd.tmps.mono i.le,.cons (.tc p.1) (X.mono i.le),p.2.append (fd.defers.mono i.le),fd.mode,fd.kind,fd.round.mono i.le,fd.jL⟩
   obtain⟨_,ω,h3,q,D⟩:=(MW hF (j.eval (hv.mono i.le)) g hc.1 p.1).wh w3 A C x w1 V;exact⟨ω,_,_,cs,cs',c,h3,rfl,j.mono q,(i7.mono i.le).mono q,D⟩
 |ok x I=>rw[r] at h1;obtain⟨es1,e1,_⟩:=h1;obtain⟨t,y,E,d,g1,p,C,g4,i,g6⟩:=H.run #[] hw r;have L:=pJ P.two (pe P.two gt cs') w' #[];rw[g1] at L;rw[<-L] at s;obtain⟨F,e3,m2⟩:=s;rw[e1] at he;cases he;exact .inr ⟨t,x.1,x.2,y.1,y.2,E,F,rfl,e3,p.1,p.2.1,p.2.2,C,g4,i,λe h=>g6 e (by have:=m2 e h;unfold Sem.events at this;rw[g1] at this;simpa using this)⟩
omit [ah] hB hC hz hG hF hv fd i7 ka hw i6 J' in
def QL(S:rl->GStep)(w:rl):Prop:=((∃o w1 es,S w=.ended o w1 es)\/∃g w1 es,S w=.go g w1 es)/\∀g1 w1 es,S w=.go g1 w1 es->(∀c,g1.frame.mode≠.panicking c)->
 ∃k,w1.drawn=w.drawn+k/\w1.tape=w.tape/\∀T:Tape,(∀j,j<k->∀q,T (w.drawn+j) q=w.tape (w.drawn+j) q)->∃a,S (w.on T w.drawn)=.go g1 (w1.on T (w.drawn+k)) a
def abv:QL (λw=>aiq P m (G fr (cs++B)) w) w:=by
 have h1:=λw=>FE (P:=P) (m:=m) (B:=B) (cs:=cs) (w:=w) fd.kind.1;have i:=QK hB hC hz hG hF hv fd i7 ka i6 J';unfold Is at h1;have a:=h1 w;cases b:(pe P fr cs).run P w with
 |halt x j=>
  rw[b] at a;rcases a (i.wh w w' hw x j b).1 with⟨o,w3,d,e⟩|⟨f,c,d,e,_⟩
  ·exact⟨.inl ⟨_,_,_,e⟩,λg1 w1 es he=>by dsimp only at he;rw[e] at he;cases he⟩
  ·exact⟨.inr ⟨_,_,_,e⟩,λg1 w1 es he l=>by dsimp only at he;rw[e] at he;cases he;exact absurd rfl (l c)⟩
 |ok x j=>rw[b] at a;obtain⟨q,n,_⟩:=a;refine⟨.inr ⟨_,_,_,n⟩,λg1 w1 es he l=>?_⟩;dsimp only at he;rw[n] at he;cases he;obtain⟨k,r,s,t⟩:=i.af8 w w' hw x _ b;refine⟨k,r,s,λT u=>?_⟩;have p:=h1 (w.on T w.drawn);rw[t T _ u] at p;obtain⟨h,e,_⟩:=p;exact⟨h,e⟩
end
def SR.both{K:aI}{φ:Ren}{α β:Type}{R:Ren->α->β->Prop}{s:Sem α}{k:Sem β}(h:SR P K R φ s k)(hw:WR K φ w w'):
  (∃x w1 es,s.runT P w #[]=(.halt x w1,es)/\kO x/\∃i h',Ren.le φ i/\HR K i w1.heap h')\/∃a w1 es i b f d,s.runT P w #[]=(.ok a w1,es)/\k.runT P.two w' #[]=(.ok b f,d)/\R i a b/\WR K i w1 f/\jG w w1/\gw K φ i w.heap.size w' f/\∀e∈d,fp K i e:=by
 have h1:=pJ P s w #[];cases j:s.run P w with
 |halt x w1=>exact .inl ⟨x,w1,(s.runT P w #[]).2,by rw[j] at h1;rw[<-h1],h.wh w w' hw x w1 j⟩
 |ok a w1=>obtain⟨i,b,f,d,g1,l,n,o,p,q⟩:=h.run #[] hw j;exact .inr ⟨a,w1,(s.runT P w #[]).2,i,b,f,d,by rw[j] at h1;rw[<-h1],by simpa using g1,l,n,o,p,q⟩
end
section
variable[ah]
open Go.Conc (G)
def c0(P:OF):ahY:={fn:=P.funcs.size,tmps:=#[],todo:=[.code (.refuse "")],defers:=[{target:=.nil,args:=#[]}],mode:=.run,kind:=.normal}
def vV(fr:ahY):Prop:=(fr.mode=.returning/\fr.defers=[])\/(fr.mode=.run/\vN fr)
def Lv(P:OF)(g:BE):Prop:=∃fr,g=G fr [c0 P]/\vV fr
omit [ah] in
def sk{gt:ahY}{cs':List ahY}{es:Array aiK}(h:aiq P AT (G fr cs) w=.go (G gt cs') w' es):Go.step P (lone fr cs w)=.next (lone gt cs' w'):=
 step_lone_go (by rw[show({frame:=fr,callers:=cs,status:=.running,dying:=ns}:BE)=G fr cs from rfl,h];rfl)
omit [ah] in
def pO{o:Outcome}{es:Array aiK}(h:aiq P AT (G fr cs) w=.ended o w' es):Go.step P (lone fr cs w)=.ended o w':=
 step_lone_ended (by rw[show({frame:=fr,callers:=cs,status:=.running,dying:=ns}:BE)=G fr cs from rfl,h];rfl)
omit [ah] in
def sC{m a:Machine}(h:Go.step P m=.next a)(n:Nat):runN P (n+1) m=runN P n a:=by show(match Go.step P m with|.next m=>runN P n m|e=>e)=_;rw[h]
omit [ah] in
def qe{m a:Machine}{o:Outcome}(h:Go.step P m=.ended o w)(n:Nat):runN P (n+1) m≠.next a:=by show(match Go.step P m with|.next m=>runN P n m|e=>e)≠_;rw[h];exactλe=>by cases e
omit [ah] in
def z8{gt:ahY}{cs':List ahY}(h:lone fr cs w=lone gt cs' w'):fr=gt/\cs=cs'/\w=w':=by unfold lone at h;simp only[Machine.mk.injEq,Array.mk.injEq,List.cons.injEq,Goroutine.mk.injEq] at h;exact⟨h.2.1.1.1,h.2.1.1.2.1,h.1⟩
section
variable{P:OF}{K:aI}
omit [ah] in
def JK{c:List PanicEntry}(hm:fr.mode=.panicking c):aiq P AT (G fr cs) w=akw P AT fr cs ns w:=by unfold aiq G;dsimp only;rw[hm]
def F6:∀(n:Nat){p:Ren}{mt O':ahY}{a b:List ahY}{c:List PanicEntry}{w w':rl}{h':Array Obj}{fr:ahY},
  eT P p mt O'->iC P p a b->HR K p w.heap h'->runN P n (lone {mt with mode:=.panicking c} (a++[c0 P]) w)=.next (lone fr [c0 P] w')->¬vV fr
 |0,p,mt,O',a,b,c,w,w',h',fr,fd,i7,A,hr=>by have:=z8 (Stepped.next.inj hr);rw[<-this.1];rintro(⟨e,_⟩|⟨e,_⟩)<;>cases e
 |n+1,p,mt,O',a,b,c,w,w',h',fr,fd,i7,A,hr=>by
  have f:=JK (P:=P) (fr:={mt with mode:=.panicking c}) (cs:=a++[c0 P]) (w:=w) (c:=c) rfl;have hd:=fd.defers;generalize z:mt.defers=t at hd;generalize X:O'.defers=Z at hd;cases hd with
  |@cons d d' L C hd D=>
   cases hd with
   |@mark r r' E=>
   have h:akw P AT {mt with mode:=.panicking c} (a++[c0 P]) ns w=GStep.after (seen P mt.fn ((aks r).runT P w #[]).2) (match((aks r).runT P w #[]).1 with
     |.ok i w=>.go (G {mt with mode:=.panicking c,defers:=i++L} (a++[c0 P])) w
     |.halt _ w=>.ended (.stuck "the deferred calls of a range-over-func loop have been taken" (Frame.pos P {mt with mode:=.panicking c})) w):=by
    conv=>lhs;unfold akw
    dsimp only;rw[z];rfl
   rw[h] at f;have hw:WR K p w {w with heap:=h'}:=⟨A,λ_ _=>rfl⟩;rcases(Kp (P:=P) (K:=K) E).both hw with⟨x,j,F,N,hf⟩|⟨u,j,F,R,v,S,d,g1,g2,T,V,g5,s,g7⟩
   ·rw[N] at f;exact absurd hr (qe (pO f) n)
   ·obtain⟨rfl,rfl⟩:=T;rw[g1] at f;rw[sC (sk f) n] at hr;exact F6 n (mt:={mt with defers:=L}) (O':={O' with defers:=C}) ⟨fd.fn,fd.tmps.mono s.le,fd.todo.mono s.le,D.mono s.le,fd.mode,fd.kind,fd.round.mono s.le,fd.jL⟩ (i7.mono s.le) V.heap hr
  |nil=>
   by_cases k:Frame.catches P {mt with mode:=.panicking c,defers:=[]}=AT
   ·have h:∃o j,akw P AT {mt with mode:=.panicking c} (a++[c0 P]) ns w=.ended o j:=by unfold akw;dsimp only;rw[z];dsimp only;rw[if_pos k];exact⟨_,_,rfl⟩
    obtain⟨o,j,h⟩:=h;rw[h] at f;exact absurd hr (qe (pO f) n)
   ·cases i7 with
    |@cons y H rest I hc W l=>
     have hm:y.raise c={y with mode:=.panicking c}:=by unfold Frame.raise;have:=hc.mode;generalize y.mode=q at this;generalize H.mode=q' at this;cases this<;>rfl
     have h:akw P AT {mt with mode:=.panicking c} (y::rest++[c0 P]) ns w=.go (G (y.raise c) (rest++[c0 P])) w:=by unfold akw;dsimp only;rw[z];dsimp only;rw[if_neg k];rfl
     rw[h,hm] at f;rw[sC (sk f) n] at hr;exact F6 n hc l A hr
    |nil=>
     have h:akw P AT {mt with mode:=.panicking c} ([]++[c0 P]) ns w=.go (G {c0 P with mode:=.panicking c} []) w:=by unfold akw;dsimp only;rw[z];dsimp only;rw[if_neg k];rfl
     rw[h] at f;rw[sC (sk f) n] at hr;cases n with
     |zero=>have:=(z8 (Stepped.next.inj hr)).2.1;cases this
     |succ n=>have M:=JK (P:=P) (fr:={c0 P with mode:=.panicking c}) (cs:=[]) (w:=w) (c:=c) rfl;have J:∃o j,akw P AT {c0 P with mode:=.panicking c} [] ns w=.ended o j:=⟨_,_,rfl⟩;obtain⟨o,j,J⟩:=J;rw[J] at M;exact absurd hr (qe (pO M) n)
end
end
section
variable[ah]
open Go.Conc (G)
def kk(T:Tape)(w:rl):Prop:=∀j,j<w.drawn->∀q,T j q=w.tape j q
inductive bO(P:OF)(Q:BE->Array Obj->Prop):BE->rl->Prop
 |lv {g:BE} {w:rl}:Lv P g->Q g w.heap->bO P Q g w
 |step {g:BE} {w:rl}:¬Lv P g->(∀T:Tape,kk T w->∃g1 w1 es,aiq P AT g (w.on T w.drawn)=.go g1 w1 es/\∀c,g1.frame.mode≠.panicking c)->
   (∀T:Tape,kk T w->∀g1 w1 es,aiq P AT g (w.on T w.drawn)=.go g1 w1 es->bO P Q g1 w1)->bO P Q g w
def ac5(f:Lv P g)(n:Nat)(k:1<=n)(hr:runN P n (lone g.frame g.callers w)=.next (lone fr [c0 P] w')):False:=by
 obtain⟨f0,rfl,d⟩:=f;obtain⟨n,rfl⟩:∃m,n=m+1:=⟨n-1,aa⟩;rcases d with⟨hm,hd⟩|⟨hm,i,j⟩
 case inr=>
  have b:∃o a es,aiq P AT (G f0 [c0 P]) w=.ended o a es:=by
   have e:aiq P AT (G f0 [c0 P]) w=akb P AT AT f0 [c0 P] ns w:=by unfold aiq G;dsimp only;rw[hm]
   rw[e];unfold akb;rw[j];exact⟨_,_,_,rfl⟩
  obtain⟨o,a,es,b⟩:=b;exact qe (pO b) n hr
 have back:∀v w,∃es,doReturn P AT f0 [c0 P] ns v w=.go (G (c0 P) []) w es:=by intro v w;unfold doReturn;dsimp only;split<;>exact⟨_,rfl⟩
 have b:(∃a es,aiq P AT (G f0 [c0 P]) w=.go (G (c0 P) []) a es)\/∃o a es,aiq P AT (G f0 [c0 P]) w=.ended o a es:=by
  have e:aiq P AT (G f0 [c0 P]) w=akw P AT f0 [c0 P] ns w:=by unfold aiq G;dsimp only;rw[hm]
  rw[e];unfold akw;rw[hd];dsimp only;rw[hm];dsimp only;split
  ·obtain⟨es,h⟩:=back (f0.tmps.getD 0 undef) w;exact .inl ⟨_,_,h⟩
  ·split
   ·next v a _=>obtain⟨es,h⟩:=back v a;rw[h];exact .inl ⟨_,_,rfl⟩
   ·exact .inr ⟨_,_,_,rfl⟩
   ·exact .inr ⟨_,_,_,rfl⟩
 rcases b with⟨a,es,b⟩|⟨o,a,es,b⟩
 ·have hr:runN P (n+1) (lone f0 [c0 P] w)=.next (lone fr [c0 P] w'):=hr
  rw[sC (sk b) n] at hr;cases n with
  |zero=>have:=(z8 (Stepped.next.inj hr)).2.1;cases this
  |succ n=>exact qe (pO (w':=a) (es:=#[]) rfl) n hr
 ·exact qe (pO b) n hr
section
variable{P:OF}{K:aI}
structure Good(P:OF)(K:aI)(g:BE)(w:rl):Prop where
 ok:∃φ fr gt cs cs' h',g=G fr (cs++[c0 P])/\eT P φ fr gt/\iC P φ cs cs'/\HR K φ w.heap h'/\gR φ/\lu fr cs
def Good.on(h:Good P K g w)(T:Tape)(n:Nat):Good P K g (w.on T n):=⟨h.ok⟩
def Good.shape(h:Good P K g w):g=G g.frame g.callers:=by obtain⟨φ,fr,gt,cs,cs',h',rfl,_⟩:=h.ok;rfl
variable(hB:dz P)(hC:ef P)(hz:cN P)(hG:K.G=P.globals.size)(hF:dX P K)(ws:∀c c',¬ah.dL c c')
include hB hC hz hG hF ws
def Good.loc(h:Good P K g w)(a:¬Lv P g):QL (λw=>aiq P AT g w) w:=by obtain⟨φ,fr,gt,cs,cs',h',rfl,h1,b,d,e,f⟩:=h.ok;have hw:WR K φ w {w with heap:=h'}:=⟨d,λ_ _=>rfl⟩;exact abv hB hC hz hG hF e h1 b f hw (λ⟨i,j,k⟩=>a ⟨fr,by rw[i];rfl,.inl ⟨j,k⟩⟩) (λ_⟨c,c',_,_,h⟩=>ws c c' h)
def Good.next{es:Array aiK}(h:Good P K g w)(o:¬Lv P g)(p:aiq P AT g w=.go g1 w1 es)(q:∀c,g1.frame.mode≠.panicking c):Good P K g1 w1:=by
 obtain⟨φ,fr,gt,cs,cs',h',rfl,h1,r,s,k,t⟩:=h.ok;have hw:WR K φ w {w with heap:=h'}:=⟨s,λ_ _=>rfl⟩;rcases vU (m:=AT) (m':=AT) (B:=[c0 P]) (B':=[]) hB hC hz hG hF k h1 r t hw (λ⟨u,v,x⟩=>o ⟨fr,by rw[u];rfl,.inl ⟨v,x⟩⟩) (λ_⟨c,c',_,_,h⟩=>ws c c' h) g1 w1 es p with⟨l,y,n,b,a,c,h',rfl,_⟩|⟨l,f,b,e,a,i,d,rfl,_,z,A,C,D,_,j,_⟩
 ·exact absurd rfl (q c)
 ·exact⟨l,f,e,b,a,i.heap,rfl,z,A,D.heap,λg E=>j.le _ _ (k g E),C⟩
def Good.aga{es:Array aiK}(h:Good P K g w)(l:¬Lv P g)(o:aiq P AT g w=.go g1 w1 es){c:List PanicEntry}(p:g1.frame.mode=.panicking c)(n:Nat)(fr:ahY)(w':rl)(hm:vV fr):
  runN P n (lone g1.frame g1.callers w1)≠.next (lone fr [c0 P] w'):=by
 obtain⟨φ,b,gt,cs,cs',h',rfl,h1,q,r,s,t⟩:=h.ok;have hw:WR K φ w {w with heap:=h'}:=⟨r,λ_ _=>rfl⟩;rcases vU (m:=AT) (m':=AT) (B:=[c0 P]) (B':=[]) hB hC hz hG hF s h1 q t hw (λ⟨u,v,x⟩=>l ⟨b,by rw[u];rfl,.inl ⟨v,x⟩⟩) (λ_⟨c,c',_,_,h⟩=>ws c c' h) g1 w1 es o with⟨y,z,j,f,a,I,h',rfl,A,C,D⟩|⟨y,i,f,k,a,E,d,rfl,_,F,J,L,M,_,H,_⟩
 ·exactλe=>F6 n A C D e hm
 ·have:=F.mode;rw[show i.mode=.panicking c from p] at this;cases this
open Classical in
def Xu{Q:Goroutine->Array Obj->Prop}{J:Goroutine}{I:World}(h0:Good P K J I)
  (L:∀T:Tape,kk T I->∃N fr w',runN P N (lone J.frame J.callers (I.on T I.drawn))=.next (lone fr [c0 P] w')/\vV fr/\Q (G fr [c0 P]) w'.heap):bO P Q J I:=by
 apply byContradiction;intro rC
 have pick:∀g w,¬bO P Q g w->¬Lv P g->∃T:Tape,kk T w/\∀g1 w1 es,stepG P true g (w.on T w.drawn)=.go g1 w1 es->(∀c,g1.frame.mode≠.panicking c)->¬bO P Q g1 w1:=by
  intro g w E b;apply byContradiction;intro r;refine E (.step b (λT s=>?_) λT s g1 w1 es t=>?_)
  ·apply byContradiction;intro hy;exact r ⟨T,s,λg1 w1 es t C hw=>hy ⟨g1,w1,es,t,C⟩⟩
  ·apply byContradiction;intro hy
   exact r ⟨T,s,λg2 w2 es2 u IG BK=>by rw[t] at u;cases u;exact hy BK⟩
 let z:Goroutine×World->Tape:=λx=>if h:¬bO P Q x.1 x.2/\¬Lv P x.1 then(pick x.1 x.2 h.1 h.2).choose else x.2.tape
 have v:∀x:Goroutine×World,¬bO P Q x.1 x.2->¬Lv P x.1->kk (z x) x.2/\∀g1 w1 es,stepG P true x.1 (x.2.on (z x) x.2.drawn)=.go g1 w1 es->(∀c,g1.frame.mode≠.panicking c)->¬bO P Q g1 w1:=by intro x r b;have:z x=(pick x.1 x.2 r b).choose:=dif_pos ⟨r,b⟩;rw[this];exact(pick x.1 x.2 r b).choose_spec
 have l:∀x:Goroutine×World,¬bO P Q x.1 x.2->kk (z x) x.2:=by
  intro x r;by_cases b:Lv P x.1
  ·have:z x=x.2.tape:=dif_neg λh=>h.2 b;rw[this];exactλ_ _ _=>rfl
  ·exact(v x r b).1
 let nx:Goroutine×World->Goroutine×World:=λx=>match stepG P true x.1 (x.2.on (z x) x.2.drawn) with
  |.go g1 w1 _=>(g1,w1)
  |_=>x
 let seq:Nat->Goroutine×World:=λi=>Nat.rec (J,I) (λ_ x=>nx x) i
 have n:∀i,seq (i+1)=nx (seq i):=λi=>rfl
 let f:Nat->Prop:=λi=>¬Lv P (seq i).1/\∃g1 w1 es,stepG P true (seq i).1 ((seq i).2.on (z (seq i)) (seq i).2.drawn)=.go g1 w1 es/\∀c,g1.frame.mode≠.panicking c
 have inv:∀i,(∀j,j<i->f j)->¬bO P Q (seq i).1 (seq i).2/\Good P K (seq i).1 (seq i).2:=by
  intro i
  induction i with
  |zero=>exactλ_=>⟨rC,h0⟩
  |succ i R=>
   intro y;obtain⟨E,H⟩:=R λj A=>y j aa;obtain⟨b,g1,w1,es,t,C⟩:=y i aa;have e:seq (i+1)=(g1,w1):=by rw[n];show(match stepG P true (seq i).1 ((seq i).2.on (z (seq i)) (seq i).2.drawn) with|.go g1 w1 _=>(g1,w1)|_=>seq i)=_;rw[t]
   rw[e];exact⟨(v _ E b).2 _ _ _ t C,(H.on _ _).next hB hC hz hG hF ws b t C⟩
 have one:∀i,(∀j,j<i+1->f j)->∃k,(seq (i+1)).2.drawn=(seq i).2.drawn+k/\(seq (i+1)).2.tape=z (seq i)/\∀T:Tape,(∀j,j<k->∀q,T ((seq i).2.drawn+j) q=z (seq i) ((seq i).2.drawn+j) q)->
   ∃W,stepG P true (seq i).1 ((seq i).2.on T (seq i).2.drawn)=.go (seq (i+1)).1 ((seq (i+1)).2.on T ((seq i).2.drawn+k)) W:=by
  intro i y;obtain⟨E,H⟩:=inv i λj A=>y j aa;obtain⟨b,g1,w1,es,t,C⟩:=y i aa;have e:seq (i+1)=(g1,w1):=by rw[n];show(match stepG P true (seq i).1 ((seq i).2.on (z (seq i)) (seq i).2.drawn) with|.go g1 w1 _=>(g1,w1)|_=>seq i)=_;rw[t]
  obtain⟨k,x1,V,x3⟩:=((H.on (z (seq i)) (seq i).2.drawn).loc hB hC hz hG hF ws b).2 g1 w1 es t C;rw[e];exact⟨k,x1,V,λT s=>x3 T s⟩
 have mono:∀i,(∀j,j<i->f j)->∀j,j<=i->(seq j).2.drawn<=(seq i).2.drawn/\∀p,p<(seq j).2.drawn->∀q,(seq i).2.tape p q=(seq j).2.tape p q:=by
  intro i
  induction i with
  |zero=>intro _ j A;obtain rfl:j=0:=aa;exact⟨ay _,λ_ _ _=>rfl⟩
  |succ i R=>
   intro y j A;rcases cZ j (i+1) with aV|X
   ·obtain⟨k,x1,V,_⟩:=one i y;obtain⟨y1,y2⟩:=R (λj A=>y j aa) j aa;obtain⟨E,_⟩:=inv i λj A=>y j aa;refine⟨aa,λp C q=>?_⟩;rw[V,(l _ E) p aa q];exact y2 p C q
   ·obtain rfl:j=i+1:=by omega
    exact⟨ay _,λ_ _ _=>rfl⟩
 have follow:∀i,(∀j,j<i->f j)->∀T:Tape,kk T (seq i).2->runN P i (lone J.frame J.callers (I.on T I.drawn))=.next (lone (seq i).1.frame (seq i).1.callers ((seq i).2.on T (seq i).2.drawn)):=by
  intro i
  induction i with
  |zero=>intro _ T _;rfl
  |succ i R=>
   intro y T s;obtain⟨k,x1,V,x3⟩:=one i y;obtain⟨E,H⟩:=inv i λj A=>y j aa;obtain⟨_,wt⟩:=inv (i+1) y
   have hi:=R (λj A=>y j aa) T (λj A q=>by rw[s j aa q,V];exact(l _ E) j A q)
   obtain⟨W,x4⟩:=x3 T (λj A q=>by rw[s _ aa q,V]);rw[H.shape,wt.shape] at x4;rw[runN_add,hi];show runN P 1 _=_;rw[show(1:Nat)=0+1 from rfl,sC (sk x4) 0,x1];rfl
 have M:∀i,(∀j,j<i->f j)->∀T:Tape,kk T (seq i).2->∀fr w',runN P i (lone J.frame J.callers (I.on T I.drawn))=.next (lone fr [c0 P] w')->vV fr->Q (G fr [c0 P]) w'.heap->False:=by
  intro i y T s fr w' F hm hq;obtain⟨E,H⟩:=inv i y;rw[follow i y T s] at F;obtain⟨e1,e2,e3⟩:=z8 (Stepped.next.inj F);have e:(seq i).1=G fr [c0 P]:=by rw[H.shape,e1,e2]
  exact E (.lv ⟨fr,e,hm⟩ (by rw[e];rw[<-e3] at hq;exact hq))
 by_cases D:∀i,f i
 ·
  let T:Tape:=λp=>if h:∃i,p<(seq i).2.drawn then(seq h.choose).2.tape p elseλ_=>0
  have s:∀i,kk T (seq i).2:=by
   intro i p C q;have r:∃i,p<(seq i).2.drawn:=⟨i,C⟩;have:T p=(seq r.choose).2.tape p:=dif_pos r;rw[this];have h2:=r.choose_spec;generalize r.choose=k at h2;rcases Nat.le_total k i with hle|hle
   ·exact((mono i (λj _=>D j) k hle).2 p h2 q).symm
   ·exact(mono k (λj _=>D j) i hle).2 p C q
  obtain⟨N,fr,w',F,hm,hq⟩:=L T (s 0);exact M N (λj _=>D j) T (s N) fr w' F hm hq
 ·
  obtain⟨i,Z,a⟩:∃i,¬f i/\∀j,j<i->f j:=by
   apply byContradiction;intro r;refine D λi=>?_
   induction i using Nat.strongRecOn with
   |_ i R=>apply byContradiction;intro hi;exact r ⟨i,hi,R⟩
  obtain⟨E,H⟩:=inv i a;have s:=(l _ E);obtain⟨m1,m2⟩:=mono i a 0 aa;obtain⟨N,fr,w',F,hm,hq⟩:=L (z (seq i)) (λj A q=>by rw[s j (Nat.lt_of_lt_of_le A m1) q];exact m2 j A q);rcases cZ i N with aV|X
  ·obtain⟨m,rfl⟩:∃m,N=i+(m+1):=⟨N-i-1,aa⟩;rw[runN_add,follow i a _ s] at F;dsimp only at F;by_cases hl:Lv P (seq i).1
   ·exact ac5 hl (m+1) aa F
   have S:=H.on (z (seq i)) (seq i).2.drawn;rcases(S.loc hB hC hz hG hF ws hl).1 with⟨o,w1,es,t⟩|⟨g1,w1,es,t⟩
   ·have u:=t;rw[H.shape] at u;exact qe (pO u) m F
   ·have C:∃c,g1.frame.mode=.panicking c:=by apply byContradiction;intro r;exact Z ⟨hl,g1,w1,es,t,λc hc=>r ⟨c,hc⟩⟩
    obtain⟨c,C⟩:=C;have xx:=S.aga hB hC hz hG hF ws hl t C m fr w' hm
    have xy:g1=G g1.frame g1.callers:=by
     obtain⟨φ,fr2,gt,cs,cs',h',e,h1,h2,h3,h4,h5⟩:=S.ok;have qZ:=t;rw[e] at qZ;have hw:WR K φ ((seq i).2.on (z (seq i)) (seq i).2.drawn) {((seq i).2.on (z (seq i)) (seq i).2.drawn) with heap:=h'}:=⟨h3,λ_ _=>rfl⟩;rcases vU (m:=true) (m':=true) (B:=[c0 P]) (B':=[]) hB hC hz hG hF h4 h1 h2 h5 hw (λ⟨e1,e2,e3⟩=>hl ⟨fr2,by rw[e,e1];rfl,.inl ⟨e2,e3⟩⟩) (λ_⟨c,c',_,_,h⟩=>ws c c' h) g1 w1 es qZ with⟨ψ,mt,O',cs1,agb,c2,h',rfl,_⟩|⟨ψ,fr1,cs1,ahx,agb,Pi,d,rfl,_⟩
     ·rfl
     ·rfl
    have u:=t;rw[H.shape,xy] at u;rw[sC (sk u) m] at F;exact xx F
  ·obtain⟨y1,y2⟩:=mono i a N X;exact M N (λj A=>a j aa) _ (λj A q=>by rw[s j aa q];exact y2 j A q) fr w' F hm hq
end
end
section
variable[ah]
open Go.Conc (G)
structure j3(K:aI)(φ ψ:Ren)(n:Nat)(w w1:rl):Prop where
 tape:w1.tape=w.tape
 os:w1.os=w.os
 out:w1.output=w.output
 size:w.heap.size<=w1.heap.size
 le:Ren.le φ ψ
 fresh:∀b c,ψ b=an c->φ b=an c\/(n<=b/\w.heap.size<=c)
 apart:∀c,c<w.heap.size->(∀b,φ b=an c->K.ro b\/K.tok b)->w1.heap[c]?=w.heap[c]?
def gw.q{K:aI}{φ ψ:Ren}{n:Nat}(h:gw K φ ψ n w w1):j3 K φ ψ n w w1:=⟨h.left.tape,h.left.os,h.left.out,h.left.size,h.le,h.fresh,h.apart⟩
def j3.refl(K:aI)(φ:Ren)(n:Nat)(w:rl):j3 K φ φ n w w:=⟨rfl,rfl,rfl,ay _,Ren.le_refl φ,λ_ _ h=>.inl h,λ_ _ _=>rfl⟩
def j3.at{K:aI}{φ ψ:Ren}{n:Nat}{d:Nat}(h:j3 K φ ψ n (w.at d) w1):j3 K φ ψ n w w1:=⟨h.tape,h.os,h.out,h.size,h.le,h.fresh,h.apart⟩
def j3.trans{K:aI}{φ ψ d:Ren}{n m:Nat}{a b c:rl}(h:j3 K φ ψ n a b)(k:j3 K ψ d m b c)(e:n<=m):j3 K φ d n a c:=by
 refine⟨k.tape.trans h.tape,k.os.trans h.os,k.out.trans h.out,aQ h.size k.size,Ren.le_trans h.le k.le,λx y hx=>?_,λx hx hn=>?_⟩
 ·exact LO
 ·exact LP
def dJ(P:OF)(K:aI)(B:List ahY)(φ:Ren)(g:BE)(wg:rl)(a:BE)(w:rl):Prop:=
 ∃fr gt cs cs',g=G fr (cs++[c0 P])/\a=G gt (cs'++B)/\eT P φ fr gt/\iC P φ cs cs'/\HR K φ wg.heap w.heap/\gR φ/\lu fr cs
def tl(g:BE):Prop:=g.frame.mode=.run/\Bu g.frame
def Nx(P:OF)(y x:BE×rl):Prop:=¬Lv P x.1/\∃T es,kk T x.2/\aiq P AT x.1 (x.2.on T x.2.drawn)=.go y.1 y.2 es
section
variable{P:OF}{K:aI}{Q:BE->Array Obj->Prop}
def bO.acc(h:bO P Q g w):Acc (Nx P) (g,w):=by
 induction h with
 |lv h _=>exact⟨_,λy a=>absurd h a.1⟩
 |step _ _ _ b=>refine⟨_,λy a=>?_⟩;obtain⟨_,T,es,d,e⟩:=a;exact b T d _ _ es e
def bO.next(h:bO P Q g w)(a:Nx P (g1,w1) (g,w)):bO P Q g1 w1:=by obtain⟨b,T,es,d,e⟩:=a;cases h with|lv h _=>exact absurd h b|step _ _ h=>exact h T d _ _ es e
def spliced(wg w:rl):Tape:=λj q=>if j<wg.drawn then wg.tape j q else w.tape (w.drawn+(j-wg.drawn)) q
omit [ah] in
def MB(wg w:rl){j:Nat}(h:j<wg.drawn)(q:Question):spliced wg w j q=wg.tape j q:=if_pos h
omit [ah] in
def zo(wg w:rl)(i:Nat)(q:Question):spliced wg w (wg.drawn+i) q=w.tape (w.drawn+i) q:=by unfold spliced;rw[if_neg aa,show wg.drawn+i-wg.drawn=i by omega]
def Oy(hB:dz P)(hC:ef P)(hz:cN P)(hG:K.G=P.globals.size)(hF:dX P K){B:List ahY}{φ:Ren}{wg:rl}{a:BE}
  (h:dJ P K B φ g wg a w)(hw:bO P Q g wg)(p:¬Lv P g)(J':¬tl g){m:Bool}:
  ∃g1 b k E w1 d,Nx P (g1,b) (g,wg)/\bO P Q g1 b/\aiq P.two m a w=.go E w1 d/\dJ P K B k g1 b E w1/\gw K φ k wg.heap.size w w1/\wg.heap.size<=b.heap.size/\∀e∈d,fp K k e:=by
 obtain⟨fr,gt,cs,cs',rfl,rfl,h1,I,J,F,L⟩:=h;have r:kk (spliced wg w) wg:=λj M q=>MB wg w M q;cases hw with
 |lv h _=>exact absurd h p
 |step _ s t=>
  obtain⟨g1,b,es,u,N⟩:=s _ r;have R:Nx P (g1,b) (G fr (cs++[c0 P]),wg):=⟨p,_,es,r,u⟩;have v:WR K φ (wg.on (spliced wg w) wg.drawn) w:=⟨J,λi q=>zo wg w i q⟩;rcases vU (m:=AT) (m':=m) (B:=[c0 P]) (B':=B) hB hC hz hG hF F h1 I L v (λ⟨S,T,V⟩=>p ⟨fr,by rw[S];rfl,.inl ⟨T,V⟩⟩) (λe x=>J' ⟨e,x⟩) g1 b es u with⟨k,W,H,l,f,c,h',rfl,_⟩|⟨k,y,l,n,f,z,d,rfl,X,Z,h8,h9,A,C,o,D⟩
  ·exact absurd rfl (N c)
  ·refine⟨_,b,k,_,z,d,R,t _ r _ _ es u,X,?_,o,C.size,D⟩;have hv:gR k:=λg hg=>o.le _ _ (F g hg);exact⟨y,n,l,f,rfl,rfl,Z,h8,A.heap,hv,h9⟩
end
end
end Go.Proofs.Q0.aM
