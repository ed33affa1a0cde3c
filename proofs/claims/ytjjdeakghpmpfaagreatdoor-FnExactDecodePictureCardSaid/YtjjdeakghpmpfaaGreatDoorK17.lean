import Derived.Test.YtjjdeakghpmpfaaGreatDoorK16
set_option maxRecDepth 100000
set_option maxHeartbeats 8000000
set_option linter.all false
open Go.Value renaming int->U,slice->Y,bool->a9,agg->a5,pointer->ci,tuple->dl,iface->em
open Go.IntKind renaming i64->O
open Go.Obj renaming cells->ac
open Go.Ending renaming returned->be
open Go renaming Code->ajP,Event->ajl,Frame->aiH,Goroutine->so,Program->Kx,Value->rl,World->ns,doReturn->ajZ,stepG->aiO,unwind->ajr
open Go.GStep renaming after->aiv
open Go.Instr renaming beginRound->ake,endLoop->akD,endRound->ajO,enterLoop->ajE,takeDeferred->ajm
open Go.stepG renaming apply->aiZ,exec->NO,oper->akC
open List renaming cons_append->ajn
namespace Go.Proofs
def C6{p:Prop}(h:p:=by
  have:∃o,stepG.exec P m true fr (cs++B) none w=.ended o w:=by unfold stepG.exec;rw[e1];exact⟨_,rfl⟩
  obtain⟨o,ho⟩:=this;rw[ho];exact uS):p:=h
def C7{p:Prop}(h:p:=by
  conv=>lhs;unfold stepG.exec
  rw[e1];dsimp only;rw[hr];rfl):p:=h
def C8{p:Prop}(h:p:=by have h:=ii.mode;rw[oN] at h;generalize bi.mode=q at h;cases h;rfl):p:=h
def KE{p:Prop}(h:p:=by exact go (G {fr with todo:=a} (cs++B)) λw=>by unfold stepG.exec;rw[e1];dsimp only;rw[h1];rfl):p:=h
def L3{p:Prop}(h:p:=by
  rcases k.fresh x y hx with h1|⟨h1,h2⟩
  ·exact h.fresh x y h1
  ·exact .inr ⟨aa,aJ h.size h2⟩):p:=h
def L4{p:Prop}(h:p:=by
  rw[k.apart x (Nat.lt_of_lt_of_le hx h.size) λy hy=>?_,h.apart x hx hn];rcases h.fresh y x hy with h1|⟨_,h2⟩
  ·simp_all
  ·omega):p:=h
end Go.Proofs
namespace Go.Proofs.Q0.aI
variable{w w' w1:ns}{L cs cs' B B':List aiH}{fr bi:aiH}{m:Bool}{g g1:so}{P:Kx}
section
variable[ag]
open Go.Conc (G)
section
variable{P:Kx}{K:aF}{φ:Ren}
def MO{s:Nat->Prop}{a:Array Oper}(h:pV P s a):∀(i:Nat) o c,a[i]?=some o->o.op≠.defer c:=by intro i o c b e;have:=(h i o b).1;rw[e] at this;exact this
theorem Du{j:Option ajP}{k:List Item}{l:Nat}(hr:fr.roundOf=some l)
  (hm:(j=none/\fr.todo=[])\/(j=some .ret/\fr.todo=.code .ret::k)\/(∃id,j=some (.exit id)/\fr.todo=.code (.exit id)::k/\exitTo id k=none)\/∃id,j=some (.goto id)/\fr.todo=.code (.goto id)::k/\gotoIn id k=none):
  NO P m true fr L none w=aiv (seen P fr.fn ((ajO l j).runT P w #[]).2) (match((ajO l j).runT P w #[]).1 with
    |.ok v w=>ajZ P m fr L none v w
    |.halt _ w=>.ended (.stuck "range over a function: no such loop" (fr.pos P)) w):=by
 conv=>lhs;unfold NO
 rcases hm with⟨rfl,h⟩|⟨rfl,h⟩|⟨id,rfl,h,a⟩|⟨id,rfl,h,a⟩
 ·grind
 ·grind
 ·grind
 ·grind
def zm{k:List Item}(hr:fr.roundOf=none)
  (hm:(∃id,fr.todo=.code (.exit id)::k/\exitTo id k=none)\/∃id,fr.todo=.code (.goto id)::k/\gotoIn id k=none):
  ∃o,NO P m true fr L none w=.ended o w:=by
 unfold NO;rcases hm with⟨id,h,a⟩|⟨id,h,a⟩
 ·simp_all
 ·simp_all
def vQ(fr:aiH):Prop:=∃c c' k,fr.todo=.code c::k/\ag.dH c c'
def aeO(hB:cJ P)(hC:dc P)(hz:bZ P)(hG:K.G=P.globals.size)(hF:dn P K)(m u:Bool)
  (D:ep φ)(n:bV P φ fr bi)(p:dp P φ cs cs')(hw:WR K φ w w')(H:dv fr cs)(M:¬vQ fr):
  Out P K φ B B' fr.fn (dv fr cs) w w' (NO P m true fr (cs++B) none w) (NO P.two u true bi (cs'++B') none w'):=by
 have N:=n.todo;have A:=n.round
 have z:∀(j:Option ajP)(k C:List Item),Jump j->
   ((j=none/\fr.todo=[])\/(j=some .ret/\fr.todo=.code .ret::k)\/(∃id,j=some (.exit id)/\fr.todo=.code (.exit id)::k/\exitTo id k=none)\/∃id,j=some (.goto id)/\fr.todo=.code (.goto id)::k/\gotoIn id k=none)->
   ((j=none/\bi.todo=[])\/(j=some .ret/\bi.todo=.code .ret::C)\/(∃id,j=some (.exit id)/\bi.todo=.code (.exit id)::C/\exitTo id C=none)\/∃id,j=some (.goto id)/\bi.todo=.code (.goto id)::C/\gotoIn id C=none)->
   ∀l,fr.roundOf=some l->Out P K φ B B' fr.fn (dv fr cs) w w' (NO P m true fr (cs++B) none w) (NO P.two u true bi (cs'++B') none w'):=by
  intro j k C hj h1 I l F;rw[F] at A;generalize R:bi.roundOf=q at A;cases A with
  |some h=>rw[Du F h1,Du R I];exact W6 n m u p hw h F H j hj
 generalize e1:fr.todo=t at N;generalize r:bi.todo=t' at N;cases N with
 |@stop S ys _=>exact C6
 |nil=>cases hr:fr.roundOf with|none=>exact Q3 m u n p hw hr (.inl ⟨e1,r⟩)|some l=>exact z none [] [] (.inl rfl) (.inl ⟨rfl,e1⟩) (.inl ⟨rfl,r⟩) l hr
 |@cons x y k C hx v=>
  have E:=hx;cases hx with
  |@code c c' hc=>
   cases hc with
   |dH h=>exact absurd ⟨c,c',k,e1,h⟩ M
   |@seq a b a' b' ha T=>
    have V:NO P m true fr (cs++B) none w=.go (G {fr with todo:=.code a::.code b::k} (cs++B)) w:=by unfold NO;rw[e1];rfl
    have W:NO P.two u true bi (cs'++B') none w'=.go (G {bi with todo:=.code a'::.code b'::C} (cs'++B')) w':=by unfold NO;rw[r];rfl
    rw[V,W];exact fB (n.to (.cons (.code ha) (.cons (.code T) v))) p hw (λT=>T.congr rfl)
   |same hc=>
   cases c with
   |skip=>exact pO m u D n p hw e1 r hc v trivial
   |label l=>exact pO m u D n p hw e1 r hc v trivial
   |seq a b=>exact pO m u D n p hw e1 r hc v trivial
   |cond a b c=>exact pO m u D n p hw e1 r hc v trivial
   |block a b=>exact pO m u D n p hw e1 r hc v trivial
   |loop a=>exact pO m u D n p hw e1 r hc v trivial
   |scope a=>exact pO m u D n p hw e1 r hc v trivial
   |region id ops d=>cases d with|false=>exact abV m u n p hw e1 r hc v|true=>exact aeN m u n p hw e1 r hc v
   |rangeFunc f ps a b=>exact adB hB hC hF m u D n p hw e1 r hc v
   |exit id=>
    rcases E5 id v with⟨h1,I⟩|⟨a,b,h1,_,_⟩
    ·cases hr:fr.roundOf with
     |none=>obtain⟨o,X⟩:=zm (P:=P) (m:=m) (L:=cs++B) (w:=w) hr (.inl ⟨id,e1,h1⟩);rw[X];exact uS
     |some l=>exact z (some (.exit id)) k C (.inr (.inr (.inl ⟨id,rfl⟩))) (.inr (.inr (.inl ⟨id,rfl,e1,h1⟩))) (.inr (.inr (.inl ⟨id,rfl,r,I (by rw[hr];rfl)⟩))) l hr
    ·exact RY (a:=a) (b:=b) m u n p hw e1 r v (.inl ⟨id,rfl,h1⟩)
   |goto id=>
    rcases E6 id v with⟨h1,I⟩|⟨a,b,h1,_,_⟩
    ·cases hr:fr.roundOf with
     |none=>obtain⟨o,X⟩:=zm (P:=P) (m:=m) (L:=cs++B) (w:=w) hr (.inr ⟨id,e1,h1⟩);rw[X];exact uS
     |some l=>exact z (some (.goto id)) k C (.inr (.inr (.inr ⟨id,rfl⟩))) (.inr (.inr (.inr ⟨id,rfl,e1,h1⟩))) (.inr (.inr (.inr ⟨id,rfl,r,I (by rw[hr];rfl)⟩))) l hr
    ·exact RY (a:=a) (b:=b) m u n p hw e1 r v (.inr ⟨id,rfl,h1⟩)
   |ret=>cases hr:fr.roundOf with|none=>exact Q3 m u n p hw hr (.inr ⟨k,C,e1,r⟩)|some l=>exact z (some .ret) k C (.inr (.inl rfl)) (.inr (.inl ⟨rfl,e1⟩)) (.inr (.inl ⟨rfl,r⟩)) l hr
   |refuse S=>exact C6
  |inBlock id=>exact Ak m u n p hw e1 r E v trivial
  |inLoop h=>exact Ak m u n p hw e1 r E v trivial
  |inScope h=>exact Ak m u n p hw e1 r E v trivial
  |inRegion todo h=>cases todo with|nil=>exact Ak m u n p hw e1 r E v trivial|cons i t=>exact aeM hB hC hz hG hF m u D n p hw e1 r h (MO h)
  |pG F=>exact C6
  |pC F=>exact Zm m u n p hw e1 r F v
  |beginRound=>
   generalize hr:fr.roundOf=q at A;generalize J:bi.roundOf=q' at A;cases A with
   |none=>
    have Z:=Aa (B:=B) (B':=B') hB hC n (yT e1 λ_ e=>by cases e) p (s:=do (stuck "beginRound: no round" :Sem Unit);pure .skip) (s':=do (stuck "beginRound: no round" :Sem Unit);pure .skip) (.dead (eG gI)) hw
    have V:NO P m true fr (cs++B) none w=aiZ P true fr (cs++B) none (do (stuck "beginRound: no round" :Sem Unit);pure .skip) w:=by exact C7
    have W:NO P.two u true bi (cs'++B') none w'=aiZ P.two true bi (cs'++B') none (do (stuck "beginRound: no round" :Sem Unit);pure .skip) w':=by
     conv=>lhs;unfold NO
     rw[r];dsimp only;rw[J];rfl
    rw[V,W];exact Z
   |some h=>exact adA hB hC m u n p hw e1 r hr J h
def abW(hB:cJ P)(m q:Bool)
  (ii:bV P φ fr bi)(l:dp P φ cs cs')(hw:WR K φ w w')(oN:fr.mode=.returning)(y:¬(cs=[]/\fr.defers=[])):
  Out P K φ B B' fr.fn (dv fr cs) w w' (ajr P m fr (cs++B) none w) (ajr P.two q bi (cs'++B') none w'):=by
 have n:bi.mode=.returning:=by exact C8
 have hd:=ii.defers;generalize z:fr.defers=t at hd;generalize e2:bi.defers=t' at hd;cases hd with
 |@cons d d' ds A hd C=>
  cases hd with
  |@mark r r' hr=>
  have D:ajr P m fr (cs++B) none w=aiv (seen P fr.fn ((ajm r).runT P w #[]).2) (match((ajm r).runT P w #[]).1 with
    |.ok a w=>.go (G {fr with defers:=a++ds} (cs++B)) w
    |.halt _ w=>.ended (.stuck "the deferred calls of a range-over-func loop have been taken" (fr.pos P)) w):=by
   conv=>lhs;unfold ajr
   rw[z];rfl
  have E:ajr P.two q bi (cs'++B') none w'=aiv (seen P.two bi.fn ((ajm r').runT P.two w' #[]).2) (match((ajm r').runT P.two w' #[]).1 with
    |.ok a w=>.go (G {bi with defers:=a++A} (cs'++B')) w
    |.halt _ w=>.ended (.stuck "the deferred calls of a range-over-func loop have been taken" (bi.pos P.two)) w):=by
   conv=>lhs;unfold ajr
   rw[e2];rfl
  rw[D,E];rcases(C4 (P:=P) (K:=K) hr).both hw with⟨x,F,j,H,hf⟩|⟨u,F,j,ψ,v,I,d,g1,J,M,N,R,i,S⟩
  ·rw[H];intro g w1 es h;simp[aiv] at h
  ·obtain⟨rfl,rfl⟩:=M;rw[g1,J];refine Out.after (fB ⟨ii.fn,ii.tmps.mono i.le,ii.todo.mono i.le,C.mono i.le,ii.mode,ii.kind,ii.round.mono i.le,ii.iU⟩ (l.mono i.le) N λT=>T.congr rfl) R i (λe he=>S e (l4 he))
 |nil=>
  cases l with
  |nil=>exact absurd ⟨rfl,z⟩ y
  |@cons c c' rest b hc V k=>
  have hk:=ii.kind.1;have W:=ii.kind.2;obtain⟨fn,o,X,f,p,_,Z,_⟩:=hB fr.fn ii.iU;have f:P.two.funcs[bi.fn]?=some o:=by rw[ii.fn];exact f
  have oP:results o bi.tmps=results fn bi.tmps:=by unfold results;rw[p]
  ·have D:ajr P m fr (c::rest++B) none w=aiv (seen P fr.fn ((results fn fr.tmps).runT P w #[]).2) (match((results fn fr.tmps).runT P w #[]).1 with
     |.ok v w=>ajZ P m fr (c::rest++B) none v w
     |.halt (.stuck s) w=>.ended (.stuck s (fr.pos P)) w
     |.halt _ w=>.ended (.stuck "return: the result variables cannot be read" (fr.pos P)) w):=by
    unfold ajr;rw[z];rw[oN];rw[X];rfl
   have E:ajr P.two q bi (c'::b++B') none w'=aiv (seen P.two bi.fn ((results fn bi.tmps).runT P.two w' #[]).2) (match((results fn bi.tmps).runT P.two w' #[]).1 with
     |.ok v w=>ajZ P.two q bi (c'::b++B') none v w
     |.halt (.stuck s) w=>.ended (.stuck s (bi.pos P.two)) w
     |.halt _ w=>.ended (.stuck "return: the result variables cannot be read" (bi.pos P.two)) w):=by
    unfold ajr;rw[e2];rw[n];rw[f];dsimp only;rw[oP];rfl
   rw[D,E];rcases(yY (P:=P) (K:=K) fn Z ii.tmps).both hw with⟨x,F,j,H,hf⟩|⟨u,F,j,ψ,v,I,d,g1,J,M,N,R,i,S⟩
   ·rw[H];intro g w1 es h;cases x<;>simp[aiv] at h
   ·rw[g1,J];refine Out.after ?_ R i λe he=>S e (l4 he);simp only[ajn,ajZ,hk,W];exact fB ((hc.mono i.le).finish V M) (k.mono i.le) N (λT=>dv.congr (fr:=c) T uD)
def vo(hB:cJ P)(hC:dc P)(hz:bZ P)(hG:K.G=P.globals.size)(hF:dn P K)(m d:Bool)
  (l:ep φ)(a:bV P φ fr bi)(e:dp P φ cs cs')(hw:WR K φ w w')(f:dv fr cs)(j:¬(cs=[]/\fr.mode=.returning/\fr.defers=[]))(k:fr.mode=.run->¬vQ fr):
  Out P K φ B B' fr.fn (dv fr cs) w w' (aiO P m (G fr (cs++B)) w) (aiO P.two d (G bi (cs'++B')) w'):=by
 have b:=a.mode;generalize i:fr.mode=q at b;generalize n:bi.mode=r at b
 have o:aiO P m (G fr (cs++B)) w=match fr.mode with|.run=>NO P m true fr (cs++B) none w|_=>ajr P m fr (cs++B) none w:=by unfold aiO G;dsimp only;cases fr.mode<;>rfl
 have p:aiO P.two d (G bi (cs'++B')) w'=match bi.mode with|.run=>NO P.two d true bi (cs'++B') none w'|_=>ajr P.two d bi (cs'++B') none w':=by unfold aiO G;dsimp only;cases bi.mode<;>rfl
 rw[o,p,i,n];cases b with|run=>exact aeO hB hC hz hG hF m d l a e hw f (k i)|returning=>exact abW hB m d a e hw i (λh=>j ⟨h.1,i,h.2⟩)
end
end
section
variable[ag]
open Go.Conc (G)
def Gi(s:GStep):Prop:=(∃o w1 es,s=.ended o w1 es)\/∃g w1 es,s=.go g w1 es
def Fx(S:ns->GStep)(w:ns):Prop:=Gi (S w)/\∀g1 w1 es,S w=.go g1 w1 es->(∀c,g1.frame.mode≠.panicking c)->
 ∃k,w1.drawn=w.drawn+k/\w1.tape=w.tape/\∀T:Tape,(∀j,j<k->∀q,T (w.drawn+j) q=w.tape (w.drawn+j) q)->∃a,S (w.on T w.drawn)=.go g1 (w1.on T (w.drawn+k)) a
def lz(S:ns->GStep)(w:ns):Prop:=Gi (S w)/\∀g1 w1 es,S w=.go g1 w1 es->(∀c,g1.frame.mode≠.panicking c)->
 ∃k,w1.drawn=w.drawn+k/\w1.tape=w.tape/\∀(T:Tape) n,(∀j,j<k->∀q,T (n+j) q=w.tape (w.drawn+j) q)->∃a,S (w.on T n)=.go g1 (w1.on T (n+k)) a
omit [ag] in
def lz.step{S:ns->GStep}(h:lz S w):Fx S w:=⟨h.1,λg1 w1 es e a=>by obtain⟨k,h1,b,d⟩:=h.2 g1 w1 es e a;exact⟨k,h1,b,λT f=>d T _ f⟩⟩
omit [ag] in
def r7{S:ns->GStep}(g:so)(h:∀w,S w=.go g w):lz S w:=by refine⟨.inr ⟨g,w,#[],h w⟩,?_⟩;intro g1 w1 es e _;rw[h] at e;cases e;exact⟨0,rfl,rfl,λT n _=>⟨#[],by rw[h];rfl⟩⟩
omit [ag] in
def pr{S:ns->GStep}(h:∃o w2,S w=.ended o w2):lz S w:=by obtain⟨o,w2,h⟩:=h;refine⟨.inl ⟨o,w2,#[],h⟩,?_⟩;intro g1 w1 es e _;rw[h] at e;cases e
section
variable{P:Kx}{K:aF}{φ:Ren}
def uJ{α β:Type}{R:Ren->α->β->Prop}{s:Sem α}{s':Sem β}(f:SR P K R φ s s')(hw:WR K φ w w')(fn:FuncId){M:Result α->GStep}
  (l:∀a w2,s.run P w=.ok a w2->lz (λw=>M (.ok a w)) w2)(p:∀x w2,lf x->(∃o w1 es,M (.halt x w2)=.ended o w1 es)\/∃g1 w1 es c,M (.halt x w2)=.go g1 w1 es/\g1.frame.mode=.panicking c):
  lz (λw=>aiv (seen P fn (s.runT P w #[]).2) (M (s.runT P w #[]).1)) w:=by
 refine⟨?_,?_⟩
 ·unfold Gi;dsimp only;rw[Sem.runT_fst];cases d:s.run P w with
  |halt x w2=>
   rcases p x w2 (f.pR w w' hw x w2 d).1 with⟨o,w1,es,h⟩|⟨g1,w1,es,c,h,_⟩
   ·rw[h];exact .inl ⟨_,_,_,rfl⟩
   ·rw[h];exact .inr ⟨_,_,_,rfl⟩
  |ok a w2=>
   rcases(l a w2 d).1 with⟨o,w1,es,h⟩|⟨g1,w1,es,h⟩
   ·dsimp only at h;rw[h];exact .inl ⟨_,_,_,rfl⟩
   ·dsimp only at h;rw[h];exact .inr ⟨_,_,_,rfl⟩
 intro g1 w1 es e r;dsimp only at e;rw[Sem.runT_fst] at e;cases d:s.run P w with
 |halt x w2=>
  have y:=(f.pR w w' hw x w2 d).1;rw[d] at e;exfalso;cases b:M (.halt x w2) with
  |go g w3 i=>
   rw[b] at e;obtain⟨rfl,rfl,_⟩:=e;rcases p x w2 y with⟨o,w1,es,h⟩|⟨g1,w1,es,c,h,hc⟩
   ·rw[h] at b;cases b
   ·rw[h] at b;cases b;exact r c hc
  |_=>rw[b] at e;simp[aiv] at e
 |ok a w2=>
  obtain⟨k,z,t,A⟩:=f.Tw w w' hw a w2 d;rw[d] at e;cases b:M (.ok a w2) with
  |go g w3 i=>rw[b] at e;obtain⟨rfl,rfl,_⟩:=e;obtain⟨C,J,D,E⟩:=(l a w2 d).2 _ _ _ b r;refine⟨k+C,aa,D.trans t,λT n u=>?_⟩;have F:=A T n λj H q=>u j aa q;obtain⟨I,v⟩:=E T (n+k) (λj H q=>by rw[Nat.add_assoc,u (k+j) aa,z,t,Nat.add_assoc]);dsimp only at v⊢;rw[Sem.runT_fst,F,v];exact⟨_,by simp only[aiv,Nat.add_assoc];rfl⟩
  |_=>rw[b] at e;simp[aiv] at e
def FY(P:Kx)(fr:aiH)(L:List aiH):Next->Option so
 |.value v=>some (G (fr.finish v) L)
 |.skip=>some (G (fr.finish undef) L)
 |.enter f args=>some (G (Frame.enter P f args .normal) (fr::L))
 |.round l f ts a b=>some (G (Frame.round l f ts a b .normal) (fr::L))
 |_=>none
def NR.next{n a:Next}(h:NR φ n a)(fr:aiH)(L:List aiH):∃g,FY P fr L n=some g:=by cases h<;>exact⟨_,rfl⟩
def aai{f:FuncId}{s:Bool}(h:eK P φ f s fr.todo bi.todo):(match fr.todo with|.call _ true _ _::_=>CallKind.wrapped|_=>.normal)=.normal:=by revert h;generalize fr.todo=l;generalize bi.todo=a;intro h;cases h with|nil=>rfl|stop _=>rfl|cons h _=>cases h<;>rfl
def D4(a:bV P φ fr bi){s:Sem Next}{w2:ns}{n:Next}(hr:s.run P w=.ok n w2)(b:FY P fr L n=some g):
  ∃es,aiZ P true fr L none s w=.go g w2 es:=by
 have d:(fr.kind==CallKind.early)=false:=by rw[a.kind.1];rfl
 have e:=aai a.todo;have h1:=nM P s w #[];unfold aiZ;generalize s.runT P w #[]=q at h1;obtain⟨q1,f⟩:=q;subst h1;simp only[if_true,d,Bool.false_eq_true,if_false,hr];cases n<;>first|(cases b;done)|(simp only[FY,Option.some.injEq] at b;subst b;exact⟨_,by simp only[aiv];first|rfl|exact congrArg (λk=>GStep.go (G (Frame.enter P _ _ k) (fr::L)) w2 _) e⟩)
def N6(a:bV P φ fr bi){s:Sem Next}{w2:ns}{x:Halt}(hr:s.run P w=.halt x w2)(d:lf x):(∃o w1 es,aiZ P true fr L none s w=.ended o w1 es)\/∃g1 w1 es c,aiZ P true fr L none s w=.go g1 w1 es/\g1.frame.mode=.panicking c:=by
 have b:(fr.kind==CallKind.early)=false:=by rw[a.kind.1];rfl
 have h1:=nM P s w #[];unfold aiZ;generalize s.runT P w #[]=q at h1;obtain⟨q1,e⟩:=q;subst h1;simp only[if_true,b,Bool.false_eq_true,if_false,hr];cases x with
 |panic v=>obtain⟨c,hc⟩:=raise_mode fr [{v,recovered:=false}];exact .inr ⟨_,_,_,c,rfl,by rw[hc]⟩
 |stuck m=>exact .inl ⟨_,_,_,rfl⟩
 |unsupported u=>cases u<;>first|exact d.elim|exact .inl ⟨_,_,_,rfl⟩
 |_=>exact d.elim
def yU(a:bV P φ fr bi){s s':Sem Next}(f:SR P K NR φ s s')(hw:WR K φ w w'):
  lz (λw=>aiZ P true fr L none s w) w:=by
 refine⟨?_,?_⟩
 ·dsimp only;cases b:s.run P w with
  |halt x i=>
   rcases N6 (L:=L) a b (f.pR w w' hw x i b).1 with h|⟨g1,w1,es,c,h,_⟩
   ·exact .inl h
   ·exact .inr ⟨_,_,_,h⟩
  |ok n i=>obtain⟨p,q,k,d,h1,l,r,t,u,v⟩:=f.run #[] hw b;obtain⟨g,j⟩:=l.next (P:=P) fr L;obtain⟨o,he⟩:=D4 a b j;exact .inr ⟨_,_,_,he⟩
 intro g1 w1 es e E;dsimp only at e;cases b:s.run P w with
 |halt x i=>
  rcases N6 (L:=L) a b (f.pR w w' hw x i b).1 with⟨_,_,_,h⟩|⟨g1,w1,es,c,h,hc⟩
  ·simp_all
  ·simp_all
 |ok n i=>obtain⟨p,q,k,d,h1,l,r,t,u,v⟩:=f.run #[] hw b;obtain⟨g,j⟩:=l.next (P:=P) fr L;obtain⟨o,he⟩:=D4 a b j;rw[he] at e;cases e;obtain⟨y,z,A,C⟩:=f.Tw w w' hw n _ b;exact⟨y,z,A,λT n D=>D4 a (C T n D) j⟩
def abX(hC:dc P)(hz:bZ P)(hG:K.G=P.globals.size)(hF:dn P K)(m:Bool)
  (hv:ep φ)(p:bV P φ fr bi)(W:dp P φ cs cs')(hw:WR K φ w w')(I:dv fr cs)(X:¬vQ fr):
  lz (λw=>NO P m true fr (cs++B) none w) w:=by
 have Z:=p.todo;have C:=p.round
 have z:∀(j:Option ajP)(k:List Item),Jump j->
   ((j=none/\fr.todo=[])\/(j=some .ret/\fr.todo=.code .ret::k)\/(∃id,j=some (.exit id)/\fr.todo=.code (.exit id)::k/\exitTo id k=none)\/∃id,j=some (.goto id)/\fr.todo=.code (.goto id)::k/\gotoIn id k=none)->
   ∀l,fr.roundOf=some l->lz (λw=>NO P m true fr (cs++B) none w) w:=by
  intro j k hj h1 l E;rw[E] at C;generalize hl':bi.roundOf=q at C;cases C with
  |@some _ l2 h=>
   have A:(λw=>NO P m true fr (cs++B) none w)=λw=>aiv (seen P fr.fn ((ajO l j).runT P w #[]).2) ((λr:Result rl=>match r with
    |.ok v w=>ajZ P m fr (cs++B) none v w
    |.halt _ w=>.ended (.stuck "range over a function: no such loop" (fr.pos P)) w) ((ajO l j).runT P w #[]).1):=funext λw=>Du E h1
   rw[A]
   refine uJ (M:=λr:Result rl=>match r with
    |.ok v w=>ajZ P m fr (cs++B) none v w
    |.halt _ w=>.ended (.stuck "range over a function: no such loop" (fr.pos P)) w) (Nh (P:=P) (K:=K) h j hj) hw fr.fn (λa J _=>?_) (λx J _=>.inl ⟨_,_,_,rfl⟩)
   cases W with
   |nil=>exact absurd (E.symm.trans I) aj
   |@cons c c' rest ahJ hc Uz S2=>have N:fr.kind=.normal:=p.kind.1;exact r7 (G (c.finish a) (rest++B)) λw=>by simp only[ajn,ajZ,N];rfl
 generalize e1:fr.todo=t at Z;generalize e2:bi.todo=t' at Z;have go:∀g:so,(∀w,NO P m true fr (cs++B) none w=.go g w)->lz (λw=>NO P m true fr (cs++B) none w) w:=λg h=>r7 g h;cases Z with
 |@stop IN ys _=>exact pr ⟨_,w,by unfold NO;rw[e1]⟩
 |nil=>
  cases hr:fr.roundOf with
  |none=>exact go (G {fr with mode:=.returning} (cs++B)) λw=>by unfold NO;rw[e1];dsimp only;rw[hr];rfl
  |some l=>exact z none [] (.inl rfl) (.inl ⟨rfl,e1⟩) l hr
 |@cons x y k k' hx N=>
  cases hx with
  |@code c c' hc=>
   cases hc with
   |dH h=>exact absurd ⟨c,c',k,e1,h⟩ X
   |@seq a b a' b' _ _=>exact go (G {fr with todo:=.code a::.code b::k} (cs++B)) λw=>by unfold NO;rw[e1];rfl
   |same hc=>
   cases c with
   |skip=>exact go (G {fr with todo:=k} (cs++B)) λw=>by unfold NO;rw[e1];rfl
   |label l=>exact go (G {fr with todo:=k} (cs++B)) λw=>by unfold NO;rw[e1];rfl
   |seq a b=>exact go (G {fr with todo:=.code a::.code b::k} (cs++B)) λw=>by unfold NO;rw[e1];rfl
   |cond a b c=>
    cases he:fr.eval a with
    |bool t=>exact go (G {fr with todo:=.code (if t then b else c)::k} (cs++B)) λw=>by unfold NO;rw[e1];dsimp only;rw[he];rfl
    |_=>exact pr ⟨_,w,by unfold NO;rw[e1];dsimp only;rw[he]⟩
   |block a b=>exact go (G {fr with todo:=.code b::.inBlock a::k} (cs++B)) λw=>by unfold NO;rw[e1];rfl
   |loop a=>exact go (G {fr with todo:=.code a::.inLoop a::k} (cs++B)) λw=>by unfold NO;rw[e1];rfl
   |scope a=>exact go (G {fr with todo:=.code a::.inScope a::k} (cs++B)) λw=>by unfold NO;rw[e1];rfl
   |region id s d=>
    cases d with
    |false=>exact go (G {fr with todo:=.inRegion s (List.range s.size)::k} (cs++B)) λw=>by unfold NO;rw[e1];rfl
    |true=>
     have A:∀w:ns,NO P m true fr (cs++B) none w=.go (G {fr with todo:=.inRegion s (Region.schedule (P.follows .mixedOrders) s (w.tape w.drawn (.order fr.fn id)))::k} (cs++B)) {w with drawn:=w.drawn+1}:=by intro w;unfold NO;rw[e1];rfl
     refine⟨.inr ⟨_,_,_,A w⟩,?_⟩;intro g1 w1 es e _;dsimp only at e;rw[A] at e;simp only[GStep.go.injEq] at e;obtain⟨rfl,rfl,_⟩:=e;refine⟨1,rfl,rfl,λT n hT=>⟨#[],?_⟩⟩;have:=hT 0 aa (.order fr.fn id);simp only[Nat.add_zero] at this;dsimp only;rw[A];show GStep.go (G {fr with todo:=.inRegion s (Region.schedule (P.follows .mixedOrders) s (T n (.order fr.fn id)))::k} (cs++B)) _ _=_;rw[this];rfl
   |rangeFunc f ps a b=>
    have A:(λw=>NO P m true fr (cs++B) none w)=λw=>aiv (seen P fr.fn ((ajE fr.fn fr.tmps ps a b fr.roundOf).runT P w #[]).2) ((λr:Result (Nat×List Deferred)=>match r with
      |.ok (l,mark) w=>aiZ P true {fr with todo:=.inRangeFunc l::k,defers:=mark++fr.defers} (cs++B) none (do let d<-resolve ({fr with todo:=.inRangeFunc l::k,defers:=mark++fr.defers}:aiH).eval {callee:=.value f,args:=#[.const (.func (.yield l) #[] #[])],argTypes:=#[]} 0;invoke d.target d.args) w
      |.halt _ w=>.ended (.stuck "range over a function: no such loop" (fr.pos P)) w) ((ajE fr.fn fr.tmps ps a b fr.roundOf).runT P w #[]).1):=funext λw=>by
     conv=>lhs;unfold NO
     rw[e1];rfl
    rw[A];have hs:=MN (P:=P) (K:=K) fr.fn p.iU p.tmps ps a b hc.2.2.2.1 hc.2.2.2.2 p.round
    refine uJ (M:=λr:Result (Nat×List Deferred)=>match r with
      |.ok (l,mark) w=>aiZ P true {fr with todo:=.inRangeFunc l::k,defers:=mark++fr.defers} (cs++B) none (do let d<-resolve ({fr with todo:=.inRangeFunc l::k,defers:=mark++fr.defers}:aiH).eval {callee:=.value f,args:=#[.const (.func (.yield l) #[] #[])],argTypes:=#[]} 0;invoke d.target d.args) w
      |.halt _ w=>.ended (.stuck "range over a function: no such loop" (fr.pos P)) w) hs hw fr.fn (λu J hr=>?_) (λx J _=>.inl ⟨_,_,_,rfl⟩)
    obtain⟨l,mk⟩:=u;obtain⟨ψ,v,BT,d,g2,g3,g4,g5,R,g7⟩:=hs.run #[] hw hr;obtain⟨V,mk'⟩:=v;obtain⟨E,hm⟩:=g3
    have F:bV P ψ {fr with todo:=.inRangeFunc l::k,defers:=mk++fr.defers} {bi with todo:=.inRangeFunc V::k',defers:=mk'++bi.defers}:=
     ⟨p.fn,p.tmps.mono R.le,.cons (.pG E) (N.mono R.le),hm.append (p.defers.mono R.le),p.mode,p.kind,p.round.mono R.le,p.iU⟩
    have hv2:ep ψ:=λg hg=>R.le _ _ (hv g hg);exact yU F (Ni hF (F.eval hv2) hc.1 E) g4
   |exit id=>
    rcases E5 id N with⟨h1,h2⟩|⟨a,b,h1,_,_⟩
    ·cases hr:fr.roundOf with
     |none=>obtain⟨o,H⟩:=zm (P:=P) (m:=m) (L:=cs++B) (w:=w) hr (.inl ⟨id,e1,h1⟩);exact pr ⟨o,w,H⟩
     |some l=>exact z (some (.exit id)) k (.inr (.inr (.inl ⟨id,rfl⟩))) (.inr (.inr (.inl ⟨id,rfl,e1,h1⟩))) l hr
    ·exact KE
   |goto id=>
    rcases E6 id N with⟨h1,h2⟩|⟨a,b,h1,_,_⟩
    ·cases hr:fr.roundOf with
     |none=>obtain⟨o,H⟩:=zm (P:=P) (m:=m) (L:=cs++B) (w:=w) hr (.inr ⟨id,e1,h1⟩);exact pr ⟨o,w,H⟩
     |some l=>exact z (some (.goto id)) k (.inr (.inr (.inr ⟨id,rfl⟩))) (.inr (.inr (.inr ⟨id,rfl,e1,h1⟩))) l hr
    ·exact KE
   |ret=>
    cases hr:fr.roundOf with
    |none=>exact go (G {fr with mode:=.returning} (cs++B)) λw=>by unfold NO;rw[e1];dsimp only;rw[hr];rfl
    |some l=>exact z (some .ret) k (.inr (.inl rfl)) (.inr (.inl ⟨rfl,e1⟩)) l hr
   |refuse IN=>exact pr ⟨_,w,by unfold NO;rw[e1]⟩
  |inBlock id=>exact go (G {fr with todo:=k} (cs++B)) λw=>by unfold NO;rw[e1];rfl
  |@inLoop b h=>exact go (G {fr with todo:=.code b::.inLoop b::k} (cs++B)) λw=>by unfold NO;rw[e1];rfl
  |inScope h=>exact go (G {fr with todo:=k} (cs++B)) λw=>by unfold NO;rw[e1];rfl
  |@inRegion s todo h=>
   cases todo with
   |nil=>exact go (G {fr with todo:=k} (cs++B)) λw=>by unfold NO;rw[e1];rfl
   |cons i t=>
    have S:fr.oper?=s[i]?:=by unfold Frame.oper?;rw[e1]
    have A:(λw=>NO P m true fr (cs++B) none w)=λw=>if((s[i]?).map (Region.wanted · (yielded s fr.tmps))).getD false then akC P true fr (cs++B) none w else .go (G (fr.finish undef) (cs++B)) w:=funext λw=>by exact C5
    rw[A];split
    ·cases H:s[i]? with
     |none=>refine pr ⟨.stuck "no operation here" (fr.pos P),w,?_⟩;unfold akC;rw[S,H]
     |some o=>
      have hd:=MO h i o
      have e3:(λw=>akC P true fr (cs++B) none w)=λw=>aiZ P true fr (cs++B) none (execOp fr.eval o) w:=funext λw=>by
       unfold akC;rw[S,H];dsimp only;split
       ·next c _ e=>exact absurd e (hd c H)
       ·rfl
      rw[e3];exact yU p (OO hz hG hF (h i o H).1 (p.eval hv)) hw
    ·exact r7 _ λw=>rfl
  |pG E=>exact pr ⟨_,w,by unfold NO;rw[e1]⟩
  |@pC l V E=>
   have A:(λw=>NO P m true fr (cs++B) none w)=λw=>aiv (seen P fr.fn ((akD l).runT P w #[]).2) ((λr:Result (Option ajP)=>match r with
     |.ok D w=>.go (G {fr with todo:=(D.map Item.code).toList++k} (cs++B)) w
     |.halt (.panic v) w=>.go (G (fr.raise [{v,recovered:=false}]) (cs++B)) w
     |.halt _ w=>.ended (.stuck "range over a function: no such loop" (fr.pos P)) w) ((akD l).runT P w #[]).1):=funext λw=>by
    conv=>lhs;unfold NO
    rw[e1];rfl
   rw[A]
   refine uJ (M:=λr:Result (Option ajP)=>match r with
     |.ok D w=>.go (G {fr with todo:=(D.map Item.code).toList++k} (cs++B)) w
     |.halt (.panic v) w=>.go (G (fr.raise [{v,recovered:=false}]) (cs++B)) w
     |.halt _ w=>.ended (.stuck "range over a function: no such loop" (fr.pos P)) w) (N4 (P:=P) (K:=K) E) hw fr.fn (λu J hr=>r7 _ λw=>rfl) (λx J hf=>?_)
   cases x with
   |panic v=>obtain⟨c,hc⟩:=raise_mode fr [{v,recovered:=false}];exact .inr ⟨_,_,_,c,rfl,by rw[hc];rfl⟩
   |_=>exact .inl ⟨_,_,_,rfl⟩
  |beginRound=>
   generalize hr:fr.roundOf=q at C;generalize RC:bi.roundOf=q' at C;cases C with
   |none=>
    have A:(λw=>NO P m true fr (cs++B) none w)=λw=>aiZ P true fr (cs++B) none (do (stuck "beginRound: no round" :Sem Unit);pure .skip) w:=funext λw=>by exact C7
    rw[A];exact yU p (s':=do (stuck "beginRound: no round" :Sem Unit);pure .skip) (.dead (eG gI)) hw
   |@some l V h=>
    have A:(λw=>NO P m true fr (cs++B) none w)=λw=>aiZ P true fr (cs++B) none (do ake l;pure .skip) w:=funext λw=>by exact C7
    rw[A];exact yU p (s':=do ake V;pure .skip) (SR.bind (Mr h) λψ _ _ _ _=>.pure .skip) hw
end
end
section
variable[ag]
open Go.Conc (G)
section
variable{P:Kx}{K:aF}{φ:Ren}
def Zn(hB:cJ P)(m:Bool)
  (b:bV P φ fr bi)(e:dp P φ cs cs')(hw:WR K φ w w')(f:fr.mode=.returning)(h:¬(cs=[]/\fr.defers=[])):
  lz (λw=>ajr P m fr (cs++B) none w) w:=by
 have hd:=b.defers;generalize i:fr.defers=t at hd;generalize H:bi.defers=I at hd;cases hd with
 |@cons d J y z hd A=>
  cases hd with
  |@mark r N j=>
  have k:(λw=>ajr P m fr (cs++B) none w)=λw=>aiv (seen P fr.fn ((ajm r).runT P w #[]).2) ((λr:Result (List Deferred)=>match r with
    |.ok a w=>.go (G {fr with defers:=a++y} (cs++B)) w
    |.halt _ w=>.ended (.stuck "the deferred calls of a range-over-func loop have been taken" (fr.pos P)) w) ((ajm r).runT P w #[]).1):=funext λw=>by
   conv=>lhs;unfold ajr
   rw[i];rfl
  rw[k]
  exact uJ (M:=λr:Result (List Deferred)=>match r with
    |.ok a w=>.go (G {fr with defers:=a++y} (cs++B)) w
    |.halt _ w=>.ended (.stuck "the deferred calls of a range-over-func loop have been taken" (fr.pos P)) w) (C4 (P:=P) (K:=K) j) hw fr.fn (λu l j=>r7 _ λw=>rfl) (λx l C=>.inl ⟨_,_,_,rfl⟩)
 |nil=>
  cases e with
  |nil=>exact absurd ⟨rfl,i⟩ h
  |@cons c c' rest n hc D o=>
  have E:=b.kind.1;obtain⟨fn,F,p,_,_,_,q,_⟩:=hB fr.fn b.iU
  ·skip
   have k:(λw=>ajr P m fr (c::rest++B) none w)=λw=>aiv (seen P fr.fn ((results fn fr.tmps).runT P w #[]).2) ((λr:Result rl=>match r with
     |.ok v w=>ajZ P m fr (c::rest++B) none v w
     |.halt (.stuck s) w=>.ended (.stuck s (fr.pos P)) w
     |.halt _ w=>.ended (.stuck "return: the result variables cannot be read" (fr.pos P)) w) ((results fn fr.tmps).runT P w #[]).1):=funext λw=>by
    unfold ajr;rw[i];rw[f];rw[p];rfl
   rw[k]
   refine uJ (M:=λr:Result rl=>match r with
     |.ok v w=>ajZ P m fr (c::rest++B) none v w
     |.halt (.stuck s) w=>.ended (.stuck s (fr.pos P)) w
     |.halt _ w=>.ended (.stuck "return: the result variables cannot be read" (fr.pos P)) w) (yY (P:=P) (K:=K) fn q b.tmps) hw fr.fn (λu l j=>?_) (λx l C=>by cases x<;>exact .inl ⟨_,_,_,rfl⟩)
   exact r7 (G (c.finish u) (rest++B)) λw=>by simp only[ajn,ajZ,E];rfl
def abY(hB:cJ P)(hC:dc P)(hz:bZ P)(hG:K.G=P.globals.size)(hF:dn P K)(m:Bool)
  (k:ep φ)(a:bV P φ fr bi)(d:dp P φ cs cs')(hw:WR K φ w w')(e:dv fr cs)(i:¬(cs=[]/\fr.mode=.returning/\fr.defers=[]))(j:fr.mode=.run->¬vQ fr):
  Fx (λw=>aiO P m (G fr (cs++B)) w) w:=by
 have b:=a.mode;generalize f:fr.mode=q at b;generalize n:bi.mode=o at b
 have l:(λw=>aiO P m (G fr (cs++B)) w)=λw=>match fr.mode with|.run=>NO P m true fr (cs++B) none w|_=>ajr P m fr (cs++B) none w:=funext λw=>by unfold aiO G;dsimp only;cases fr.mode<;>rfl
 rw[l,f];cases b with|run=>exact(abX hC hz hG hF m k a d hw e (j f)).step|returning=>exact(Zn hB m a d hw f λh=>i ⟨h.1,f,h.2⟩).step
end
end
section
variable[ag]
open Go.Conc (G)
def c0(P:Kx):aiH:={fn:=P.funcs.size,tmps:=#[],todo:=[.code (.refuse "")],defers:=[{target:=.nil,args:=#[]}],mode:=.run,kind:=.normal}
def vp(fr:aiH):Prop:=(fr.mode=.returning/\fr.defers=[])\/(fr.mode=.run/\su fr)
def Lv(P:Kx)(g:so):Prop:=∃fr,g=G fr [c0 P]/\vp fr
omit [ag] in
def rD{es:Array ajl}(h:aiO P true (G fr cs) w=.go (G bi cs') w' es):Go.step P (lone fr cs w)=.next (lone bi cs' w'):=
 step_lone_go (by rw[show({frame:=fr,callers:=cs,status:=.running,dying:=none}:so)=G fr cs from rfl,h];rfl)
omit [ag] in
def pg{o:Outcome}{es:Array ajl}(h:aiO P true (G fr cs) w=.ended o w' es):Go.step P (lone fr cs w)=.ended o w':=
 step_lone_ended (by rw[show({frame:=fr,callers:=cs,status:=.running,dying:=none}:so)=G fr cs from rfl,h];rfl)
omit [ag] in
def rM{m a:Machine}(h:Go.step P m=.next a)(n:Nat):runN P (n+1) m=runN P n a:=by show(match Go.step P m with|.next m=>runN P n m|e=>e)=_;rw[h]
omit [ag] in
def pD{m a:Machine}{o:Outcome}(h:Go.step P m=.ended o w)(n:Nat):runN P (n+1) m≠.next a:=by show(match Go.step P m with|.next m=>runN P n m|e=>e)≠_;rw[h];exactλe=>by cases e
omit [ag] in
def zG(h:lone fr cs w=lone bi cs' w'):fr=bi/\cs=cs'/\w=w':=by unfold lone at h;simp only[Machine.mk.injEq,Array.mk.injEq,List.cons.injEq,Goroutine.mk.injEq] at h;exact⟨h.2.1.1.1,h.2.1.1.2.1,h.1⟩
section
variable{P:Kx}{K:aF}
omit [ag] in
def JL{c:List PanicEntry}(hm:fr.mode=.panicking c):aiO P true (G fr cs) w=ajr P true fr cs none w:=by unfold aiO G;dsimp only;rw[hm]
def FZ:∀(n:Nat){y:Ren}{li NE:aiH}{b f:List aiH}{c:List PanicEntry}{w w':ns}{h':Array Obj}{fr:aiH},
  bV P y li NE->dp P y b f->HR K y w.heap h'->runN P n (lone {li with mode:=.panicking c} (b++[c0 P]) w)=.next (lone fr [c0 P] w')->¬vp fr
 |0,y,li,NE,b,f,c,w,w',h',fr,a,j,D,hr=>by have:=zG (Stepped.next.inj hr);rw[<-this.1];rintro(⟨e,_⟩|⟨e,_⟩)<;>cases e
 |n+1,y,li,NE,b,f,c,w,w',h',fr,a,j,D,hr=>by
  have h:=JL (P:=P) (fr:={li with mode:=.panicking c}) (cs:=b++[c0 P]) (w:=w) (c:=c) rfl;have hd:=a.defers;generalize C:li.defers=t at hd;generalize e2:NE.defers=t' at hd;cases hd with
  |@cons d d' R E hd F=>
   cases hd with
   |@mark r r' H=>
   have i:ajr P true {li with mode:=.panicking c} (b++[c0 P]) none w=aiv (seen P li.fn ((ajm r).runT P w #[]).2) (match((ajm r).runT P w #[]).1 with
     |.ok k w=>.go (G {li with mode:=.panicking c,defers:=k++R} (b++[c0 P])) w
     |.halt _ w=>.ended (.stuck "the deferred calls of a range-over-func loop have been taken" (Frame.pos P {li with mode:=.panicking c})) w):=by
    conv=>lhs;unfold ajr
    dsimp only;rw[C];rfl
   rw[i] at h;have hw:WR K y w {w with heap:=h'}:=⟨D,λ_ _=>rfl⟩;rcases(C4 (P:=P) (K:=K) H).both hw with⟨x,l,I,T,hf⟩|⟨u,l,I,V,v,W,d,g1,g2,X,Z,g5,z,g7⟩
   ·rw[T] at h;exact absurd hr (pD (pg h) n)
   ·obtain⟨rfl,rfl⟩:=X;rw[g1] at h;rw[rM (rD h) n] at hr;exact FZ n (li:={li with defers:=R}) (NE:={NE with defers:=E}) ⟨a.fn,a.tmps.mono z.le,a.todo.mono z.le,F.mono z.le,a.mode,a.kind,a.round.mono z.le,a.iU⟩ (j.mono z.le) Z.heap hr
  |nil=>
   by_cases p:Frame.catches P {li with mode:=.panicking c,defers:=[]}=true
   ·have i:∃o l,ajr P true {li with mode:=.panicking c} (b++[c0 P]) none w=.ended o l:=by unfold ajr;dsimp only;rw[C];dsimp only;rw[if_pos p];exact⟨_,_,rfl⟩
    obtain⟨o,l,i⟩:=i;rw[i] at h;exact absurd hr (pD (pg h) n)
   ·cases j with
    |@cons A J rest M hc Uz s=>
     have hm:A.raise c={A with mode:=.panicking c}:=by unfold Frame.raise;have:=hc.mode;generalize A.mode=q at this;generalize J.mode=q' at this;cases this<;>rfl
     have i:ajr P true {li with mode:=.panicking c} (A::rest++[c0 P]) none w=.go (G (A.raise c) (rest++[c0 P])) w:=by unfold ajr;dsimp only;rw[C];dsimp only;rw[if_neg p];rfl
     rw[i,hm] at h;rw[rM (rD h) n] at hr;exact FZ n hc s D hr
    |nil=>
     have i:ajr P true {li with mode:=.panicking c} ([]++[c0 P]) none w=.go (G {c0 P with mode:=.panicking c} []) w:=by unfold ajr;dsimp only;rw[C];dsimp only;rw[if_neg p];rfl
     rw[i] at h;rw[rM (rD h) n] at hr;cases n with
     |zero=>have:=(zG (Stepped.next.inj hr)).2.1;cases this
     |succ n=>have S:=JL (P:=P) (fr:={c0 P with mode:=.panicking c}) (cs:=[]) (w:=w) (c:=c) rfl;have N:∃o l,ajr P true {c0 P with mode:=.panicking c} [] none w=.ended o l:=⟨_,_,rfl⟩;obtain⟨o,l,N⟩:=N;rw[N] at S;exact absurd hr (pD (pg S) n)
end
end
section
variable[ag]
open Go.Conc (G)
def jY(T:Tape)(w:ns):Prop:=∀j,j<w.drawn->∀q,T j q=w.tape j q
inductive bE(P:Kx)(Q:so->Array Obj->Prop):so->ns->Prop
 |lv {g:so} {w:ns}:Lv P g->Q g w.heap->bE P Q g w
 |step {g:so} {w:ns}:¬Lv P g->(∀T:Tape,jY T w->∃g1 w1 es,aiO P true g (w.on T w.drawn)=.go g1 w1 es/\∀c,g1.frame.mode≠.panicking c)->
   (∀T:Tape,jY T w->∀g1 w1 es,aiO P true g (w.on T w.drawn)=.go g1 w1 es->bE P Q g1 w1)->bE P Q g w
def adC(f:Lv P g)(n:Nat)(k:1<=n)(hr:runN P n (lone g.frame g.callers w)=.next (lone fr [c0 P] w')):False:=by
 obtain⟨f0,rfl,d⟩:=f;obtain⟨n,rfl⟩:∃m,n=m+1:=⟨n-1,aa⟩;rcases d with⟨hm,hd⟩|⟨hm,i,j⟩
 case inr=>
  have b:∃o a es,aiO P true (G f0 [c0 P]) w=.ended o a es:=by
   have e:aiO P true (G f0 [c0 P]) w=NO P true true f0 [c0 P] none w:=by unfold aiO G;dsimp only;rw[hm]
   rw[e];unfold NO;rw[j];exact⟨_,_,_,rfl⟩
  obtain⟨o,a,es,b⟩:=b;exact pD (pg b) n hr
 have back:∀v w,∃es,ajZ P true f0 [c0 P] none v w=.go (G (c0 P) []) w es:=by intro v w;unfold ajZ;dsimp only;split<;>exact⟨_,rfl⟩
 have b:(∃a es,aiO P true (G f0 [c0 P]) w=.go (G (c0 P) []) a es)\/∃o a es,aiO P true (G f0 [c0 P]) w=.ended o a es:=by
  have e:aiO P true (G f0 [c0 P]) w=ajr P true f0 [c0 P] none w:=by unfold aiO G;dsimp only;rw[hm]
  rw[e];unfold ajr;rw[hd];rw[hm];dsimp only;split
  ·obtain⟨es,h⟩:=back (f0.tmps.getD 0 undef) w;exact .inl ⟨_,_,h⟩
  ·split
   ·next v a _=>obtain⟨es,h⟩:=back v a;rw[h];exact .inl ⟨_,_,rfl⟩
   ·exact .inr ⟨_,_,_,rfl⟩
   ·exact .inr ⟨_,_,_,rfl⟩
 rcases b with⟨a,es,b⟩|⟨o,a,es,b⟩
 ·have hr:runN P (n+1) (lone f0 [c0 P] w)=.next (lone fr [c0 P] w'):=hr
  rw[rM (rD b) n] at hr;cases n with
  |zero=>have:=(zG (Stepped.next.inj hr)).2.1;cases this
  |succ n=>exact pD (pg (w':=a) (es:=#[]) rfl) n hr
 ·exact pD (pg b) n hr
section
variable{P:Kx}{K:aF}
structure Good(P:Kx)(K:aF)(g:so)(w:ns):Prop where
 ok:∃φ fr bi cs cs' h',g=G fr (cs++[c0 P])/\bV P φ fr bi/\dp P φ cs cs'/\HR K φ w.heap h'/\ep φ/\dv fr cs
def Good.on(h:Good P K g w)(T:Tape)(n:Nat):Good P K g (w.on T n):=⟨h.ok⟩
def Good.shape{g:so}{w:ns}(h:Good P K g w):g=G g.frame g.callers:=by obtain⟨φ,fr,bi,cs,cs',h',rfl,_⟩:=h.ok;rfl
variable(hB:cJ P)(hC:dc P)(hz:bZ P)(hG:K.G=P.globals.size)(hF:dn P K)(un:∀c c',¬ag.dH c c')
include hB hC hz hG hF un
def Good.loc(h:Good P K g w)(a:¬Lv P g):Fx (λw=>aiO P true g w) w:=by obtain⟨φ,fr,bi,cs,cs',h',rfl,h1,b,d,e,f⟩:=h.ok;have hw:WR K φ w {w with heap:=h'}:=⟨d,λ_ _=>rfl⟩;exact abY hB hC hz hG hF true e h1 b hw f (λ⟨i,j,k⟩=>a ⟨fr,by rw[i];rfl,.inl ⟨j,k⟩⟩) (λ_⟨c,c',_,_,h⟩=>un c c' h)
def Good.next{es:Array ajl}(h:Good P K g w)(p:¬Lv P g)(q:aiO P true g w=.go g1 w1 es)(r:∀c,g1.frame.mode≠.panicking c):Good P K g1 w1:=by
 obtain⟨φ,fr,bi,cs,cs',h',rfl,h1,s,t,k,l⟩:=h.ok;have hw:WR K φ w {w with heap:=h'}:=⟨t,λ_ _=>rfl⟩;rcases vo (B:=[c0 P]) (B':=[]) hB hC hz hG hF true true k h1 s hw l (λ⟨u,v,x⟩=>p ⟨fr,by rw[u];rfl,.inl ⟨v,x⟩⟩) (λ_⟨c,c',_,_,h⟩=>un c c' h) g1 w1 es q with⟨n,y,o,b,a,c,h',rfl,_⟩|⟨n,f,b,e,a,i,d,rfl,_,z,A,C,D,_,j,_⟩
 ·exact absurd rfl (r c)
 ·exact⟨n,f,e,b,a,i.heap,rfl,z,A,D.heap,λg E=>j.le _ _ (k g E),C l⟩
def Good.agP{es:Array ajl}(h:Good P K g w)(l:¬Lv P g)(o:aiO P true g w=.go g1 w1 es){c:List PanicEntry}(p:g1.frame.mode=.panicking c)(n:Nat)(fr:aiH)(w':ns)(hm:vp fr):
  runN P n (lone g1.frame g1.callers w1)≠.next (lone fr [c0 P] w'):=by
 obtain⟨φ,b,bi,cs,cs',h',rfl,h1,q,r,s,t⟩:=h.ok;have hw:WR K φ w {w with heap:=h'}:=⟨r,λ_ _=>rfl⟩;rcases vo (B:=[c0 P]) (B':=[]) hB hC hz hG hF true true s h1 q hw t (λ⟨u,v,x⟩=>l ⟨b,by rw[u];rfl,.inl ⟨v,x⟩⟩) (λ_⟨c,c',_,_,h⟩=>un c c' h) g1 w1 es o with⟨y,z,j,f,a,I,h',rfl,A,C,D⟩|⟨y,i,f,k,a,E,d,rfl,_,F,J,M,N,_,H,_⟩
 ·exactλe=>FZ n A C D e hm
 ·have:=F.mode;rw[show i.mode=.panicking c from p] at this;cases this
open Classical in
def XG{Q:Goroutine->Array Obj->Prop}{J:Goroutine}{I:World}(h0:Good P K J I)
  (M:∀T:Tape,jY T I->∃N fr w',runN P N (lone J.frame J.callers (I.on T I.drawn))=.next (lone fr [c0 P] w')/\vp fr/\Q (G fr [c0 P]) w'.heap):bE P Q J I:=by
 apply byContradiction;intro qO
 have pick:∀g w,¬bE P Q g w->¬Lv P g->∃T:Tape,jY T w/\∀g1 w1 es,stepG P true g (w.on T w.drawn)=.go g1 w1 es->(∀c,g1.frame.mode≠.panicking c)->¬bE P Q g1 w1:=by
  intro g w E b;apply byContradiction;intro r;refine E (.step b (λT s=>?_) λT s g1 w1 es t=>?_)
  ·apply byContradiction;intro hy;exact r ⟨T,s,λg1 w1 es t C hw=>hy ⟨g1,w1,es,t,C⟩⟩
  ·apply byContradiction;intro hy
   exact r ⟨T,s,λg2 w2 es2 u IH Bf=>by rw[t] at u;cases u;exact hy Bf⟩
 let z:Goroutine×World->Tape:=λx=>if h:¬bE P Q x.1 x.2/\¬Lv P x.1 then(pick x.1 x.2 h.1 h.2).choose else x.2.tape
 have v:∀x:Goroutine×World,¬bE P Q x.1 x.2->¬Lv P x.1->jY (z x) x.2/\∀g1 w1 es,stepG P true x.1 (x.2.on (z x) x.2.drawn)=.go g1 w1 es->(∀c,g1.frame.mode≠.panicking c)->¬bE P Q g1 w1:=by intro x r b;have:z x=(pick x.1 x.2 r b).choose:=dif_pos ⟨r,b⟩;rw[this];exact(pick x.1 x.2 r b).choose_spec
 have l:∀x:Goroutine×World,¬bE P Q x.1 x.2->jY (z x) x.2:=by
  intro x r;by_cases b:Lv P x.1
  ·have:z x=x.2.tape:=dif_neg λh=>h.2 b;rw[this];exactλ_ _ _=>rfl
  ·exact(v x r b).1
 let nx:Goroutine×World->Goroutine×World:=λx=>match stepG P true x.1 (x.2.on (z x) x.2.drawn) with
  |.go g1 w1 _=>(g1,w1)
  |_=>x
 let seq:Nat->Goroutine×World:=λi=>Nat.rec (J,I) (λ_ x=>nx x) i
 have n:∀i,seq (i+1)=nx (seq i):=λi=>rfl
 let f:Nat->Prop:=λi=>¬Lv P (seq i).1/\∃g1 w1 es,stepG P true (seq i).1 ((seq i).2.on (z (seq i)) (seq i).2.drawn)=.go g1 w1 es/\∀c,g1.frame.mode≠.panicking c
 have inv:∀i,(∀j,j<i->f j)->¬bE P Q (seq i).1 (seq i).2/\Good P K (seq i).1 (seq i).2:=by
  intro i
  induction i with
  |zero=>exactλ_=>⟨qO,h0⟩
  |succ i S=>
   intro y;obtain⟨E,H⟩:=S λj A=>y j aa;obtain⟨b,g1,w1,es,t,C⟩:=y i aa;have e:seq (i+1)=(g1,w1):=by rw[n];show(match stepG P true (seq i).1 ((seq i).2.on (z (seq i)) (seq i).2.drawn) with|.go g1 w1 _=>(g1,w1)|_=>seq i)=_;rw[t]
   rw[e];exact⟨(v _ E b).2 _ _ _ t C,(H.on _ _).next hB hC hz hG hF un b t C⟩
 have one:∀i,(∀j,j<i+1->f j)->∃k,(seq (i+1)).2.drawn=(seq i).2.drawn+k/\(seq (i+1)).2.tape=z (seq i)/\∀T:Tape,(∀j,j<k->∀q,T ((seq i).2.drawn+j) q=z (seq i) ((seq i).2.drawn+j) q)->
   ∃X,stepG P true (seq i).1 ((seq i).2.on T (seq i).2.drawn)=.go (seq (i+1)).1 ((seq (i+1)).2.on T ((seq i).2.drawn+k)) X:=by
  intro i y;obtain⟨E,H⟩:=inv i λj A=>y j aa;obtain⟨b,g1,w1,es,t,C⟩:=y i aa;have e:seq (i+1)=(g1,w1):=by rw[n];show(match stepG P true (seq i).1 ((seq i).2.on (z (seq i)) (seq i).2.drawn) with|.go g1 w1 _=>(g1,w1)|_=>seq i)=_;rw[t]
  obtain⟨k,x1,W,x3⟩:=((H.on (z (seq i)) (seq i).2.drawn).loc hB hC hz hG hF un b).2 g1 w1 es t C;rw[e];exact⟨k,x1,W,λT s=>x3 T s⟩
 have mono:∀i,(∀j,j<i->f j)->∀j,j<=i->(seq j).2.drawn<=(seq i).2.drawn/\∀p,p<(seq j).2.drawn->∀q,(seq i).2.tape p q=(seq j).2.tape p q:=by
  intro i
  induction i with
  |zero=>intro _ j A;obtain rfl:j=0:=aa;exact⟨au _,λ_ _ _=>rfl⟩
  |succ i S=>
   intro y j A;rcases de j (i+1) with aT|Z
   ·obtain⟨k,x1,W,_⟩:=one i y;obtain⟨y1,y2⟩:=S (λj A=>y j aa) j aa;obtain⟨E,_⟩:=inv i λj A=>y j aa;refine⟨aa,λp C q=>?_⟩;rw[W,(l _ E) p aa q];exact y2 p C q
   ·obtain rfl:j=i+1:=by omega
    exact⟨au _,λ_ _ _=>rfl⟩
 have follow:∀i,(∀j,j<i->f j)->∀T:Tape,jY T (seq i).2->runN P i (lone J.frame J.callers (I.on T I.drawn))=.next (lone (seq i).1.frame (seq i).1.callers ((seq i).2.on T (seq i).2.drawn)):=by
  intro i
  induction i with
  |zero=>intro _ T _;rfl
  |succ i S=>
   intro y T s;obtain⟨k,x1,W,x3⟩:=one i y;obtain⟨E,H⟩:=inv i λj A=>y j aa;obtain⟨_,t7⟩:=inv (i+1) y
   have hi:=S (λj A=>y j aa) T (λj A q=>by rw[s j aa q,W];exact(l _ E) j A q)
   obtain⟨X,x4⟩:=x3 T (λj A q=>by rw[s _ aa q,W]);rw[H.shape,t7.shape] at x4;rw[runN_add,hi];show runN P 1 _=_;rw[show(1:Nat)=0+1 from rfl,rM (rD x4) 0,x1];rfl
 have R:∀i,(∀j,j<i->f j)->∀T:Tape,jY T (seq i).2->∀fr w',runN P i (lone J.frame J.callers (I.on T I.drawn))=.next (lone fr [c0 P] w')->vp fr->Q (G fr [c0 P]) w'.heap->False:=by
  intro i y T s fr w' F hm hq;obtain⟨E,H⟩:=inv i y;rw[follow i y T s] at F;obtain⟨e1,e2,e3⟩:=zG (Stepped.next.inj F);have e:(seq i).1=G fr [c0 P]:=by rw[H.shape,e1,e2]
  exact E (.lv ⟨fr,e,hm⟩ (by rw[e];rw[<-e3] at hq;exact hq))
 by_cases D:∀i,f i
 ·
  let T:Tape:=λp=>if h:∃i,p<(seq i).2.drawn then(seq h.choose).2.tape p elseλ_=>0
  have s:∀i,jY T (seq i).2:=by
   intro i p C q;have r:∃i,p<(seq i).2.drawn:=⟨i,C⟩;have:T p=(seq r.choose).2.tape p:=dif_pos r;rw[this];have h2:=r.choose_spec;generalize r.choose=k at h2;rcases Nat.le_total k i with hle|hle
   ·exact((mono i (λj _=>D j) k hle).2 p h2 q).symm
   ·exact(mono k (λj _=>D j) i hle).2 p C q
  obtain⟨N,fr,w',F,hm,hq⟩:=M T (s 0);exact R N (λj _=>D j) T (s N) fr w' F hm hq
 ·
  obtain⟨i,G',a⟩:∃i,¬f i/\∀j,j<i->f j:=by
   apply byContradiction;intro r;refine D λi=>?_
   induction i using Nat.strongRecOn with
   |_ i S=>apply byContradiction;intro hi;exact r ⟨i,hi,S⟩
  obtain⟨E,H⟩:=inv i a;have s:=(l _ E);obtain⟨m1,m2⟩:=mono i a 0 aa;obtain⟨N,fr,w',F,hm,hq⟩:=M (z (seq i)) (λj A q=>by rw[s j (Nat.lt_of_lt_of_le A m1) q];exact m2 j A q);rcases de i N with aT|Z
  ·obtain⟨m,rfl⟩:∃m,N=i+(m+1):=⟨N-i-1,aa⟩;rw[runN_add,follow i a _ s] at F;dsimp only at F;by_cases hl:Lv P (seq i).1
   ·exact adC hl (m+1) aa F
   have V:=H.on (z (seq i)) (seq i).2.drawn;rcases(V.loc hB hC hz hG hF un hl).1 with⟨o,w1,es,t⟩|⟨g1,w1,es,t⟩
   ·have u:=t;rw[H.shape] at u;exact pD (pg u) m F
   ·have C:∃c,g1.frame.mode=.panicking c:=by apply byContradiction;intro r;exact G' ⟨hl,g1,w1,es,t,λc hc=>r ⟨c,hc⟩⟩
    obtain⟨c,C⟩:=C;have wS:=V.agP hB hC hz hG hF un hl t C m fr w' hm
    have wT:g1=G g1.frame g1.callers:=by
     obtain⟨φ,fr2,bi,cs,cs',h',e,h1,h2,h3,h4,h5⟩:=V.ok;have O':=t;rw[e] at O';have hw:WR K φ ((seq i).2.on (z (seq i)) (seq i).2.drawn) {((seq i).2.on (z (seq i)) (seq i).2.drawn) with heap:=h'}:=⟨h3,λ_ _=>rfl⟩;rcases vo (B:=[c0 P]) (B':=[]) hB hC hz hG hF true true h4 h1 h2 hw h5 (λ⟨e1,e2,e3⟩=>hl ⟨fr2,by rw[e,e1];rfl,.inl ⟨e2,e3⟩⟩) (λ_⟨c,c',_,_,h⟩=>un c c' h) g1 w1 es O' with⟨ψ,li,NE,cs1,agQ,c2,h',rfl,_⟩|⟨ψ,fr1,cs1,ah6,agQ,Y',d,rfl,_⟩
     ·rfl
     ·rfl
    have u:=t;rw[H.shape,wT] at u;rw[rM (rD u) m] at F;exact wS F
  ·obtain⟨y1,y2⟩:=mono i a N Z;exact R N (λj A=>a j aa) _ (λj A q=>by rw[s j aa q];exact y2 j A q) fr w' F hm hq
end
end
section
variable[ag]
open Go.Conc (G)
structure jM(K:aF)(φ ψ:Ren)(n:Nat)(w w1:ns):Prop where
 tape:w1.tape=w.tape
 os:w1.os=w.os
 out:w1.output=w.output
 size:w.heap.size<=w1.heap.size
 le:Ren.le φ ψ
 fresh:∀b c,ψ b=some c->φ b=some c\/(n<=b/\w.heap.size<=c)
 apart:∀c,c<w.heap.size->(∀b,φ b=some c->K.ro b\/K.tok b)->w1.heap[c]?=w.heap[c]?
def eH.q{K:aF}{φ ψ:Ren}{n:Nat}(h:eH K φ ψ n w w1):jM K φ ψ n w w1:=⟨h.left.tape,h.left.os,h.left.out,h.left.size,h.le,h.fresh,h.apart⟩
def jM.refl(K:aF)(φ:Ren)(n:Nat)(w:ns):jM K φ φ n w w:=⟨rfl,rfl,rfl,au _,Ren.le_refl φ,λ_ _ h=>.inl h,λ_ _ _=>rfl⟩
def jM.at{K:aF}{φ ψ:Ren}{n:Nat}{d:Nat}(h:jM K φ ψ n (w.at d) w1):jM K φ ψ n w w1:=⟨h.tape,h.os,h.out,h.size,h.le,h.fresh,h.apart⟩
def jM.trans{K:aF}{φ ψ d:Ren}{n m:Nat}{a b c:ns}(h:jM K φ ψ n a b)(k:jM K ψ d m b c)(e:n<=m):jM K φ d n a c:=by
 refine⟨k.tape.trans h.tape,k.os.trans h.os,k.out.trans h.out,aJ h.size k.size,Ren.le_trans h.le k.le,λx y hx=>?_,λx hx hn=>?_⟩
 ·exact L3
 ·exact L4
def dE(P:Kx)(K:aF)(B:List aiH)(φ:Ren)(g:so)(wg:ns)(a:so)(w:ns):Prop:=
 ∃fr bi cs cs',g=G fr (cs++[c0 P])/\a=G bi (cs'++B)/\bV P φ fr bi/\dp P φ cs cs'/\HR K φ wg.heap w.heap/\ep φ/\dv fr cs
def sI(g:so):Prop:=g.frame.mode=.run/\vQ g.frame
def Nx(P:Kx)(y x:so×ns):Prop:=¬Lv P x.1/\∃T es,jY T x.2/\aiO P true x.1 (x.2.on T x.2.drawn)=.go y.1 y.2 es
section
variable{P:Kx}{K:aF}{Q:so->Array Obj->Prop}
def bE.acc(h:bE P Q g w):Acc (Nx P) (g,w):=by
 induction h with
 |lv h _=>exact⟨_,λy a=>absurd h a.1⟩
 |step _ _ _ b=>refine⟨_,λy a=>?_⟩;obtain⟨_,T,es,d,e⟩:=a;exact b T d _ _ es e
def bE.next(h:bE P Q g w)(a:Nx P (g1,w1) (g,w)):bE P Q g1 w1:=by obtain⟨b,T,es,d,e⟩:=a;cases h with|lv h _=>exact absurd h b|step _ _ h=>exact h T d _ _ es e
def spliced(wg w:ns):Tape:=λj q=>if j<wg.drawn then wg.tape j q else w.tape (w.drawn+(j-wg.drawn)) q
omit [ag] in
def MP(wg w:ns){j:Nat}(h:j<wg.drawn)(q:Question):spliced wg w j q=wg.tape j q:=if_pos h
omit [ag] in
def yO(wg w:ns)(i:Nat)(q:Question):spliced wg w (wg.drawn+i) q=w.tape (w.drawn+i) q:=by unfold spliced;rw[if_neg aa,show wg.drawn+i-wg.drawn=i by omega]
def OP(hB:cJ P)(hC:dc P)(hz:bZ P)(hG:K.G=P.globals.size)(hF:dn P K){φ:Ren}{wg:ns}{a:so}
  (h:dE P K B φ g wg a w)(hw:bE P Q g wg)(p:¬Lv P g)(r:¬sI g):
  ∃g1 b k F w1 d,Nx P (g1,b) (g,wg)/\bE P Q g1 b/\aiO P.two m a w=.go F w1 d/\dE P K B k g1 b F w1/\eH K φ k wg.heap.size w w1/\wg.heap.size<=b.heap.size/\∀e∈d,ey K k e:=by
 obtain⟨fr,bi,cs,cs',rfl,rfl,h1,M,N,H,I⟩:=h;have s:jY (spliced wg w) wg:=λj R q=>MP wg w R q;cases hw with
 |lv h _=>exact absurd h p
 |step _ t u=>
  obtain⟨g1,b,es,v,S⟩:=t _ s;have T:Nx P (g1,b) (G fr (cs++[c0 P]),wg):=⟨p,_,es,s,v⟩;have y:WR K φ (wg.on (spliced wg w) wg.drawn) w:=⟨N,λi q=>yO wg w i q⟩;rcases vo (B:=[c0 P]) (B':=B) hB hC hz hG hF true m H h1 M y I (λ⟨V,W,X⟩=>p ⟨fr,by rw[V];rfl,.inl ⟨W,X⟩⟩) (λe x=>r ⟨e,x⟩) g1 b es v with⟨k,Z,J,l,f,c,h',rfl,_⟩|⟨k,z,l,n,f,A,d,rfl,h6,h7,h8,h9,C,D,o,E⟩
  ·exact absurd rfl (S c)
  ·refine⟨_,b,k,_,A,d,T,u _ s _ _ es v,h6,?_,o,D.size,E⟩;have hv:ep k:=λg hg=>o.le _ _ (H g hg);exact⟨z,n,l,f,rfl,rfl,h7,h8,C.heap,hv,h9 I⟩
end
end
end Go.Proofs.Q0.aI
