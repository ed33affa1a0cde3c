/-
  The program's DecodePicture returns what the reference's DecodePicture returns: FnExactDecodePicture is true for all arguments.
  Conditions: those of the card alone; none of my own.
-/
import Derived.Test.YtjjdeakghpmpfaaGreatDoorK33
import Derived.Conc.Holds
import Derived.Test.YtjjdeakghpmpfaaGreatDoorTie
import Derived.Test.YtjjdeakghpmpfaaGreatDoorCards
import Derived.JoinedTies
set_option maxRecDepth 100000
set_option maxHeartbeats 8000000
set_option linter.all false
open Go.Value renaming int->U,slice->Y,bool->a9,agg->a5,pointer->ci,tuple->dl,iface->em
open Go.IntKind renaming i64->O
open Go.Obj renaming cells->ac
open Go.Ending renaming returned->be
open Go.Proofs.YtjjdeakghpmpfaaGreatDoor
open Bool renaming and_eq_true->OF
open Go renaming Addr->aiI,Program->Kx,TypeId->EV,Value->rl,World->ns
open Go.DataW renaming trod->akA,trod_int->akV
open Go.Frame renaming enter->aiy
open List renaming all_eq_true->aiE,getElem?_eq_getElem->aiX,range->aiB
namespace Go.Proofs
def Mj{p:Prop}(h:p:=by rw[if_neg ip];exact⟨λ⟨fn2,h2,h3⟩=>by rw[h] at h2;cases h2;exact h3,λh3=>⟨fn,h,h3⟩⟩):p:=h
def Mk{p:Prop}(h:p:=by intro h0;obtain⟨b,o,e,hb,hc⟩:=Yw (len:=l) aa Nm (by rw[hlen] at h0;exact h0);subst e;exact⟨b,o,rfl,hb,λi hi=>hc i (by rw[hlen] at hi;exact hi)⟩):p:=h
def ur{p:Prop}(h:p:=by exact@VR.int (bU (dJ W.heap.size ts.length)) _ _ _):p:=h
end Go.Proofs
namespace Go.Proofs.Q0.Open
open Go.Proofs.Tryz
variable{x:Code}{i f:Nat}{fn:Func}
section
open Go.Conc Go.ConcN aI
def iG:Code->Bool
 |.seq a b=>iG a&&iG b
 |.cond _ a b=>iG a&&iG b
 |.block _ b=>iG b
 |.loop b=>iG b
 |.scope b=>iG b
 |.rangeFunc .. =>false
 |_=>true
def afh:∀{k:Code},aI.RB x k->iG k=true->False:=by
 intro k h
 induction h with|GI=>intro e;cases e|GJ=>intro e;cases e|JE=>intro e;cases e|JF=>intro e;cases e|Hm _ a=>intro e;simp only[iG,OF] at e;exact a e.1|Ho _ a=>intro e;simp only[iG,OF] at e;exact a e.2|GF _ a=>intro e;simp only[iG,OF] at e;exact a e.1|GH _ a=>intro e;simp only[iG,OF] at e;exact a e.2|block _ a=>intro e;exact a e|loop _ a=>intro e;exact a e|scope _ a=>intro e;exact a e
def o7(i:Nat):Bool:=(kept i||i==4)&&Nat.blt i 41
def tS(i:Nat):Bool:=Nat.blt i 41
def afi:(gO Gz.prog ef o7 ld.sl&&iG ld.sl)=true:=aC
def afj:(gO Gz.prog ef o7 ld.sr.sl&&iG ld.sr.sl)=true:=aC
def agl:(gO Gz.prog ef o7 du&&iG du)=true:=aC
def afk:gO Gz.prog vX tS lh=true:=aC
def Ud:(Tryz.f40.results.toList.all (Hp o7)&&Tryz.f40.results.toList.all (Hp tS))=true:=aC
def ahN:jN Tryz.f40=.seq ld.sl (.seq ld.sr.sl hZ):=aC
def Sw:Tryz.f40.body.isSome=true/\(Tryz.f40.name== "runtime.NumGoroutine")=false:=⟨ai,ai⟩
def Sx:Gz.f40.ntmps=41:=aC
def agm:okW.testBit 40=false:=aC
section
variable{T:Nat->Prop}
def AG(a:T Gz.prog.globals.size):Sets (bU T):=⟨λ_ h=>h,λ_ h=>mh nd h,λ_=>.rfl,λ_ h=>.inl h,.inr rfl,λ_=>.rfl,λ_=>.rfl,a,λ_ _ _ h=>h,_,func40,Sw⟩
def GK(a:T Gz.prog.globals.size):Sets (iY T):=⟨λ_ h=>mh nd h,λ_ h=>h,λ_=>.rfl,λ_ h=>.inl h,.inr rfl,λ_=>.rfl,λ_=>.rfl,a,λ_ _ _ h=>h,_,func40,Sw⟩
def F7(a:T Gz.prog.globals.size):Sets (ag.exact (iY T) Gz.prog.funcs):=⟨λ_ h=>mh nd h,λ_ h=>h,λ_=>.rfl,λ_ h=>.inl h,.inr rfl,λ_=>.rfl,λ_=>.rfl,a,λ_ _ n h=>Gz.l8 h n,_,Gz.func40,Am⟩
def F8(a:T Gz.prog.globals.size):Sets (ag.exact (iW T) Gz.prog.funcs):=⟨λ_ h=>h,λ_ h=>mh nd h,λ_=>.rfl,λ_ h=>.inl h,.inr rfl,λ_=>.rfl,λ_=>.rfl,a,λ_ _ n h=>Gz.l8 h n,_,Gz.func40,Am⟩
def tT(ip:f≠40)(h:Tryz.prog.funcs[f]?=some fn):(bU T).lv f i<->i<fn.ntmps:=by show(if f=40 then _ else∃fn,Tryz.prog.funcs[f]?=some fn/\i<fn.ntmps)<->_;exact Mj
def V4(ip:f≠40)(h:Tryz.prog.funcs[f]?=some fn):vY f i<->i<fn.ntmps:=by show(if f=40 then i<41 else∃fn,Tryz.prog.funcs[f]?=some fn/\i<fn.ntmps)<->_;exact Mj
def Hr:(bU T).lv 40 i<->((kept i=true\/i=4)/\i<41):=aD
def Tp:vY 40 i<->i<41:=aD
def F9(h:o7 i=true):(bU T).lv 40 i:=by unfold o7 at h;simp only[OF,Bool.or_eq_true,beq_iff_eq] at h;exact Hr.2 ⟨h.1,by have:=h.2;rwa[Nat.blt_eq] at this⟩
def ahu(h:iB.testBit f=true/\f≠40/\∃fn,Tryz.prog.funcs[f]?=some fn/\aI.RB x (jN fn)):Hq f x:=Or.inl h
def ahv(h:aI.RB x lh):Hq 40 x:=Or.inr ⟨rfl,h⟩
def Sy(hi:tS i=true):vY 40 i:=Tp.2 (by unfold tS at hi;rwa[Nat.blt_eq] at hi)
def Ro(a:T Gz.prog.globals.size):@ou (bU T) Gz.prog ef:=(AG a).tp (λ_ h=>h) rfl rfl rfl rfl
def aeg(a:T Gz.prog.globals.size):@ou (iY T) Gz.prog vV:=(GK a).tp (λ_ h=>h) rfl rfl rfl rfl
def acB(a:T Gz.prog.globals.size):@ou (ag.exact (iY T) Gz.prog.funcs) Gz.prog vV:=(F7 a).tp (λ_ h=>h) rfl rfl rfl rfl
def Qt(a:T Gz.prog.globals.size):@ou (ag.exact (iW T) Gz.prog.funcs) Gz.prog vX:=(F8 a).tp (λ_ h=>h) rfl rfl rfl rfl
def Ga(a:T Gz.prog.globals.size){k:Code}(h:(gO Gz.prog ef o7 k&&iG k)=true):@ee (bU T) Gz.prog 40 k:=by rw[OF] at h;exact(@kk (bU T) Gz.prog ef o7 40 (Ro a) (λi hi=>F9 hi) k h.1 λx b _=>(afh b h.2).elim).1
def Ag{X:ag}(S:Sets X)(b:f≠40)(h:Tryz.prog.funcs[f]?=some fn)(h1:@ee X Gz.prog f (jN fn))(c:∀r∈fn.results,@pW (X.lv f) r)(d:∀i,X.lv f i->i<fn.ntmps):
  ∃fn a,Gz.prog.funcs[f]?=some fn/\(@Kx.two X Gz.prog).funcs[f]?=some a/\a.results=fn.results/\a.ntmps=fn.ntmps/\(∀r∈fn.results,pW (X.lv f) r)/\(∀i,X.lv f i->i<fn.ntmps)/\
   @gW X Gz.prog f true (fn.body.getD (.refuse "unsupported: a function without a Go body is entered")) (a.body.getD (.refuse "unsupported: a function without a Go body is entered")):=
 ⟨fn,fn,Gz.l8 h b,S.two f fn b h,rfl,rfl,c,d,@gW.same X Gz.prog f true _ h1⟩
def CG(X:ag)(f:Nat):Prop:=∃fn,Tryz.prog.funcs[f]?=some fn/\@ee X Gz.prog f (jN fn)/\(∀x,aI.RB x (jN fn)->@ee X Gz.prog f x)/\∀r∈fn.results,@pW (X.lv f) r
def Tq(c:T Gz.prog.globals.size)(a:iB.testBit f=true)(b:f≠40):CG (bU T) f:=@zN (bU T) ef (Ro c) (λ_ _ _ n h=>tT n h) afe f (uT a) a b (λfn x h d e=>⟨a,b,e,fn,h,d⟩)
def Tr(c:T Gz.prog.globals.size)(a:okW.testBit f=true)(b:f≠40):CG (iY T) f:=@zN (iY T) vV (aeg c) (λ_ _ _ n h=>tT (T:=T) n h) Sv f (uT (mh nd a)) a b (λfn x h d e=>⟨a,mh nd a,b,e,fn,h,d⟩)
def SA(c:T Gz.prog.globals.size)(a:okW.testBit f=true)(b:f≠40):CG (ag.exact (iY T) Gz.prog.funcs) f:=@zN (ag.exact (iY T) Gz.prog.funcs) vV (acB c) (λ_ _ _ n h=>tT (T:=T) n h) Sv f (uT (mh nd a)) a b (λfn x h d e=>⟨a,mh nd a,b,e,fn,h,d⟩)
def SC(c:T Gz.prog.globals.size)(a:iB.testBit f=true)(b:f≠40):CG (ag.exact (iW T) Gz.prog.funcs) f:=@zN (ag.exact (iW T) Gz.prog.funcs) vX (Qt (T:=T) c) (λ_ _ _ n h=>V4 n h) aff f (uT a) a b (λfn x h d _=>ahu ⟨a,b,fn,h,d⟩)
def aeh(b:T Gz.prog.globals.size):@cJ (bU T) Gz.prog:=λf c=>by
 by_cases a:f=40
 ·subst a;have e:=Ud;rw[OF,aiE] at e;refine⟨_,_,Gz.func40,func40,rfl,rfl,λr d=>?_,λi hi=>by rw[Sx];have:=(Hr.1 hi).2;omega,?_⟩
  ·have:=e.1 r (j9.2 d);cases r with|tmp t=>exact F9 this|cell t _=>exact F9 this
  ·show@gW (bU T) Gz.prog 40 true lh (jN Tryz.f40);exact@gW.seq (bU T) _ _ _ _ _ _ _ (@gW.same (bU T) _ _ _ _ (Ga b afi)) (@gW.seq (bU T) _ _ _ _ _ _ _ (@gW.same (bU T) _ _ _ _ (Ga b afj)) (@gW.dH (bU T) _ _ _ _ _ ⟨rfl,rfl⟩ rfl rfl))
 ·obtain⟨fn,h1,g,_,h⟩:=Tq b c a;exact Ag (AG b) a h1 g h λi hi=>(tT a h1).1 hi
def V5(a:okW.testBit f=true):f≠40:=λe=>by subst e;rw[agm] at a;cases a
def aei(c:T Gz.prog.globals.size):@cJ (iY T) Gz.prog:=λf b=>by have a:=V5 b;obtain⟨fn,h1,d,_,e⟩:=Tr c b a;exact Ag (GK c) a h1 d e λi hi=>(tT (T:=T) a h1).1 hi
def acC(c:T Gz.prog.globals.size):@cJ (ag.exact (iY T) Gz.prog.funcs) Gz.prog:=λf b=>by have a:=V5 b;obtain⟨fn,h1,d,_,e⟩:=SA c b a;exact Ag (F7 c) a h1 d e λi hi=>(tT (T:=T) a h1).1 hi
def Rp(a:T Gz.prog.globals.size):@ee (ag.exact (iW T) Gz.prog.funcs) Gz.prog 40 lh/\∀x,aI.RB x lh->@ee (ag.exact (iW T) Gz.prog.funcs) Gz.prog 40 x:=@kk (ag.exact (iW T) Gz.prog.funcs) Gz.prog vX tS 40 (Qt (T:=T) a) (λi hi=>Sy hi) lh afk λx b _=>ahv b
def Pa(J:ag)(fs:Array Func)(P:Kx):(@Kx.two (ag.exact J fs) P).funcs=fs:=rfl
def afl(J:ag):(@Kx.two (ag.exact J Gz.prog.funcs) Gz.prog).funcs[40]?=some Gz.f40:=aC
def acD(c:T Gz.prog.globals.size):@cJ (ag.exact (iW T) Gz.prog.funcs) Gz.prog:=λf d=>by
 by_cases a:f=40
 ·subst a;have g:=Ud;rw[OF,aiE,aiE] at g;refine⟨Gz.f40,Gz.f40,Gz.func40,afl (iW T),rfl,rfl,λr e=>?_,λi hi=>by rw[Sx];have:=(Tp).1 hi;omega,?_⟩
  ·have:=g.2 r (j9.2 e);have b:∀i,tS i=true->vY 40 i:=λi hi=>Sy hi;cases r with|tmp t=>exact b t this|cell t _=>exact b t this
  ·exact@gW.same (ag.exact (iW T) Gz.prog.funcs) Gz.prog _ _ lh (Rp c).1
 ·obtain⟨fn,h1,h,_,j⟩:=SC c d a;exact Ag (F8 c) a h1 h j λi hi=>(V4 a h1).1 hi
def cdM(c:T Gz.prog.globals.size):@dc (bU T) Gz.prog:=λf x⟨a,b,_,fn,h,d⟩=>by obtain⟨e,h1,_,g,_⟩:=Tq c a b;rw[h] at h1;cases h1;exact g x d
def cdW(c:T Gz.prog.globals.size):@dc (iY T) Gz.prog:=λf x⟨a,_,b,_,fn,h,d⟩=>by obtain⟨e,h1,_,g,_⟩:=Tr c a b;rw[h] at h1;cases h1;exact g x d
def ahw(c:T Gz.prog.globals.size):@dc (ag.exact (iY T) Gz.prog.funcs) Gz.prog:=λf x⟨a,_,b,_,fn,h,d⟩=>by obtain⟨e,h1,_,g,_⟩:=SA c a b;rw[h] at h1;cases h1;exact g x d
def ahx(d:T Gz.prog.globals.size):@dc (ag.exact (iW T) Gz.prog.funcs) Gz.prog:=λf x a=>by
 rcases a with⟨b,c,fn,h,a⟩|⟨rfl,a⟩
 ·obtain⟨e,h1,_,g,_⟩:=SC d b c;rw[h] at h1;cases h1;exact g x a
 ·exact(Rp d).2 x a
noncomputable abbrev Gb(T:Nat->Prop):aE:={bU T with
 two:=rfl
 nx:=λf h=>by have:=h.2.2.1;cases this
 fr:=λ_ _=>.rfl
 hm:=rfl
 BR:=λd=>Hr (T:=T)}
noncomputable def ahy(a:T Gz.prog.globals.size):@Env (Gb T):=
 @Env.mk (Gb T) (iY T) ⟨⟨λ_=>.rfl,λ_=>.rfl,λ_=>.rfl,λ_=>.rfl,λ_=>.rfl⟩,λ_ h=>mh nd h,λ_ _ _ h=>h,λ_ _ h=>h.2⟩ (λ_ h=>h) rfl (λ_ _ h=>h) (by show okW.testBit _=true;kernel_rfl)
  (aei a) (cdW a) (@Af (iY T)) (λK _=>(GK a).An K) (acC a) (ahw a) (@Af (ag.exact (iY T) Gz.prog.funcs)) (λK _=>(F7 a).An K) (.inl ai) (.inl ai) (@Af (bU T)) (AG a).To (Ga a agl)
end
abbrev dJ(n k:Nat)(b:Nat):Prop:=b=Gz.prog.globals.size\/(n<=b/\b<n+k)
def agn(d:vE){W:ns}{ts:List Nat}(hG:∃cs t,W.heap[Gz.prog.globals.size]?=some (.cells cs t (0,0))/\0<cs.size)(n:ts.Nodup)(y:∀b,b∈ts->Gz.prog.globals.size<b/\∃cs t,W.heap[b]?=some (.cells cs t (0,0))/\0<cs.size)
  (p:∀g,g<3->rowsOf W.heap g=some g){f:FuncId}(q:Gz.prog.funcs[f]?=some fn)(j:∀r∈fn.results,∃t,r=.tmp t)(k:Gz.prog.inits.idxOf? f=none)(s:iB.testBit f=true)
  {args:Array rl}(c:@ax (bU (dJ W.heap.size ts.length)) (fA ts W.heap) args args)
  (l:∀wg:ns,wg.heap=@aI.startHeap (bU (dJ W.heap.size ts.length)) (λ_=>trivial) Gz.prog.globals.size ts W.heap->Calls Gz.prog f args wg λ|be v,_=>v=.bool true|_,_=>False):
  ∃M last o w' w,runNT Tryz.prog (M+1) (solo (G (aiy Tryz.prog f args .normal) []) W) #[]=(.ended o w',w)/\runN Tryz.prog M (solo (G (aiy Tryz.prog f args .normal) []) W)=.next last/\
   Go.step Tryz.prog last=.ended o w'/\Conc.Good Tryz.prog (Ae W) last o w' w:=by
 have a:dJ W.heap.size ts.length Gz.prog.globals.size:=.inl rfl
 have u:∀g,rowsOf W.heap g=some g->fA ts W.heap g=some g:=λg e=>by obtain⟨_,cs,t,f,h1⟩:=@DL (bU λ_=>True) _ _ _ e;exact@DH (bU λ_=>True) _ _ _ _ _ _ h1
 refine@acv (Gb (dJ W.heap.size ts.length)) (ahy (T:=dJ W.heap.size ts.length) a) (iW (dJ W.heap.size ts.length)) ⟨λ_=>.rfl,λ_=>.rfl,λ_=>.rfl,λ_=>.rfl,λ_=>.rfl⟩ (λ_ h=>h) (λ_ h=>h) d (λ_=>trivial) (aeh (T:=dJ W.heap.size ts.length) a) (cdM (T:=dJ W.heap.size ts.length) a) (λK _=>(AG (T:=dJ W.heap.size ts.length) a).An K) (acD (T:=dJ W.heap.size ts.length) a) (ahx (T:=dJ W.heap.size ts.length) a) (@Af (ag.exact (iW (dJ W.heap.size ts.length)) Gz.prog.funcs)) (λK _=>(F8 (T:=dJ W.heap.size ts.length) a).An K)
  _ ts hG (λ_=>.rfl) n y (λg m=>?_) f fn q j k s args args c l
 rcases m with m|rfl
 ·refine u g (p g (Nat.lt_of_not_le λh=>?_));have:ef.gl.testBit g=false:=Nat.testBit_lt_two_pow (cG (by decide:ef.gl<2^3) (Nat.pow_le_pow_right aq h));rw[this] at m;cases m
 ·obtain⟨cs,t,h1,_⟩:=hG;exact@DH (bU λ_=>True) _ _ _ _ _ _ h1
end
end Go.Proofs.Q0.Open
namespace Go.Proofs.Q0
open Go.Proofs.Tryz
variable{a:aiI}{c n:Nat}{A:Option aiI}{xs:List Int}{ls:List (List Int)}
section
open Go.ChangeShapes Go.WideShapes Go.ChangeAt Go.RowKit Go.Joins Go.Deep aI Go.Proofs.Q0.Open
def th(W:ns)(A:Option aiI)(c:Nat):Prop:=(A=none/\c=0)\/∃a,A=some a/\(c=0\/∃cs t f,W.heap[a.block]?=some (.cells cs t f))
def Fe[ag]{ts:List Nat}{W:ns}{A:Option aiI}{n c:Nat}(h:th W A c)(b:n<=c):VR (fA ts W.heap) (.slice A n c) (.slice A n c):=by
 rcases h with⟨rfl,rfl⟩|⟨a,rfl,rfl|⟨e,t,f,h⟩⟩
 ·exact .dk _ _
 ·obtain rfl:n=0:=by omega
  exact .empty
 ·exact .slice _ _ ⟨DH h,rfl,rfl⟩
structure vZ(W:ns)(A:Option aiI)(c:Nat)(xs:List Int):Prop where
 fS:th W A c
 le:xs.length<=c
 cm:c<=maxLen
 rd:bB W W.heap.size A xs
 bK:bytes xs
structure Bd(W:ns)(A:Option aiI)(c:Nat)(xs:List Int):Prop where
 fS:th W A c
 le:xs.length<=c
 cm:c<=maxLen
 rd:Rd W W.heap.size A xs
structure sQ(W:ns)(A:Option aiI)(c:Nat)(ls:List (List Int)):Prop where
 fS:th W A c
 le:ls.length<=c
 cm:c<=maxLen
 rd:0<ls.length->∃b o,A=some ⟨b,o,none⟩/\b<W.heap.size/\∀i,i<ls.length->∃A' c',W.cell? ⟨b,o+i,none⟩=some (.slice A' (aU ls i).length c')/\vZ W A' c' (aU ls i)
def Yw{k:IntKind}{w:ns}{j:List Int}{len:Nat}(q:len<=j.length)(f:∀i,i<j.length->w.cell? (a.add i)=some (.int k (j.getD i 0))):
  0<len->∃b o,a=⟨b,o,none⟩/\b<w.heap.size/\∀i,i<len->w.cell? ⟨b,o+i,none⟩=some (.int k ((j.take len)[i]?.getD 0)):=by
 intro h0;obtain⟨b,off,h⟩:=a;have hc:=f 0 aa;have g:h=none:=by simpa[Addr.add] using World.cell?_spot hc
 subst g;refine⟨b,off,rfl,?_,λi hi=>?_⟩
 ·rcases de b w.heap.size with m|l
  ·omega
  ·simp[Addr.add,World.cell?,l] at hc
 ·have h1:=f i aa
  have e:(⟨b,off,none⟩:aiI).add i=⟨b,off+i,none⟩:=by
   unfold Addr.add;split
   ·simp
   ·rfl
  rw[e] at h1;rw[h1];simp[hi]
def rO(a:aiI)(n:Nat):(a.add n).block=a.block:=by unfold Addr.add;split<;>rfl
section
variable{H:Type}{enc:EV×rl->H}{W:ns}{base:Nat}{v:rl}{d:DataW H}{p:List MemPlace}
def FH{V:Nat->rl}(h:∀i,i<c->W.cell? (a.add i)=some (V i)):th W (some a) c:=by
 refine .inr ⟨a,rfl,?_⟩;rcases jE c with h0|h0
 ·omega
 ·obtain⟨b,t,f,h1,_⟩:=cells_of_cell (h 0 h0);exact .inr ⟨b,t,f,h1⟩
def aaS{y:DataW H×List MemPlace}(h:akA enc Tryz.prog W 0 (λ_=>true) true n 52 [v]=some y):∃A c xs,v=.slice A xs.length c/\vZ W A c xs:=by
 rcases ChangeShapes.open_ints underlying52 underlying5 ai h with⟨b,_⟩|⟨x,l,c,e,b,_,j,hm,f,_,Nm,g⟩
 ·simp at b;subst b;exact⟨none,0,[],rfl,.inl ⟨rfl,rfl⟩,au _,dC _,bB.nil _ _ _,λx k=>by cases k⟩
 ·simp at b;subst b;simp only[if_true] at f;have hlen:(e.take l).length=l:=eg;refine⟨some x,c,e.take l,by simp[hlen],FH (V:=λi=>.int .u8 (e.getD i 0)) λi hi=>Nm i aa,by rw[hlen];exact j,hm,?_,λz f=>bounds_u8 (g z (List.mem_of_mem_take f))⟩;exact Mk
def aaT{y:DataW H×List MemPlace}(f:akA enc Tryz.prog W 0 (λ_=>true) true n 25 [v]=some y):∃A c xs,v=.slice A xs.length c/\Bd W A c xs:=by
 rcases ChangeShapes.open_ints underlying25 underlying3 ai f with⟨b,_⟩|⟨x,l,c,e,b,_,g,hm,h,_,Nm,j⟩
 ·simp at b;subst b;exact⟨none,0,[],rfl,.inl ⟨rfl,rfl⟩,au _,dC _,Rd.nil _ _ _⟩
 ·simp at b;subst b;simp only[if_true] at h;have hlen:(e.take l).length=l:=eg;refine⟨some x,c,e.take l,by simp[hlen],FH (V:=λi=>U O (e.getD i 0)) λi hi=>Nm i aa,by rw[hlen];exact g,hm,?_⟩;exact Mk
theorem ZH{y:DataW H×List MemPlace}(x:akA enc Tryz.prog W 0 (λ_=>true) true n 22 [v]=some y):∃A c ls,v=.slice A ls.length c/\sQ W A c ls:=by
 rcases open_slice1 underlying22 ai x with⟨b,_⟩|⟨a,len,z,m,k,V,D,Pl,b,_,B,hm,o,_,l⟩
 ·simp at b;subst b;exact⟨none,0,[],rfl,.inl ⟨rfl,rfl⟩,au _,dC _,λh=>absurd h (Nat.lt_irrefl _)⟩
 ·simp at b;subst b;subst o
  have u:∀i,i<len->∃xs:List Int,∃e g,V i=.slice e xs.length g/\vZ W e g xs:=λi hi=>by obtain⟨e,g,xs,h1,q⟩:=aaS (l i aa).2;exact⟨xs,e,g,h1,q⟩
  have r:∀i,∃xs:List Int,i<len->∃e g,V i=.slice e xs.length g/\vZ W e g xs:=λi=>by
   by_cases hi:i<len
   ·simp_all
   ·exact⟨[],λh=>absurd h hi⟩
  obtain⟨L,C⟩:=Classical.axiomOfChoice r;have hlen:((aiB len).map L).length=len:=aj;have j:∀i,i<len->aU ((aiB len).map L) i=L i:=λi hi=>by grind
  refine⟨some a,m,(aiB len).map L,aj,FH (V:=V) λi hi=>(l i hi).1,by rw[hlen];exact B,hm,λh0=>?_⟩;rw[hlen] at h0⊢;obtain⟨J,t,f,E,w,_⟩:=cells_of_cell (l 0 aa).1
  have s:a.spot=none:=by unfold Addr.add at w;simpa using w
  obtain⟨F,G,I⟩:=a;subst s;refine⟨F,G,rfl,(bF.1 E).1,λi hi=>?_⟩;obtain⟨e,g,h1,q⟩:=C i hi;have hc:=(l i aa).1;rw[h1] at hc;rw[j i hi];refine⟨e,g,?_,q⟩;rw[<-hc];unfold Addr.add;split<;>simp_all
def aaU(k:Value.okWide Tryz.prog W .any base 27 v)(h:DataW.Trod enc Tryz.prog W 0 (λ_=>true) true 27 v d p):
  ∃x y A c xs,v=.agg #[U O x,U O y,.slice A xs.length c]/\Bd W A c xs:=by
 obtain⟨c0,l,o,q,r,s,m,rfl,rfl,rfl,e,f,g⟩:=open_agg3 underlying27 ai (show Tryz.prog.cellsOf 27=3 by kernel_rfl) k h;obtain⟨a,i,rfl,_⟩:=akV underlying3 e;obtain⟨b,j,rfl,_⟩:=akV underlying3 f;simp at i j;subst i j;obtain⟨A,c,xs,rfl,h1⟩:=aaT g;exact⟨a,b,A,c,xs,rfl,h1⟩
def aaV(C:Value.okWide Tryz.prog W .any base 24 v)(h:DataW.Trod enc Tryz.prog W 0 (λ_=>true) true 24 v d p):
  ∃x y I q A c ls,v=.agg #[U O x,U O y,.bool I,U O q,.slice A ls.length c]/\sQ W A c ls:=by
 obtain⟨D,rfl,j⟩:=okWide_struct underlying24 C;obtain⟨fuel,E⟩:=h;obtain⟨xs,m,_,_,_,hlen,b⟩:=DataW.trod_struct underlying24 E;have k:Tryz.prog.cellsOf 3=1:=aD;have F:Tryz.prog.cellsOf 4=1:=aD;have G:Tryz.prog.cellsOf 22=1:=aD;obtain⟨l⟩:=D
 obtain⟨c0,e,f,g,i,rfl⟩:∃c0 e f g i,l=[c0,e,f,g,i]:=by
  match l,j with
  |[c0,e,f,g,i],_=>exact⟨c0,e,f,g,i,rfl⟩
 have hlen:xs.length=5:=hlen;have o:akA enc Tryz.prog W 0 (λ_=>true) true m 3 (([c0,e,f,g,i].drop 0).take (Tryz.prog.cellsOf 3))=xs[0]?:=b 0 _ rfl;rw[k,aiX aa] at o;have q1:akA enc Tryz.prog W 0 (λ_=>true) true m 3 (([c0,e,f,g,i].drop 1).take (Tryz.prog.cellsOf 3))=xs[1]?:=b 1 _ rfl;rw[k,aiX aa] at q1;have r:akA enc Tryz.prog W 0 (λ_=>true) true m 4 (([c0,e,f,g,i].drop 2).take (Tryz.prog.cellsOf 4))=xs[2]?:=b 2 _ rfl;rw[F,aiX aa] at r;have s:akA enc Tryz.prog W 0 (λ_=>true) true m 3 (([c0,e,f,g,i].drop 3).take (Tryz.prog.cellsOf 3))=xs[3]?:=b 3 _ rfl;rw[k,aiX aa] at s;have t:akA enc Tryz.prog W 0 (λ_=>true) true m 22 (([c0,e,f,g,i].drop 4).take (Tryz.prog.cellsOf 22))=xs[4]?:=b 4 _ rfl;rw[G,aiX aa] at t;obtain⟨x,u,_,_⟩:=akV underlying3 o;obtain⟨y,w,_,_⟩:=akV underlying3 q1;obtain⟨I,z,_⟩:=DataW.trod_bool underlying4 r;obtain⟨q,B,_,_⟩:=akV underlying3 s;simp at u w z B;subst u w z B;obtain⟨A,c,ls,rfl,h1⟩:=ZH t;exact⟨x,y,I,q,A,c,ls,rfl,h1⟩
end
def tk(W:ns)(ts:List Nat)(a:aiI):aiI:={a with block:=W.heap.size+ts.idxOf a.block}
abbrev SD(ts:List Nat)(W wg:ns):Prop:=wg.heap=@aI.startHeap (bU (dJ W.heap.size ts.length)) (λ_=>trivial) Gz.prog.globals.size ts W.heap
section
variable{W wg:ns}{a1 a2:aiI}{ts:List Nat}(hs:St W a1 a2)(hw:SD ts W wg)
include hw in
def SD.size:wg.heap.size=W.heap.size+ts.length:=by rw[hw];exact@yt (bU (dJ W.heap.size ts.length)) ts W.heap _ (λ_=>trivial)
include hs in
def St.Hs{v:rl}(h:W.cell? a=some v)(i:∀n,v≠.int .u64 n):a.block≠Gz.prog.globals.size:=λe=>by obtain⟨cs,t,f,g,_,b⟩:=cells_of_cell h;rw[e,show Gz.prog.globals.size=3 from Ao,hs.hG] at g;cases g;rw[Array.getElem?_map] at b;obtain⟨_,_,b⟩:=jD.1 b;exact i _ b.symm
include hs hw in
def GL{k:IntKind}{n:Int}(h:W.cell? a=some (.int k n))(b:k≠.u64):wg.cell? a=some (.int k n):=
 @D7 (bU (dJ W.heap.size ts.length)) ts W.heap _ (λ_=>trivial) W wg rfl hw a _ h (hs.Hs h λ_ e=>by cases e;exact b rfl) (@VR.int (bU (dJ W.heap.size ts.length)) _ k n)
include hs hw in
def aej(h:W.cell? a=some (.slice A n c))(b:th W A c)(f:n<=c):wg.cell? a=some (.slice A n c):=
 @D7 (bU (dJ W.heap.size ts.length)) ts W.heap _ (λ_=>trivial) W wg rfl hw a _ h (hs.Hs h λ_ e=>by cases e) (@Fe (bU (dJ W.heap.size ts.length)) ts W A n c b f)
include hs hw in
def Ts{b:aiI}{u:EV}(h:W.cell? a=some (.iface u (.pointer (some b))))(f:b.block∈ts):wg.cell? a=some (.iface u (.pointer (some (tk W ts b)))):=by
 have e:mv W.heap.size ts (.iface u (.pointer (some b)))=.iface u (.pointer (some (tk W ts b))):=by simp[mv,f,tk]
 have:=@D7 (bU (dJ W.heap.size ts.length)) ts W.heap _ (λ_=>trivial) W wg rfl hw a _ h (hs.Hs h λ_ e=>by cases e) (by
  rw[e];refine@VR.iface (bU (dJ W.heap.size ts.length)) _ u _ _ (@VR.ptr (bU (dJ W.heap.size ts.length)) _ _ _ ⟨@XN (bU (dJ W.heap.size ts.length)) _ _ _ f,rfl,rfl⟩) (.inr (.inl ⟨_,rfl,.inr ⟨?_,?_⟩⟩))
  ·show W.heap.size<=W.heap.size+_;omega
  ·have:=List.idxOf_lt_length_of_mem f;show W.heap.size+_<_;omega)
 rw[e] at this;exact this
include hw in
def Tt{b:aiI}(f:b.block∈ts):dx wg (tk W ts b):=by refine⟨.stringIter default 0,?_,(λ_ _ e=>by cases e),λ_ _ _ e=>by cases e⟩;rw[hw];have:=List.idxOf_lt_length_of_mem f;exact@DJ (bU (dJ W.heap.size ts.length)) ts W.heap _ (λ_=>trivial) _ (by show W.heap.size<=W.heap.size+_;omega) (by show W.heap.size+_<_;omega)
include hs hw in
def aek(h:vZ W A c xs):bB wg wg.heap.size A xs:=λh0=>by obtain⟨b,o,e,f,hc⟩:=h.rd h0;have:=hw.size;exact⟨b,o,e,aa,λi hi=>GL hs hw (hc i hi) aq⟩
include hs hw in
def afm(h:Bd W A c xs):Rd wg wg.heap.size A xs:=λh0=>by obtain⟨b,o,e,f,hc⟩:=h.rd h0;have:=hw.size;exact⟨b,o,e,aa,λi hi=>GL hs hw (hc i hi) aq⟩
include hs hw in
def afn(h:sQ W A c ls):dz wg wg.heap.size A ls:=λh0=>by obtain⟨b,o,e,k,hc⟩:=h.rd h0;have:=hw.size;refine⟨b,o,e,aa,λi hi=>?_⟩;obtain⟨g,j,h1,f⟩:=hc i hi;exact⟨g,j,aej hs hw h1 f.fS f.le,aek hs hw f,f.le,f.cm⟩
def sQ.bK(h:sQ W A c ls)(i:Nat)(hi:i<ls.length):bytes (aU ls i):=by obtain⟨_,_,_,_,hc⟩:=h.rd aa;obtain⟨_,_,_,b⟩:=hc i hi;exact b.bK
include hs hw in
def afo(h1:a1.block∈ts)(b:a2.block∈ts):gx wg (tk W ts a1) (tk W ts a2) wg.heap.size:=by have:=hw.size;have e:=(bF.1 hs.hG).1;exact⟨Ts hs hw hs.e1 h1,Ts hs hw hs.e2 b,by show 0<_;omega,by show 1<_;omega⟩
include hs hw in
def ahz(hq:Lib.TabIs Tryz.prog W mM .i64 [1,2,4,8,12,16,24,32,48,64,96,128,192,256,384,512]):Tb wg:=by have:=hw.size;have b:=(bF.1 hs.hG).1;refine⟨aa,λq h=>?_⟩;rw[GL hs hw (hq.cell Rr q h) aq];unfold step steps;rw[List.getD_eq_getElem?_getD]
end
end
section
open Go
def j00:(Rows.fnExactDecodePictureRow.wf (OpenSpec.ofChange Rows.fnExactDecodePictureSpec))=true:=aC
def j01:(laidOutB Tryz.prog)=true:=ai
def j02:(mapsRowed Tryz.prog)=true:=ai
def j03:(Tryz.f3.params.all (Tryz.prog.readableRec ·))=true:=ai
def j04:(namedTie Tryz.prog Rows.fnExactDecodePictureRow.named Rows.fnExactDecodePictureSpec.vars)=true:=aC
def j05:((Rows.fnExactDecodePictureRow.stops==[]))=true:=aC
def j06:((Tryz.prog.stops==[]))=true:=aC
def j07:((Rows.fnExactDecodePictureRow.knobs==[]))=true:=aC
def j08:((Tryz.prog.stopKnobs==[]))=true:=aC
def j09:((Rows.fnExactDecodePictureRow.inPlace==Tryz.prog.inPlace 3))=true:=ai
def j10:((Rows.fnExactDecodePictureRow.unfollowed==Tryz.prog.unfollowed 3))=true:=ai
def j11:((Rows.fnExactDecodePictureRow.recurses==Tryz.prog.recurses 3))=true:=ai
def j12:((Rows.fnExactDecodePictureRow.named==Tryz.prog.varsNamed 3))=true:=ai
def j13:((Rows.fnExactDecodePictureRow.maps==(Tryz.f3.params.toList++Rows.fnExactDecodePictureSpec.plain.varTypes Tryz.prog).any (Tryz.prog.mapsRec ·)))=true:=aC
def j14:((Rows.fnExactDecodePictureRow.ifaces==(Tryz.f3.params.toList++Rows.fnExactDecodePictureSpec.plain.varTypes Tryz.prog).any (Tryz.prog.ifacesRec ·)))=true:=aC
def j15:((Rows.fnExactDecodePictureRow.mapsOut==Tryz.prog.mapsAmong Tryz.f3.resultTypes.toList))=true:=aC
def j16:((Rows.fnExactDecodePictureRow.loops==(Tryz.f3.params.toList++Rows.fnExactDecodePictureSpec.plain.varTypes Tryz.prog).any (Tryz.prog.loopsFrom ·)))=true:=ai
def j17:((Rows.fnExactDecodePictureRow.wideKeys==(Tryz.f3.params.toList++Rows.fnExactDecodePictureSpec.plain.varTypes Tryz.prog++Tryz.f3.resultTypes.toList).any (Tryz.prog.wideKeysFrom ·)))=true:=ai
def j18:(Rows.fnExactDecodePictureSpec.vars.all (Tryz.prog.varReadable ·))=true:=aC
def j19:(Tryz.f3.resultTypes.all λt=>Tryz.prog.readableRec t&&decide (t<Tryz.prog.types.size))=true:=ai
def j20:((Rows.fnExactDecodePictureRow.ifacesOut==Tryz.f3.resultTypes.toList.any (Tryz.prog.ifacesRec ·)))=true:=aC
def j21:((Rows.fnExactDecodePictureRow.loopsOut==Tryz.f3.resultTypes.toList.any (Tryz.prog.loopsFrom ·)))=true:=aC
def j22:((Rows.fnExactDecodePictureRow.plainKeys==Tryz.prog.plainKeys))=true:=aC
def j23:(Rows.fnExactDecodePictureRow.shortTexts.isNone)=true:=aC
def j24:(Tryz.prog.stopsHeard)=true:=ai
def j25:(Tryz.prog.mayEnter)=true:=ai
def j26:((Rows.fnExactDecodePictureRow.lifted==Tryz.prog.liftsFinal))=true:=ai
def j27:((Tryz.prog.make==some Rows.fnExactDecodePictureRow.make))=true:=ai
def j28:((Rows.fnExactDecodePictureRow.kinds==(if Rows.fnExactDecodePictureRow.domain.isEmpty then[] else Tryz.f3.params.toList.map λt=>match Tryz.prog.underlying t with|some (.int k)=>some k|_=>none)))=true:=aC
def j29:((Rows.fnExactDecodePictureRow.pinned==Rows.fnExactDecodePictureRow.pinnedBy))=true:=aC
def j30:((Rows.fnExactDecodePictureRow.veiled==(Tryz.f3.params.toList++Rows.fnExactDecodePictureSpec.plain.varTypes Tryz.prog++Tryz.f3.resultTypes.toList).any (Tryz.prog.veiledRec ·)))=true:=ai
def j31:(Rows.fnExactDecodePictureRow.veiledFits Tryz.prog Tryz.f3.params.toList (Tryz.f3.params.toList++Rows.fnExactDecodePictureSpec.plain.varTypes Tryz.prog++Tryz.f3.resultTypes.toList))=true:=ai
def dG{a b:Bool}(h:a=true)(k:b=true):(a&&b)=true:=by simp_all
def ael:joinedFacts Tryz.prog 3 Tryz.f3 Rows.fnExactDecodePictureSpec Rows.fnExactDecodePictureRow=true:=(dG (dG (dG (dG (dG (dG (dG (dG (dG (dG (dG (dG (dG (dG (dG (dG (dG (dG (dG (dG (dG (dG (dG (dG (dG (dG (dG (dG (dG (dG (dG j00 j01) j02) j03) j04) j05) j06) j07) j08) j09) j10) j11) j12) j13) j14) j15) j16) j17) j18) j19) j20) j21) j22) j23) j24) j25) j26) j27) j28) j29) j30) j31)
end
section
open Go.ChangeShapes Go.WideShapes Go.ChangeAt Go.RowKit Go.Joins Go.Deep Go.Conc aI Go.Proofs.Q0.Open
def acE:ownKnob Tryz.prog.godebug=none:=aC
def Ff:laidOutB Tryz.prog=true:=ai
def V6[ag]{φ:Ren}{xs:List rl}(h:∀x∈xs,VR φ x x):ax φ xs.toArray xs.toArray:=⟨rfl,λi x y b e=>by rw[b] at e;cases e;exact h x (yK (by simpa using b))⟩
def V7[ag]{φ:Ren}{xs:List rl}(h:∀x∈xs,VR φ x x):VR φ (.agg xs.toArray) (.agg xs.toArray):=.agg rfl (V6 h).at_
def ain:(Tryz.f3.results.toList.all λr=>match r with|.tmp _=>true|_=>false)=true:=lU
def ahA:Gz.prog.inits.idxOf? 3=none:=lU
def ahB:iB.testBit 3=true:=aC
def Wa{W:ns}{a1 a2:aiI}(hs:St W a1 a2)(hq:Lib.TabIs Tryz.prog W mM .i64 [1,2,4,8,12,16,24,32,48,64,96,128,192,256,384,512])
  {x y q x' y':Int}{I:Bool}{m:Option aiI}{k:Nat}(i:sQ W A c ls)(l:Bd W m k xs):
  ∃M last o w' D,runNT Tryz.prog (M+1) (solo (G (aiy Tryz.prog 3 #[.agg #[U O x,U O y,.bool I,U O q,.slice A ls.length c],.agg #[U O x',U O y',.slice m xs.length k]] .normal) []) W) #[]=(.ended o w',D)/\
   runN Tryz.prog M (solo (G (aiy Tryz.prog 3 #[.agg #[U O x,U O y,.bool I,U O q,.slice A ls.length c],.agg #[U O x',U O y',.slice m xs.length k]] .normal) []) W)=.next last/\
   Go.step Tryz.prog last=.ended o w'/\Conc.Good Tryz.prog (Ae W) last o w' D:=by
 obtain⟨ts,s,E,F,u⟩:∃ts:List Nat,ts.Nodup/\a1.block∈ts/\a2.block∈ts/\∀b∈ts,b=a1.block\/b=a2.block:=by
  by_cases e:a1.block=a2.block
  ·exact⟨[a1.block],aj,aj,by simp[e],λb j=>by simp at j;exact .inl j⟩
  ·exact⟨[a1.block,a2.block],by simp[e],aj,aj,λb j=>by simpa using j⟩
 have J:Gz.prog.globals.size=3:=Ao;have w:0<((Array.range Tryz.prog.types.size).map λt=>Value.int .u64 (Int.ofNat t)).size:=aj;refine agn age (ts:=ts) (fn:=Tryz.f3) ⟨_,0,by rw[J];exact hs.hG,w⟩ s (λb j=>?_) (λg K=>?_) (Gz.l8 func3 aq) (λr L=>?_) ahA ahB ?_ λwg f=>?_
 ·rw[J];rcases u b j with rfl|rfl
  ·exact hs.r1
  ·exact hs.r2
 ·obtain⟨N,t,h1⟩:=hs.we g K;exact@Ob (bU λ_=>True) _ _ _ _ _ h1
 ·simp_all
 ·refine@V6 (bU (dJ W.heap.size ts.length)) _ _ λz h=>?_;simp only[List.mem_cons,List.not_mem_nil,or_false] at h;rcases h with rfl|rfl
  ·refine@V7 (bU (dJ W.heap.size ts.length)) _ _ λz h=>?_;simp only[List.mem_cons,List.not_mem_nil,or_false] at h;rcases h with rfl|rfl|rfl|rfl|rfl
   ·exact ur
   ·exact ur
   ·exact@VR.bool (bU (dJ W.heap.size ts.length)) _ _
   ·exact ur
   ·exact@Fe (bU (dJ W.heap.size ts.length)) ts W A _ c i.fS i.le
  ·refine@V7 (bU (dJ W.heap.size ts.length)) _ _ λz h=>?_;simp only[List.mem_cons,List.not_mem_nil,or_false] at h;rcases h with rfl|rfl|rfl
   ·exact ur
   ·exact ur
   ·exact@Fe (bU (dJ W.heap.size ts.length)) ts W m _ k l.fS l.le
 ·have hm:=i.le;have B:=i.cm;have P:=l.le;have C:=l.cm;unfold maxLen at B C;refine(V9 x y q I c xs.length k x' y' (afn hs f i) rfl aa i.bK (afm hs f l) rfl aa (afo hs f E F) (Tt f E) (Tt f F) (ahz hs f hq)).mono λe w' he=>?_;subst he;rfl
def acF(os:Os){args:Array rl}:laidMetH Tryz.prog sM ((World.doorLaid Tryz.prog 400 os).forCall (λ_ _=>0) ⟨#[],args,[]⟩).memory:=
 laidMetH_of_parts3 (fuel:=8) (laidMet_of_run' 8 ai ai) ai ai
def V8(os:Os)(k:os.Started)(H:Type)(enc:EV×rl->H):
  ReturnsInLeavingWide {} Tryz.checked os 3 .any (λw args=>(Rows.fnExactDecodePictureSpec.pre enc Tryz.prog Tryz.f3 [] false w args/\laidMetH Tryz.prog sM w)/\sizedMet enc Tryz.prog Tryz.f3 (OpenSpec.ofChange Rows.fnExactDecodePictureSpec) false w args)
   (Rows.fnExactDecodePictureSpec.post enc Tryz.prog Tryz.f3 false true false false):=by
 refine returnsInLeavingWide_of_good (C:=Tryz.checked) acE k
  (ChangeSpec.witness_shaped (enc:=enc) (C:=Tryz.checked) (os:=os) (X:=λw _=>laidMetH Tryz.prog sM w) false (World.doorLaid Tryz.prog 400 os) #[.agg #[U O 0,U O 0,.bool false,U O 0,.slice none 0 0],.agg #[U O 0,U O 0,.slice none 0 0]] 8 rfl (World.shaped_of_RefB ai ai) ai ai ai (acF os)) ?_
 intro w tape i _ u _ V z _;obtain⟨_,_,_,Z,B,_,_,_,_,f⟩:=V;have e:Z=Tryz.f3:=aL (B.symm.trans func3);subst e;obtain⟨⟨⟨l,L,N,hw0,_⟩,hL0⟩,_⟩:=z;have P:=DataW.Whole.of_heap (w':=w.forCall tape i) aD hw0;have hL:laidMetH Tryz.prog sM (w.forCall tape i):=hL0.of_heap aD;generalize w.forCall tape i=W at u f P hL;obtain⟨Q,args,vars⟩:=i;simp only at f P⊢;obtain⟨a1,a2,hs⟩:=afv u hL;have r:∀(j:Nat) t v,Tryz.f3.params[j]?=some t->args[j]?=some v->Value.okWide Tryz.prog W .any w.heap.size t v:=f;have hW':=P;obtain⟨p,q,D,E,rfl,N',hnd⟩:=hW';have hA:DataW.TrodAll enc Tryz.prog W 0 (λ_=>true) true Tryz.f3.params.toList args.toList l p:=D;have hV:DataW.TrodVars enc Tryz.prog W (λ_=>true) [zO,uU,mM] L q:=E;rw[params3] at hA r;obtain⟨v0,vs0,d0,ds0,p0,q0,ahO,rfl,rfl,h0,r0⟩:=trodAll_cons hA;obtain⟨v1,vs1,d1,ds1,p1,q1,rfl,rfl,rfl,h1,r1⟩:=trodAll_cons r0;obtain⟨rfl,rfl,rfl⟩:=trodAll_nil r1;obtain rfl:args=#[v0,v1]:=by cases args;simp_all
 have hVB:∀W2,Below W.heap.size W W2->DataW.TrodVars enc Tryz.prog W2 (λb=>decide (b<W.heap.size)) [zO,uU,mM] L q:=λW2 hb=>Below.trodVars Ff hb ai hV
 obtain⟨gv0,tv0,aip,R,dv0,F,pv0,qv0,rfl,G⟩:∃(g:Nat)(t:EV)(J:Array rl)(fuel:Nat)(d:DataW H)(l:List (DataW H))(p q:List MemPlace),L=d::l/\DataW.TrodVars enc Tryz.prog W (λ_=>true) [uU,mM] l q:=by cases L with|nil=>exact hV.elim|cons d l=>obtain⟨g,t,J,fuel,p,q,_,_,_,_,h,_⟩:=hV;exact⟨g,t,J,fuel,d,l,p,q,rfl,h⟩
 obtain⟨gv1,tv1,aiq,S,dv1,dr1,pv1,qv1,rfl,hV2⟩:∃(g:Nat)(t:EV)(J:Array rl)(fuel:Nat)(d:DataW H)(l:List (DataW H))(p q:List MemPlace),F=d::l/\DataW.TrodVars enc Tryz.prog W (λ_=>true) [mM] l q:=by cases F with|nil=>exact G.elim|cons d l=>obtain⟨g,t,J,fuel,p,q,_,_,_,_,h,_⟩:=G;exact⟨g,t,J,fuel,d,l,p,q,rfl,h⟩
 obtain⟨gv2,tv2,air,T,dv2,pv2,rfl,_,_,_,_,_⟩:=trodVars_one hV2;have k0:=h0;have lt0:∀x∈p0,x.block<W.heap.size:=by obtain⟨m,hm⟩:=k0;exact DataW.trod_lt m _ _ _ hm
 have k1:=h1;have lt1:∀x∈p1,x.block<W.heap.size:=by obtain⟨m,hm⟩:=k1;exact DataW.trod_lt m _ _ _ hm
 obtain⟨x,y,I,qq,A,c,ls,rfl,hl⟩:=aaV (r 0 24 v0 rfl rfl) h0;obtain⟨x',y',A',c',xs,rfl,hx⟩:=aaU (r 1 27 v1 rfl rfl) h1;clear D f E;obtain⟨M,last,o,w',t',g1,g2,g3,g4⟩:=Wa (x:=x) (y:=y) (q:=qq) (I:=I) (x':=x') (y':=y') hs (aaY hL) hl hx;refine⟨M,last,o,w',t',g1,g2,g3,g4.mono λv⟨he,K,cC,hold⟩=>?_⟩;subst he;have s:Below W.heap.size W {w' with tape:=W.tape}:=⟨K.1,rfl,K.2,cC,hold⟩
 have hp:Rows.fnExactDecodePictureSpec.post enc Tryz.prog Tryz.f3 false true false false W _ (.bool true) {w' with tape:=W.tape}:=
  ⟨_,_,_,[],_,_,P,trodAll_mk1 (shut_bool underlying4 _),trodAll_cons_mk (Below.trod Ff ai (of_decide_eq_true ai) k0 s lt0) (trodAll_cons_mk (Below.trod Ff ai (of_decide_eq_true ai) k1 s lt1) trodAll_mk0),hVB _ s,s.frame _,λh=>by cases h⟩
 have hb:=ChangeSpec.post_blind hp;exact hb
def Wb:Rows.FnExactDecodePictureSaid:=
 OpenClaim.holds_of_wide_leaving 3 Tryz.f3 rfl rfl rfl rfl rfl rfl rfl ⟨rfl,rfl,rfl,rfl,rfl⟩ rfl rfl rfl rfl rfl ai func3 ael
  (of_decide_eq_true ai) (by unfold Func.isWrapper;first|(rw[if_pos (by decide+kernel)];kernel_rfl)|(rw[if_neg (by decide+kernel)];exact⟨rfl,rfl⟩))
  (λos b H enc _=>V8 os b H enc)
def ago:true=Rows.fnExactDecodePictureRow.goesBy Tryz.prog:=ai
def aaW{k:Looks}{p:Pinned}{s:OpenSpec}{c:OpenClaim}{kinds:List LaidKind}{b:Bool}(e:Bool×String)(g:Bool)
  (hc:c.holds p s)(hw:c.wfByText s=true)(i:c.laidByTextAt k p kinds b)
  (l:c.start=.entering)(m:c.noBlocks=false/\c.again=false)(hm:p.checked.prog.mainIs=some (e.1,e.2.toList))(o:(!e.1&&e.2.isEmpty&&!g)=false)
  (q:∀f fn,p.checked.prog.funcNamed c.func=some f->p.checked.prog.funcs[f]?=some fn->g=p.checked.prog.looks []/\∀(j:Nat) t,fn.params[j]?=some t->p.checked.prog.wantsStandIn t=false)
  (u:true=c.goesBy p.checked.prog):
  Claim7.holds p (.plain s) {stood:={row:=c,standIns:=[],harness:=e,looks:=g},kinds:=[],alts:=[],goes:=true,laidByText:=true,laidKinds:=kinds,laidTests:=b,laidLooks:=k}:=by
 have w:∀r:OpenClaim,Claim7.isSixth {stood:={row:=r,standIns:=[],harness:=e,looks:=g},kinds:=[]}=false:=λr=>by simpa[Claim7.isSixth] using o
 refine⟨Claim7.tied_new_at k kinds b (Claim7.new_of_sixth hc e g l m hm (w c) q) hw,λD x=>?_,i,(λh=>by cases h),u⟩;exact absurd x (List.not_mem_nil)
end
end Go.Proofs.Q0
namespace Go.Proofs.YtjjdeakghpmpfaaGreatDoor
open Go.Proofs.Tryz Go.Proofs.Q0
open Go.ChangeShapes Go.WideShapes Go.ChangeAt Go.RowKit Go.Joins Go.Deep Go.Conc aI Go.Proofs.Q0.Open
theorem FnExactDecodePicture_holds:Rows.FnExactDecodePictureCardSaid:=
 aaW (true, "171a428d044eb31efb02e01a043605772ee828a4c157aa9a1019b64cd103e78d") true Wb ai fnExactDecodePicture_row_tie rfl ⟨rfl,rfl⟩ ai rfl
  (λf fn hf WF=>by
   obtain rfl:f=3:=aL ((show Tryz.prog.funcNamed "loop.example/videocodec/laws.FnExactDecodePicture" =some 3 by kernel_rfl).symm.trans hf)|>.symm;obtain rfl:fn=Tryz.f3:=(aL (func3.symm.trans WF)).symm
   exact⟨ai,λj t ht=>by
    rw[params3] at ht;have hm:t∈[24,27]:=by simpa using lZ ht
    have qm:([24,27].all λu=>!Tryz.prog.wantsStandIn u)=true:=ai;exact(show Tryz.prog.wantsStandIn t=false by simpa using gY.1 qm t hm)⟩)
  ago
end Go.Proofs.YtjjdeakghpmpfaaGreatDoor
