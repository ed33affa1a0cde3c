import Derived.Test.YtnbpokndlaebbaaGreatDoorK11
set_option maxRecDepth 100000
set_option maxHeartbeats 8000000
set_option linter.all false
open Go.Value renaming int->U,slice->Y,bool->ci,agg->bi,pointer->d9,tuple->em,iface->gc
open Go.IntKind renaming i64->O
open Go.Obj renaming cells->ap
open Go.Ending renaming returned->dl
open Array renaming forIn_toList->ajt,getElem?_map->ajN,range->ajP
open Bool renaming false->Ba,true->AT
open Go renaming Addr->aic,Program->OF,TypeId->SL,Value->AS,World->rl,byteOf->ajK,underlying->aiy,viewAt->aku,zeroValue->ajs
open Go.Builtin renaming firstCells->aiw,zeroCells->aiG
open Go.Conv renaming bytesToString->ajL
open Go.Instr renaming field->aji,index->akH,loadAt->ajk,sliceBound->aka,sliceBounds->ajx
open Go.IntKind renaming i64->EV
open Go.Sem renaming runT_fst->aiI,run_bind->aih
open Option renaming none->ns,some->an
namespace Go.Proofs
def uJ{p:Prop}(h:p:=by rw[<-h.size];assumption):p:=h
def uK{p:Prop}(h:p:=by simpa using hb):p:=h
def C4{p:Prop}(h:p:=by simp only[World.shape?,h]):p:=h
def Kj{p:Prop}(h:p:=by simp only[bind,Sem.bind,Sem.runT,hs,Option.isSome_none,Bool.false_eq_true,if_false,h];cases o<;>first|rfl|exact absurd rfl (hn _ _ _)|exact absurd rfl (hv _ _)):p:=h
def Kk{p:Prop}(h:p:=by simp only[hb,if_false];split<;>(split<;>first|exact .halt _ _|exact uT)):p:=h
def Kl{p:Prop}(h:p:=by show SR P K _ φ (loadCells a (0*size)) (loadCells a' (0*size));rw[Nat.zero_mul];exact .pure ⟨rfl,rfl⟩):p:=h
def Dm{p:Prop}(h:p:=by exact .dead (fu (eG _))):p:=h
def Km{p:Prop}(h:p:=by refine SR.bind (eB arr) λχ d _ _ e=>?_;subst e;cases d<;>first|exact .pure (.int _ _)|exact .halt _ _):p:=h
def Md{p:Prop}(h:p:=by refine SR.bind (MO _ _ _) λψ a b _ B7=>SR.bind (On B7) λχ x _ _ e=>?_;subst e;exact .pure (.string _)):p:=h
def yN{p:Prop}(h:p:=by split<;>first|exact .pure (.int _ _)|exact .halt _ _):p:=h
end Go.Proofs
namespace Go.Proofs.Q0.aM
variable{α β:Type}{x v v' u u' x' s s':AS}{xs ys:Array AS}{a a':aic}{t:SL}{y:Int}{k:IntKind}{r n kw:Nat}{lo i9 hi hi' mx UV:Option AS}{base:Option aic}
section
variable[ah]
abbrev aZ{α:Type}:Ren->α->α->Prop:=λ_ a b=>a=b
section
variable{P:OF}{K:aI}{φ:Ren}
def SR.of_run{R:Ren->α->β->Prop}{s:Sem α}{s':Sem β}{a:α}{b:β}(h:∀w,s.run P w=.ok a w)(h':∀w es,s'.runT P.two w es=(.ok b w,es))(hr:R φ a b):SR P K R φ s s':=
 .of_does (λ{w f c g} es hw d=>by
  rw[h] at d;cases d;exact⟨φ,b,f,#[],by rw[h'];simp,hr,hw,.refl _,.refl _ _ _ _,au⟩) (λw f _ x g e=>by rw[h] at e;cases e) (λw f _ x g e=>by
  rw[h] at e;cases e;exact⟨0,rfl,rfl,λT n _=>h _⟩)
def Looks.calm{s:Sem α}(h:Looks P s):Calm P s:=λw=>by
 have c:=pJ P s w #[];rcases h with⟨a,h⟩|⟨y,f,h⟩
 ·rw[(h _ _).1] at c;rw[<-c];exact⟨λx d e=>bG,λb d e=>(by cases e;exact .refl w)⟩
 ·rw[(h _ _).1] at c;rw[<-c];exact⟨λx d e=>(by cases e;exact⟨f,.refl w⟩),λb d e=>bG⟩
def Looks.sr'{R:Ren->α->α->Prop}{s:Sem α}(h:Looks P s)(hr:∀a,(∀w es,s.runT P w es=(.ok a w,es))->R φ a a):SR P K R φ s s:=by
 rcases h with⟨a,h⟩|⟨x,b,h⟩
 ·exact .of_run (λw=>by rw[<-aiI P s w #[],(h _ _).1]) (λw es=>(h w es).2) (hr a λw es=>(h w es).1)
 ·exact .dead λw=>⟨x,w,by rw[<-aiI P s w #[],(h _ _).1],b,.refl w⟩
def Looks.sr{s:Sem α}(h:Looks P s):SR P K aZ φ s s:=h.sr' λ_ _=>rfl
def eB(t:SL):SR P K aZ φ (aiy t) (aiy t):=(rR t).sr
def mC(t:SL):SR P K aZ φ (typeInfo t) (typeInfo t):=(rV t).sr
def fF(t:SL):SR P K aZ φ (sizeOf t) (sizeOf t):=(zk t).sr
def Fe(t:SL):SR P K aZ φ (isAgg t) (isAgg t):=(ME t).sr
def cN(P:OF):Prop:=∀t i v,P.info? t=an i->i.zero=an v->∀φ,VR φ v v
def Mx(t:SL):SR P K (λ_ a b=>a=b/\P.info? t=an a) φ (typeInfo t) (typeInfo t):=by refine SR.program ?_;show SR P K _ φ (match P.info? t with|some i=>(pure i:Sem TypeInfo)|none=>stuck "no such type") (match P.info? t with|some i=>(pure i:Sem TypeInfo)|none=>stuck "no such type");cases P.info? t with|none=>exact .halt _ _|some i=>exact .pure ⟨rfl,rfl⟩
def pQ(b:cN P)(t:SL):SR P K VR φ (ajs t) (ajs t):=by refine SR.bind (Mx t) ?_;rintro c i _ _⟨rfl,hi⟩;cases h:i.zero with|none=>exact .halt _ _|some v=>exact .pure (b t i v hi h _)
def VR.cells{v v':AS}(h:VR φ v v'):aB φ v.cells v'.cells:=by
 have one:∀x y,VR φ x y->aB φ #[x] #[y]:=λx y f=>⟨rfl,λi a b g j=>by
  cases i with
  |zero=>simp at g j;subst g;subst j;exact f
  |succ i=>simp at g⟩
 cases h with
 |agg m o=>exact⟨m,o⟩
 |bool b=>exact one _ _ (.bool b)
 |int k n=>exact one _ _ (.int k n)
 |string s=>exact one _ _ (.string s)
 |nilFunc=>exact one _ _ .nilFunc
 |nilIface=>exact one _ _ .nilIface
 |nilPtr=>exact one _ _ .nilPtr
 |jZ=>exact one _ _ .jZ
 |jX=>exact one _ _ .jX
 |ptr h=>exact one _ _ (.ptr h)
 |dU n c=>exact one _ _ (.dU n c)
 |slice n c h=>exact one _ _ (.slice n c h)
 |empty=>exact one _ _ .empty
 |iface t h p=>exact one _ _ (.iface t h p)
 |@aX v' q l=>
  have e:v'.cells=#[v']:=by cases v'<;>first|rfl|exact absurd rfl (l.1 _)
  rw[e];exact one _ _ (.aX q l)
 |tuple h k=>exact one _ _ (.tuple h k)
 |func a b c d e=>exact one _ _ (.func a b c d e)
def AR.add{a a':aic}(h:AR φ a a')(n:Nat):AR φ (a.add n) (a'.add n):=by
 unfold Addr.add;split
 ·exact h
 ·exact⟨h.block,by simp[h.off],rfl⟩
def aB.push(h:aB φ xs ys){y:AS}(e:VR φ x y):aB φ (xs.push x) (ys.push y):=by
 refine⟨by simp[h.size],λi a b d c=>?_⟩;rw[Array.getElem?_push] at d c;split at d
 ·rw[if_pos uJ] at c;cases d;cases c;exact e
 ·rw[if_neg uJ] at c;exact h.at_ i a b d c
def aB.empty:aB φ #[] #[]:=⟨rfl,λi x y b _=>by simp at b⟩
def QF(h:AR φ a a'):SR P K VR φ (load a) (load a'):=.load h λv v' b=>.pure b
def abe(h:AR φ a a')(b:VR φ v v'):SR P K aZ φ (store a v) (store a' v'):=.store h b (.pure rfl)
def V8(n:Nat):∀(φ:Ren)(i:Nat)(acc b:Array AS),AR φ a a'->aB φ acc b->SR P K aB φ (loadCellsFrom a i n acc) (loadCellsFrom a' i n b):=by
 induction n with
 |zero=>exactλφ i acc b _ h=>.pure h
 |succ n e=>intro φ i acc b c h;refine SR.bind (QF (c.add i)) λf v v' d g=>?_;exact e f (i+1) _ _ (c.mono d) ((h.mono d).push g)
def DN(h:AR φ a a')(n:Nat):SR P K aB φ (loadCells a n) (loadCells a' n):=V8 n φ 0 #[] #[] h .empty
inductive ij(φ:Ren):List AS->List AS->Prop
 |nil:ij φ [] []
 |cons {x y:AS} {xs ys:List AS}:VR φ x y->ij φ xs ys->ij φ (x::xs) (y::ys)
def ij.mono{b:Ren}{xs ys:List AS}(h:ij φ xs ys)(k:Ren.le φ b):ij b xs ys:=by induction h with|nil=>exact .nil|cons h _ c=>exact .cons (h.mono k) c
def ij.of:∀{xs ys:List AS},xs.length=ys.length->(∀(i:Nat) x y,xs[i]?=an x->ys[i]?=an y->VR φ x y)->ij φ xs ys
 |[],[],_,_=>.nil
 |[],_::_,h,_=>by simp at h
 |_::_,[],h,_=>by simp at h
 |x::xs,y::ys,h,k=>.cons (k 0 x y rfl rfl) (ij.of mu λi a b c hb=>k (i+1) a b (by simpa using c) uK)
def aB.toList(h:aB φ xs ys):ij φ xs.toList ys.toList:=ij.of (by simpa using h.size) λi x y b c=>h.at_ i x y (by simpa using b) (by simpa using c)
theorem ij.toArray{xs ys:List AS}(h:ij φ xs ys):aB φ xs.toArray ys.toArray:=by
 have d:xs.length=ys.length:=by induction h with
  |nil=>rfl
  |cons _ _ b=>simp[b]
 refine⟨by simpa using d,λi x y c e=>?_⟩;simp only[List.getElem?_toArray] at c e
 induction h generalizing i with|nil=>simp at c|cons h _ b=>grind
def DD:∀{vs b:List AS}(φ:Ren){a a':aic}(i:Nat),ij φ vs b->AR φ a a'->SR P K aZ φ (storeCells a vs i) (storeCells a' b i)
 |[],[],_,_,_,_,_,_=>.pure rfl
 |_::_,_::_,φ,_,_,i,.cons h hr,c=>SR.bind (abe (c.add i) h) λe _ _ d _=>DD e (i+1) (hr.mono d) (c.mono d)
def vo(t:SL)(d:AR φ a a'):SR P K VR φ (loadVar t a) (loadVar t a'):=by
 refine SR.bind (Fe t) λg b _ f e=>?_;subst e;cases b with
 |true=>refine SR.bind (fF t) λi n _ c e=>?_;subst e;refine SR.bind (DN ((d.mono f).mono c) n) λj xs ys _ h=>.pure (.agg h.size h.at_)
 |false=>exact QF (d.mono f)
def XS(t:SL)(c:AR φ a a')(d:VR φ v v'):SR P K aZ φ (storeVar t a v) (storeVar t a' v'):=by
 refine SR.bind (fF t) λf n _ b e=>?_;subst e;have hc:=d.cells.mono b;by_cases h:v.cells.size=n
 ·have g:v'.cells.size=n:=by rw[<-hc.size];exact h
  simp only[h,g,ne_eq,not_true_eq_false,if_false];exact DD f 0 hc.toList (c.mono b)
 ·simp only[h,ne_eq,not_false_eq_true,if_true];exact .halt _ _
def zG(t:SL){cs cs':Array AS}(h:aB φ cs cs'):SR P K AR φ (newRow t cs) (newRow t cs'):=
 SR.new (.cells t (0,0) h) rfl λc r d _ b=>.pure ⟨b,rfl,rfl⟩
def Oo(t:SL)(h:VR φ v v'):SR P K AR φ (newVar t v) (newVar t v'):=zG t h.cells
def vl(h:VR φ v v'):SR P K AR φ (Instr.sureAddr v) (Instr.sureAddr v'):=by cases h with|ptr h=>exact .pure h|_=>exact .halt _ _
def zy(h:VR φ v v'):SR P K aZ φ (asIntOf v) (asIntOf v'):=by cases h with|int k n=>exact .pure rfl|_=>exact .halt _ _
def vE(h:VR φ v v'):SR P K aZ φ (asInt v) (asInt v'):=
 SR.bind (zy h) λb x _ _ e=>by subst e;exact .pure rfl
def On(h:VR φ v v'):SR P K aZ φ (asBool v) (asBool v'):=by cases h with|bool b=>exact .pure rfl|_=>exact .halt _ _
def abf(h:VR φ v v'):SR P K aB φ (asAgg v) (asAgg v'):=by cases h with|agg h k=>exact .pure ⟨h,k⟩|_=>exact .halt _ _
def fu{b:Type}{s:Sem α}{f:α->Sem b}(h:fB P s):fB P (s>>=f):=WB h
end
end
section
variable[ah]
section
variable{P:OF}{K:aI}{φ:Ren}
def SR.ask{R:Ren->α->β->Prop}{f:OF->Sem α}{f':OF->Sem β}(h:SR P K R φ (f P) (f' P))(e:f' P.two=f' P:=by rfl):SR P K R φ (Go.program>>=f) (Go.program>>=f'):=.program (show SR P K R φ (f P) (f' P.two) by rw[e];exact h)
def DO:fB P (goPanic v:Sem α):=λw=>⟨.panic v,w,rfl,trivial,.refl w⟩
def eX{u:Unsupported}(hu:kO (.unsupported u):=by trivial):fB P (unsupported u:Sem α):=λw=>⟨.unsupported u,w,rfl,hu,.refl w⟩
def iq{b:String}:fB P (stuck b:Sem α):=λw=>⟨.stuck b,w,rfl,trivial,.refl w⟩
def qh{s:Sem α}(h:∀w,∃a c,s.run P w=.ok a c/\j7 w c):Calm P s:=λw=>by obtain⟨a,g,d,f⟩:=h w;rw[d];exact⟨λx c e=>bG,λb c e=>(by cases e;exact f)⟩
def Xk:Calm P program:=qh λw=>⟨_,_,rfl,.refl w⟩
def zu{q:Question}:Calm P (choose q):=qh λw=>by show∃a b,(Sem.choose q .pure).run P w=.ok a b/\j7 w b;simp only[Sem.run];split<;>exact⟨_,_,rfl,.refl w⟩
def YI(w:rl){o:Obj}:j7 w {w with heap:=w.heap.push o}:=⟨au,λb c=>by show(w.heap.push o)[b]?=_;rw[Array.getElem?_push_lt c,Array.getElem?_eq_getElem c]⟩
def XT:Calm P (newVar t v):=qh λw=>⟨_,_,rfl,YI w⟩
def pT{s:Sem α}{f:α->Sem β}(h:Calm P s)(g:∀a,Calm P (f a)):Calm P (s>>=f):=λw=>by
 rw[aih];cases i:s.run P w with
 |ok a d=>have k:=(h w).2 _ _ i;exact⟨λx c e=>⟨((g a d).1 x c e).1,k.trans ((g a d).1 x c e).2⟩,λb c e=>k.trans ((g a d).2 b c e)⟩
 |halt y d=>exact⟨λx c e=>(by cases e;exact(h w).1 _ _ i),λb c e=>bG⟩
def kG{a:α}:Calm P (pure a:Sem α):=qh λw=>⟨_,_,rfl,.refl w⟩
def Xl:Looks P (elemOf t):=(rR t).bind λd=>by cases d<;>first|exact .ret _|exact .stuck _
def fE{d:Type}{s:Sem α}{f:α->Sem d}(h:∀a,fB P (f a))(c:Calm P s:=by first|exact Xk|exact zu|exact XT|exact(rV _).calm|exact(rR _).calm|exact(Xl).calm|exact(zk _).calm):fB P (s>>=f):=by
 intro w;cases e:s.run P w with
 |ok a b=>obtain⟨x,g,i,j,l⟩:=h a b;exact⟨x,g,by rw[aih,e];exact i,j,((c w).2 a b e).trans l⟩
 |halt x b=>exact⟨x,b,by rw[aih,e];rfl,((c w).1 x b e).1,((c w).1 x b e).2⟩
def eG(e:RuntimeError):fB P (runtimePanic e:Sem α):=by
 refine fE λp=>?_;cases e with
 |typeAssertion i c a m=>exact fE λ_=>fE λ_=>DO
 |panicNil=>exact fE λ_=>fE λ_=>DO
 |_=>exact DO
def abg(b:cN P)(t:SL):SR P K VR φ (Instr.alloc t AT (.tuple #[])) (Instr.alloc t AT (.tuple #[])):=
 SR.bind (pQ b t) λd z e _ h=>SR.bind (Oo t h) λf a a' _ c=>.pure (.ptr c)
def aea(t:SL)(h:VR φ v v'):SR P K VR φ (Instr.box t v) (Instr.box t v'):=
 SR.bind (Oo t h) λc a a' _ b=>.pure (.ptr b)
def vA(t:SL)(h:VR φ v v'):SR P K VR φ (ajk t v) (ajk t v'):=
 SR.bind (vl h) λc a a' _ b=>vo t b
def YJ(t:SL)(h:VR φ v v')(hu:VR φ u u'):SR P K aZ φ (Instr.storeAt t v u) (Instr.storeAt t v' u'):=
 SR.bind (vl h) λd a a' b c=>XS t c (hu.mono b)
def YK(i:Nat)(h:VR φ v v'):SR P K VR φ (Instr.extract v i) (Instr.extract v' i):=by
 cases h with
 |@tuple xs ys b c=>
  unfold Instr.extract;dsimp only;cases hi:xs[i]? with
  |none=>exact .halt _ _
  |some x=>obtain⟨y,d,e⟩:=(aB.mk b c).get hi;rw[d];exact .pure e
 |_=>exact .halt _ _
def aB.extract(h:aB φ xs ys)(a b:Nat):aB φ (xs.extract a b) (ys.extract a b):=by
 refine⟨by simp[h.size],λi x y c d=>?_⟩;rw[Array.getElem?_extract] at c d;split at c
 ·rw[if_pos uJ] at d;exact h.at_ _ x y c d
 ·cases c
def lF(t:SL)(h:aB φ xs ys)(off:Nat):SR P K VR φ (part t xs off) (part t ys off):=by
 refine SR.bind (Fe t) λi b _ d e=>?_;subst e;cases b with
 |true=>refine SR.bind (fF t) λj n _ c e=>?_;subst e;have:=((h.mono d).mono c).extract off (off+n);exact .pure (.agg this.size this.at_)
 |false=>
  cases hi:xs[off]? with
  |none=>exact .halt _ _
  |some x=>obtain⟨y,f,g⟩:=h.get hi;rw[f];exact .pure (g.mono d)
def abh(t:SL)(h:VR φ v v')(i:Nat):SR P K VR φ (aji t v i) (aji t v' i):=by
 refine SR.bind (eB t) λj d _ c e=>?_;subst e;cases d with
 |struct b=>
  dsimp only;cases b[i]? with
  |none=>exact .halt _ _
  |some f=>exact SR.bind (abf (h.mono c)) λl xs ys _ g=>lF f.type g f.offset
 |_=>exact .halt _ _
def uT{R:Ren->α->β->Prop}{x:Int}{c:BoundsCode}{s':Sem β}:SR P K R φ (boundsPanic k x y c) s':=by
 unfold boundsPanic;split
 ·exact .dead (fE (λ_=>eG _) (pT zu λ_=>kG))
 ·exact .dead (fE (λ_=>eG _) kG)
def abi(t:SL)(h:VR φ v v')(hu:VR φ u u'):SR P K VR φ (akH t v u) (akH t v' u'):=by
 refine SR.bind (zy hu) λm x _ g e=>?_;subst e;obtain⟨k,i⟩:=x;refine SR.bind (eB t) λo d _ c e=>?_;subst e;cases h with
 |@agg xs ys j l=>
  cases d with
  |array len elem=>
   by_cases f:0<=i/\i<len
   ·simp only[f,and_self,if_true];refine SR.bind (fF elem) λp n _ b e=>?_;subst e;exact lF elem ((((aB.mk j l).mono g).mono c).mono b) _
   ·simp only[f,if_false];exact uT
  |_=>exact .halt _ _
 |string s=>
  cases d with
  |string=>
   dsimp only;split
   ·exact .pure (.int _ _)
   ·exact uT
  |_=>exact .halt _ _
 |_=>cases d<;>exact .halt _ _
def V9(h:VR φ v v')(b:ah.np t):SR P K VR φ (Instr.makeInterface t v) (Instr.makeInterface t v'):=by refine SR.bind (eB t) λf d _ c e=>?_;subst e;cases d with|interface _=>exact .halt _ _|_=>exact .pure (.iface t (h.mono c) (.inl b))
def XU{f:Fn}(b:fC φ f f){us vs:Array AS}(h:aB φ xs ys)(k:aB φ us vs):SR P K VR φ (Instr.makeFunc f xs us) (Instr.makeFunc f ys vs):=
 .pure (.func b h.size h.at_ k.size k.at_)
def abj{c:Nat}(h:φ r=an c){k b:Option (SL×Nat)->Sem β}{R:Ren->β->β->Prop}(h1:∀s,SR P K R φ (k s) (b s))(d:∀s,SR P K R φ (k ns) (b s)):
  SR P K R φ (shape r>>=k) (shape c>>=b):=.shape h h1 d
def sd{w:rl}{cs:Array AS}{f:Nat×Nat}(h:w.heap[r]?=an (.cells cs t f))(es:Array Event){P:OF}:(aku r).runT P w es=(.ok ns w,es):=by have b:w.shape? r=an (t,cs.size):=C4;unfold aku shape;simp only[bind,Sem.bind,Sem.runT,b,Option.isSome_some,if_true];rfl
def pR{w:rl}{o:Obj}(h:w.heap[r]?=an o)(hn:∀cs t f,o≠.cells cs t f)(hv:∀x y,o≠.view x y)(es:Array Event){P:OF}:(aku r).runT P w es=(.ok ns w,es.push ⟨.obj r,Ba,o.isChan⟩):=by
 have hs:w.shape? r=ns:=by unfold World.shape?;rw[h];cases o<;>first|rfl|exact absurd rfl (hn _ _ _)
 unfold aku shape getObj;exact Kj
def Oq{j:Nat}(h:φ r=an j):SR P K (λ_ a b=>a=ns/\b=ns) φ (aku r) (aku j):=by
 refine .of_does (λ{w B c I} es hw J=>?_) (λw B hw x I e=>?_) (λw B hw x I e=>?_)
 case refine_3=>
  obtain⟨o,q,z,C,D⟩:=hw.heap.obj _ _ h
  have L:∀M:rl,M.heap[r]?=an o->(aku r).run P M=.ok ns M:=by
   intro M h0;rw[<-aiI P (aku r) M #[]];rcases isCells o with⟨A,t,f,rfl⟩|m
   ·rw[sd h0]
   ·rw[pR h0 m (D.other m)]
  rw[L w z] at e;cases e;exact⟨0,rfl,rfl,λT n _=>L _ z⟩
 case refine_2=>
  obtain⟨o,q,z,C,D⟩:=hw.heap.obj _ _ h;rw[<-aiI P (aku r) w #[]] at e;rcases isCells o with⟨A,t,f,rfl⟩|m
  ·rw[sd z] at e;cases e
  ·rw[pR z m (D.other m)] at e;cases e
 obtain⟨o,q,z,C,D⟩:=hw.heap.obj _ _ h;have g:(aku r).runT P w #[]=(.ok c I,((aku r).runT P w #[]).2):=by rw[<-J,<-aiI P (aku r) w #[]]
 have i:∀d,c=ns->I=w->(aku j).runT P.two B es=(.ok ns B,es++d)->(∀e∈d,fp K φ e)->
   ∃R b E d,(aku j).runT P.two B es=(.ok b E,es++d)/\(c=ns/\b=ns)/\WR K R I E/\jG w I/\gw K φ R w.heap.size B E/\∀e∈d,fp K R e:=λd hc N W hd=>
  ⟨φ,ns,B,d,W,⟨hc,rfl⟩,N▸hw,N▸.refl _,.refl _ _ _ _,hd⟩
 rcases isCells o with⟨A,t,f,rfl⟩|m
 ·obtain⟨S,f',rfl,_⟩:=D.cells;rw[sd z] at g;cases g;exact i #[] rfl rfl (by rw[sd C];simp) au
 ·have X:=D.other m;rw[pR z m X] at g;cases g;cases D with
  |shut=>exact absurd rfl (m _ _ _)
  |token s p S t h1 Q=>exact i #[] rfl rfl (by rw[sd C];simp) au
  |blank s p h1 Q=>
   have F:∀A t f,q≠.cells A t f:=λA t f e=>by subst e;exact Q
   have G:∀x y,q≠.view x y:=λx y e=>by subst e;exact Q
   have H:q.isChan=Ba:=by cases q<;>first|rfl|exact Q.elim
   exact i #[⟨.obj j,Ba,Ba⟩] rfl rfl (by rw[pR C F G,H];simp) (λe he=>by simp at he;subst he;exact .inr (.inl ⟨j,r,rfl,rfl,h,λe=>by cases e⟩))
  |num l h1 Q=>exact i #[⟨.obj j,Ba,Ba⟩] rfl rfl (by rw[pR C (λ_ _ _ e=>by cases e) λ_ _ e=>by cases e];simp[Obj.isChan]) (λe he=>by simp at he;subst he;exact .inr (.inl ⟨j,r,rfl,rfl,h,λe=>by cases e⟩))
  |own Z n2 V _=>
   have F:∀A t f,q≠.cells A t f:=λA t f e=>by subst e;cases V with|cells t f h=>exact m _ _ _ rfl
   have G:∀x y,q≠.view x y:=λx y e=>by subst e;cases V
   have H:q.isChan=Ba:=by cases V<;>rfl
   exact i #[⟨.obj j,Ba,Ba⟩] rfl rfl (by rw[pR C F G,H];simp) (λe he=>by simp at he;subst he;exact .inr (.inl ⟨j,r,rfl,rfl,h,λ_=>⟨n2,Z⟩⟩))
def ZP(b:AR φ a a'):SR P K aZ φ (noView a) (noView a'):=by refine SR.bind (Oq b.block) λc x y _ h=>?_;obtain⟨rfl,rfl⟩:=h;exact .pure rfl
def Dx(P:OF):∀(d:Nat)(t:SL)(o:Nat),byteOfCell P.two d t o=byteOfCell P d t o
 |0,_,_=>rfl
 |d+1,t,o=>by unfold byteOfCell;have b:byteOfCell P.two d=byteOfCell P d:=funext λt=>funext λo=>Dx P d t o;rw[b];rfl
def pU(c:AR φ a a'):SR P K aZ φ (ajK a) (ajK a'):=by
 unfold ajK;rw[c.spot];cases a.spot with
 |some s=>exact .pure rfl
 |none=>
  refine SR.ask ?_ (by simp only[Dx];rfl);refine SR.bind (S:=aZ) (ZP c) λd _ _ f _=>?_;refine SR.shape (f _ _ c.block) (λs=>?_) λs=>.halt _ _;cases s with
  |none=>exact .halt _ _
  |some x=>
   obtain⟨e,n⟩:=x;rw[c.off];show SR P K aZ d (if P.cellsOf e=0 then(pure 0:Sem Nat) else _) (if P.cellsOf e=0 then(pure 0:Sem Nat) else _);by_cases h:P.cellsOf e=0
   ·simp only[h,if_true];exact .pure rfl
   ·simp only[h,if_false];cases byteOfCell P P.depth e (a.off%P.cellsOf e) with|none=>exact .halt _ _|some b=>exact .pure rfl
def DF(i:AR φ a a')(f:Field):SR P K AR φ (fieldPlace a f) (fieldPlace a' f):=by
 refine SR.bind (fF _) λp n _ j e=>?_;subst e;by_cases h:n=0
 ·simp only[h,if_true];refine SR.bind (pU (i.mono j)) λo b _ l e=>?_;subst e;have d:=(i.mono j).mono l;have m:AR o {block:=a.block,off:=a.off+f.offset} {block:=a'.block,off:=a'.off+f.offset}:=⟨d.block,by simp[d.off],rfl⟩;refine SR.bind (pU m) λq c _ g e=>?_;subst e;refine .pure ?_;split
  ·exact m.mono g
  ·exact⟨g _ _ d.block,by simp[d.off],rfl⟩
 ·simp only[h,if_false];exact .pure ((i.mono j).add _)
def YL(t:SL)(h:VR φ v v')(i:Nat):SR P K VR φ (Instr.fieldAt t v i) (Instr.fieldAt t v' i):=by
 refine SR.bind (eB t) λm d _ g e=>?_;subst e;cases d with
 |struct c=>
  dsimp only;cases c[i]? with
  |none=>exact .halt _ _
  |some f=>exact SR.bind (vl (h.mono g)) λo a a' _ j=>SR.bind (DF j f) λp b q _ l=>.pure (.ptr l)
 |_=>exact .halt _ _
def sZ(t:SL)(k:IntKind)(i:Int)(base:Option aic)(len:Nat)(elem:SL):Sem AS:=do
 let d<-aiy t
 let b:=len<=1&&(match d with|.array .. =>AT|_=>Ba)
 match base with
 |some a=>
  if 0<=i/\i<len then pure (.pointer (an (a.add (i.toNat*(<-sizeOf elem)))))
  else if b then unsupported (.noEntry "op/indexAddr.an index out of range at an array of length 0 or 1 (ledger 616)")
  else boundsPanic k i len .index
 |none=>boundsPanic k i 0 .index
def Nu(t:SL)(k:IntKind)(i:Int)(len:Nat)(elem:SL)(c:AR φ a a'):SR P K VR φ (sZ t k i (an a) len elem) (sZ t k i (an a') len elem):=by
 refine SR.bind (eB t) λg d _ f e=>?_;by_cases hb:0<=i/\i<len
 ·simp only[hb,and_self,if_true];refine SR.bind (fF elem) λh n _ b e=>?_;subst e;exact .pure (.ptr (((c.mono f).mono b).add _))
 ·exact Kk
def YM(t:SL)(k:IntKind)(i:Int)(len:Nat)(elem:SL):SR P K VR φ (sZ t k i ns len elem) (sZ t k i ns len elem):=by refine SR.bind (eB t) λb d _ c e=>?_;exact uT
def XV(t:SL)(k:IntKind)(i:Int)(elem:SL):SR P K VR φ (sZ t k i (an a) 0 elem) (sZ t k i (an a') 0 elem):=by refine SR.bind (eB t) λb d _ c e=>?_;have hb:¬(0<=i/\i<((0:Nat):Int)):=aa;exact Kk
def Nv(t:SL)(h:VR φ v v')(hu:VR φ u u'):SR P K VR φ (Instr.indexAt t v u) (Instr.indexAt t v' u'):=by
 refine SR.bind (zy hu) λj x _ g e=>?_;subst e;obtain⟨k,i⟩:=x;refine SR.bind (eB t) λl d _ b e=>?_;subst e;cases d with
 |array len elem=>exact SR.bind (vl ((h.mono g).mono b)) λm a a' _ f=>Nu t k i len elem f
 |slice elem=>cases h with|dU n c=>exact YM t k i n elem|slice n c f=>exact Nu t k i n elem ((f.mono g).mono b)|empty=>exact XV t k i elem|_=>exact .halt _ _
 |_=>exact .halt _ _
end
end
section
variable[ah]
section
variable{P:OF}{K:aI}{φ:Ren}
def vB(h:VR φ v v'):SR P K AR φ (asAddr v) (asAddr v'):=by cases h with|ptr h=>exact .pure h|nilPtr=>exact .dead (eG (P:=P) (α:=aic) .nilDeref)|_=>exact .halt _ _
def uS(h:VR φ v v')(y:Nat)(c:BoundsCode):SR P K (λ_ a b=>a=b/\a<=y) φ (aka v y c) (aka v' y c):=by
 refine SR.bind (zy h) λf x _ g e=>?_;subst e;obtain⟨k,i⟩:=x;by_cases d:0<=i/\i<=y
 ·have hle:i.toNat<=y:=by omega
  simp only[d,and_self,if_true];exact .pure ⟨rfl,hle⟩
 ·simp only[d,if_false];exact uT
def zg(h:VR φ v v')(y:Nat){c:BoundsCode}:SR P K aZ φ (aka v y c) (aka v' y c):=(uS h y c).mono λ_ _ _ x=>x.1
inductive gF(φ:Ren):Option AS->Option AS->Prop
 |none:gF φ ns ns
 |some {v v':AS}:VR φ v v'->gF φ (an v) (an v')
def gF.mono{b:Ren}{v v':Option AS}(h:gF φ v v')(k:Ren.le φ b):gF b v v':=by cases h with|none=>exact .none|some h=>exact .some (h.mono k)
def AZ(low:Option AS)(h m:Nat)(b:Bool):Sem (Nat×Nat×Nat):=do
 let l<-match low with
  |some v=>aka v h (if b then .slice3C else .sliceB)
  |none=>pure 0
 pure (l,h,m)
def Ff{low c:Option AS}(d:gF φ low c)(h m:Nat)(b:Bool):SR P K aZ φ (AZ low h m b) (AZ c h m b):=by
 cases d with
 |none=>exact .pure rfl
 |some f=>exact SR.bind (zg f h) λg x _ _ e=>by subst e;exact .pure rfl
def uU(b:Bool)(len c:Nat)(h1:gF φ lo i9)(i:gF φ hi hi')(j:gF φ mx UV):
  SR P K aZ φ (ajx b len c lo hi mx) (ajx b len c i9 hi' UV):=by
 cases j with
 |none=>
  cases i with
  |none=>exact Ff h1 len c Ba
  |some g=>refine SR.bind (R:=aZ) (.pure rfl) λl m _ d e=>?_;subst e;exact SR.bind (zg (g.mono d) m) λo x _ f e=>by subst e;exact Ff ((h1.mono d).mono f) x m Ba
 |some hm=>
  refine SR.bind (zg hm c) λo m _ f e=>?_;subst e;cases i with
  |none=>exact .halt _ _
  |some g=>exact SR.bind (zg (g.mono f) m) λl x _ h e=>by subst e;exact Ff ((h1.mono f).mono h) x m AT
def Ex{low c:Option AS}(d:gF φ low c)(b:Bool):SR P K (λ_ x y=>x=(0,0,0)/\y=(0,0,0)) φ (AZ low 0 0 b) (AZ c 0 0 b):=by
 cases d with
 |none=>exact .pure ⟨rfl,rfl⟩
 |some f=>refine SR.bind (uS f 0 _) λg x _ _ e=>?_;obtain⟨rfl,e⟩:=e;obtain rfl:x=0:=aa;exact .pure ⟨rfl,rfl⟩
def Wm(h1:gF φ lo i9)(h:gF φ hi hi')(i:gF φ mx UV):
  SR P K (λ_ x y=>x=(0,0,0)/\y=(0,0,0)) φ (ajx AT 0 0 lo hi mx) (ajx AT 0 0 i9 hi' UV):=by
 cases i with
 |none=>
  cases h with
  |none=>exact Ex h1 Ba
  |some f=>refine SR.bind (R:=λ_ a b=>a=0/\b=0) (.pure ⟨rfl,rfl⟩) λj m o c e=>?_;obtain⟨rfl,rfl⟩:=e;refine SR.bind (uS (f.mono c) 0 _) λl x _ d e=>?_;obtain⟨rfl,e⟩:=e;obtain rfl:x=0:=aa;exact Ex ((h1.mono c).mono d) Ba
 |some hm=>
  refine SR.bind (uS hm 0 _) λl m _ d e=>?_;obtain⟨rfl,e⟩:=e;obtain rfl:m=0:=aa;cases h with
  |none=>exact .halt _ _
  |some f=>refine SR.bind (uS (f.mono d) 0 _) λj x _ g e=>?_;obtain⟨rfl,e⟩:=e;obtain rfl:x=0:=aa;exact Ex ((h1.mono d).mono g) AT
def abk(t:SL)(h:VR φ v v')(h1:gF φ lo i9)(g:gF φ hi hi')(i:gF φ mx UV):
  SR P K VR φ (Instr.slice t v lo hi mx) (Instr.slice t v' i9 hi' UV):=by
 refine SR.bind (eB t) λC d _ w e=>?_;subst e;replace h1:=h1.mono w;replace g:=g.mono w;replace i:=i.mono w;replace h:=h.mono w;cases d with
 |string=>
  cases h with
  |string s=>
   dsimp only;cases i with
   |none=>exact SR.bind (uU Ba s.size s.size h1 g .none) λo x _ _ e=>by subst e;exact .pure (.string _)
   |some _=>exact .halt _ _
  |_=>exact .halt _ _
 |slice elem=>
  cases h with
  |dU n c=>refine SR.bind (uU AT n c h1 g i) λo x _ _ e=>?_;subst e;obtain⟨l,h,m⟩:=x;refine SR.bind (fF elem) λA z _ _ e=>?_;subst e;refine .pure ?_;split<;>exact .dU _ _
  |slice n c p=>
   refine SR.bind (uU AT n c h1 g i) λo x _ b e=>?_;subst e;obtain⟨l,h,m⟩:=x;refine SR.bind (fF elem) λA z _ f e=>?_;subst e;refine .pure ?_;split
   ·exact .slice _ _ ((p.mono b).mono f)
   ·exact .slice _ _ (((p.mono b).mono f).add _)
  |empty=>refine SR.bind (Wm h1 g i) λo x y b e=>?_;obtain⟨rfl,rfl⟩:=e;refine SR.bind (fF elem) λA z _ f e=>?_;subst e;exact .pure .empty
  |_=>exact .halt _ _
 |pointer arr=>
  have B:SR P K VR C (asAddr v>>=λa=>aiy arr>>=λd=>match d with
    |.array n elem=>ajx Ba n n lo hi mx>>=λx=>sizeOf elem>>=λsize=>pure (.slice (an (if x.2.2=x.1 then a else a.add (x.1*size))) (x.2.1-x.1) (x.2.2-x.1))
    |_=>stuck "Slice: array type expected") (asAddr v'>>=λa=>aiy arr>>=λd=>match d with
    |.array n elem=>ajx Ba n n i9 hi' UV>>=λx=>sizeOf elem>>=λsize=>pure (.slice (an (if x.2.2=x.1 then a else a.add (x.1*size))) (x.2.1-x.1) (x.2.2-x.1))
    |_=>stuck "Slice: array type expected"):=by
   refine SR.bind (vB h) λo a a' j p=>?_;refine SR.bind (eB arr) λo d _ b e=>?_;subst e;cases d with
   |array n elem=>
    refine SR.bind (uU Ba n n ((h1.mono j).mono b) ((g.mono j).mono b) ((i.mono j).mono b)) λA x _ f e=>?_;subst e;refine SR.bind (fF elem) λA z _ q e=>?_;subst e;refine .pure ?_;split
    ·exact .slice _ _ (((p.mono b).mono f).mono q)
    ·exact .slice _ _ ((((p.mono b).mono f).mono q).add _)
   |_=>exact .halt _ _
  cases h<;>first|exact .halt _ _|exact B
 |_=>cases h<;>exact .halt _ _
def YN(t:SL)(h:VR φ v v')(h1:gF φ lo i9)(i:gF φ hi hi')(j:gF φ mx UV):
  SR P K VR φ (Instr.sliceAt t v lo hi mx) (Instr.sliceAt t v' i9 hi' UV):=by
 refine SR.bind (eB t) λo d _ b e=>?_;subst e;cases d with
 |array n elem=>
  refine SR.bind (vl (h.mono b)) λp a a' c l=>?_;refine SR.bind (uU Ba n n ((h1.mono b).mono c) ((i.mono b).mono c) ((j.mono b).mono c)) λm x _ f e=>?_;subst e;refine SR.bind (fF elem) λm z _ g e=>?_;subst e;refine .pure ?_;split
  ·exact .slice _ _ ((l.mono f).mono g)
  ·exact .slice _ _ (((l.mono f).mono g).add _)
 |_=>exact abk t (h.mono b) (h1.mono b) (i.mono b) (j.mono b)
def Nw:SR P K aZ φ (askRoom n) (askRoom n):=by
 unfold askRoom;split
 ·exact .quiet (.inl rfl) (.pure rfl)
 ·exact .pure rfl
theorem QG{k:Nat}(h:xs[k]?=an x):xs[k]! =x:=eW
def aB.GV(h:aB φ xs ys){k:Nat}(hd:VR φ (default:AS) default):VR φ xs[k]! ys[k]!:=by
 cases b:xs[k]? with
 |none=>
  have h1:¬k<xs.size:=eN;have c:¬k<ys.size:=by rw[<-h.size];exact h1
  rw[getElem!_neg xs k h1,getElem!_neg ys k c];exact hd
 |some x=>obtain⟨y,d,e⟩:=h.get b;rw[QG b,QG d];exact e
def Ed:VR φ (default:AS) default:=.bool _
theorem aB.Ey{f g:Nat->AS}(h:∀i,VR φ (f i) (g i)):aB φ ((ajP n).map f) ((ajP n).map g):=by refine⟨au,λi x y b c=>?_⟩;rw[ajN] at b c;cases d:(ajP n)[i]? with|none=>rw[d] at b;cases b|some k=>grind
def Xm(p:cN P)(t:SL)(h:VR φ v v')(hu:VR φ u u'):SR P K VR φ (Instr.makeSlice t v u) (Instr.makeSlice t v' u'):=by
 refine SR.bind (eB t) λD d _ o e=>?_;subst e;cases d with
 |slice elem=>
  refine SR.bind (vE (h.mono o)) λl len _ m e=>?_;subst e;refine SR.bind (vE ((hu.mono o).mono m)) λf c _ q e=>?_;subst e;refine SR.bind (mC elem) λf E _ w e=>?_;subst e;dsimp only;split
  ·refine .dead ?_;split
   ·exact fu (eG _)
   ·split
    ·exact fu (eG _)
    ·exact fE λ_=>fu (eG _)
  ·refine SR.bind (S:=VR) Nw λf _ _ A _=>?_;refine SR.bind (fF elem) λf n _ B e=>?_;subst e
   have j:∀(l:Ren)(z g:Array AS),aB l z g->SR P K VR l (newRow elem (Array.map (λx=>z[x%z.size]!) (ajP ((EV.wrap c).toNat*n)))>>=λa=>pure (Value.slice (an a) (EV.wrap len).toNat (EV.wrap c).toNat))
     (newRow elem (Array.map (λx=>g[x%g.size]!) (ajP ((EV.wrap c).toNat*n)))>>=λa=>pure (Value.slice (an a) (EV.wrap len).toNat (EV.wrap c).toNat)):=λl z g b=>by
    refine SR.bind (zG elem (aB.Ey λi=>?_)) λf a a' _ C=>.pure (.slice _ _ C);rw[b.size];exact b.GV Ed
   split
   ·exact SR.bind (R:=aB) (.pure .empty) λf z g _ b=>j f z g b
   ·exact SR.bind (pQ p elem) λf z g _ b=>j f _ _ b.cells
 |_=>exact .halt _ _
end
end
section
variable[ah]
section
variable{P:OF}{K:aI}{φ:Ren}
def aB.append{a b c d:Array AS}(h:aB φ a b)(k:aB φ c d):aB φ (a++c) (b++d):=by
 refine⟨by simp[h.size,k.size],λi x y f e=>?_⟩;rw[Array.getElem?_append] at f e;split at f
 ·rw[if_pos uJ] at e;exact h.at_ i x y f e
 ·rw[if_neg uJ,<-h.size] at e;exact k.at_ _ x y f e
def aB.zeroCells{z b:Array AS}(h:aB φ z b)(n:Nat):aB φ (aiG z n) (aiG b n):=by unfold aiG;rw[h.size];exact aB.Ey λi=>h.GV Ed
def Fit(n:Nat)(v:AS):Prop:=∀p l c,v=.slice p l c->n<=l
def ZQ(h:VR φ v v'):SR P K (λ_ a b=>a=b/\Fit a v) φ (Builtin.lenOf v) (Builtin.lenOf v'):=by cases h with|dU n c=>exact .pure ⟨rfl,λ_ _ _ e=>by cases e;exact ay _⟩|slice n c h=>exact .pure ⟨rfl,λ_ _ _ e=>by cases e;exact ay _⟩|empty=>exact .pure ⟨rfl,λ_ _ _ e=>by cases e;exact ay _⟩|string s=>exact .pure ⟨rfl,λ_ _ _ e=>by cases e⟩|_=>exact .halt _ _
def aB.ofMap(xs:Array α)(f:α->AS)(d:∀a,VR φ (f a) (f a)):aB φ (xs.map f) (xs.map f):=by refine⟨rfl,λi x y b c=>?_⟩;rw[b] at c;cases c;rw[ajN] at b;cases hq:xs[i]? with|none=>rw[hq] at b;cases b|some a=>rw[hq] at b;cases b;exact d a
def LJ(size:Nat)(h:VR φ v v'):SR P K (λ_ a b=>a=#[]/\b=#[]) φ (aiw size 0 v) (aiw size 0 v'):=by
 have d:∀s:ByteArray,((s.extract 0 0).data.map λb=>Value.int .u8 b.toNat)=#[]:=λs=>by simp[ByteArray.data_extract]
 cases h with
 |dU m c=>exact .pure ⟨rfl,rfl⟩
 |@slice a a' m c h=>exact Kl
 |@empty a a'=>exact Kl
 |string s=>exact .pure ⟨d s,d s⟩
 |_=>exact .halt _ _
def Me(size n:Nat)(h:VR φ v v')(d:Fit n v):SR P K aB φ (aiw size n v) (aiw size n v'):=by
 cases h with
 |dU m c=>exact .pure .empty
 |slice m c h=>exact DN h _
 |empty=>obtain rfl:n=0:=Nat.le_zero.1 (d _ _ _ rfl);exact(LJ size .empty).mono λ_ _ _ e=>by rw[e.1,e.2];exact .empty
 |string s=>exact .pure (aB.ofMap _ _ λb=>.int _ _)
 |_=>exact .halt _ _
def YO:Calm P (shape r):=qh λw=>⟨_,_,rfl,.refl w⟩
def XW:Calm P (frozen a):=qh λw=>⟨_,_,rfl,.refl w⟩
def Kn:Calm P (Builtin.holdsCells a n):=pT YO λs=>by cases s<;>exact kG
def WC{size:Nat}:Calm P (Builtin.mayShare size kw n base x):=by
 have last:∀b:Bool,Calm P (if(!b)=AT then pure AT else match x with
   |.slice (an b) _ _=>(do pure (!(<-Builtin.holdsCells b (n*size))||base.any (·.block==b.block)):Sem Bool)
   |_=>pure Ba):=λb=>by
  split
  ·exact kG
  ·split
   ·exact pT Kn λ_=>kG
   ·exact kG
 cases base with
 |none=>exact last AT
 |some a=>exact pT Kn λb=>pT XW λc=>last _
def AD(elem:SL)(base:Option aic)(kw e size:Nat)(cJ:Bool)(n:Nat)(s x:AS):Sem AS:=do
 let c:Sem (Array AS):=
  if !cJ then aiw size n x
  else if n*size=0 then pure #[]
  else do pure (aiG (<-ajs elem).cells n)
 let b:=kw+n
 if b<=e then
  let new<-c
  if let an a:=base then storeCells (a.add (kw*size)) new.toList
  pure (.slice base b e)
 else
  if(b:Int)>EV.max/\(cJ\/(<-typeInfo elem).bytes=0) then runtimePanic (.error "growslice: len out of range")
  if Builtin.nextslicecap b e*(<-typeInfo elem).bytes>2^48 then(if cJ then runtimePanic (.error "growslice: len out of range") else do
   if !(<-Builtin.mayShare size kw n base x) then mark .noRoom
   unsupported (.resourceLimit "append: a slice or a string whose bytes no memory bears"))
  let d<-choose (.appendCap b e elem)
  askRoom (d*(<-typeInfo elem).bytes)
  let old<-aiw size kw s
  let new<-c
  let rest:=aiG (<-ajs elem).cells (d-b)
  pure (.slice (an (<-newRow elem (old++new++rest))) b d)
def MP(b:cN P)(elem:SL)(size:Nat){cJ:Bool}(c:VR φ x x')(d:cJ=Ba->Fit n x):
  SR P K aB φ (if !cJ then aiw size n x else if n*size=0 then pure #[] else ajs elem>>=λz=>pure (aiG z.cells n))
   (if !cJ then aiw size n x' else if n*size=0 then pure #[] else ajs elem>>=λz=>pure (aiG z.cells n)):=by
 split
 ·next hz2=>exact Me size n c (d (by simpa using hz2))
 ·split
  ·exact .pure .empty
  ·exact SR.bind (pQ b elem) λe z f _ h=>.pure (h.cells.zeroCells n)
def zH{q:Question}:SR P K aZ φ (choose q) (choose q):=.choose λn=>.pure rfl
def QH(elem:SL)(c d size kw n:Nat)(cJ:Bool)(s x:AS):Sem AS:=do
 let b<-choose (.appendCap c d elem)
 askRoom (b*(<-typeInfo elem).bytes)
 let old<-aiw size kw s
 let new<-(if !cJ then aiw size n x
  else if n*size=0 then pure #[]
  else do pure (aiG (<-ajs elem).cells n):Sem (Array AS))
 let rest:=aiG (<-ajs elem).cells (b-c)
 pure (.slice (an (<-newRow elem (old++new++rest))) c b)
def YP(l:cN P)(elem:SL){d:Nat}(f size:Nat){cJ:Bool}(w:VR φ s s')(A:VR φ x x')(h:Fit kw s)(i:cJ=Ba->Fit n x):
  SR P K VR φ (QH elem d f size kw n cJ s x) (QH elem d f size kw n cJ s' x'):=by
 refine SR.bind zH λg c _ h1 e=>?_;subst e;refine SR.bind (mC elem) λg G _ m e=>?_;subst e;refine SR.bind (S:=VR) Nw λg _ _ p _=>?_;refine SR.bind (Me size kw (((w.mono h1).mono m).mono p) h) λg o H B C=>?_;refine SR.bind (MP l elem size ((((A.mono h1).mono m).mono p).mono B) i) λg a a' D E=>?_;refine SR.bind (pQ l elem) λg z I q j=>?_;refine SR.bind (zG elem ((((C.mono D).mono q).append (E.mono q)).append (j.cells.zeroCells _))) λg b J _ F=>.pure (.slice _ _ F)
inductive IH(φ:Ren):Option aic->Option aic->Prop
 |none:IH φ ns ns
 |some {a a':aic}:AR φ a a'->IH φ (an a) (an a')
def Xn(elem:SL)(size:Nat)(cJ:Bool)(c:VR φ x x'):
  SR P K (λ_ a b=>a=#[]/\b=#[]) φ (if !cJ then aiw size 0 x else if 0*size=0 then pure #[] else ajs elem>>=λz=>pure (aiG z.cells 0))
   (if !cJ then aiw size 0 x' else if 0*size=0 then pure #[] else ajs elem>>=λz=>pure (aiG z.cells 0)):=by
 split
 ·exact LJ size c
 ·rw[if_pos (Nat.zero_mul _)];exact .pure ⟨rfl,rfl⟩
def II(φ:Ren)(n c:Nat)(b d:Option aic):Prop:=IH φ b d\/(n=0/\c=0/\∃a a',b=an a/\d=an a')
def Ny(q:cN P)(elem:SL){d:Option aic}{c:Nat}(size:Nat)(i:II φ kw c base d)(cJ:Bool)(n:Nat)(z:VR φ s s')(j:VR φ x x')(l:Fit kw s)(f:cJ=Ba->Fit n x):
  SR P K VR φ (AD elem base kw c size cJ n s x) (AD elem d kw c size cJ n s' x'):=by
 unfold AD;dsimp only;by_cases h:kw+n<=c
 ·rw[if_pos h,if_pos h];rcases i with i|⟨rfl,rfl,b,C,rfl,rfl⟩
  case inr=>obtain rfl:n=0:=aa;refine SR.bind (Xn elem size cJ j) λm a a' h1 o=>?_;obtain⟨rfl,rfl⟩:=o;exact .pure .empty
  refine SR.bind (MP q elem size j f) λm a a' h1 o=>?_;cases i with
  |none=>exact .pure (.dU _ _)
  |some g=>exact SR.bind (S:=VR) (DD m 0 o.toList ((g.mono h1).add _)) λD _ _ p _=>.pure (.slice _ _ ((g.mono h1).mono p))
 ·rw[if_neg h,if_neg h];refine SR.bind (mC elem) λm E _ h1 e=>?_;subst e;split
  ·exact Dm
  ·refine SR.bind (mC elem) λA B _ p e=>?_;subst e;have le:=Ren.le_trans h1 p;split
   ·refine .dead ?_;split
    ·exact fu (eG _)
    ·exact fu (fE (λ_=>by split<;>first|exact fE (λ_=>eX) (qh λw=>⟨_,_,rfl,.refl w⟩)|exact eX) WC)
   ·exact YP q elem c size (z.mono le) (j.mono le) l f
def Tu(elem:SL)(base:Option aic)(kw b size:Nat)(s x:AS)(cJ:Bool):Sem AS:=do
 let n<-if cJ then do
   let l:=EV.wrap (<-asInt x)
   if l<0 then runtimePanic (.error "makeslice: len out of range")
   if l*(<-typeInfo elem).bytes>2^48 then
    let c<-choose (.extern "append.ofMake.carriedOut" 2)
    runtimePanic (.error (if c==1 then "makeslice: len out of range" else "growslice: len out of range"))
   pure l.toNat
  else Builtin.lenOf x
 AD elem base kw b size cJ n s x
def ta(j:cN P)(elem:SL){b:Option aic}(kw c size:Nat)(hb:II φ kw c base b)(cJ:Bool)(m:VR φ s s')(f:VR φ x x')(d:Fit kw s):
  SR P K VR φ (Tu elem base kw c size s x cJ) (Tu elem b kw c size s' x' cJ):=by
 have o:∀{g:Ren},Ren.le φ g->II g kw c base b:=λh=>by
  rcases hb with hb|hb
  ·cases hb with|none=>exact .inl .none|some p=>exact .inl (.some (p.mono h))
  ·exact .inr hb
 cases cJ with
 |false=>exact SR.bind (ZQ f) λg n _ h1 e=>by obtain⟨rfl,q⟩:=e;exact Ny j elem size (o h1) Ba n (m.mono h1) (f.mono h1) d λ_=>q
 |true=>
  refine SR.bind (vE f) λg l _ h1 e=>?_;subst e;dsimp only;split
  ·exact Dm
  ·refine SR.bind (mC elem) λw z _ i e=>?_;subst e;split
   ·exact .dead (fE λ_=>fu (eG _))
   ·exact Ny j elem size (o (Ren.le_trans h1 i)) AT _ (m.mono (Ren.le_trans h1 i)) (f.mono (Ren.le_trans h1 i)) d λe=>by cases e
def ZR(g:cN P)(ts:Array SL)(t:SL)(h:aB φ xs ys):SR P K VR φ (Builtin.append_ ts t xs) (Builtin.append_ ts t ys):=by
 unfold Builtin.append_;cases m:xs[0]? with
 |none=>cases ts[0]?<;>exact .halt _ _
 |some s=>
  obtain⟨s',o,A⟩:=h.get m;cases p:xs[1]? with
  |none=>cases ts[0]?<;>exact .halt _ _
  |some x=>
   obtain⟨x',q,i⟩:=h.get p;rw[o,q];cases ts[0]? with
   |none=>exact .halt _ _
   |some B=>
    refine SR.bind (eB B) λC d _ b e=>?_;subst e;cases d with
    |slice elem=>
     cases A with
     |dU n c=>
      refine SR.bind (fF elem) λw size _ h1 e=>?_;subst e;cases ts[1]? with
      |none=>exact ta g elem n c size (.inl .none) Ba (.dU n c) ((i.mono b).mono h1) (λ_ _ _ e=>by cases e;exact ay _)
      |some j=>exact SR.bind (eB j) λz d _ f e=>by subst e;exact ta g elem n c size (.inl .none) _ (.dU n c) (((i.mono b).mono h1).mono f) (λ_ _ _ e=>by cases e;exact ay _)
     |slice n c l=>
      refine SR.bind (fF elem) λw size _ h1 e=>?_;subst e;cases ts[1]? with
      |none=>exact ta g elem n c size (.inl (.some ((l.mono b).mono h1))) Ba (.slice n c ((l.mono b).mono h1)) ((i.mono b).mono h1) (λ_ _ _ e=>by cases e;exact ay _)
      |some j=>exact SR.bind (eB j) λz d _ f e=>by subst e;exact ta g elem n c size (.inl (.some (((l.mono b).mono h1).mono f))) _ (.slice n c (((l.mono b).mono h1).mono f)) (((i.mono b).mono h1).mono f) (λ_ _ _ e=>by cases e;exact ay _)
     |empty=>
      refine SR.bind (fF elem) λw size _ h1 e=>?_;subst e;cases ts[1]? with
      |none=>exact ta g elem 0 0 size (.inr ⟨rfl,rfl,_,_,rfl,rfl⟩) Ba .empty ((i.mono b).mono h1) (λ_ _ _ e=>by cases e;exact ay _)
      |some j=>exact SR.bind (eB j) λz d _ f e=>by subst e;exact ta g elem 0 0 size (.inr ⟨rfl,rfl,_,_,rfl,rfl⟩) _ .empty (((i.mono b).mono h1).mono f) (λ_ _ _ e=>by cases e;exact ay _)
     |_=>exact .halt _ _
    |_=>exact .halt _ _
def FZ(ts:Array SL)(t:SL)(h:aB φ xs ys):SR P K VR φ (Builtin.len_ ts t xs) (Builtin.len_ ts t ys):=by
 unfold Builtin.len_;cases c:xs[0]? with
 |none=>cases ts[0]?<;>exact .halt _ _
 |some s=>
  obtain⟨s',f,b⟩:=h.get c;rw[f];cases ts[0]? with
  |none=>exact .halt _ _
  |some i=>
   refine SR.bind (eB i) λj d _ l e=>?_;subst e;cases d with
   |array n e=>cases b<;>exact .pure (.int _ _)
   |pointer arr=>
    have g:SR P K VR j (aiy arr>>=λd=>match d with|.array n _=>pure (goInt n)|_=>stuck "len: pointer to array expected") (aiy arr>>=λd=>match d with|.array n _=>pure (goInt n)|_=>stuck "len: pointer to array expected"):=by exact Km
    cases b<;>exact g
   |string=>cases b<;>first|exact .pure (.int _ _)|exact .halt _ _
   |slice e=>cases b<;>first|exact .pure (.int _ _)|exact .halt _ _
   |_=>cases b<;>first|exact .halt _ _|exact .pure (.int _ _)
def aeb(ts:Array SL)(t:SL)(h:aB φ xs ys):SR P K VR φ (Builtin.cap_ ts t xs) (Builtin.cap_ ts t ys):=by
 unfold Builtin.cap_;cases c:xs[0]? with
 |none=>cases ts[0]?<;>exact .halt _ _
 |some s=>
  obtain⟨s',f,b⟩:=h.get c;rw[f];cases ts[0]? with
  |none=>exact .halt _ _
  |some i=>
   refine SR.bind (eB i) λj d _ l e=>?_;subst e;cases d with
   |array n e=>cases b<;>exact .pure (.int _ _)
   |pointer arr=>
    have g:SR P K VR j (aiy arr>>=λd=>match d with|.array n _=>pure (goInt n)|_=>stuck "cap: pointer to array expected") (aiy arr>>=λd=>match d with|.array n _=>pure (goInt n)|_=>stuck "cap: pointer to array expected"):=by exact Km
    cases b<;>exact g
   |slice e=>cases b<;>first|exact .pure (.int _ _)|exact .halt _ _
   |_=>cases b<;>first|exact .halt _ _|exact .pure (.int _ _)
def MO(op:BinOp)(x y:ByteArray):SR P K VR φ (Op.stringOp op x y) (Op.stringOp op x y):=by unfold Op.stringOp;split<;>first|exact .pure (.bool _)|exact .halt _ _|(split<;>first|exact .pure (.string _)|exact .halt _ _)
def acZ(h:VR φ v v')(k:VR φ u u'):SR P K VR φ (Builtin.max2 v u) (Builtin.max2 v' u'):=by
 cases h with
 |int a n=>cases k<;>first|exact .pure (.int _ _)|exact .halt _ _
 |string s=>
  cases k with
  |string t=>exact Md
  |_=>exact .halt _ _
 |_=>cases k<;>exact .halt _ _
def ac0(h:VR φ v v')(k:VR φ u u'):SR P K VR φ (Builtin.min2 v u) (Builtin.min2 v' u'):=by
 cases h with
 |int a n=>cases k<;>first|exact .pure (.int _ _)|exact .halt _ _
 |string s=>
  cases k with
  |string t=>exact Md
  |_=>exact .halt _ _
 |_=>cases k<;>exact .halt _ _
def Ez{f:AS->AS->Sem AS}(d:∀(φ:Ren)(v v' u u':AS),VR φ v v'->VR φ u u'->SR P K VR φ (f v u) (f v' u')):
  ∀{xs ys:List AS}(φ:Ren){v v':AS},ij φ xs ys->VR φ v v'->SR P K VR φ (xs.foldlM f v) (ys.foldlM f v')
 |[],[],_,_,_,_,h=>.pure h
 |_::_,_::_,φ,_,_,.cons e hr,h=>SR.bind (d φ _ _ _ _ h e) λg a b i c=>Ez d g (hr.mono i) c
def aec(ts:Array SL)(t:SL)(h:aB φ xs ys):SR P K VR φ (Builtin.max_ ts t xs) (Builtin.max_ ts t ys):=by unfold Builtin.max_;have:=h.toList;generalize xs.toList=l at this;generalize ys.toList=m at this;cases this with|nil=>exact .halt _ _|cons h k=>exact Ez (λφ v v' u u' h k=>acZ h k) φ k h
def aed(ts:Array SL)(t:SL)(h:aB φ xs ys):SR P K VR φ (Builtin.min_ ts t xs) (Builtin.min_ ts t ys):=by unfold Builtin.min_;have:=h.toList;generalize xs.toList=l at this;generalize ys.toList=m at this;cases this with|nil=>exact .halt _ _|cons h k=>exact Ez (λφ v v' u u' h k=>ac0 h k) φ k h
end
end
section
variable[ah]
section
variable{P:OF}{K:aI}{φ:Ren}
def MQ(op:BinOp)(k:IntKind)(x y:Int):SR P K VR φ (Op.intArith op k x y) (Op.intArith op k x y):=by unfold Op.intArith;exact yN
def Nz(op:BinOp)(k:IntKind){x:Int}(y:Int):SR P K VR φ (Op.intBits op k x y) (Op.intBits op k x y):=by unfold Op.intBits;exact yN
def ZS{op:BinOp}{x:Int}:SR P K VR φ (Op.intCmp op x y) (Op.intCmp op x y):=by unfold Op.intCmp;split<;>first|exact .pure (.bool _)|exact .halt _ _
def ZT{op:BinOp}{x:Int}:SR P K VR φ (Op.intDiv op k x y) (Op.intDiv op k x y):=by
 unfold Op.intDiv;split
 ·exact .dead (eG _)
 ·exact yN
def Pw(op:BinOp)(k:IntKind)(x:Int)(j:IntKind)(y:Int):SR P K VR φ (Op.shift op k x j y) (Op.shift op k x j y):=by
 unfold Op.shift;split
 ·exact .dead (eG _)
 ·dsimp only;exact yN
def Px(op:UnOp)(h:VR φ v v'):SR P K VR φ (Op.unary op v) (Op.unary op v'):=by
 cases h with
 |int k n=>cases op<;>first|exact MQ .sub k 0 n|exact Nz .xor k n|exact .halt _ _
 |bool b=>cases op<;>first|exact .pure (.bool _)|exact .halt _ _
 |_=>cases op<;>exact .halt _ _
def XX{n:Int}:SR P K VR φ (Conv.intToInt k n) (Conv.intToInt k n):=.pure (.int _ _)
def Py{c:Type}{f f':AS->c->Sem (ForInStep c)}(d:∀(φ:Ren) x y s,VR φ x y->SR P K aZ φ (f x s) (f' y s)):∀{xs ys:List AS}(φ:Ren)(s:c),ij φ xs ys->SR P K aZ φ (forIn xs s f) (forIn ys s f')
 |[],[],_,_,_=>by simp only[List.forIn_nil];exact .pure rfl
 |x::xs,y::ys,φ,s,.cons h hr=>by simp only[List.forIn_cons];refine SR.bind (d φ x y s h) λg z _ i e=>?_;subst e;cases z with|done b=>exact .pure rfl|yield b=>exact Py d g b (hr.mono i)
def abl{b:Type}{f f':AS->b->Sem (ForInStep b)}(c:∀(φ:Ren) x y s,VR φ x y->SR P K aZ φ (f x s) (f' y s))(φ:Ren)(s:b)(h:aB φ xs ys):SR P K aZ φ (forIn xs s f) (forIn ys s f'):=by rw[<-ajt,<-ajt];exact Py c φ s h.toList
def Wa(h:VR φ v v'):SR P K VR φ (ajL v) (ajL v'):=by
 cases h with
 |dU n c=>exact .pure (.string _)
 |slice n c d=>
  refine SR.bind (DN d n) λf xs ys _ b=>?_;refine SR.bind (abl (λφ x y s h=>?_) f ByteArray.empty b) λg s _ _ e=>?_
  ·cases h with
   |int k n=>cases k<;>first|exact .pure rfl|exact .halt _ _
   |_=>exact .halt _ _
  ·subst e;exact .pure (.string _)
 |empty=>exact .pure (.string _)
 |_=>exact .halt _ _
def na(t:SL):SR P K (λ_ a b=>a=b/\P.underlying t=an a) φ (aiy t) (aiy t):=by refine SR.program ?_;show SR P K _ φ (match P.underlying t with|some i=>(pure i:Sem TypeDesc)|none=>stuck "no such type") (match P.underlying t with|some i=>(pure i:Sem TypeDesc)|none=>stuck "no such type");cases P.underlying t with|none=>exact .halt _ _|some i=>exact .pure ⟨rfl,rfl⟩
def AO(P:OF)(src dst:SL):Bool:=
 match P.underlying src,P.underlying dst with
 |some (.int _),an (.int _)=>AT
 |some (.slice e),an .string=>(match P.underlying e with|some (.int .u8)=>AT|_=>Ba)
 |_,_=>Ba
def Wu{n:Int}:SR P K VR φ (Conv.intToString n) (Conv.intToString n):=.pure (.string _)
def NA(src dst:SL)(hd:AO P src dst=AT)(h:VR φ v v'):SR P K VR φ (convert src dst v) (convert src dst v'):=by
 refine SR.bind (na src) λz d _ m e=>?_;obtain⟨rfl,h1⟩:=e;refine SR.bind (na dst) λi d2 _ c e=>?_;obtain⟨rfl,j⟩:=e;unfold AO at hd;rw[h1,j] at hd;replace h:=(h.mono m).mono c;cases d with
 |int k=>
  cases d2 with
  |int A=>cases h<;>first|exact XX|exact .halt _ _
  |_=>cases hd
 |slice e=>
  cases d2 with
  |string=>
   have b:(match P.underlying e with|some (.int .u8)=>AT|_=>Ba)=AT:=hd;cases he:P.underlying e with
   |none=>rw[he] at b;cases b
   |some o=>
    rw[he] at b
    have f:∀{x x':AS},VR i x x'->SR P K VR i (aiy e>>=λd=>match d with|.int .u8=>ajL x|.int .i32=>Conv.runesToString x|_=>stuck "Convert: a slice of what to string?")
      (aiy e>>=λd=>match d with|.int .u8=>ajL x'|.int .i32=>Conv.runesToString x'|_=>stuck "Convert: a slice of what to string?"):=λ{x x'} p=>by
     refine SR.bind (na e) λB d3 _ g q=>?_;obtain⟨rfl,l⟩:=q;rw[he] at l;cases l;cases o with
     |int k=>cases k<;>first|exact Wa (p.mono g)|cases b
     |_=>cases b
    have k:=f h;cases h with
    |int=>exact Wu
    |string s=>exact .pure (.string s)
    |aX h1 j=>refine SR.dead ?_;show fB P (aiy e>>=λd=>match d with|.int .u8=>ajL aX|.int .i32=>Conv.runesToString aX|_=>stuck "Convert: a slice of what to string?");exact fE (λd=>by split<;>exactλw=>⟨_,_,rfl,trivial,.refl w⟩) (rR e).calm
    |_=>exact k
  |_=>cases hd
 |_=>cases hd
end
end
end Go.Proofs.Q0.aM
