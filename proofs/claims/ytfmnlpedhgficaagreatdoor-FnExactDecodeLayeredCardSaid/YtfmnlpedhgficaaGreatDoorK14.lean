import Derived.Test.YtfmnlpedhgficaaGreatDoorK13
set_option maxRecDepth 100000
set_option maxHeartbeats 8000000
set_option linter.all false
open Go.Value renaming int->U,slice->Y,bool->a5,agg->a9,pointer->bi,tuple->ci,iface->em
open Go.IntKind renaming i64->O
open Go.Obj renaming cells->ac
open Go.Ending renaming returned->be
open Array renaming forIn_toList->akx,range->alg
open Bool renaming false->Bz,false_eq_true->alQ,or_eq_true->ale,true->AT
open Go renaming Code->akA,Frame->ajs,FuncId->alo,Oper->akG,Operand->ajR,Program->NO,TypeId->TO,Value->so,behindNumber->akd,byteOf->aly,execOp->ajA,underlying->ajV,zeroValue->akY
open Go.Builtin renaming unsafeAdd_->akk
open Go.Instr renaming enterLoop->alB,fill->ala,takeDeferred->alJ,typeAssert->akc
open Go.Op renaming eqGuardIn->akv,equalIn->ajL
open Go.Sem renaming bind->alz,pure->akJ
open Option renaming none->ns,some->an
open Std.Legacy.Range renaming forIn_eq_forIn_range'->ajT
namespace Go.Proofs
def Mu{p:Prop}(h:p:=by subst e;exact Ry (((h.mono hl).mono Y').mono xN) ((hzz.cells.mono Y').mono xN) λa b xM=>.pure (.agg xM.size xM.at_)):p:=h
end Go.Proofs
namespace Go.Proofs.Q0.aL
variable{x y u v x' y' v' u':so}{a a' b b':Addr}{t:TO}{op:BinOp}{xs ys:Array so}{l l':Nat}
section
variable[ag]
section
variable{P:NO}{K:aH}{φ:Ren}
def Sw(e:VR φ x u)(f:VR φ y v):aw φ #[x,y] #[u,v]:=by
 refine⟨rfl,λi a b c d=>?_⟩
 match i with
 |0=>simp at c d;subst c;subst d;exact e
 |1=>simp at c d;subst c;subst d;exact f
 |i+2=>simp at c
def Mv(P:NO):∀(d:Nat)(t:TO)(b:Nat),cellOfByte P.two d t b=cellOfByte P d t b
 |0,_,_=>rfl
 |d+1,t,b=>by unfold cellOfByte;have c:cellOfByte P.two d=cellOfByte P d:=funext λt=>funext λo=>Mv P d t o;rw[c];rfl
def Xq(P:NO)(d:Nat)(e:TO)(k o:Nat)(n:Int):cellAtBytes P.two d e k o n=cellAtBytes P d e k o n:=by unfold cellAtBytes;have h1:=funext λt=>funext λo=>DV P d t o;have c:=funext λt=>funext λo=>Mv P d t o;rw[h1,c];rfl
def PpR(φ:Ren)(z c:so):Prop:=∃a a',z=.pointer (an a)/\c=.pointer (an a')/\AR φ a a'
def MT(t:TO)(j:VR φ x x')(i:VR φ y y'):SR P K PpR φ (akk #[] t #[x,y]) (akk #[] t #[x',y']):=by
 cases j with
 |nilPtr=>
  refine SR.bind (vX i) λk n _ c e=>?_;refine .dead ?_;dsimp only;by_cases d:n=0
  ·rw[if_pos d];exact fz eZ
  ·rw[if_neg d];split
   ·exact fz eZ
   ·exact eZ
 |@ptr a a' f=>
  refine SR.bind (vX i) λk n _ c e=>?_;subst e;dsimp only;by_cases d:n=0
  ·rw[if_pos d,if_pos d];refine SR.bind (Pg (f.mono c).block) λm v v' g h=>?_;obtain⟨rfl,rfl⟩:=h;exact .pure ⟨_,_,rfl,rfl,(f.mono c).mono g⟩
  ·rw[if_neg d,if_neg d];split
   ·exact .dead (fz eZ)
   ·refine SR.shape (f.mono c).block (λs=>?_) λs=>.halt _ _;cases s with
    |none=>exact .halt _ _
    |some x=>obtain⟨e,cells⟩:=x;refine SR.ask ?_ (by simp only[Xq];rfl);rw[(f.mono c).off];cases cellAtBytes P P.depth e (cells/P.cellsOf e) a.off n with|none=>exact .halt _ _|some off=>exact .pure ⟨_,_,rfl,rfl,(f.mono c).block,rfl,(f.mono c).spot⟩
 |_=>exact .halt _ _
def Ee(t:TO)(h:VR φ v v')(c:VR φ u u'):SR P K VR φ (akk #[] t #[v,u]) (akk #[] t #[v',u']):=
 (MT t h c).mono λd a b h=>by obtain⟨_,_,rfl,rfl,h⟩:=h;exact .ptr h
def YX(c:AR φ a a')(l:Bool):SR P K VR φ (asNumber a l) (asNumber a' l):=
 SR.new (.number l c) trivial λe r f _ d=>.pure (.ptr ⟨d,rfl,rfl⟩)
def Pj{α:Type}{f:TypeDesc->Sem α}(h:∀d,P.underlying t=an d->fD P (f d)):fD P (ajV t>>=f):=by intro w;have e:(ajV t>>=f).run P w=((match P.underlying t with|some d=>pure d|none=>stuck "no such type" :Sem TypeDesc).bind f).run P w:=rfl;rw[e];cases hq:P.underlying t with|none=>exact⟨_,_,rfl,trivial,.refl w⟩|some d=>exact h d hq w
def BQ(P:NO)(t:TO):Prop:=∀a b c,P.underlying t≠an (.func a b c)
def acA{t:TO}(e:BQ P t):∀(d:Nat)(x:so),fD P (ajL d t x aW)
 |0,_=>eZ
 |d+1,x=>by unfold ajL;refine Pj λf c=>?_;split<;>first|exact iC|exact eZ|contradiction|exact absurd c (e _ _ _)
def acB{t:TO}(e:BQ P t):∀(d:Nat)(y:so),fD P (ajL d t aW y)
 |0,_=>eZ
 |d+1,y=>by unfold ajL;refine Pj λf c=>?_;split<;>first|exact iC|exact eZ|contradiction|exact absurd c (e _ _ _)
def sK(c:op=.eql\/op=.neq->BQ P t):fD P (binOp op t x aW):=by unfold binOp;split<;>first|exact iC|exact eZ|contradiction|exact fz (acA (c aj) _ _)
def Pk(c:op=.eql\/op=.neq->BQ P t):fD P (binOp op t aW y):=by unfold binOp;split<;>first|exact iC|exact eZ|contradiction|exact fz (acB (c aj) _ _)
def sL(t:TO)(x y:so):Sem so:=do
 let .pointer (an n):=x|akk #[] t #[x,y]
 let(a,c)<-akd n
 match<-akk #[] t #[.pointer (an a),y] with
 |.pointer (an b)=>asNumber b c
 |v=>pure v
def Yq(t:TO)(d:VR φ x x')(e:VR φ y y'):SR P K VR φ (sL t x y) (sL t x' y'):=by
 have other:SR P K VR φ (akk #[] t #[x,y]) (akk #[] t #[x',y']):=Ee t d e;cases d with
 |@ptr a a' f=>refine SR.bind (oJ f) λn u u' c h=>?_;obtain⟨u,g⟩:=u;obtain⟨u',i⟩:=u';obtain⟨h1,j⟩:=h;subst j;refine SR.bind (MT t (.ptr h1) (e.mono c)) λo z p _ k=>?_;obtain⟨_,_,rfl,rfl,m⟩:=k;exact YX m g
 |aW _ _=>exact .dead iC
 |_=>exact other
def vt(t:TO)(f:VR φ x x')(g:VR φ y y'):SR P K VR φ (movedNumber t x y) (movedNumber t x' y'):=by
 show SR P K VR φ (ajV t>>=λd=>if(d matches .unsafePointer) then(unsupported (.unsafePointer "arithmetic at a pointer's type")>>=λ(_:Unit)=>sL t x y) else sL t x y)
  (ajV t>>=λd=>if(d matches .unsafePointer) then(unsupported (.unsafePointer "arithmetic at a pointer's type")>>=λ(_:Unit)=>sL t x' y') else sL t x' y')
 refine SR.bind (ew t) λh d _ c e=>?_;subst e;split
 ·exact .dead (fz eZ)
 ·exact Yq t (f.mono c) (g.mono c)
def Xt(t:TO)(d:VR φ x x')(e:VR φ y y'):SR P K VR φ (movedPointer t x y) (movedPointer t x' y'):=by
 have other:=Ee (P:=P) (K:=K) t d e;cases d with
 |@ptr a a' f=>
  refine SR.bind (NK f.block) λg u u' c h=>?_;rcases h with⟨rfl,rfl⟩|⟨x,y,l,rfl,rfl,h⟩
  ·exact Ee t (.ptr (f.mono c)) (e.mono c)
  ·exact .dead (fz eZ)
 |aW _ _=>exact .dead iC
 |_=>exact other
def Np(hG:K.G=P.globals.size)(d:AR φ a a')(g:AR φ b b'):SR P K aZ φ (Op.twoPlaces a b) (Op.twoPlaces a' b'):=by
 refine SR.ask ?_
 have rest:∀f,Ren.le φ f->SR P K aZ f (aly a>>=λx=>aly b>>=λy=>pure (x,y)) (aly a'>>=λx=>aly b'>>=λy=>pure (x,y)):=λf h=>
  SR.bind (pV (d.mono h)) λk x _ i e=>by subst e;exact SR.bind (pV ((g.mono h).mono i)) λm y _ _ e=>by subst e;exact .pure rfl
 show SR P K aZ φ (alz (akJ (a.block !=b.block||decide (a.block>=P.globals.size))) λc=>if c=AT then(unsupported .addressObserved>>=λ_=>aly a>>=λx=>aly b>>=λy=>pure (x,y)) else aly a>>=λx=>aly b>>=λy=>pure (x,y))
  (alz (akJ (a'.block !=b'.block||decide (a'.block>=P.globals.size))) λc=>if c=AT then(unsupported .addressObserved>>=λ_=>aly a'>>=λx=>aly b'>>=λy=>pure (x,y)) else aly a'>>=λx=>aly b'>>=λy=>pure (x,y))
 refine SR.bind (SR.test λw n hw=>?_) λf c _ h e=>?_
 ·have o:=hw.heap.low _ _ d.block;rw[Bool.eq_iff_iff,ale,ale,decide_eq_true_eq,decide_eq_true_eq,bne_iff_ne,bne_iff_ne];constructor
  ·rintro(e|e)
   ·refine .inl λj=>e ?_;have:=d.block;rw[j,g.block] at this;exact(aJ this).symm
   ·omega
  ·rintro(e|e)
   ·by_cases j:a'.block=b'.block
    ·refine .inr ?_;have h1:=((hw.heap.inj _ _ _ d.block (by rw[j];exact g.block)).resolve_left e).2.2.2;omega
    ·omega
   ·omega
 ·subst e;split
  ·exact .dead (fz eZ)
  ·simp_all
def ZU(hG:K.G=P.globals.size){k:IntKind}(c:AR φ a a')(d:AR φ b b'):SR P K VR φ (Op.addrSub k a b) (Op.addrSub k a' b'):=
 SR.bind (Np hG c d) λf x _ _ e=>by subst e;exact .pure (.int _ _)
def ZV(hG:K.G=P.globals.size)(c:AR φ a a')(d:AR φ b b'):SR P K VR φ (Op.addrCmp op a b) (Op.addrCmp op a' b'):=
 SR.bind (Np hG c d) λf x _ _ e=>by subst e;cases op<;>first|exact .pure (.bool _)|exact .halt _ _
def Ez(k:IntKind)(c:AR φ a a')(n:Int):SR P K VR φ (Op.addrMod k a n) (Op.addrMod k a' n):=by
 refine acv c.block (λs=>?_) λs=>.halt _ _;cases s with
 |none=>exact .halt _ _
 |some x=>
  obtain⟨e,f⟩:=x;refine SR.bind (mR e) λg h _ d e=>?_;subst e;dsimp only;split
  ·exact .dead (fz eZ)
  ·exact SR.bind (pV (c.mono d)) λi b _ _ e=>by subst e;exact .pure (.int _ _)
def Qo(hG:K.G=P.globals.size)(c:oq P)(hc:mD P t x y)(d:VR φ x x')(e:VR φ y y'):SR P K aZ φ (Op.equal t x y) (Op.equal t x' y'):=ZT hG c _ φ t hc d e
def acC(hG:K.G=P.globals.size)(hc:op=.eql\/op=.neq->oq P/\mD P t x y)(w:VR φ x x')(o:VR φ y y'):SR P K VR φ (binOp op t x y) (binOp op t x' y'):=by
 have eqv:op=.eql\/op=.neq->SR P K VR φ (Op.equal t x y>>=λb=>pure (.bool b)) (Op.equal t x' y'>>=λb=>pure (.bool b)):=λh=>SR.bind (Qo hG (hc h).1 (hc h).2 w o) λi b _ _ e=>by subst e;exact .pure (.bool _)
 have g:op=.eql\/op=.neq->SR P K VR φ (Op.equal t x y>>=λb=>pure (.bool (!b))) (Op.equal t x' y'>>=λb=>pure (.bool (!b))):=λh=>SR.bind (Qo hG (hc h).1 (hc h).2 w o) λi b _ _ e=>by subst e;exact .pure (.bool _)
 have p:SR P K VR φ (ajV t>>=λd=>if(d matches .unsafePointer) then movedPointer t x y else movedNumber t x y) (ajV t>>=λd=>if(d matches .unsafePointer) then movedPointer t x' y' else movedNumber t x' y'):=
  SR.bind (ew t) λi d _ j e=>by
   subst e;split
   ·exact Xt t (w.mono j) (o.mono j)
   ·exact vt t (w.mono j) (o.mono j)
 have E:∀{a a':Addr}{β:Type}{R:Ren->β->β->Prop}{f I:Addr->Sem β},AR φ a a'->(∀i c A,Ren.le φ i->AR i c A->SR P K R i (f c) (I A))->SR P K R φ (akd a>>=λz=>f z.1) (akd a'>>=λz=>I z.1):=λq J=>SR.bind (oJ q) λi z M j h=>J i _ _ j h.1
 cases w with
 |@int k n=>
  cases o with
  |@int D m=>
   have B:SR P K VR φ (if k≠D then stuck "BinOp: operands of different kinds" else
     match op with
     |.add|.sub|.mul=>Op.intArith op k n m
     |.quo|.rem=>Op.intDiv op k n m
     |.and|.or|.xor|.andNot=>Op.intBits op k n m
     |_=>Op.intCmp op n m) (if k≠D then stuck "BinOp: operands of different kinds" else
     match op with
     |.add|.sub|.mul=>Op.intArith op k n m
     |.quo|.rem=>Op.intDiv op k n m
     |.and|.or|.xor|.andNot=>Op.intBits op k n m
     |_=>Op.intCmp op n m):=by
    split
    ·exact .halt _ _
    ·cases op<;>first|exact NI _ _ _ _|exact aaY|exact Ou _ _ _|exact aaX
   cases op<;>first|exact Ql .shl k n D m|exact Ql .shr k n D m|exact B
  |nilPtr=>cases op<;>first|exact vt t .nilPtr (.int k n)|exact eqv (.inl rfl)|exact g (.inr rfl)|exact .halt _ _
  |@ptr b b' C=>cases op<;>first|exact vt t (.ptr C) (.int k n)|exact E C (λi c A _ hc=>Ez k hc (n+1))|exact eqv (.inl rfl)|exact g (.inr rfl)|exact .halt _ _
  |aW _ _=>exact .dead (sK λh _ _ _=>(hc h).2.oZ)
  |_=>cases op<;>first|exact eqv (.inl rfl)|exact g (.inr rfl)|exact .halt _ _
 |@string s=>
  cases o with
  |@string s2=>have str:SR P K VR φ (Op.stringOp op s s2) (Op.stringOp op s s2):=NG op s s2;cases op<;>exact str
  |aW _ _=>exact .dead (sK λh _ _ _=>(hc h).2.oZ)
  |_=>cases op<;>first|exact eqv (.inl rfl)|exact g (.inr rfl)|exact .halt _ _
 |@ptr a a' q=>
  cases o with
  |@int k n=>cases op<;>first|exact p|exact vt t (.ptr q) (.int k (-n))|exact E q (λi c A _ hc=>Ez k hc n)|exact E q (λi c A _ hc=>Ez k hc (n+1))|exact eqv (.inl rfl)|exact g (.inr rfl)|exact .halt _ _
  |@ptr b b' C=>
   have sub:SR P K VR φ (akd a>>=λu=>akd b>>=λv=>Op.addrSub .u64 u.1 v.1) (akd a'>>=λu=>akd b'>>=λv=>Op.addrSub .u64 u.1 v.1):=
    SR.bind (oJ q) λi u u' j h=>SR.bind (oJ (C.mono j)) λL v v' r F=>ZU hG (h.1.mono r) F.1
   have H:SR P K VR φ (akd a>>=λu=>akd b>>=λv=>Op.addrCmp op u.1 v.1) (akd a'>>=λu=>akd b'>>=λv=>Op.addrCmp op u.1 v.1):=
    SR.bind (oJ q) λi u u' j h=>SR.bind (oJ (C.mono j)) λL v v' r F=>ZV hG (h.1.mono r) F.1
   cases op<;>first|exact sub|exact H|exact eqv (.inl rfl)|exact g (.inr rfl)|exact .halt _ _
  |aW _ _=>exact .dead (sK λh _ _ _=>(hc h).2.oZ)
  |_=>cases op<;>first|exact eqv (.inl rfl)|exact g (.inr rfl)|exact .halt _ _
 |nilPtr=>
  cases o with
  |@int k n=>cases op<;>first|exact p|exact vt t .nilPtr (.int k (-n))|exact eqv (.inl rfl)|exact g (.inr rfl)|exact .halt _ _
  |aW _ _=>exact .dead (sK λh _ _ _=>(hc h).2.oZ)
  |_=>cases op<;>first|exact eqv (.inl rfl)|exact g (.inr rfl)|exact .halt _ _
 |aW _ _=>exact .dead (Pk λh _ _ _=>(hc h).2.oZ)
 |_=>cases o<;>first|exact .dead (sK λh _ _ _=>(hc h).2.oZ)|(cases op<;>first|exact eqv (.inl rfl)|exact g (.inr rfl)|exact .halt _ _)
end
end
section
variable[ag]
section
variable{P:NO}{K:aH}{φ:Ren}
def Ef:∀(d n:Nat)(φ:Ren)(t:TO){x x' y y':so},flat P n t=AT->VR φ x x'->VR φ y y'->SR P K aZ φ (akv d t x y) (akv d t x' y')
 |0,_,_,_,_,_,_,_,_,_,_=>.halt _ _
 |_,0,_,_,_,_,_,_,j,_,_=>by cases j
 |d+1,n+1,φ,t,x,x',y,y',j,F,m=>by
  unfold akv;refine SR.bind (nA t) λG V _ T e=>?_;obtain⟨rfl,hu⟩:=e;unfold flat at j;rw[hu] at j;replace F:=F.mono T;replace m:=m.mono T;cases V with
  |interface X=>cases j
  |struct g=>
   cases F with
   |@agg xs p q w=>
    cases m with
    |@agg ys z A B=>
     have h1:aw G xs p:=⟨q,w⟩;have L:aw G ys z:=⟨A,B⟩
     have M:∀f∈g.toList,flat P n f.type=AT:=λf h=>by have j:g.all (λf=>flat P n f.type)=AT:=j;rw[Array.all_eq_true_iff_forall_mem] at j;exact j f (jI.1 h)
     dsimp only;rw[<-akx,<-akx];refine SR.bind (zS (λN hle f H s=>?_) g.toList (λf h=>h) G (Ren.le_refl _) _) λN r _ _ e=>?_
     ·split
      ·refine SR.bind (lX f.type (h1.mono hle) f.offset) λk a a' C Q=>?_;refine SR.bind (lX f.type ((L.mono hle).mono C) f.offset) λk b b' D S=>?_;refine SR.bind (Ef d n k f.type (M f H) (Q.mono D) S) λk c _ _ e=>?_;subst e;cases c<;>exact .pure rfl
      ·exact .pure rfl
     ·subst e;obtain⟨o,u⟩:=r;cases o<;>exact SR.pure (R:=aZ) rfl
    |aW _ E=>cases y'<;>first|exact .pure rfl|exact absurd rfl (E.1 _)
    |_=>exact .pure rfl
   |aW _ E=>cases x'<;>first|exact .pure rfl|exact absurd rfl (E.1 _)
   |_=>cases m<;>exact .pure rfl
  |array len elem=>
   have j:flat P n elem=AT:=j;obtain⟨J,W,j⟩:∃J,J=n/\flat P J elem=AT:=⟨n,rfl,j⟩;cases F with
   |@agg xs p q w=>
    cases m with
    |@agg ys z A B=>
     have h1:aw G xs p:=⟨q,w⟩;have L:aw G ys z:=⟨A,B⟩;refine SR.bind (fJ elem) λN n _ I e=>?_;subst e;rw[ajT,ajT];refine SR.bind (Am (λk hle i s=>?_) _ N (Ren.le_refl _) _) λk r _ _ e=>?_
     ·refine SR.bind (lX elem ((h1.mono I).mono hle) _) λk a a' C Q=>?_;refine SR.bind (lX elem (((L.mono I).mono hle).mono C) _) λk b b' D S=>?_;refine SR.bind (Ef d J k elem j (Q.mono D) S) λk c _ _ e=>?_;subst e;cases c<;>exact .pure rfl
     ·subst e;obtain⟨o,u⟩:=r;cases o<;>exact SR.pure (R:=aZ) rfl
    |aW _ E=>cases y'<;>first|exact .pure rfl|exact absurd rfl (E.1 _)
    |_=>exact .pure rfl
   |aW _ E=>cases x'<;>first|exact .pure rfl|exact absurd rfl (E.1 _)
   |_=>cases m<;>exact .pure rfl
  |_=>cases F<;>(cases m<;>exact .pure rfl)
def YZ:∀(d:Nat)(φ:Ren)(t:TO){x x' y y':so},mD P t x y->VR φ x x'->VR φ y y'->x≠aW->y≠aW->SR P K aZ φ (akv d t x y) (akv d t x' y')
 |0,_,_,_,_,_,_,_,_,_,_,_=>.halt _ _
 |d+1,φ,t,x,x',y,y',hc,f,g,h,i=>by
  rcases hc with⟨n,j⟩|⟨r,c⟩|⟨⟨e,he⟩,k⟩
  ·exact Ef _ n φ t j f g
  ·unfold akv;refine SR.bind (nA t) λm o _ p e=>?_;obtain⟨rfl,hu⟩:=e;rw[c] at hu;cases hu;cases f with
   |aW=>exact absurd rfl h
   |nilIface=>cases g with|aW=>exact absurd rfl i|_=>exact .pure rfl
   |_=>exact .pure rfl
  ·unfold akv;refine SR.bind (nA t) λm o _ p q=>?_;obtain⟨rfl,hu⟩:=q;rw[he] at hu;cases hu;exact .pure rfl
def aw.foldl_set(off:Nat):∀{us vs:List (so×Nat)}{cs e:Array so},us.length=vs.length->(∀(i:Nat)(u v:so×Nat),us[i]?=an u->vs[i]?=an v->VR φ u.1 v.1/\u.2=v.2)->aw φ cs e->
  aw φ (us.foldl (λcs c=>cs.setIfInBounds (off+c.2) c.1) cs) (vs.foldl (λcs c=>cs.setIfInBounds (off+c.2) c.1) e)
 |[],[],_,_,_,_,h=>h
 |[],_::_,_,_,d,_,_=>by simp at d
 |_::_,[],_,_,d,_,_=>by simp at d
 |(u,i)::us,(v,j)::vs,cs,e,d,f,h=>by obtain⟨h1,g⟩:=f 0 (u,i) (v,j) rfl rfl;simp only at h1 g;subst g;exact aw.foldl_set (us:=us) (vs:=vs) off (by simpa using d) (λn a b k hb=>f (n+1) a b (by simpa using k) uY) (h.set (off+i) h1)
inductive mJ(φ:Ren):List (Nat×so)->List (Nat×so)->Prop
 |nil:mJ φ [] []
 |cons (i:Nat) {x y:so} {xs ys:List (Nat×so)}:VR φ x y->mJ φ xs ys->mJ φ ((i,x)::xs) ((i,y)::ys)
def mJ.mono{c:Ren}{xs ys:List (Nat×so)}(h:mJ φ xs ys)(k:Ren.le φ c):mJ c xs ys:=by induction h with|nil=>exact .nil|cons i h _ d=>exact .cons i (h.mono k) d
def Sx(c:Nat->Option (Nat×Nat)):∀{xs ys:List (Nat×so)}{cs d:Array so},mJ φ xs ys->aw φ cs d->
  (ala c cs xs=ns/\ala c d ys=ns)\/∃a b,ala c cs xs=an a/\ala c d ys=an b/\aw φ a b
 |[],[],cs,d,_,h=>.inr ⟨cs,d,rfl,rfl,h⟩
 |(i,x)::xs,(_,y)::ys,cs,d,.cons _ e hr,h=>by
  unfold ala;cases j:c i with
  |none=>exact .inl ⟨rfl,rfl⟩
  |some p=>
   obtain⟨off,size⟩:=p;dsimp only;have hc:=e.cells;rw[hc.size,h.size];split
   ·exact .inl ⟨rfl,rfl⟩
   ·refine Sx c hr ?_;simp only[<-Array.foldl_toList,Array.toList_zipIdx]
    exact aw.foldl_set off (by simp[hc.size]) (λn u v hu f=>by simp only[List.getElem?_zipIdx,Option.map_eq_some_iff] at hu f;obtain⟨a,g,rfl⟩:=hu;obtain⟨b,hb,rfl⟩:=f;exact⟨hc.at_ n a b (by simpa using g) uY,rfl⟩) h
def Ry{d:Nat->Option (Nat×Nat)}{xs ys:List (Nat×so)}{cs g:Array so}(h:mJ φ xs ys)(k:aw φ cs g){e:String}{R:Ren->so->so->Prop}{f f':Array so->Sem so}
  (j:∀a b,aw φ a b->SR P K R φ (f a) (f' b)):
  SR P K R φ (match ala d cs xs with|some c=>f c|_=>stuck e) (match ala d g ys with|some c=>f' c|_=>stuck e):=by
 rcases Sx d h k with⟨h1,i⟩|⟨a,b,h1,i,m⟩
 ·rw[h1,i];exact .halt _ _
 ·simp_all
def ZW{α β:Type}{f:α->Sem β}(c:∀a,Looks P (f a))(xs:Array α):Looks P (xs.mapM f):=by
 rw[Array.mapM_eq_mapM_toList]
 have:∀l:List α,Looks P (l.mapM f):=λl=>by
  induction l with
  |nil=>simp only[List.mapM_nil];exact .ret _
  |cons a l d=>simp only[List.mapM_cons];exact(c a).bind λb=>d.bind λe=>.ret _
 exact(this xs.toList).bind λ_=>.ret _
def acD(g:cO P)(t:TO){xs ys:Array (Nat×so)}(h:mJ φ xs.toList ys.toList):SR P K VR φ (Instr.build t xs) (Instr.build t ys):=by
 refine SR.bind (pT g t) λj z k hl hzz=>?_;refine SR.bind (ew t) λm d _ Y' e=>?_;subst e;cases d with
 |struct c=>refine SR.bind ((ZW (λf=>(zx f.type).bind λn=>.ret (f.offset,n)) c).sr) λi o _ xN e=>?_;exact Mu
 |array n elem=>refine SR.bind (fJ elem) λi s _ xN e=>?_;exact Mu
 |_=>exact .halt _ _
def XL(q:cO P)(t:TO)(len:Nat){xs ys:Array (Nat×so)}(h:mJ φ xs.toList ys.toList):SR P K VR φ (Instr.buildSlice t len xs) (Instr.buildSlice t len ys):=by
 refine SR.bind (ew t) λA d _ r e=>?_;subst e;cases d with
 |slice elem=>
  refine SR.bind (fJ elem) λp size _ m e=>?_;subst e;dsimp only
  have j:∀(g:Ren)(z k:Array so),Ren.le p g->aw g z k->SR P K VR g
    (match ala (λi=>an (i*size,size)) ((alg (len*size)).map (z[· %z.size]!)) xs.toList with|some cells=>newRow elem cells>>=λa=>pure (.slice (an a) len len)|_=>stuck "buildSlice: a part of the wrong size")
    (match ala (λi=>an (i*size,size)) ((alg (len*size)).map (k[· %k.size]!)) ys.toList with|some cells=>newRow elem cells>>=λa=>pure (.slice (an a) len len)|_=>stuck "buildSlice: a part of the wrong size"):=λg z k hle f=>by
   refine Ry (((h.mono r).mono m).mono hle) (aw.E7 λi=>?_) λa b n=>SR.bind (zR elem n) λw c B _ hc=>.pure (.slice _ _ hc);rw[f.size];exact f.Hx Ey
  split
  ·exact .dead (fz eZ)
  ·split
   ·exact j p #[] #[] (Ren.le_refl _) .empty
   ·exact SR.bind (pT q elem) λg z k o f=>j g _ _ o f.cells
 |_=>exact .halt _ _
def Qp(ok:Bool)(h:VR φ v v'):SR P K VR φ (pure (if ok then .tuple #[v,.bool AT] else v)) (pure (if ok then .tuple #[v',.bool AT] else v')):=by cases ok with|false=>exact .pure h|true=>have:=Sw h (VR.bool (φ:=φ) AT);exact .pure (.tuple this.size this.at_)
def An(d:cO P)(ok:Bool)(c:TO)(a b:Option TO)(m:String):
  SR P K VR φ (if ok then(do pure (.tuple #[<-akY c,.bool Bz])) else runtimePanic (.typeAssertion a b c m)) (if ok then(do pure (.tuple #[<-akY c,.bool Bz])) else runtimePanic (.typeAssertion a b c m)):=by
 cases ok with
 |false=>simp only[alQ,if_false];exact .dead (eE _)
 |true=>exact SR.bind (pT d c) λe z f _ h=>by have:=Sw h (VR.bool (φ:=e) Bz);exact .pure (.tuple this.size this.at_)
def D6(k:cO P)(f c:TO)(ok:Bool)(h:VR φ v v'):SR P K VR φ (akc v f c ok) (akc v' f c ok):=by
 refine SR.bind (ew c) λo d _ p e=>?_;subst e;replace h:=h.mono p
 have g:∀{t:TO}{x x':so},VR o x x'->SR P K VR o (if t=c then pure (if ok then .tuple #[x,.bool AT] else x) else(if ok then(do pure (.tuple #[<-akY c,.bool Bz])) else runtimePanic (.typeAssertion (an f) (an t) c "")))
   (if t=c then pure (if ok then .tuple #[x',.bool AT] else x') else(if ok then(do pure (.tuple #[<-akY c,.bool Bz])) else runtimePanic (.typeAssertion (an f) (an t) c ""))):=λi=>by
  split
  ·exact Qp ok i
  ·exact An k ok c _ _ _
 cases d with
 |interface j=>
  cases h with
  |nilIface=>exact An k ok c ns ns ""
  |@iface t x x' i q=>refine SR.bind (mR t) λw r _ n e=>?_;subst e;cases hm:Instr.missingMethod j r.methods with|none=>exact Qp ok (.iface t (i.mono n) q)|some m=>exact An k ok c ns (an t) m
  |_=>exact .halt _ _
 |_=>cases h with|nilIface=>exact An k ok c (an f) ns ""|iface t i _=>exact g i|_=>exact .halt _ _
end
end
section
variable[ag]
section
variable{P:NO}{K:aH}{φ:Ren}
inductive oB(φ:Ren):Place->Place->Prop
 |val {v v':so}:VR φ v v'->oB φ (.val v) (.val v')
 |var {a a':Addr}:AR φ a a'->oB φ (.var a) (.var a')
def oB.mono{c:Ren}{x y:Place}(h:oB φ x y)(k:Ren.le φ c):oB c x y:=by cases h with|val h=>exact .val (h.mono k)|var h=>exact .var (h.mono k)
def Gx(t:TO){x y:Place}(h:oB φ x y):SR P K VR φ (x.get t) (y.get t):=by cases h with|val h=>exact .pure h|var h=>exact vJ t h
def zV:∀(l:List FieldStep)(φ:Ren)(t:TO){x y:Place},oB φ x y->SR P K (λk a b=>a.1=b.1/\oB k a.2 b.2) φ (follow l t x) (follow l t y)
 |[],φ,t,x,y,h=>.pure ⟨rfl,h⟩
 |s::rest,φ,t,x,y,h=>by
  unfold follow;refine SR.bind (ew s.struct) λk d _ j e=>?_;subst e;cases d with
  |struct g=>
   dsimp only;cases g[s.index]? with
   |none=>exact .halt _ _
   |some f=>
    dsimp only;split
    ·refine SR.bind (Gx t (h.mono j)) λw v v' m n=>?_;refine SR.bind (vS n) λz a a' o p=>?_;exact SR.bind (D5 p f) λc b b' _ i=>zV rest c f.type (.var i)
    ·cases h with
     |var h=>exact SR.bind (D5 (h.mono j) f) λc b b' _ i=>zV rest c f.type (.var i)
     |val h=>
      cases h.mono j with
      |agg q r=>exact SR.bind (lX f.type (aw.mk q r) f.offset) λc b b' _ i=>zV rest c f.type (.val i)
      |_=>exact .halt _ _
  |_=>exact .halt _ _
def ZX(t:TO){ts:Array TO}(h:VR φ v v'){a b:ByteArray}:SR P K VR φ (Builtin.ssaWrapNilChk_ ts t #[v,.string a,.string b]) (Builtin.ssaWrapNilChk_ ts t #[v',.string a,.string b]):=by
 cases h with
 |ptr h=>exact .pure (.ptr h)
 |nilPtr=>
  refine .dead ?_;refine fI λn=>?_;dsimp only;split
  ·exact fz (eE _)
  ·cases ts[0]? with
   |none=>exact iC
   |some e=>
    refine fI λd=>?_;cases d with
    |pointer t2=>
     refine fI λc=>?_;cases c.desc with
     |named name u=>
      cases String.fromUTF8? b with
      |none=>exact iC
      |some m=>
       dsimp only;split
       ·exact eE _
       ·exact eZ
     |_=>exact iC
    |_=>exact iC
 |_=>exact .halt _ _
def XM(f:TO){x y:Place}(h:oB φ x y)(g:Bool){c:Option String}:SR P K VR φ (receiverAt f x g c) (receiverAt f y g c):=by
 refine SR.bind (ew f) λo d _ m e=>?_;subst e;replace h:=h.mono m;have get:=Gx (P:=P) (K:=K) f h;cases g with
 |true=>
  cases d with
  |pointer elem=>exact get
  |_=>cases h with|var h=>exact .pure (.ptr h)|val h=>exact .halt _ _
 |false=>
  cases d with
  |pointer elem=>
   cases c with
   |none=>exact SR.bind get λi v v' _ j=>SR.bind (R:=VR) (.pure j) λi u u' _ hu=>SR.bind (vS hu) λn a a' _ k=>vJ elem k
   |some name=>exact SR.bind get λi v v' _ j=>SR.bind (ZX f j) λi u u' _ hu=>SR.bind (vS hu) λn a a' _ k=>vJ elem k
  |_=>exact get
def tt(P:NO)(name:String):Prop:=∀t i m f b,P.info? t=an i->i.methods.find? (·.name==name)=an m->m.func=an (f,b)->ag.ok f
def Pm{name:String}(hm:tt P name):∀(n:Nat)(φ:Ren)(t:TO){v v':so},VR φ v v'->SR P K (λc a b=>a.1=b.1/\ag.ok a.1/\VR c a.2 b.2) φ (method n t v name) (method n t v' name)
 |0,_,_,_,_,_=>.halt _ _
 |n+1,φ,t,v,v',h=>by
  unfold method;refine SR.bind (Nl t) λc o _ r e=>?_;obtain⟨rfl,d⟩:=e;dsimp only;cases g:o.methods.find? (·.name==name) with
  |none=>exact .halt _ _
  |some m=>
   dsimp only;refine SR.bind (zV m.path.toList c t (.val (h.mono r))) λD x y w i=>?_;obtain⟨p,x⟩:=x;obtain⟨E,y⟩:=y;obtain⟨e,j⟩:=i;simp only at e j;subst e;dsimp only;cases z:m.func with
   |none=>refine SR.bind (Gx p j) λq u u' A hu=>?_;cases hu with|iface t2 B=>exact Pm hm n q t2 B|nilIface=>exact .dead (eE _)|_=>exact .halt _ _
   |some C=>obtain⟨f,b⟩:=C;have k:=hm t o m f b d g z;exact SR.bind (XM p j b) λq u u' _ hu=>.pure ⟨rfl,k,hu⟩
inductive NR(φ:Ren):Next->Next->Prop
 |value {v v':so}:VR φ v v'->NR φ (.value v) (.value v')
 |skip:NR φ .skip .skip
 |enter (f:alo) {xs ys:Array so}:ag.ok f->aw φ xs ys->NR φ (.enter f xs) (.enter f ys)
 |round {l l':Nat} (f:alo) {xs ys:Array so} (a b:akA):φ l=an l'->cT φ (ag.lv f) xs ys->ag.cd f a->ag.cd f b->pv f->NR φ (.round l f xs a b) (.round l' f ys a b)
def gE(φ:Ren):Prop:=∀g,ag.gl g->φ g=an g
def gE.mono{φ c:Ren}(h:gE φ)(k:Ren.le φ c):gE c:=λg d=>k _ _ (h g d)
def dY(P:NO)(K:aH):Prop:=oq P/\(∀f,ag.fv f->ag.ok f)/\∀f,ag.ok f->∀(φ:Ren)(xs ys:Array so),gE φ->aw φ xs ys->SR P K NR φ (callFunc f xs) (callFunc f ys)
def NL{f:alo}{fn c:Func}(k:P.funcs[f]?=an fn)(o:fn.body.isSome=AT)(m:(fn.name== "runtime.NumGoroutine")=Bz)
  (e:P.two.funcs[f]?=an c)(n:c.body.isSome=AT)(g:(c.name== "runtime.NumGoroutine")=Bz)(i:ag.ok f){xs ys:Array so}(h:aw φ xs ys):SR P K NR φ (callFunc f xs) (callFunc f ys):=by
 have j:fn.body.isNone=Bz:=eY;have d:c.body.isNone=Bz:=eY;refine SR.program ?_;simp only[alz,k,e,m,g,j,d,alQ,if_false];exact .pure (.enter f i h)
def XN(hF:dY P K)(d:gE φ){name:String}(hm:tt P name)(h:VR φ v v')(c:aw φ xs ys):SR P K NR φ (callMethod v name xs) (callMethod v' name ys):=by
 unfold callMethod;cases h with
 |iface t n=>
  refine SR.ask ?_;refine SR.bind (Pm hm _ φ t n) λo a b k g=>?_;obtain⟨f,r⟩:=a;obtain⟨q,w⟩:=b;obtain⟨e,j,p⟩:=g;subst e;refine hF.2.2 f j o _ _ (d.mono k) (aw.append ⟨rfl,λi x y c m=>?_⟩ (c.mono k))
  match i with
  |0=>simp at c m;subst c;subst m;exact p
  |i+1=>simp at c
 |nilIface=>exact .dead (eE _)
 |_=>exact .halt _ _
def vK(h:φ l=an l'):SR P K (λc a b=>cL c a b/\¬K.ro l/\¬K.tok l) φ (Instr.getLoop l) (Instr.getLoop l'):=by refine SR.getObj h (λo i d e f=>?_) (λs p=>iC) λa l=>iC;cases d with|loop g=>exact .pure ⟨g,e,f⟩|_=>exact .halt _ _
def Nq{s:Nat->Prop}:∀(c:List Tmp){xs ys:List so}{cs d:Array so},iy φ xs ys->cT φ s cs d->
  cT φ s ((c.zip xs).foldl (λt p=>t.setIfInBounds p.1 p.2) cs) ((c.zip ys).foldl (λt p=>t.setIfInBounds p.1 p.2) d)
 |[],_,_,_,_,_,h=>h
 |_::_,[],[],_,_,.nil,h=>h
 |p::c,x::xs,y::ys,cs,d,.cons e hr,h=>Nq c hr (h.set p e)
def Qr(h:φ l=an l')(d:aw φ xs ys):SR P K NR φ (Instr.yield l xs) (Instr.yield l' ys):=by
 refine SR.bind (vK h) λg r i e c=>?_;obtain⟨c,_,_⟩:=c;rw[c.params,<-d.size];by_cases f:xs.size=r.params.size
 ·simp only[f,ne_eq,not_true_eq_false,if_false];rw[c.fn,c.assign,c.body];refine .pure (.round _ _ _ (e _ _ h) ?_ c.rD c.okB c.okF);simp only[<-Array.foldl_toList,Array.toList_zip];exact Nq _ (d.mono e).toList c.tmps
 ·simp only[f,ne_eq,not_false_eq_true,if_true];exact .dead (fz iC)
def XO(h:φ l=an l'):SR P K aZ φ (Instr.beginRound l) (Instr.beginRound l'):=by refine SR.bind (vK h) λd r e f c=>?_;obtain⟨c,g,i⟩:=c;refine SR.setObj (f _ _ h) g i (.loop ⟨rfl,c.pending,c.fn,c.tmps,c.params,c.assign,c.body,c.defers,c.rD,c.okB,c.jc,c.okF⟩) trivial ?_;show SR P K aZ d (match r.state with|.ready=>pure ()|.done=>runtimePanic _|.busy=>runtimePanic _|.exhausted=>runtimePanic _) (match e.state with|.ready=>pure ()|.done=>runtimePanic _|.busy=>runtimePanic _|.exhausted=>runtimePanic _);rw[c.state];cases r.state with|ready=>exact .pure rfl|_=>exact .dead (eE _)
def Y6(h:φ l=an l'){j:Option akA}(d:Jump j):SR P K VR φ (Instr.endRound l j) (Instr.endRound l' j):=by refine SR.bind (vK h) λi r k e c=>?_;obtain⟨c,f,g⟩:=c;exact SR.setObj (e _ _ h) f g (.loop ⟨rfl,rfl,c.fn,c.tmps,c.params,c.assign,c.body,c.defers,c.rD,c.okB,d,c.okF⟩) trivial (.pure (.bool _))
def ZY(h:φ l=an l'):SR P K (λ_ a b=>a=b/\Jump a) φ (Instr.endLoop l) (Instr.endLoop l'):=by
 refine SR.bind (vK h) λg r i d c=>?_;obtain⟨c,e,f⟩:=c;rw[c.state,c.pending];split
 ·exact DF
 ·exact SR.setObj (d _ _ h) e f (.loop ⟨rfl,rfl,c.fn,c.tmps,c.params,c.assign,c.body,c.defers,c.rD,c.okB,c.jc,c.okF⟩) trivial (.pure ⟨rfl,c.jc⟩)
inductive DR(φ:Ren):Deferred->Deferred->Prop
 |mark {r r':Nat}:φ r=an r'->DR φ {target:=.collected r,args:=#[]} {target:=.collected r',args:=#[]}
inductive jB(φ:Ren):List Deferred->List Deferred->Prop
 |nil:jB φ [] []
 |cons {d d':Deferred} {ds xO:List Deferred}:DR φ d d'->jB φ ds xO->jB φ (d::ds) (d'::xO)
def jB.mono{c:Ren}{ds xO:List Deferred}(h:jB φ ds xO)(k:Ren.le φ c):jB c ds xO:=by
 induction h with
 |nil=>exact .nil
 |cons h _ d=>cases h with|mark h=>exact .cons (.mark (k _ _ h)) d
def jB.append{a b c d:List Deferred}(h:jB φ a b)(k:jB φ c d):jB φ (a++c) (b++d):=by induction h with|nil=>exact k|cons h _ e=>exact .cons h e
inductive rE(φ:Ren):Option Nat->Option Nat->Prop
 |none:rE φ ns ns
 |some {l l':Nat}:φ l=an l'->rE φ (an l) (an l')
def Nr(f:alo)(j:pv f)(k:cT φ (ag.lv f) xs ys)(m:Array Tmp)(a b:akA)(n:ag.cd f a)(o:ag.cd f b){l l':Option Nat}(h:rE φ l l'):
  SR P K (λd u v=>d u.1=an v.1/\jB d u.2 v.2) φ (alB f xs m a b l) (alB f ys m a b l'):=by
 cases h with
 |none=>refine SR.new .deferred trivial λd r p g e=>?_;refine SR.new (.loop ⟨rfl,rfl,rfl,k.mono g,rfl,rfl,rfl,e,n,o,.inl rfl,j⟩) trivial λq s w c i=>?_;exact .pure ⟨i,.cons (.mark (c _ _ e)) .nil⟩
 |some h=>refine SR.bind (vK h) λd r p g e=>?_;refine SR.new (.loop ⟨rfl,rfl,rfl,k.mono g,rfl,rfl,rfl,e.1.defers,n,o,.inl rfl,j⟩) trivial λq s w c i=>?_;exact .pure ⟨i,.nil⟩
def Li{r c:Nat}(h:φ r=an c):SR P K (λ_ a b=>a=[]/\b=[]) φ (alJ r) (alJ c):=by refine SR.getObj h (λo g d e f=>?_) (λs p=>iC) λa l=>iC;cases d with|deferred=>exact SR.setObj h e f .taken trivial (.pure ⟨rfl,rfl⟩)|_=>exact .halt _ _
end
end
section
variable[ag]
def eo(s:Nat->Prop):ajR->Prop
 |.tmp t=>s t
 |.const v=>∀φ,VR φ v v
 |.global g=>ag.gl g
 |.func f=>ag.fv f
def xf(s:Nat->Prop)(xs:Array ajR):Prop:=∀(i:Nat) x,xs[i]?=an x->eo s x
def xP(s:Nat->Prop):Option ajR->Prop
 |none=>True
 |some x=>eo s x
def Gy(P:NO)(s:Nat->Prop)(c:Call):Prop:=
 xf s c.args/\match c.callee with
  |.value f=>(∃n,f=.func n/\ag.ok n)\/eo s f
  |.invoke recv name=>eo s recv/\tt P name
  |.builtin b=>match b with|.append|.len|.cap|.min|.max=>True|_=>False
def BR(P:NO)(t:TO)(x y:ajR):Prop:=(∃n,flat P n t=AT)\/(∃c,P.underlying t=an (.interface c))\/((∃e,P.underlying t=an (.pointer e))/\(x=.const (.pointer ns)\/y=.const (.pointer ns)))
def Hy(P:NO)(s:Nat->Prop):Op->Prop
 |.makeInterface t x=>eo s x/\ag.np t
 |.move x|.assign x|.box _ x|.load _ x|.nilCheck x|.unOp _ _ x|.fieldAddr _ x _|.field _ x _|.typeAssert x _ _ _|.extract x _=>eo s x
 |.pick c a b=>eo s c/\eo s a/\eo s b
 |.alloc _=>True
 |.build _ e|.buildSlice _ _ e=>∀(i:Nat) p,e[i]?=an p->eo s p.2
 |.store _ a x=>eo s a/\eo s x
 |.binOp op t x y _=>eo s x/\eo s y/\(op=.eql\/op=.neq->BR P t x y)
 |.convert src dst x=>eo s x/\Bo P src dst=AT
 |.makeFunc fn first d=>(∃f,fn=.func f/\ag.fv f)/\xf s first/\xf s d
 |.makeSlice _ l c=>eo s l/\eo s c
 |.slice _ x g hi h=>eo s x/\xP s g/\xP s hi/\xP s h
 |.indexAddr _ x i|.index _ x i=>eo s x/\eo s i
 |.call c=>Gy P s c
 |_=>False
def ER(φ:Ren)(s:Nat->Prop)(ρ ul:ajR->so):Prop:=(∀x,eo s x->VR φ (ρ x) (ul x))/\(∀v,ρ (.const v)=v)/\(∀f,ρ (.func f)=.func (.func f) #[] #[]/\ul (.func f)=.func (.func f) #[] #[])/\gE φ
section
variable{P:NO}{K:aH}{φ:Ren}{s:Nat->Prop}{ρ ul:ajR->so}
def BR.val(he:ER φ s ρ ul){x y:ajR}(h:BR P t x y):mD P t (ρ x) (ρ y):=by
 rcases h with h|h|⟨h,rfl|rfl⟩
 ·exact .inl h
 ·exact .inr (.inl h)
 ·exact .inr (.inr ⟨h,.inl (he.2.1 _)⟩)
 ·exact .inr (.inr ⟨h,.inr (he.2.1 _)⟩)
def ER.map(he:ER φ s ρ ul){xs:Array ajR}(h:xf s xs):aw φ (xs.map ρ) (xs.map ul):=by refine⟨aj,λi x y c d=>?_⟩;rw[Array.getElem?_map] at c d;cases hq:xs[i]? with|none=>rw[hq] at c;cases c|some o=>rw[hq] at c d;cases c;cases d;exact he.1 o (h i o hq)
def ER.opt(he:ER φ s ρ ul){x:Option ajR}(h:xP s x):gK φ (x.map ρ) (x.map ul):=by cases x with|none=>exact .none|some x=>exact .some (he.1 x h)
def ER.parts(he:ER φ s ρ ul){c:Array (Nat×ajR)}(h:∀(i:Nat) p,c[i]?=an p->eo s p.2):mJ φ (c.map λ(i,x)=>(i,ρ x)).toList (c.map λ(i,x)=>(i,ul x)).toList:=by
 rw[Array.toList_map,Array.toList_map];have d:∀(i:Nat) p,c.toList[i]?=an p->eo s p.2:=λi p e=>h i p (by simpa using e);generalize c.toList=l at d
 induction l with
 |nil=>exact .nil
 |cons p l f=>obtain⟨i,x⟩:=p;exact .cons i (he.1 x (d 0 (i,x) rfl)) (f λn q hq=>d (n+1) q (by simpa using hq))
def ir{s c:Sem so}(h:SR P K VR φ s c):SR P K NR φ (s>>=λv=>pure (Next.value v)) (c>>=λv=>pure (Next.value v)):=
 SR.bind h λe v v' _ d=>.pure (.value d)
def ZZ(e:cO P){b:Builtin}(f:match b with|.append|.len|.cap|.min|.max=>True|_=>False)(ts:Array TO)(t:TO){cs:Array Bool}(h:aw φ xs ys):
  SR P K NR φ (builtin b ts t cs xs) (builtin b ts t cs ys):=by
 cases b with
 |append=>exact SR.bind (aaW e ts t h) λd v v' _ c=>.pure (.value c)
 |len=>exact SR.bind (Gw ts t h) λd v v' _ c=>.pure (.value c)
 |cap=>exact SR.bind (afv ts t h) λd v v' _ c=>.pure (.value c)
 |min=>exact SR.bind (afx ts t h) λd v v' _ c=>.pure (.value c)
 |max=>exact SR.bind (afw ts t h) λd v v' _ c=>.pure (.value c)
 |_=>exact f.elim
def MU(name:String)(us:Array so)(r:so)(xs:Array so):(invoke (.fn (.method name) us) (#[r]++xs))=callMethod r name xs:=by
 have one:(#[r]++xs)[0]?=an r/\(#[r]++xs).extract 1 (#[r]++xs).size=xs:=by
  refine⟨by rw[Array.getElem?_append_left aj];rfl,?_⟩;apply zo;intro i;by_cases hi:i<xs.size
  ·simp_all
  ·simp_all
 unfold invoke;rw[one.1,one.2]
def MW:fD P (invoke (.fn (.method "") #[]) (#[.nilIface]++xs)):=by rw[MU];exact eE (P:=P) (α:=Next) .nilDeref
def aeh(z:cO P)(hF:dY P K){c:Call}(t:TO)(hc:Gy P s c)(he:ER φ s ρ ul):
  SR P K NR φ (resolve ρ c t>>=λd=>invoke d.target d.args) (resolve ul c t>>=λd=>invoke d.target d.args):=by
 obtain⟨A,e⟩:=hc;have g:=he.map A;unfold resolve;cases i:c.callee with
 |builtin b=>rw[i] at e;exact ZZ z e c.argTypes t g
 |invoke recv name=>rw[i] at e;obtain⟨B,hm⟩:=e;have inv:=MU name #[];have k:=XN (φ:=φ) hF he.2.2.2 hm (he.1 recv B) g;rw[<-inv,<-inv] at k;exact k
 |value f=>
  rw[i] at e;rcases e with⟨n,rfl,j⟩|e
  ·dsimp only;rw[(he.2.2.1 n).1,(he.2.2.1 n).2];have:=hF.2.2 n j φ _ _ he.2.2.2 g;simpa[Deferred.ofValue,invoke] using this
  have m:=he.1 f e;dsimp only;generalize ρ f=u at m;generalize ul f=u' at m;cases m with
  |nilFunc=>exact .dead (eE (P:=P) (α:=Next) .nilDeref)
  |aW _ _=>exact .dead MW
  |func o r w p q=>cases o with|func f j=>exact hF.2.2 f (hF.2.1 f j) φ _ _ he.2.2.2 ((aw.append ⟨r,w⟩ g).append ⟨p,q⟩)|yield h=>exact Qr h (aw.append ⟨r,w⟩ g)
  |_=>exact .halt _ _
def ED(t:TO){m:String}(hc:mD P t u v)(c:u≠aW)(d:v≠aW)(hu:VR φ u u')(f:VR φ v v'):
  SR P K aZ φ (akv Op.maxDepth t u v>>=λb=>if b=AT then unsupported (.noEntry m) else pure ()) (akv Op.maxDepth t u' v'>>=λb=>if b=AT then unsupported (.noEntry m) else pure ()):=by
 refine SR.bind (YZ _ φ t hc hu f c d) λg b _ _ e=>?_;subst e;cases b
 ·exact .pure rfl
 ·exact .dead eZ
def Z0(op:BinOp)(t:TO)(x y:ajR)(hc:op=.eql\/op=.neq->mD P t u v)(d:u≠aW)(c:v≠aW)(hu:VR φ u u')(f:VR φ v v'):SR P K aZ φ (eqGuard op t x y u v) (eqGuard op t x y u' v'):=by
 have skip:SR P K aZ φ (akJ ():Sem Unit) (akJ ()):=.pure rfl
 have agg:∀{u u' v v':so},mD P t u v->u≠aW->v≠aW->VR φ u u'->VR φ v v'->SR P K aZ φ (program>>=λp=>program>>=λq=>if(!p.eqGuardType q.depth t)=AT then pure () else akv Op.maxDepth t u v>>=λb=>if b=AT then unsupported (.noEntry "binop/eql: two nil values of an interface type with methods, in a part of a struct or an array") else pure ())
   (program>>=λp=>program>>=λq=>if(!p.eqGuardType q.depth t)=AT then pure () else akv Op.maxDepth t u' v'>>=λb=>if b=AT then unsupported (.noEntry "binop/eql: two nil values of an interface type with methods, in a part of a struct or an array") else pure ()):=λhc d c hu f=>by
  refine SR.ask (SR.ask ?_ (by have e:P.two.depth=P.depth:=rfl;simp only[e])) (by simp only[Dq]);split
  ·exact skip
  ·exact ED t hc d c hu f
 cases op with
 |eql=>
  cases hu with
  |nilIface=>cases f with|aW=>exact absurd rfl c|nilIface=>cases x<;>(cases y<;>first|exact skip|exact ED t (hc aj) d c .nilIface .nilIface)|_=>exact skip
  |agg h1 g=>cases f with|aW=>exact absurd rfl c|agg h i=>exact agg (hc aj) d c (.agg h1 g) (.agg h i)|_=>exact skip
  |aW=>exact absurd rfl d
  |_=>cases f<;>first|exact skip|exact absurd rfl c
 |neq=>
  cases hu with
  |nilIface=>cases f with|aW=>exact absurd rfl c|nilIface=>cases x<;>(cases y<;>first|exact skip|exact ED t (hc aj) d c .nilIface .nilIface)|_=>exact skip
  |agg h1 g=>cases f with|aW=>exact absurd rfl c|agg h i=>exact agg (hc aj) d c (.agg h1 g) (.agg h i)|_=>exact skip
  |aW=>exact absurd rfl d
  |_=>cases f<;>first|exact skip|exact absurd rfl c
 |_=>exact skip
def XP{x y:ajR}:Calm P (eqGuard op t x y aW v):=by cases op<;>exact lU
def XQ{x y:ajR}:Calm P (eqGuard op t x y v aW):=by cases op<;>first|exact lU|(cases v<;>exact lU)
open Classical in
def GA(hG:K.G=P.globals.size)(op:BinOp)(t:TypeId)(x y:Operand)(hc:op=.eql\/op=.neq->oq P/\mD P t u v)(hu:VR φ u u')(c:VR φ v v'):
  SR P K VR φ ((eqGuard op t x y u v).bind λ_=>binOp op t u v) ((eqGuard op t x y u' v').bind λ_=>binOp op t u' v'):=by
 by_cases d:u=aW
 ·subst d;exact .dead (fI (λ_=>Pk λh _ _ _=>(hc h).2.oZ) XP)
 by_cases e:v=aW
 ·subst e;exact .dead (fI (λ_=>sK λh _ _ _=>(hc h).2.oZ) XQ)
 exact SR.bind (S:=VR) (Z0 op t x y (λh=>(hc h).2) d e hu c) λg _ _ f _=>acC hG hc (hu.mono f) (c.mono f)
def aaZ(j:cO P)(hG:K.G=P.globals.size)(hF:dY P K){o:akG}(g:Hy P s o.op)(he:ER φ s ρ ul):SR P K NR φ (ajA ρ o) (ajA ul o):=by
 unfold ajA;revert g;generalize o.op=p;intro g;cases p with
 |nilCheck x=>
  have h:=he.1 x g;dsimp only;generalize ρ x=v at h⊢;generalize ul x=v' at h⊢;have k:SR P K NR φ (pure (.value v)) (pure (.value v')):=.pure (.value h);cases h with
  |nilPtr|nilIface|nilFunc|aW=>exact .dead (eE (P:=P) (α:=Next) .nilDeref)
  |func a=>cases a<;>exact k
  |_=>first|exact k|exact .dead (eE (P:=P) (α:=Next) .nilDeref)
 |move x|assign x=>exact .pure (.value (he.1 x g))
 |pick c a b=>
  refine SR.bind (Pf (he.1 c g.1)) λr t _ q e=>?_;subst e;cases t
  ·exact .pure (.value ((he.1 b g.2.2).mono q))
  ·exact .pure (.value ((he.1 a g.2.1).mono q))
 |alloc t=>exact ir (acr j t)
 |box t x=>exact ir (afu t (he.1 x g))
 |build t w=>exact ir (acD j t (he.parts g))
 |buildSlice t n w=>exact ir (XL j t n (he.parts g))
 |load t x=>exact ir (vR t (he.1 x g))
 |store t a x=>exact SR.bind (ZM t (he.1 a g.1) (he.1 x g.2)) λr _ _ _ _=>.pure .skip
 |binOp op t x y B=>exact ir (GA hG op t x y (λh=>⟨hF.1,(g.2.2 h).val he⟩) (he.1 x g.1) (he.1 y g.2.1))
 |unOp op t x=>exact ir (Qm op (he.1 x g))
 |convert s d x=>exact ir (Ov s d g.2 (he.1 x g.1))
 |makeInterface t x=>exact ir (Xa (he.1 x g.1) g.2)
 |makeFunc fn first m=>obtain⟨⟨f,rfl,z⟩,h1,A⟩:=g;exact ir (YT (.func f z) (he.map h1) (he.map A))
 |makeSlice t l c=>exact ir (Yn j t (he.1 l g.1) (he.1 c g.2))
 |slice t x C hi D=>exact ir (ZQ t (he.1 x g.1) (he.opt g.2.1) (he.opt g.2.2.1) (he.opt g.2.2.2))
 |fieldAddr s x f=>exact ir (ZO s (he.1 x g) f)
 |field s x f=>exact ir (acs s (he.1 x g) f)
 |indexAddr t x i=>exact ir (Oo t (he.1 x g.1) (he.1 i g.2))
 |index t x i=>exact ir (acu t (he.1 x g.1) (he.1 i g.2))
 |typeAssert x t a ok=>exact ir (D6 j t a ok (he.1 x g))
 |extract t i=>exact ir (ZN i (he.1 t g))
 |call c=>exact aeh j hF o.type g he
 |_=>exact g.elim
end
end
section
variable[ag]
def GV(P:NO)(s:Nat->Prop)(c:Array akG):Prop:=
 ∀(i:Nat) o,c[i]?=an o->Hy P s o.op/\∀j e,o.guard=an (j,e)->∀f d,c[j]?=an f->f.dst=an d->s d
def eF(P:NO)(f:alo):akA->Prop
 |.skip|.exit _|.label _|.goto _|.ret|.refuse _=>True
 |.region _ d _=>GV P (ag.lv f) d
 |.seq a b=>eF P f a/\eF P f b
 |.cond c x y=>eo (ag.lv f) c/\eF P f x/\eF P f y
 |.block _ b|.loop b|.scope b=>eF P f b
 |.rangeFunc g _ a b=>eo (ag.lv f) g/\eF P f a/\eF P f b/\ag.cd f a/\ag.cd f b
inductive iz(P:NO)(f:alo)(s:Bool):akA->akA->Prop
 |same {c:akA}:eF P f c->iz P f s c c
 |seq {a b a' b':akA}:iz P f s a a'->iz P f s b b'->iz P f s (.seq a b) (.seq a' b')
 |dM {c c':akA}:ag.dM c c'->f=ag.home->s=AT->iz P f s c c'
inductive kO(P:NO)(φ:Ren)(f:alo)(s:Bool):Item->Item->Prop
 |code {c c':akA}:iz P f s c c'->kO P φ f s (.code c) (.code c')
 |inBlock (id:Nat):kO P φ f s (.inBlock id) (.inBlock id)
 |inLoop {b:akA}:eF P f b->kO P φ f s (.inLoop b) (.inLoop b)
 |inScope {b:akA}:eF P f b->kO P φ f s (.inScope b) (.inScope b)
 |inRegion {ops:Array akG} (todo:List Nat):GV P (ag.lv f) ops->kO P φ f s (.inRegion ops todo) (.inRegion ops todo)
 |tk {l l':Nat}:φ l=an l'->kO P φ f s (.inRangeFunc l) (.inRangeFunc l')
 |sX {l l':Nat}:φ l=an l'->kO P φ f s (.endRangeFunc l) (.endRangeFunc l')
 |beginRound:kO P φ f s .beginRound .beginRound
inductive gW(P:NO)(φ:Ren)(f:alo)(s:Bool):List Item->List Item->Prop
 |nil:gW P φ f s [] []
 |cons {x y:Item} {xs ys:List Item}:kO P φ f s x y->gW P φ f s xs ys->gW P φ f s (x::xs) (y::ys)
 |stop {why:String} {ys:List Item}:s=AT->gW P φ f s [.code (.refuse why)] ys
def wy(fr:ajs):Prop:=∃c,fr.todo=[.code (.refuse c)]
def kO.mono{P:NO}{φ c:Ren}{f:alo}{s:Bool}{x y:Item}(h:kO P φ f s x y)(k:Ren.le φ c):kO P c f s x y:=by cases h with|code h=>exact .code h|inBlock id=>exact .inBlock id|inLoop h=>exact .inLoop h|inScope h=>exact .inScope h|inRegion t h=>exact .inRegion t h|tk h=>exact .tk (k _ _ h)|sX h=>exact .sX (k _ _ h)|beginRound=>exact .beginRound
def gW.mono{P:NO}{φ c:Ren}{f:alo}{s:Bool}{xs ys:List Item}(h:gW P φ f s xs ys)(k:Ren.le φ c):gW P c f s xs ys:=by induction h with|nil=>exact .nil|cons h _ d=>exact .cons (h.mono k) d|stop e=>exact .stop e
inductive Jf:FrameMode->FrameMode->Prop
 |run:Jf .run .run
 |returning:Jf .returning .returning
structure eX(P:NO)(φ:Ren)(fr eq:ajs):Prop where
 fn:eq.fn=fr.fn
 tmps:cT φ (ag.lv fr.fn) fr.tmps eq.tmps
 todo:gW P φ fr.fn fr.roundOf.isNone fr.todo eq.todo
 defers:jB φ fr.defers eq.defers
 mode:Jf fr.mode eq.mode
 kind:fr.kind=.normal/\eq.kind=.normal
 round:rE φ fr.roundOf eq.roundOf
 jX:pv fr.fn
def rE.mono{φ c:Ren}{l l':Option Nat}(h:rE φ l l')(k:Ren.le φ c):rE c l l':=by cases h with|none=>exact .none|some h=>exact .some (k _ _ h)
def eX.mono{P:NO}{φ c:Ren}{fr eq:ajs}(h:eX P φ fr eq)(k:Ren.le φ c):eX P c fr eq:=⟨h.fn,h.tmps.mono k,h.todo.mono k,h.defers.mono k,h.mode,h.kind,h.round.mono k,h.jX⟩
inductive iM(P:NO)(φ:Ren):List ajs->List ajs->Prop
 |nil:iM P φ [] []
 |cons {x y:ajs} {xs ys:List ajs}:eX P φ x y->¬wy x->iM P φ xs ys->iM P φ (x::xs) (y::ys)
def iM.mono{P:NO}{φ c:Ren}{xs ys:List ajs}(h:iM P φ xs ys)(k:Ren.le φ c):iM P c xs ys:=by induction h with|nil=>exact .nil|cons h d _ e=>exact .cons (h.mono k) d e
section
variable{P:NO}{K:aH}{φ:Ren}
def Ao:VR φ undef undef:=.tuple rfl λi x y c _=>by simp at c
def cT.getD{s:Nat->Prop}{xs ys:Array so}(h:cT φ s xs ys)(i:Nat)(d:s i):VR φ (xs.getD i undef) (ys.getD i undef):=by
 rw[Array.getD_eq_getD_getElem?,Array.getD_eq_getD_getElem?];cases c:xs[i]? with
 |none=>
  have:ys[i]?=ns:=by rw[Array.getElem?_eq_none_iff] at c⊢;rw[<-h.size];exact c
  rw[this];exact Ao
 |some x=>obtain⟨y,e,f⟩:=h.get d c;rw[e];exact f
def eX.eval{fr eq:ajs}(h:eX P φ fr eq)(d:gE φ):ER φ (ag.lv fr.fn) fr.eval eq.eval:=⟨λx c=>by
 cases x with
 |tmp t=>exact h.tmps.getD t c
 |const v=>exact c φ
 |global g=>exact .ptr ⟨d g c,rfl,rfl⟩
 |func f=>exact .func (.func f c) rfl (λi x y c _=>by simp at c) rfl (λi x y c _=>by simp at c),λ_=>rfl,λ_=>⟨rfl,rfl⟩,d⟩
def cT.yielded{s:Nat->Prop}(h:cT φ s xs ys)(c:Array akG)(j:Nat)(i:∀e d,c[j]?=an e->e.dst=an d->s d):yielded c ys j=yielded c xs j:=by
 unfold Go.yielded;cases k:c[j]? with
 |none=>rfl
 |some e=>
  simp only[Option.bind_some];cases hd:e.dst with
  |none=>rfl
  |some d=>
   have f:=i e d k hd;simp only[Option.bind_some];cases g:xs[d]? with
   |none=>
    have:ys[d]?=ns:=by rw[Array.getElem?_eq_none_iff] at g⊢;rw[<-h.size];exact g
    rw[this]
   |some x=>
    obtain⟨y,m,n⟩:=h.get f g;rw[m];cases n with
    |aW _ h=>cases y<;>first|rfl|exact absurd rfl (h.2.2 _)
    |_=>rfl
def cT.wanted{s:Nat->Prop}(h:cT φ s xs ys){c:Array akG}(hr:GV P s c)(i:Nat):((c[i]?).map (Region.wanted · (Go.yielded c ys))).getD Bz=((c[i]?).map (Region.wanted · (Go.yielded c xs))).getD Bz:=by
 cases e:c[i]? with
 |none=>rfl
 |some o=>
  simp only[Option.map_some,Option.getD_some];unfold Region.wanted;cases f:o.guard with
  |none=>rfl
  |some p=>obtain⟨j,d⟩:=p;dsimp only;rw[h.yielded c j ((hr i o e).2 j d f)]
def eX.finish{fr eq:ajs}(h:eX P φ fr eq)(z:¬wy fr)(A:VR φ v v'):eX P φ (fr.finish v) (eq.finish v'):=by
 obtain⟨fn,tmps,todo,defers,mode,kind,round⟩:=fr;obtain⟨B,p,q,n,r,w,o⟩:=eq;obtain⟨h1,c,C,d,e,f,g,j⟩:=h;subst h1;unfold Frame.finish;cases C with
 |stop _=>exact absurd ⟨_,rfl⟩ z
 |nil=>exact⟨rfl,c,.nil,d,e,f,g,j⟩
 |@cons x y xs ys D k=>
  cases D with
  |inRegion todo m=>
   cases todo with
   |nil=>exact⟨rfl,c,.cons (.inRegion [] m) k,d,e,f,g,j⟩
   |cons i rest=>
    refine⟨rfl,?_,.cons (.inRegion rest m) k,d,e,f,g,j⟩;dsimp only;split
    ·exact c.set _ A
    ·exact c
  |tk E=>exact⟨rfl,c,.cons (.sX E) k,d,e,f,g,j⟩
  |beginRound=>exact⟨rfl,c,k,d,e,f,g,j⟩
  |code h=>exact⟨rfl,c,.cons (.code h) k,d,e,f,g,j⟩
  |inBlock id=>exact⟨rfl,c,.cons (.inBlock id) k,d,e,f,g,j⟩
  |inLoop h=>exact⟨rfl,c,.cons (.inLoop h) k,d,e,f,g,j⟩
  |inScope h=>exact⟨rfl,c,.cons (.inScope h) k,d,e,f,g,j⟩
  |sX h=>exact⟨rfl,c,.cons (.sX h) k,d,e,f,g,j⟩
end
end
end Go.Proofs.Q0.aL
