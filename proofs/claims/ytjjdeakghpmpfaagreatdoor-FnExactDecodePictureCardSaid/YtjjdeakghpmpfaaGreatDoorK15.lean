import Derived.Test.YtjjdeakghpmpfaaGreatDoorK14
set_option maxRecDepth 100000
set_option maxHeartbeats 8000000
set_option linter.all false
open Go.Value renaming int->U,slice->Y,bool->a9,agg->a5,pointer->ci,tuple->dl,iface->em
open Go.IntKind renaming i64->O
open Go.Obj renaming cells->ac
open Go.Ending renaming returned->be
open Array renaming forIn_toList->ajB,range->ako
open Bool renaming false_eq_true->aiP,or_eq_true->akR
open Go renaming FuncId->akh,Program->Kx,TypeId->EV,Value->rl,behindNumber->ajk,byteOf->akF,underlying->ajg,zeroValue->ajS
open Go.Builtin renaming unsafeAdd_->ajo
open Go.Instr renaming beginRound->ake,endLoop->akD,endRound->ajO,enterLoop->ajE,fill->akk,takeDeferred->ajm,typeAssert->ajj
open Go.Op renaming eqGuardIn->ajK,equalIn->aiM
open Go.Sem renaming bind->akQ,pure->akg
open Std.Legacy.Range renaming forIn_eq_forIn_range'->aiR
namespace Go.Proofs
abbrev j9:=@Array.mem_toList_iff
def LZ{p:Prop}(h:p:=by subst e;exact QX (((h.mono hl).mono BB).mono wP) ((hzz.cells.mono BB).mono wP) λa b BF=>.pure (.agg BF.size BF.at_)):p:=h
end Go.Proofs
namespace Go.Proofs.Q0.aI
variable{t:EV}{a a' b b':Addr}{xs ys:Array rl}{x y v x' y' v':rl}{op:BinOp}{l l':Nat}
section
variable[ag]
section
variable{P:Kx}{K:aF}{φ:Ren}
def XE:Calm P (typeStr t):=((rj t).bind λi=>by
 dsimp only;split
 ·exact .unsupported _
 ·exact .ret _).calm
def abQ(elem:EV)(f:ag.cl a.block)(cb:ag.cl b.block)(g:AR φ a a')(h:AR φ b b'):
  SR P K aY φ (do if(<-sizeOf elem)≠0 then sameAddr a b else if a==b then pure true else pure ((<-choose .zeroSizeEq)=1):Sem Bool)
   (do if(<-sizeOf elem)≠0 then sameAddr a' b' else if a'==b' then pure true else pure ((<-choose .zeroSizeEq)=1):Sem Bool):=by
 refine SR.bind (eF elem) λi n _ d e=>?_;subst e;split
 ·exact Nd f cb (g.mono d) (h.mono d)
 ·show SR P K aY i (akQ (akg (a==b)) λc=>if c=true then pure true else choose .zeroSizeEq>>=λn=>pure (decide (n=1))) (akQ (akg (a'==b')) λc=>if c=true then pure true else choose .zeroSizeEq>>=λn=>pure (decide (n=1)));refine SR.bind (SR.test λw j hw=>(g.mono d).beq (h.mono d) hw f cb) λk c _ _ e=>?_;subst e;split
  ·exact .pure rfl
  ·exact SR.bind Em λm n _ _ e=>by subst e;exact .pure rfl
def zD{α d:Type}{c:Ren}{f f':α->d->Sem (ForInStep d)}(h:∀(φ:Ren),Ren.le c φ->∀a s,SR P K aY φ (f a s) (f' a s)):∀(l:List α)(φ:Ren),Ren.le c φ->∀(s:d),SR P K aY φ (forIn l s f) (forIn l s f')
 |[],_,_,_=>by simp only[List.forIn_nil];exact .pure rfl
 |a::l,φ,i,s=>by simp only[List.forIn_cons];refine SR.bind (h φ i a s) λj x _ g e=>?_;subst e;cases x with|done b=>exact .pure rfl|yield b=>exact zD h l j (Ren.le_trans i g) b
def zi{α d:Type}{c:Ren}{f f':α->d->Sem (ForInStep d)}{L:List α}(i:∀(φ:Ren),Ren.le c φ->∀a,a∈L->∀s,SR P K aY φ (f a s) (f' a s)):∀(l:List α),(∀a,a∈l->a∈L)->∀(φ:Ren),Ren.le c φ->∀(s:d),SR P K aY φ (forIn l s f) (forIn l s f')
 |[],_,_,_,_=>by simp only[List.forIn_nil];exact .pure rfl
 |a::l,hm,φ,j,s=>by simp only[List.forIn_cons];refine SR.bind (i φ j a (hm a aj) s) λk x _ g e=>?_;subst e;cases x with|done b=>exact .pure rfl|yield b=>exact zi i l (λa h=>hm a (by simp[h])) k (Ren.le_trans j g) b
def flat(P:Kx):Nat->EV->Bool
 |0,_=>false
 |n+1,t=>match P.underlying t with
  |some (.pointer _)|some .unsafePointer|some (.interface _)|some (.func ..)=>false
  |some (.struct fs)=>fs.all λf=>flat P n f.type
  |some (.array _ e)=>flat P n e
  |_=>true
def zj(hG:K.G=P.globals.size):∀(d n:Nat)(φ:Ren)(t:EV){x x' y y':rl},flat P n t=true->VR φ x x'->VR φ y y'->SR P K aY φ (aiM d t x y) (aiM d t x' y')
 |0,_,_,_,_,_,_,_,_,_,_=>.halt _ _
 |_,0,_,_,_,_,_,_,j,_,_=>by cases j
 |d+1,n+1,φ,t,x,x',y,y',j,p,m=>by
  unfold aiM;refine SR.bind (mH t) λH X _ V e=>?_;obtain⟨rfl,hu⟩:=e;unfold flat at j;rw[hu] at j;replace p:=p.mono V;replace m:=m.mono V;cases X with
  |bool=>cases p<;>(cases m<;>first|exact .pure rfl|exact .halt _ _)
  |int k=>
   cases p with
   |int k1 Z=>
    cases m with
    |int k2 W=>
     dsimp only;split
     ·exact .pure rfl
     ·exact .halt _ _
    |nilPtr=>exact .halt _ _
    |ptr h=>rcases Z with(_|n)|n<;>first|exact .pure rfl|exact .halt _ _
    |_=>exact .halt _ _
   |nilPtr=>cases m<;>exact .halt _ _
   |ptr h=>
    cases m with
    |ptr I=>exact OJ hG t h I
    |nilPtr=>exact .halt _ _
    |int k2 W=>rcases W with(_|n)|n<;>first|exact .pure rfl|exact .halt _ _
    |_=>exact .halt _ _
   |_=>cases m<;>exact .halt _ _
  |string=>cases p<;>(cases m<;>first|exact .pure rfl|exact .halt _ _)
  |pointer elem=>cases j
  |unsafePointer=>cases j
  |interface ms=>cases j
  |slice e=>
   cases p with
   |dk n c=>cases m<;>first|exact .pure rfl|exact .halt _ _
   |slice n c h=>cases m<;>first|exact .pure rfl|exact .halt _ _
   |empty=>cases m<;>first|exact .pure rfl|exact .halt _ _
   |_=>cases m<;>exact .halt _ _
  |func a b c=>cases j
  |struct g=>
   cases p with
   |@agg xs w z A=>
    cases m with
    |@agg ys B C D=>
     have h1:ax H xs w:=⟨z,A⟩;have I:ax H ys B:=⟨C,D⟩
     have N:∀f∈g.toList,flat P n f.type=true:=λf h=>by have j:g.all (λf=>flat P n f.type)=true:=j;rw[Array.all_eq_true_iff_forall_mem] at j;exact j f (j9.1 h)
     refine SR.ask ?_ (by simp only[CM]);split
     ·exact .dead (eG eP)
     ·rw[<-ajB,<-ajB];refine SR.bind (zi (λQ hle f J s=>?_) g.toList (λf h=>h) H (Ren.le_refl _) _) λQ r _ _ e=>?_
      ·split
       ·refine SR.bind (kV f.type (h1.mono hle) f.offset) λq a a' E S=>?_;refine SR.bind (kV f.type ((I.mono hle).mono E) f.offset) λq b b' F T=>?_;refine SR.bind (zj hG d n q f.type (N f J) (S.mono F) T) λq c _ _ e=>?_;subst e;cases c<;>exact .pure rfl
       ·exact .pure rfl
      ·subst e;obtain⟨o,u⟩:=r;cases o<;>exact SR.pure (R:=aY) rfl
    |_=>exact .halt _ _
   |_=>cases m<;>exact .halt _ _
  |array len elem=>
   have j:flat P n elem=true:=j;obtain⟨M,hnF,j⟩:∃M,M=n/\flat P M elem=true:=⟨n,rfl,j⟩;cases p with
   |@agg xs w z A=>
    cases m with
    |@agg ys B C D=>
     have h1:ax H xs w:=⟨z,A⟩;have I:ax H ys B:=⟨C,D⟩;refine SR.bind (eF elem) λQ n _ L e=>?_;subst e;rw[aiR,aiR];refine SR.bind (zD (λq hle i s=>?_) _ Q (Ren.le_refl _) _) λq r _ _ e=>?_
     ·refine SR.bind (kV elem ((h1.mono L).mono hle) _) λq a a' E S=>?_;refine SR.bind (kV elem (((I.mono L).mono hle).mono E) _) λq b b' F T=>?_;refine SR.bind (zj hG d M q elem j (S.mono F) T) λq c _ _ e=>?_;subst e;cases c<;>exact .pure rfl
     ·subst e;obtain⟨o,u⟩:=r;cases o<;>exact SR.pure (R:=aY) rfl
    |_=>exact .halt _ _
   |_=>cases m<;>exact .halt _ _
  |_=>cases p<;>(cases m<;>first|exact .halt _ _|exact .pure rfl)
def nu(P:Kx):Prop:=(∀t,ag.np t->∃n,flat P n t=true)/\∀t,ag.hd t->∀e,P.underlying t≠some (.pointer e)
def lL(P:Kx)(t:EV)(x y:rl):Prop:=(∃n,flat P n t=true)\/(∃c,P.underlying t=some (.interface c))\/((∃e,P.underlying t=some (.pointer e))/\(x=.pointer none\/y=.pointer none))
def lL.oa{t:EV}{x y:rl}(h:lL P t x y){a:Array EV}{b c}:P.underlying t≠some (.func a b c):=by
 intro e;rcases h with⟨n,d⟩|⟨g,f⟩|⟨⟨i,he⟩,_⟩
 ·cases n with|zero=>cases d|succ n=>unfold flat at d;rw[e] at d;cases d
 ·simp_all
 ·simp_all
def zk(t:EV)(h:ax φ xs ys)(k:∀(i:Nat) x,xs[i]?=some x->Tk x)(off:Nat):SR P K (λf a b=>VR f a b/\Tk a) φ (part t xs off) (part t ys off):=by
 refine SR.bind (Ex t) λf b _ g e=>?_;subst e;cases b with
 |true=>
  refine SR.bind (eF t) λo n _ c e=>?_;subst e;have:=((h.mono g).mono c).extract off (off+n);refine .pure ⟨.agg this.size this.at_,.agg λi x d=>?_⟩;rw[Array.getElem?_extract] at d;split at d
  ·grind
  ·cases d
 |false=>
  cases hi:xs[off]? with
  |none=>exact .halt _ _
  |some x=>obtain⟨y,j,m⟩:=h.get hi;rw[j];exact .pure ⟨m.mono g,k _ _ hi⟩
def Fw(hG:K.G=P.globals.size):∀(d:Nat)(φ:Ren)(t:EV){x x' y y':rl},Tk x->Tk y->VR φ x x'->VR φ y y'->SR P K aY φ (aiM d t x y) (aiM d t x' y')
 |0,_,_,_,_,_,_,_,_,_,_=>.halt _ _
 |d+1,φ,t,x,x',y,y',X,Q,q,g=>by
  unfold aiM;refine SR.bind (dX t) λD C _ S e=>?_;subst e;replace q:=q.mono S;replace g:=g.mono S;cases X with
  |ptr w=>
   cases q with|ptr q=>
   cases Q with
   |ptr j=>
    cases g with|ptr g=>
    cases C with|int k=>exact OJ hG t q g|pointer elem=>exact abQ elem w j q g|unsafePointer=>exact Nd w j q g|_=>exact .halt _ _
   |agg E=>cases g with|agg _ _=>cases C<;>exact .halt _ _
  |@agg xs T=>
   cases q with
   |@agg _ F H I=>
    cases Q with
    |ptr j=>cases g with|ptr g=>cases C<;>exact .halt _ _
    |@agg ys E=>
     cases g with
     |@agg _ J L M=>
      have h1:ax D xs F:=⟨H,I⟩;have V:ax D ys J:=⟨L,M⟩;cases C with
      |struct m=>
       refine SR.ask ?_ (by simp only[CM]);split
       ·exact .dead (eG eP)
       ·rw[<-ajB,<-ajB];refine SR.bind (zi (λN hle f W s=>?_) m.toList (λf h=>h) D (Ren.le_refl _) _) λN r _ _ e=>?_
        ·split
         ·refine SR.bind (zk f.type (h1.mono hle) T f.offset) λp a a' z w=>?_;refine SR.bind (zk f.type ((V.mono hle).mono z) E f.offset) λp b b' A j=>?_;refine SR.bind (Fw hG d p f.type w.2 j.2 (w.1.mono A) j.1) λp c _ _ e=>?_;subst e;cases c<;>exact .pure rfl
         ·exact .pure rfl
        ·subst e;obtain⟨o,u⟩:=r;cases o<;>exact SR.pure (R:=aY) rfl
      |array len elem=>
       refine SR.bind (eF elem) λN n _ B e=>?_;subst e;rw[aiR,aiR];refine SR.bind (zD (λp hle i s=>?_) _ N (Ren.le_refl _) _) λp r _ _ e=>?_
       ·refine SR.bind (zk elem ((h1.mono B).mono hle) T _) λp a a' z w=>?_;refine SR.bind (zk elem (((V.mono B).mono hle).mono z) E _) λp b b' A j=>?_;refine SR.bind (Fw hG d p elem w.2 j.2 (w.1.mono A) j.1) λp c _ _ e=>?_;subst e;cases c<;>exact .pure rfl
       ·subst e;obtain⟨o,u⟩:=r;cases o<;>exact SR.pure (R:=aY) rfl
      |_=>exact .halt _ _
def Ze(hG:K.G=P.globals.size)(B:nu P):∀(d:Nat)(φ:Ren)(t:EV){x x' y y':rl},lL P t x y->VR φ x x'->VR φ y y'->SR P K aY φ (aiM d t x y) (aiM d t x' y')
 |0,_,_,_,_,_,_,_,_,_=>.halt _ _
 |d+1,φ,t,x,x',y,y',hc,j,g=>by
  rcases hc with⟨n,C⟩|⟨L,r⟩|⟨⟨e,he⟩,s⟩
  ·exact zj hG _ n φ t C j g
  ·unfold aiM;refine SR.bind (mH t) λD E _ m e=>?_;obtain⟨rfl,hu⟩:=e;rw[r] at hu;cases hu;replace j:=j.mono m;replace g:=g.mono m;cases j with
   |nilIface=>cases g<;>first|exact .pure rfl|exact .halt _ _
   |@iface k F u A hp=>
    cases g with
    |nilIface=>exact .pure rfl
    |@iface ty H w o f=>
     dsimp only;split
     ·exact .pure rfl
     ·rename_i q;simp only[ne_eq,Decidable.not_not] at q;subst q;refine SR.bind (l6 k) λz M _ i e=>?_;subst e;split
      ·refine .dead (eZ λp=>?_);refine eZ λN=>?_;split
       ·exact eG eP
       ·exact eZ (λ_=>dB _) XE
      ·have c:ag.np k->SR P K aY z (aiM d k F H) (aiM d k u w):=λh=>by obtain⟨n,I⟩:=B.1 k h;exact zj hG d n z k I (A.mono i) (o.mono i)
       rcases hp.or with hp|hp
       ·exact c hp
       ·rcases f.or with f|f
        ·exact c f
        ·exact Fw hG d z k hp f (A.mono i) (o.mono i)
    |_=>exact .halt _ _
   |_=>cases g<;>exact .halt _ _
  ·unfold aiM;refine SR.bind (mH t) λD E _ m J=>?_;obtain⟨rfl,hu⟩:=J;rw[he] at hu;cases hu;replace j:=j.mono m;replace g:=g.mono m;rcases s with rfl|rfl
   ·cases j with|nilPtr=>cases g<;>first|exact .pure rfl|exact .halt _ _
   ·cases g with|nilPtr=>cases j<;>first|exact .pure rfl|exact .halt _ _
end
end
section
variable[ag]
section
variable{P:Kx}{K:aF}{φ:Ren}
def RV{u:rl}(e:VR φ x u)(f:VR φ y v):ax φ #[x,y] #[u,v]:=by
 refine⟨rfl,λi a b c d=>?_⟩
 match i with
 |0=>simp at c d;subst c;subst d;exact e
 |1=>simp at c d;subst c;subst d;exact f
 |i+2=>simp at c
def L2(P:Kx):∀(d:Nat)(t:EV)(b:Nat),cellOfByte P.two d t b=cellOfByte P d t b
 |0,_,_=>rfl
 |d+1,t,b=>by unfold cellOfByte;have c:cellOfByte P.two d=cellOfByte P d:=funext λt=>funext λo=>L2 P d t o;rw[c];rfl
def WA(P:Kx)(d:Nat)(e:EV)(k o:Nat)(n:Int):cellAtBytes P.two d e k o n=cellAtBytes P d e k o n:=by unfold cellAtBytes;have h1:=funext λt=>funext λo=>Df P d t o;have c:=funext λt=>funext λo=>L2 P d t o;rw[h1,c];rfl
def PpR(φ:Ren)(z c:rl):Prop:=∃a a',z=.pointer (some a)/\c=.pointer (some a')/\AR φ a a'
def Mq(t:EV)(k:VR φ x x')(j:VR φ y y'):SR P K PpR φ (ajo #[] t #[x,y]) (ajo #[] t #[x',y']):=by
 cases k with
 |nilPtr=>
  refine SR.bind (uV j) λm n _ c e=>?_;refine .dead ?_;dsimp only;by_cases d:n=0
  ·rw[if_pos d];exact eG eP
  ·rw[if_neg d];split
   ·exact eG eP
   ·exact eP
 |@ptr a a' g=>
  refine SR.bind (uV j) λm n _ c e=>?_;subst e;dsimp only;by_cases d:n=0
  ·rw[if_pos d,if_pos d];refine SR.bind (Og (g.mono c).block) λo v v' i h=>?_;obtain⟨rfl,rfl⟩:=h;exact .pure ⟨_,_,rfl,rfl,(g.mono c).mono i⟩
  ·rw[if_neg d,if_neg d];split
   ·exact .dead (eG eP)
   ·refine SR.shape (g.mono c).block (λs=>?_) λs=>.halt _ _;cases s with
    |none=>exact .halt _ _
    |some x=>obtain⟨e,f⟩:=x;refine SR.ask ?_ (by simp only[WA];rfl);rw[(g.mono c).off];cases cellAtBytes P P.depth e (f/P.cellsOf e) a.off n with|none=>exact .halt _ _|some off=>exact .pure ⟨_,_,rfl,rfl,(g.mono c).block,rfl,(g.mono c).spot⟩
 |_=>exact .halt _ _
def DD(t:EV){u c:rl}(h:VR φ v v')(d:VR φ u c):SR P K VR φ (ajo #[] t #[v,u]) (ajo #[] t #[v',c]):=
 (Mq t h d).mono λe a b h=>by obtain⟨_,_,rfl,rfl,h⟩:=h;exact .ptr h
def Yg(c:AR φ a a')(l:Bool):SR P K VR φ (asNumber a l) (asNumber a' l):=
 SR.new (.number l c) trivial λe r f _ d=>.pure (.ptr ⟨d,rfl,rfl⟩)
def OL{α:Type}{f:TypeDesc->Sem α}(h:∀d,P.underlying t=some d->fh P (f d)):fh P (ajg t>>=f):=by intro w;have e:(ajg t>>=f).run P w=((match P.underlying t with|some d=>pure d|none=>stuck "no such type" :Sem TypeDesc).bind f).run P w:=rfl;rw[e];cases hq:P.underlying t with|none=>exact⟨_,_,rfl,trivial,.refl w⟩|some d=>exact h d hq w
def AP(P:Kx)(t:EV):Prop:=∀a b c,P.underlying t≠some (.func a b c)
def abR{t:EV}(e:AP P t):∀(d:Nat)(x:rl),fh P (aiM d t x aX)
 |0,_=>eP
 |d+1,x=>by unfold aiM;refine OL λf c=>?_;split<;>first|exact gI|exact eP|contradiction|exact absurd c (e _ _ _)
def abS{t:EV}(e:AP P t):∀(d:Nat)(y:rl),fh P (aiM d t aX y)
 |0,_=>eP
 |d+1,y=>by unfold aiM;refine OL λf c=>?_;split<;>first|exact gI|exact eP|contradiction|exact absurd c (e _ _ _)
def rK(c:op=.eql\/op=.neq->AP P t):fh P (binOp op t x aX):=by unfold binOp;split<;>first|exact gI|exact eP|contradiction|exact eG (abR (c aj) _ _)
def OM(c:op=.eql\/op=.neq->AP P t):fh P (binOp op t aX y):=by unfold binOp;split<;>first|exact gI|exact eP|contradiction|exact eG (abS (c aj) _ _)
def rL(t:EV)(x y:rl):Sem rl:=do
 let .pointer (some n):=x|ajo #[] t #[x,y]
 let(a,c)<-ajk n
 match<-ajo #[] t #[.pointer (some a),y] with
 |.pointer (some b)=>asNumber b c
 |v=>pure v
def XF(t:EV)(d:VR φ x x')(e:VR φ y y'):SR P K VR φ (rL t x y) (rL t x' y'):=by
 have other:SR P K VR φ (ajo #[] t #[x,y]) (ajo #[] t #[x',y']):=DD t d e;cases d with
 |@ptr a a' g=>refine SR.bind (nK g) λo u f c h=>?_;obtain⟨u,i⟩:=u;obtain⟨f,j⟩:=f;obtain⟨h1,k⟩:=h;subst k;refine SR.bind (Mq t (.ptr h1) (e.mono c)) λp z q _ m=>?_;obtain⟨_,_,rfl,rfl,n⟩:=m;exact Yg n i
 |aX _ _=>exact .dead gI
 |_=>exact other
def ux(t:EV)(f:VR φ x x')(g:VR φ y y'):SR P K VR φ (movedNumber t x y) (movedNumber t x' y'):=by
 show SR P K VR φ (ajg t>>=λd=>if(d matches .unsafePointer) then(unsupported (.unsafePointer "arithmetic at a pointer's type")>>=λ(_:Unit)=>rL t x y) else rL t x y)
  (ajg t>>=λd=>if(d matches .unsafePointer) then(unsupported (.unsafePointer "arithmetic at a pointer's type")>>=λ(_:Unit)=>rL t x' y') else rL t x' y')
 refine SR.bind (dX t) λh d _ c e=>?_;subst e;split
 ·exact .dead (eG eP)
 ·exact XF t (f.mono c) (g.mono c)
def WB(t:EV)(d:VR φ x x')(e:VR φ y y'):SR P K VR φ (movedPointer t x y) (movedPointer t x' y'):=by
 have other:=DD (P:=P) (K:=K) t d e;cases d with
 |@ptr a a' f=>
  refine SR.bind (Nf f.block) λg u i c h=>?_;rcases h with⟨rfl,rfl⟩|⟨x,y,l,rfl,rfl,h⟩
  ·exact DD t (.ptr (f.mono c)) (e.mono c)
  ·exact .dead (eG eP)
 |aX _ _=>exact .dead gI
 |_=>exact other
def ML(hG:K.G=P.globals.size)(d:AR φ a a')(g:AR φ b b'):SR P K aY φ (Op.twoPlaces a b) (Op.twoPlaces a' b'):=by
 refine SR.ask ?_
 have rest:∀f,Ren.le φ f->SR P K aY f (akF a>>=λx=>akF b>>=λy=>pure (x,y)) (akF a'>>=λx=>akF b'>>=λy=>pure (x,y)):=λf h=>
  SR.bind (pv (d.mono h)) λk x _ i e=>by subst e;exact SR.bind (pv ((g.mono h).mono i)) λm y _ _ e=>by subst e;exact .pure rfl
 show SR P K aY φ (akQ (akg (a.block !=b.block||decide (a.block>=P.globals.size))) λc=>if c=true then(unsupported .addressObserved>>=λ_=>akF a>>=λx=>akF b>>=λy=>pure (x,y)) else akF a>>=λx=>akF b>>=λy=>pure (x,y))
  (akQ (akg (a'.block !=b'.block||decide (a'.block>=P.globals.size))) λc=>if c=true then(unsupported .addressObserved>>=λ_=>akF a'>>=λx=>akF b'>>=λy=>pure (x,y)) else akF a'>>=λx=>akF b'>>=λy=>pure (x,y))
 refine SR.bind (SR.test λw n hw=>?_) λf c _ h e=>?_
 ·have o:=hw.heap.low _ _ d.block;rw[Bool.eq_iff_iff,akR,akR,decide_eq_true_eq,decide_eq_true_eq,bne_iff_ne,bne_iff_ne];constructor
  ·rintro(e|e)
   ·refine .inl λj=>e ?_;have:=d.block;rw[j,g.block] at this;exact(aL this).symm
   ·omega
  ·rintro(e|e)
   ·by_cases j:a'.block=b'.block
    ·refine .inr ?_;have h1:=((hw.heap.inj _ _ _ d.block (by rw[j];exact g.block)).resolve_left e).2.2.2;omega
    ·omega
   ·omega
 ·subst e;split
  ·exact .dead (eG eP)
  ·simp_all
def Zf(hG:K.G=P.globals.size){k:IntKind}(c:AR φ a a')(d:AR φ b b'):SR P K VR φ (Op.addrSub k a b) (Op.addrSub k a' b'):=
 SR.bind (ML hG c d) λf x _ _ e=>by subst e;exact .pure (.int _ _)
def Zg(hG:K.G=P.globals.size)(c:AR φ a a')(d:AR φ b b'):SR P K VR φ (Op.addrCmp op a b) (Op.addrCmp op a' b'):=
 SR.bind (ML hG c d) λf x _ _ e=>by subst e;cases op<;>first|exact .pure (.bool _)|exact .halt _ _
def DY(k:IntKind)(c:AR φ a a')(n:Int):SR P K VR φ (Op.addrMod k a n) (Op.addrMod k a' n):=by
 refine aa4 c.block (λs=>?_) λs=>.halt _ _;cases s with
 |none=>exact .halt _ _
 |some x=>
  obtain⟨e,f⟩:=x;refine SR.bind (l6 e) λg h _ d e=>?_;subst e;dsimp only;split
  ·exact .dead (eG eP)
  ·exact SR.bind (pv (c.mono d)) λi b _ _ e=>by subst e;exact .pure (.int _ _)
def PY(hG:K.G=P.globals.size)(c:nu P)(hc:lL P t x y)(d:VR φ x x')(e:VR φ y y'):SR P K aY φ (Op.equal t x y) (Op.equal t x' y'):=Ze hG c _ φ t hc d e
def abT(hG:K.G=P.globals.size)(hc:op=.eql\/op=.neq->nu P/\lL P t x y)(w:VR φ x x')(o:VR φ y y'):SR P K VR φ (binOp op t x y) (binOp op t x' y'):=by
 have eqv:op=.eql\/op=.neq->SR P K VR φ (Op.equal t x y>>=λb=>pure (.bool b)) (Op.equal t x' y'>>=λb=>pure (.bool b)):=λh=>SR.bind (PY hG (hc h).1 (hc h).2 w o) λi b _ _ e=>by subst e;exact .pure (.bool _)
 have g:op=.eql\/op=.neq->SR P K VR φ (Op.equal t x y>>=λb=>pure (.bool (!b))) (Op.equal t x' y'>>=λb=>pure (.bool (!b))):=λh=>SR.bind (PY hG (hc h).1 (hc h).2 w o) λi b _ _ e=>by subst e;exact .pure (.bool _)
 have p:SR P K VR φ (ajg t>>=λd=>if(d matches .unsafePointer) then movedPointer t x y else movedNumber t x y) (ajg t>>=λd=>if(d matches .unsafePointer) then movedPointer t x' y' else movedNumber t x' y'):=
  SR.bind (dX t) λi d _ j e=>by
   subst e;split
   ·exact WB t (w.mono j) (o.mono j)
   ·exact ux t (w.mono j) (o.mono j)
 have E:∀{a a':Addr}{β:Type}{R:Ren->β->β->Prop}{f I:Addr->Sem β},AR φ a a'->(∀i c A,Ren.le φ i->AR i c A->SR P K R i (f c) (I A))->SR P K R φ (ajk a>>=λz=>f z.1) (ajk a'>>=λz=>I z.1):=λq J=>SR.bind (nK q) λi z N j h=>J i _ _ j h.1
 cases w with
 |@int k n=>
  cases o with
  |@int D m=>
   have B:SR P K VR φ (if k≠D then stuck "BinOp: operands of different kinds" else
     match op with
     |.add|.sub|.mul=>Op.intArith op k n m
     |.quo|.rem=>Op.intDiv op k n m
     |.and|.or|.xor|.andNot=>Op.intBits op k n m
     |_=>Op.intCmp op n m) (if k≠D then stuck "BinOp: operands of different kinds" else
     match op with
     |.add|.sub|.mul=>Op.intArith op k n m
     |.quo|.rem=>Op.intDiv op k n m
     |.and|.or|.xor|.andNot=>Op.intBits op k n m
     |_=>Op.intCmp op n m):=by
    split
    ·exact .halt _ _
    ·cases op<;>first|exact Nc _ _ _ _|exact aah|exact NV _ _ _|exact aag
   cases op<;>first|exact PT .shl k n D m|exact PT .shr k n D m|exact B
  |nilPtr=>cases op<;>first|exact ux t .nilPtr (.int k n)|exact eqv (.inl rfl)|exact g (.inr rfl)|exact .halt _ _
  |@ptr b b' C=>cases op<;>first|exact ux t (.ptr C) (.int k n)|exact E C (λi c A _ hc=>DY k hc (n+1))|exact eqv (.inl rfl)|exact g (.inr rfl)|exact .halt _ _
  |aX _ _=>exact .dead (rK λh _ _ _=>(hc h).2.oa)
  |_=>cases op<;>first|exact eqv (.inl rfl)|exact g (.inr rfl)|exact .halt _ _
 |@string s=>
  cases o with
  |@string s2=>have str:SR P K VR φ (Op.stringOp op s s2) (Op.stringOp op s s2):=M7 op s s2;cases op<;>exact str
  |aX _ _=>exact .dead (rK λh _ _ _=>(hc h).2.oa)
  |_=>cases op<;>first|exact eqv (.inl rfl)|exact g (.inr rfl)|exact .halt _ _
 |@ptr a a' q=>
  cases o with
  |@int k n=>cases op<;>first|exact p|exact ux t (.ptr q) (.int k (-n))|exact E q (λi c A _ hc=>DY k hc n)|exact E q (λi c A _ hc=>DY k hc (n+1))|exact eqv (.inl rfl)|exact g (.inr rfl)|exact .halt _ _
  |@ptr b b' C=>
   have sub:SR P K VR φ (ajk a>>=λu=>ajk b>>=λv=>Op.addrSub .u64 u.1 v.1) (ajk a'>>=λu=>ajk b'>>=λv=>Op.addrSub .u64 u.1 v.1):=
    SR.bind (nK q) λi u L j h=>SR.bind (nK (C.mono j)) λM v v' r F=>Zf hG (h.1.mono r) F.1
   have H:SR P K VR φ (ajk a>>=λu=>ajk b>>=λv=>Op.addrCmp op u.1 v.1) (ajk a'>>=λu=>ajk b'>>=λv=>Op.addrCmp op u.1 v.1):=
    SR.bind (nK q) λi u L j h=>SR.bind (nK (C.mono j)) λM v v' r F=>Zg hG (h.1.mono r) F.1
   cases op<;>first|exact sub|exact H|exact eqv (.inl rfl)|exact g (.inr rfl)|exact .halt _ _
  |aX _ _=>exact .dead (rK λh _ _ _=>(hc h).2.oa)
  |_=>cases op<;>first|exact eqv (.inl rfl)|exact g (.inr rfl)|exact .halt _ _
 |nilPtr=>
  cases o with
  |@int k n=>cases op<;>first|exact p|exact ux t .nilPtr (.int k (-n))|exact eqv (.inl rfl)|exact g (.inr rfl)|exact .halt _ _
  |aX _ _=>exact .dead (rK λh _ _ _=>(hc h).2.oa)
  |_=>cases op<;>first|exact eqv (.inl rfl)|exact g (.inr rfl)|exact .halt _ _
 |aX _ _=>exact .dead (OM λh _ _ _=>(hc h).2.oa)
 |_=>cases o<;>first|exact .dead (rK λh _ _ _=>(hc h).2.oa)|(cases op<;>first|exact eqv (.inl rfl)|exact g (.inr rfl)|exact .halt _ _)
end
end
section
variable[ag]
section
variable{P:Kx}{K:aF}{φ:Ren}
def DF:∀(d n:Nat)(φ:Ren)(t:EV){x x' y y':rl},flat P n t=true->VR φ x x'->VR φ y y'->SR P K aY φ (ajK d t x y) (ajK d t x' y')
 |0,_,_,_,_,_,_,_,_,_,_=>.halt _ _
 |_,0,_,_,_,_,_,_,j,_,_=>by cases j
 |d+1,n+1,φ,t,x,x',y,y',j,F,m=>by
  unfold ajK;refine SR.bind (mH t) λG V _ T e=>?_;obtain⟨rfl,hu⟩:=e;unfold flat at j;rw[hu] at j;replace F:=F.mono T;replace m:=m.mono T;cases V with
  |interface X=>cases j
  |struct g=>
   cases F with
   |@agg xs p q w=>
    cases m with
    |@agg ys z A B=>
     have h1:ax G xs p:=⟨q,w⟩;have L:ax G ys z:=⟨A,B⟩
     have M:∀f∈g.toList,flat P n f.type=true:=λf h=>by have j:g.all (λf=>flat P n f.type)=true:=j;rw[Array.all_eq_true_iff_forall_mem] at j;exact j f (j9.1 h)
     dsimp only;rw[<-ajB,<-ajB];refine SR.bind (zi (λN hle f H s=>?_) g.toList (λf h=>h) G (Ren.le_refl _) _) λN r _ _ e=>?_
     ·split
      ·refine SR.bind (kV f.type (h1.mono hle) f.offset) λk a a' C Q=>?_;refine SR.bind (kV f.type ((L.mono hle).mono C) f.offset) λk b b' D S=>?_;refine SR.bind (DF d n k f.type (M f H) (Q.mono D) S) λk c _ _ e=>?_;subst e;cases c<;>exact .pure rfl
      ·exact .pure rfl
     ·subst e;obtain⟨o,u⟩:=r;cases o<;>exact SR.pure (R:=aY) rfl
    |aX _ E=>cases y'<;>first|exact .pure rfl|exact absurd rfl (E.1 _)
    |_=>exact .pure rfl
   |aX _ E=>cases x'<;>first|exact .pure rfl|exact absurd rfl (E.1 _)
   |_=>cases m<;>exact .pure rfl
  |array len elem=>
   have j:flat P n elem=true:=j;obtain⟨J,W,j⟩:∃J,J=n/\flat P J elem=true:=⟨n,rfl,j⟩;cases F with
   |@agg xs p q w=>
    cases m with
    |@agg ys z A B=>
     have h1:ax G xs p:=⟨q,w⟩;have L:ax G ys z:=⟨A,B⟩;refine SR.bind (eF elem) λN n _ I e=>?_;subst e;rw[aiR,aiR];refine SR.bind (zD (λk hle i s=>?_) _ N (Ren.le_refl _) _) λk r _ _ e=>?_
     ·refine SR.bind (kV elem ((h1.mono I).mono hle) _) λk a a' C Q=>?_;refine SR.bind (kV elem (((L.mono I).mono hle).mono C) _) λk b b' D S=>?_;refine SR.bind (DF d J k elem j (Q.mono D) S) λk c _ _ e=>?_;subst e;cases c<;>exact .pure rfl
     ·subst e;obtain⟨o,u⟩:=r;cases o<;>exact SR.pure (R:=aY) rfl
    |aX _ E=>cases y'<;>first|exact .pure rfl|exact absurd rfl (E.1 _)
    |_=>exact .pure rfl
   |aX _ E=>cases x'<;>first|exact .pure rfl|exact absurd rfl (E.1 _)
   |_=>cases m<;>exact .pure rfl
  |_=>cases F<;>(cases m<;>exact .pure rfl)
def Yh:∀(d:Nat)(φ:Ren)(t:EV){x x' y y':rl},lL P t x y->VR φ x x'->VR φ y y'->x≠aX->y≠aX->SR P K aY φ (ajK d t x y) (ajK d t x' y')
 |0,_,_,_,_,_,_,_,_,_,_,_=>.halt _ _
 |d+1,φ,t,x,x',y,y',hc,f,g,h,i=>by
  rcases hc with⟨n,j⟩|⟨r,c⟩|⟨⟨e,he⟩,k⟩
  ·exact DF _ n φ t j f g
  ·unfold ajK;refine SR.bind (mH t) λm o _ p e=>?_;obtain⟨rfl,hu⟩:=e;rw[c] at hu;cases hu;cases f with
   |aX=>exact absurd rfl h
   |nilIface=>cases g with|aX=>exact absurd rfl i|_=>exact .pure rfl
   |_=>exact .pure rfl
  ·unfold ajK;refine SR.bind (mH t) λm o _ p q=>?_;obtain⟨rfl,hu⟩:=q;rw[he] at hu;cases hu;exact .pure rfl
def ax.foldl_set(off:Nat):∀{us vs:List (rl×Nat)}{cs e:Array rl},us.length=vs.length->(∀(i:Nat)(u v:rl×Nat),us[i]?=some u->vs[i]?=some v->VR φ u.1 v.1/\u.2=v.2)->ax φ cs e->
  ax φ (us.foldl (λcs c=>cs.setIfInBounds (off+c.2) c.1) cs) (vs.foldl (λcs c=>cs.setIfInBounds (off+c.2) c.1) e)
 |[],[],_,_,_,_,h=>h
 |[],_::_,_,_,d,_,_=>by simp at d
 |_::_,[],_,_,d,_,_=>by simp at d
 |(u,i)::us,(v,j)::vs,cs,e,d,f,h=>by obtain⟨h1,g⟩:=f 0 (u,i) (v,j) rfl rfl;simp only at h1 g;subst g;exact ax.foldl_set (us:=us) (vs:=vs) off (by simpa using d) (λn a b k hb=>f (n+1) a b (by simpa using k) tV) (h.set (off+i) h1)
inductive lR(φ:Ren):List (Nat×rl)->List (Nat×rl)->Prop
 |nil:lR φ [] []
 |cons (i:Nat) {x y:rl} {xs ys:List (Nat×rl)}:VR φ x y->lR φ xs ys->lR φ ((i,x)::xs) ((i,y)::ys)
def lR.mono{c:Ren}{xs ys:List (Nat×rl)}(h:lR φ xs ys)(k:Ren.le φ c):lR c xs ys:=by induction h with|nil=>exact .nil|cons i h _ d=>exact .cons i (h.mono k) d
def RX(c:Nat->Option (Nat×Nat)):∀{xs ys:List (Nat×rl)}{cs d:Array rl},lR φ xs ys->ax φ cs d->
  (akk c cs xs=none/\akk c d ys=none)\/∃a b,akk c cs xs=some a/\akk c d ys=some b/\ax φ a b
 |[],[],cs,d,_,h=>.inr ⟨cs,d,rfl,rfl,h⟩
 |(i,x)::xs,(_,y)::ys,cs,d,.cons _ e hr,h=>by
  unfold akk;cases j:c i with
  |none=>exact .inl ⟨rfl,rfl⟩
  |some p=>
   obtain⟨off,size⟩:=p;dsimp only;have hc:=e.cells;rw[hc.size,h.size];split
   ·exact .inl ⟨rfl,rfl⟩
   ·refine RX c hr ?_;simp only[<-Array.foldl_toList,Array.toList_zipIdx]
    exact ax.foldl_set off (by simp[hc.size]) (λn u v hu f=>by simp only[List.getElem?_zipIdx,Option.map_eq_some_iff] at hu f;obtain⟨a,g,rfl⟩:=hu;obtain⟨b,hb,rfl⟩:=f;exact⟨hc.at_ n a b (by simpa using g) tV,rfl⟩) h
def QX{d:Nat->Option (Nat×Nat)}{xs ys:List (Nat×rl)}{cs g:Array rl}(h:lR φ xs ys)(k:ax φ cs g){e:String}{R:Ren->rl->rl->Prop}{f f':Array rl->Sem rl}
  (j:∀a b,ax φ a b->SR P K R φ (f a) (f' b)):
  SR P K R φ (match akk d cs xs with|some c=>f c|_=>stuck e) (match akk d g ys with|some c=>f' c|_=>stuck e):=by
 rcases RX d h k with⟨h1,i⟩|⟨a,b,h1,i,m⟩
 ·rw[h1,i];exact .halt _ _
 ·simp_all
def Zh{α β:Type}{f:α->Sem β}(c:∀a,Looks P (f a))(xs:Array α):Looks P (xs.mapM f):=by
 rw[Array.mapM_eq_mapM_toList]
 have:∀l:List α,Looks P (l.mapM f):=λl=>by
  induction l with
  |nil=>simp only[List.mapM_nil];exact .ret _
  |cons a l d=>simp only[List.mapM_cons];exact(c a).bind λb=>d.bind λe=>.ret _
 exact(this xs.toList).bind λ_=>.ret _
def abU(g:bZ P)(t:EV){xs ys:Array (Nat×rl)}(h:lR φ xs.toList ys.toList):SR P K VR φ (Instr.build t xs) (Instr.build t ys):=by
 refine SR.bind (pk g t) λj z k hl hzz=>?_;refine SR.bind (dX t) λm d _ BB e=>?_;subst e;cases d with
 |struct c=>refine SR.bind ((Zh (λf=>(yL f.type).bind λn=>.ret (f.offset,n)) c).sr) λi o _ wP e=>?_;exact LZ
 |array n elem=>refine SR.bind (eF elem) λi s _ wP e=>?_;exact LZ
 |_=>exact .halt _ _
def WV(r:bZ P)(t:EV)(len:Nat){xs ys:Array (Nat×rl)}(h:lR φ xs.toList ys.toList):SR P K VR φ (Instr.buildSlice t len xs) (Instr.buildSlice t len ys):=by
 refine SR.bind (dX t) λw d _ s e=>?_;subst e;cases d with
 |slice elem=>
  refine SR.bind (eF elem) λq size _ n e=>?_;subst e;dsimp only
  have k:∀(j:Ren)(z m:Array rl),Ren.le q j->ax j z m->SR P K VR j
    (match akk (λi=>some (i*size,size)) ((ako (len*size)).map (z[· %z.size]!)) xs.toList with|some f=>newRow elem f>>=λa=>pure (.slice (some a) len len)|_=>stuck "buildSlice: a part of the wrong size")
    (match akk (λi=>some (i*size,size)) ((ako (len*size)).map (m[· %m.size]!)) ys.toList with|some f=>newRow elem f>>=λa=>pure (.slice (some a) len len)|_=>stuck "buildSlice: a part of the wrong size"):=λj z m hle g=>by
   refine QX (((h.mono s).mono n).mono hle) (ax.El λi=>?_) λa b o=>SR.bind (zb elem o) λu c A _ hc=>.pure (.slice _ _ hc);rw[g.size];exact g.GS DX
  split
  ·exact .dead (eG eP)
  ·split
   ·exact k q #[] #[] (Ren.le_refl _) .empty
   ·exact SR.bind (pk r elem) λj z m p g=>k j _ _ p g.cells
 |_=>exact .halt _ _
def PZ(ok:Bool)(h:VR φ v v'):SR P K VR φ (pure (if ok then .tuple #[v,.bool true] else v)) (pure (if ok then .tuple #[v',.bool true] else v')):=by cases ok with|false=>exact .pure h|true=>have:=RV h (VR.bool (φ:=φ) true);exact .pure (.tuple this.size this.at_)
def zE(d:bZ P)(ok:Bool)(c:EV)(a b:Option EV)(m:String):
  SR P K VR φ (if ok then(do pure (.tuple #[<-ajS c,.bool false])) else runtimePanic (.typeAssertion a b c m)) (if ok then(do pure (.tuple #[<-ajS c,.bool false])) else runtimePanic (.typeAssertion a b c m)):=by
 cases ok with
 |false=>simp only[aiP,if_false];exact .dead (dB _)
 |true=>exact SR.bind (pk d c) λe z f _ h=>by have:=RV h (VR.bool (φ:=e) false);exact .pure (.tuple this.size this.at_)
def Dt(k:bZ P)(f c:EV)(ok:Bool)(h:VR φ v v'):SR P K VR φ (ajj v f c ok) (ajj v' f c ok):=by
 refine SR.bind (dX c) λo d _ p e=>?_;subst e;replace h:=h.mono p
 have g:∀{t:EV}{x x':rl},VR o x x'->SR P K VR o (if t=c then pure (if ok then .tuple #[x,.bool true] else x) else(if ok then(do pure (.tuple #[<-ajS c,.bool false])) else runtimePanic (.typeAssertion (some f) (some t) c "")))
   (if t=c then pure (if ok then .tuple #[x',.bool true] else x') else(if ok then(do pure (.tuple #[<-ajS c,.bool false])) else runtimePanic (.typeAssertion (some f) (some t) c ""))):=λi=>by
  split
  ·exact PZ ok i
  ·exact zE k ok c _ _ _
 cases d with
 |interface j=>
  cases h with
  |nilIface=>exact zE k ok c none none ""
  |@iface t x x' i q=>refine SR.bind (l6 t) λs r _ n e=>?_;subst e;cases hm:Instr.missingMethod j r.methods with|none=>exact PZ ok (.iface t (i.mono n) q)|some m=>exact zE k ok c none (some t) m
  |_=>exact .halt _ _
 |_=>cases h with|nilIface=>exact zE k ok c (some f) none ""|iface t i _=>exact g i|_=>exact .halt _ _
end
end
section
variable[ag]
section
variable{P:Kx}{K:aF}{φ:Ren}
inductive nD(φ:Ren):Place->Place->Prop
 |val {v v':rl}:VR φ v v'->nD φ (.val v) (.val v')
 |var {a a':Addr}:AR φ a a'->nD φ (.var a) (.var a')
def nD.mono{c:Ren}{x y:Place}(h:nD φ x y)(k:Ren.le φ c):nD c x y:=by cases h with|val h=>exact .val (h.mono k)|var h=>exact .var (h.mono k)
def FV(t:EV){x y:Place}(h:nD φ x y):SR P K VR φ (x.get t) (y.get t):=by cases h with|val h=>exact .pure h|var h=>exact uH t h
def zl:∀(l:List FieldStep)(φ:Ren)(t:EV){x y:Place},nD φ x y->SR P K (λk a b=>a.1=b.1/\nD k a.2 b.2) φ (follow l t x) (follow l t y)
 |[],φ,t,x,y,h=>.pure ⟨rfl,h⟩
 |s::rest,φ,t,x,y,h=>by
  unfold follow;refine SR.bind (dX s.struct) λk d _ j e=>?_;subst e;cases d with
  |struct g=>
   dsimp only;cases g[s.index]? with
   |none=>exact .halt _ _
   |some f=>
    dsimp only;split
    ·refine SR.bind (FV t (h.mono j)) λu v v' m n=>?_;refine SR.bind (uR n) λw a a' o p=>?_;exact SR.bind (Dp p f) λc b b' _ i=>zl rest c f.type (.var i)
    ·cases h with
     |var h=>exact SR.bind (Dp (h.mono j) f) λc b b' _ i=>zl rest c f.type (.var i)
     |val h=>
      cases h.mono j with
      |agg q r=>exact SR.bind (kV f.type (ax.mk q r) f.offset) λc b b' _ i=>zl rest c f.type (.val i)
      |_=>exact .halt _ _
  |_=>exact .halt _ _
def Zi(t:EV){ts:Array EV}(h:VR φ v v'){a b:ByteArray}:SR P K VR φ (Builtin.ssaWrapNilChk_ ts t #[v,.string a,.string b]) (Builtin.ssaWrapNilChk_ ts t #[v',.string a,.string b]):=by
 cases h with
 |ptr h=>exact .pure (.ptr h)
 |nilPtr=>
  refine .dead ?_;refine eZ λn=>?_;dsimp only;split
  ·exact eG (dB _)
  ·cases ts[0]? with
   |none=>exact gI
   |some e=>
    refine eZ λd=>?_;cases d with
    |pointer t2=>
     refine eZ λc=>?_;cases c.desc with
     |named name u=>
      cases String.fromUTF8? b with
      |none=>exact gI
      |some m=>
       dsimp only;split
       ·exact dB _
       ·exact eP
     |_=>exact gI
    |_=>exact gI
 |_=>exact .halt _ _
def WW(f:EV){x y:Place}(h:nD φ x y)(g:Bool){c:Option String}:SR P K VR φ (receiverAt f x g c) (receiverAt f y g c):=by
 refine SR.bind (dX f) λp d _ m e=>?_;subst e;replace h:=h.mono m;have get:=FV (P:=P) (K:=K) f h;cases g with
 |true=>
  cases d with
  |pointer elem=>exact get
  |_=>cases h with|var h=>exact .pure (.ptr h)|val h=>exact .halt _ _
 |false=>
  cases d with
  |pointer elem=>
   cases c with
   |none=>exact SR.bind get λi v v' _ j=>SR.bind (R:=VR) (.pure j) λi u n _ hu=>SR.bind (uR hu) λo a a' _ k=>uH elem k
   |some name=>exact SR.bind get λi v v' _ j=>SR.bind (Zi f j) λi u n _ hu=>SR.bind (uR hu) λo a a' _ k=>uH elem k
  |_=>exact get
def sG(P:Kx)(name:String):Prop:=∀t i m f b,P.info? t=some i->i.methods.find? (·.name==name)=some m->m.func=some (f,b)->ag.ok f
def ON{name:String}(hm:sG P name):∀(n:Nat)(φ:Ren)(t:EV){v v':rl},VR φ v v'->SR P K (λc a b=>a.1=b.1/\ag.ok a.1/\VR c a.2 b.2) φ (method n t v name) (method n t v' name)
 |0,_,_,_,_,_=>.halt _ _
 |n+1,φ,t,v,v',h=>by
  unfold method;refine SR.bind (My t) λc o _ r e=>?_;obtain⟨rfl,d⟩:=e;dsimp only;cases g:o.methods.find? (·.name==name) with
  |none=>exact .halt _ _
  |some m=>
   dsimp only;refine SR.bind (zl m.path.toList c t (.val (h.mono r))) λD x y s i=>?_;obtain⟨p,x⟩:=x;obtain⟨E,y⟩:=y;obtain⟨e,j⟩:=i;simp only at e j;subst e;dsimp only;cases w:m.func with
   |none=>refine SR.bind (FV p j) λq u z A hu=>?_;cases hu with|iface t2 B=>exact ON hm n q t2 B|nilIface=>exact .dead (dB _)|_=>exact .halt _ _
   |some C=>obtain⟨f,b⟩:=C;have k:=hm t o m f b d g w;exact SR.bind (WW p j b) λq u z _ hu=>.pure ⟨rfl,k,hu⟩
inductive NR(φ:Ren):Next->Next->Prop
 |value {v v':rl}:VR φ v v'->NR φ (.value v) (.value v')
 |skip:NR φ .skip .skip
 |enter (f:akh) {xs ys:Array rl}:ag.ok f->ax φ xs ys->NR φ (.enter f xs) (.enter f ys)
 |round {l l':Nat} (f:akh) {xs ys:Array rl} (a b:Code):φ l=some l'->cN φ (ag.lv f) xs ys->ag.cd f a->ag.cd f b->ox f->NR φ (.round l f xs a b) (.round l' f ys a b)
def ep(φ:Ren):Prop:=∀g,ag.gl g->φ g=some g
def ep.mono{φ c:Ren}(h:ep φ)(k:Ren.le φ c):ep c:=λg d=>k _ _ (h g d)
def dn(P:Kx)(K:aF):Prop:=nu P/\(∀f,ag.fv f->ag.ok f)/\∀f,ag.ok f->∀(φ:Ren)(xs ys:Array rl),ep φ->ax φ xs ys->SR P K NR φ (callFunc f xs) (callFunc f ys)
def Ng{f:akh}{fn c:Func}(k:P.funcs[f]?=some fn)(o:fn.body.isSome=true)(m:(fn.name== "runtime.NumGoroutine")=false)
  (e:P.two.funcs[f]?=some c)(n:c.body.isSome=true)(g:(c.name== "runtime.NumGoroutine")=false)(i:ag.ok f){xs ys:Array rl}(h:ax φ xs ys):SR P K NR φ (callFunc f xs) (callFunc f ys):=by
 have j:fn.body.isNone=false:=eg;have d:c.body.isNone=false:=eg;refine SR.program ?_;simp only[akQ,k,e,m,g,j,d,aiP,if_false];exact .pure (.enter f i h)
def WX(hF:dn P K)(d:ep φ){name:String}(hm:sG P name)(h:VR φ v v')(c:ax φ xs ys):SR P K NR φ (callMethod v name xs) (callMethod v' name ys):=by
 unfold callMethod;cases h with
 |iface t n=>
  refine SR.ask ?_;refine SR.bind (ON hm _ φ t n) λo a b k g=>?_;obtain⟨f,r⟩:=a;obtain⟨q,s⟩:=b;obtain⟨e,j,p⟩:=g;subst e;refine hF.2.2 f j o _ _ (d.mono k) (ax.append ⟨rfl,λi x y c m=>?_⟩ (c.mono k))
  match i with
  |0=>simp at c m;subst c;subst m;exact p
  |i+1=>simp at c
 |nilIface=>exact .dead (dB _)
 |_=>exact .halt _ _
def uI(h:φ l=some l'):SR P K (λc a b=>cB c a b/\¬K.ro l/\¬K.tok l) φ (Instr.getLoop l) (Instr.getLoop l'):=by refine SR.getObj h (λo i d e f=>?_) (λs p=>gI) λa l=>gI;cases d with|loop g=>exact .pure ⟨g,e,f⟩|_=>exact .halt _ _
def MM{s:Nat->Prop}:∀(c:List Tmp){xs ys:List rl}{cs d:Array rl},gU φ xs ys->cN φ s cs d->
  cN φ s ((c.zip xs).foldl (λt p=>t.setIfInBounds p.1 p.2) cs) ((c.zip ys).foldl (λt p=>t.setIfInBounds p.1 p.2) d)
 |[],_,_,_,_,_,h=>h
 |_::_,[],[],_,_,.nil,h=>h
 |p::c,x::xs,y::ys,cs,d,.cons e hr,h=>MM c hr (h.set p e)
def P0(h:φ l=some l')(d:ax φ xs ys):SR P K NR φ (Instr.yield l xs) (Instr.yield l' ys):=by
 refine SR.bind (uI h) λg r i e c=>?_;obtain⟨c,_,_⟩:=c;rw[c.params,<-d.size];by_cases f:xs.size=r.params.size
 ·simp only[f,ne_eq,not_true_eq_false,if_false];rw[c.fn,c.assign,c.body];refine .pure (.round _ _ _ (e _ _ h) ?_ c.qv c.okB c.okF);simp only[<-Array.foldl_toList,Array.toList_zip];exact MM _ (d.mono e).toList c.tmps
 ·simp only[f,ne_eq,not_false_eq_true,if_true];exact .dead (eG gI)
def Mr(h:φ l=some l'):SR P K aY φ (ake l) (ake l'):=by refine SR.bind (uI h) λd r e f c=>?_;obtain⟨c,g,i⟩:=c;refine SR.setObj (f _ _ h) g i (.loop ⟨rfl,c.pending,c.fn,c.tmps,c.params,c.assign,c.body,c.defers,c.qv,c.okB,c.tn,c.okF⟩) trivial ?_;show SR P K aY d (match r.state with|.ready=>pure ()|.done=>runtimePanic _|.busy=>runtimePanic _|.exhausted=>runtimePanic _) (match e.state with|.ready=>pure ()|.done=>runtimePanic _|.busy=>runtimePanic _|.exhausted=>runtimePanic _);rw[c.state];cases r.state with|ready=>exact .pure rfl|_=>exact .dead (dB _)
def Nh(h:φ l=some l')(j:Option Code)(d:Jump j):SR P K VR φ (ajO l j) (ajO l' j):=by refine SR.bind (uI h) λi r k e c=>?_;obtain⟨c,f,g⟩:=c;exact SR.setObj (e _ _ h) f g (.loop ⟨rfl,rfl,c.fn,c.tmps,c.params,c.assign,c.body,c.defers,c.qv,c.okB,d,c.okF⟩) trivial (.pure (.bool _))
def N4(h:φ l=some l'):SR P K (λ_ a b=>a=b/\Jump a) φ (akD l) (akD l'):=by
 refine SR.bind (uI h) λg r i d c=>?_;obtain⟨c,e,f⟩:=c;rw[c.state,c.pending];split
 ·exact C3
 ·exact SR.setObj (d _ _ h) e f (.loop ⟨rfl,rfl,c.fn,c.tmps,c.params,c.assign,c.body,c.defers,c.qv,c.okB,c.tn,c.okF⟩) trivial (.pure ⟨rfl,c.tn⟩)
inductive DR(φ:Ren):Deferred->Deferred->Prop
 |mark {r r':Nat}:φ r=some r'->DR φ {target:=.collected r,args:=#[]} {target:=.collected r',args:=#[]}
inductive iZ(φ:Ren):List Deferred->List Deferred->Prop
 |nil:iZ φ [] []
 |cons {d d':Deferred} {ds wQ:List Deferred}:DR φ d d'->iZ φ ds wQ->iZ φ (d::ds) (d'::wQ)
def iZ.mono{c:Ren}{ds wQ:List Deferred}(h:iZ φ ds wQ)(k:Ren.le φ c):iZ c ds wQ:=by
 induction h with
 |nil=>exact .nil
 |cons h _ d=>cases h with|mark h=>exact .cons (.mark (k _ _ h)) d
def iZ.append{a b c d:List Deferred}(h:iZ φ a b)(k:iZ φ c d):iZ φ (a++c) (b++d):=by induction h with|nil=>exact k|cons h _ e=>exact .cons h e
inductive qN(φ:Ren):Option Nat->Option Nat->Prop
 |none:qN φ none none
 |some {l l':Nat}:φ l=some l'->qN φ (some l) (some l')
def MN(f:akh)(j:ox f)(k:cN φ (ag.lv f) xs ys)(m:Array Tmp)(a b:Code)(n:ag.cd f a)(o:ag.cd f b){l l':Option Nat}(h:qN φ l l'):
  SR P K (λd u v=>d u.1=some v.1/\iZ d u.2 v.2) φ (ajE f xs m a b l) (ajE f ys m a b l'):=by
 cases h with
 |none=>refine SR.new .deferred trivial λd r p g e=>?_;refine SR.new (.loop ⟨rfl,rfl,rfl,k.mono g,rfl,rfl,rfl,e,n,o,.inl rfl,j⟩) trivial λq s w c i=>?_;exact .pure ⟨i,.cons (.mark (c _ _ e)) .nil⟩
 |some h=>refine SR.bind (uI h) λd r p g e=>?_;refine SR.new (.loop ⟨rfl,rfl,rfl,k.mono g,rfl,rfl,rfl,e.1.defers,n,o,.inl rfl,j⟩) trivial λq s w c i=>?_;exact .pure ⟨i,.nil⟩
def C4{r c:Nat}(h:φ r=some c):SR P K (λ_ a b=>a=[]/\b=[]) φ (ajm r) (ajm c):=by refine SR.getObj h (λo g d e f=>?_) (λs p=>gI) λa l=>gI;cases d with|deferred=>exact SR.setObj h e f .taken trivial (.pure ⟨rfl,rfl⟩)|_=>exact .halt _ _
end
end
end Go.Proofs.Q0.aI
