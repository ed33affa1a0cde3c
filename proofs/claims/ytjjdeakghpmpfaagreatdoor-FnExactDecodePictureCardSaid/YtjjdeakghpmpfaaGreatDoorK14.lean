import Derived.Test.YtjjdeakghpmpfaaGreatDoorK13
set_option maxRecDepth 100000
set_option maxHeartbeats 8000000
set_option linter.all false
open Go.Value renaming int->U,slice->Y,bool->a9,agg->a5,pointer->ci,tuple->dl,iface->em
open Go.IntKind renaming i64->O
open Go.Obj renaming cells->ac
open Go.Ending renaming returned->be
open Array renaming append_empty->akW,forIn_toList->ajB
open Bool renaming and_eq_true->OF,eq_iff_iff->akP,false_eq_true->aiP
open Go renaming Addr->aiI,Event->ajl,Program->Kx,TypeId->EV,Value->rl,World->ns,behindNumber->ajk,byteOf->akF,numberAt->ajI,sameAddr->ajJ,underlying->ajg,zeroValue->ajS
open Go.Builtin renaming firstCells->aiU,zeroCells->ajc
open Go.Conv renaming bytesToString->akX
open Go.Sem renaming bind->akQ,pure->akg,runT->akf,runT_fst->ajf
open Go.World renaming frozen?->ais,shape?->ajQ
namespace Go.Proofs
def Kw{p:Prop}(h:p:=by show SR P K _ φ (loadCells a (0*size)) (loadCells a' (0*size));rw[Nat.zero_mul];exact .pure ⟨rfl,rfl⟩):p:=h
def C3{p:Prop}(h:p:=by exact .dead (eG (dB _))):p:=h
def Ky{p:Prop}(h:p:=by refine SR.bind (dX arr) λχ d _ _ e=>?_;subst e;cases d<;>first|exact .pure (.int _ _)|exact .halt _ _):p:=h
def Mo{p:Prop}(h:p:=by refine SR.bind (M7 _ _ _) λψ a b _ BF=>SR.bind (Oe BF) λχ x _ _ e=>?_;subst e;exact .pure (.string _)):p:=h
def yh{p:Prop}(h:p:=by split<;>first|exact .pure (.int _ _)|exact .halt _ _):p:=h
def Ch{p:Prop}(h:p:=by unfold sameAddr;rw[e1];rfl):p:=h
def Kz{p:Prop}(h:p:=by subst e;have h1:=ha.block;rw[hb.block] at h1;obtain⟨ab,ao,Ue⟩:=a';obtain⟨bb,bo,bsp⟩:=b';have h2:=ha.off;have h3:=ha.spot;have h4:=hb.off;have h5:=hb.spot;simp only[Option.some.injEq] at h1 h2 h3 h4 h5;rw[h1,h2,h3,h4,h5]):p:=h
end Go.Proofs
namespace Go.Proofs.Q0.aI
variable{v v' x x' s s':rl}{r n jp:Nat}{a b a' b':aiI}{base:Option aiI}{xs ys:Array rl}{o:Obj}{w w':ns}
section
variable[ag]
section
variable{P:Kx}{K:aF}{φ:Ren}
def ax.append{a b c d:Array rl}(h:ax φ a b)(k:ax φ c d):ax φ (a++c) (b++d):=by
 refine⟨by simp[h.size,k.size],λi x y f e=>?_⟩;rw[Array.getElem?_append] at f e;split at f
 ·rw[if_pos tU] at e;exact h.at_ i x y f e
 ·rw[if_neg tU,<-h.size] at e;exact k.at_ _ x y f e
def ax.zeroCells{z c:Array rl}(h:ax φ z c)(n:Nat):ax φ (ajc z n) (ajc c n):=by unfold ajc;rw[h.size];exact ax.El λi=>h.GS DX
def Fit(n:Nat)(v:rl):Prop:=∀p l c,v=.slice p l c->n<=l
def zh(h:VR φ v v'):SR P K (λ_ a b=>a=b/\Fit a v) φ (Builtin.lenOf v) (Builtin.lenOf v'):=by cases h with|dk n c=>exact .pure ⟨rfl,λ_ _ _ e=>by cases e;exact au _⟩|slice n c h=>exact .pure ⟨rfl,λ_ _ _ e=>by cases e;exact au _⟩|empty=>exact .pure ⟨rfl,λ_ _ _ e=>by cases e;exact au _⟩|string s=>exact .pure ⟨rfl,λ_ _ _ e=>by cases e⟩|_=>exact .halt _ _
def ax.ofMap{α:Type}(xs:Array α)(f:α->rl)(e:∀a,VR φ (f a) (f a)):ax φ (xs.map f) (xs.map f):=by refine⟨rfl,λi x y c d=>?_⟩;rw[c] at d;cases d;rw[Array.getElem?_map] at c;cases hq:xs[i]? with|none=>rw[hq] at c;cases c|some a=>rw[hq] at c;cases c;exact e a
def Dm(size:Nat)(h:VR φ v v'):SR P K (λ_ a b=>a=#[]/\b=#[]) φ (aiU size 0 v) (aiU size 0 v'):=by
 have d:∀s:ByteArray,((s.extract 0 0).data.map λb=>Value.int .u8 b.toNat)=#[]:=λs=>by simp[ByteArray.data_extract]
 cases h with
 |dk m c=>exact .pure ⟨rfl,rfl⟩
 |@slice a a' m c h=>exact Kw
 |@empty a a'=>exact Kw
 |string s=>exact .pure ⟨d s,d s⟩
 |_=>exact .halt _ _
def yG(size n:Nat)(h:VR φ v v')(d:Fit n v):SR P K ax φ (aiU size n v) (aiU size n v'):=by
 cases h with
 |dk m c=>exact .pure .empty
 |slice m c h=>exact Dv h _
 |empty=>obtain rfl:n=0:=Nat.le_zero.1 (d _ _ _ rfl);exact(Dm size .empty).mono λ_ _ _ e=>by rw[e.1,e.2];exact .empty
 |string s=>exact .pure (ax.ofMap _ _ λb=>.int _ _)
 |_=>exact .halt _ _
def Zb:Calm P (shape r):=nW λw=>⟨_,_,rfl,.refl w⟩
def Ye:Calm P (frozen a):=nW λw=>⟨_,_,rfl,.refl w⟩
def KC:Calm P (Builtin.holdsCells a n):=mO Zb λs=>by cases s<;>exact jI
def WU{size:Nat}:Calm P (Builtin.mayShare size jp n base x):=by
 have last:∀b:Bool,Calm P (if(!b)=true then pure true else match x with
   |.slice (some b) _ _=>(do pure (!(<-Builtin.holdsCells b (n*size))||base.any (·.block==b.block)):Sem Bool)
   |_=>pure false):=λb=>by
  split
  ·exact jI
  ·split
   ·exact mO KC λ_=>jI
   ·exact jI
 cases base with
 |none=>exact last true
 |some a=>exact mO KC λb=>mO Ye λc=>last _
def z8(elem:EV)(base:Option aiI)(jp f size:Nat)(cn:Bool)(n:Nat)(s x:rl):Sem rl:=do
 let d:Sem (Array rl):=
  if !cn then aiU size n x
  else if n*size=0 then pure #[]
  else do pure (ajc (<-ajS elem).cells n)
 let c:=jp+n
 if c<=f then
  let new<-d
  if let some a:=base then storeCells (a.add (jp*size)) new.toList
  pure (.slice base c f)
 else
  if(c:Int)>IntKind.i64.max/\(cn\/(<-typeInfo elem).bytes=0) then runtimePanic (.error "growslice: len out of range")
  if Builtin.nextslicecap c f*(<-typeInfo elem).bytes>2^48 then(if cn then runtimePanic (.error "growslice: len out of range") else do
   if !(<-Builtin.mayShare size jp n base x) then mark .noRoom
   unsupported (.resourceLimit "append: a slice or a string whose bytes no memory bears"))
  let e<-choose (.appendCap c f elem)
  askRoom (e*(<-typeInfo elem).bytes)
  let old<-aiU size jp s
  let new<-d
  let rest:=ajc (<-ajS elem).cells (e-c)
  pure (.slice (some (<-newRow elem (old++new++rest))) c e)
def Na(c:bZ P)(elem:EV)(size:Nat){cn:Bool}(d:VR φ x x')(e:cn=false->Fit n x):
  SR P K ax φ (if !cn then aiU size n x else if n*size=0 then pure #[] else ajS elem>>=λz=>pure (ajc z.cells n))
   (if !cn then aiU size n x' else if n*size=0 then pure #[] else ajS elem>>=λz=>pure (ajc z.cells n)):=by
 split
 ·next hz2=>exact yG size n d (e (by simpa using hz2))
 ·split
  ·exact .pure .empty
  ·exact SR.bind (pk c elem) λf z g _ h=>.pure (h.cells.zeroCells n)
def Em{q:Question}:SR P K aY φ (choose q) (choose q):=.choose λn=>.pure rfl
def QW(elem:EV)(d e size jp n:Nat)(cn:Bool)(s x:rl):Sem rl:=do
 let c<-choose (.appendCap d e elem)
 askRoom (c*(<-typeInfo elem).bytes)
 let old<-aiU size jp s
 let new<-(if !cn then aiU size n x
  else if n*size=0 then pure #[]
  else do pure (ajc (<-ajS elem).cells n):Sem (Array rl))
 let rest:=ajc (<-ajS elem).cells (c-d)
 pure (.slice (some (<-newRow elem (old++new++rest))) d c)
def Zc(k:bZ P)(elem:EV){d:Nat}(f size:Nat){cn:Bool}(q:VR φ s s')(t:VR φ x x')(h:Fit jp s)(i:cn=false->Fit n x):
  SR P K VR φ (QW elem d f size jp n cn s x) (QW elem d f size jp n cn s' x'):=by
 refine SR.bind Em λg c _ h1 e=>?_;subst e;refine SR.bind (l6 elem) λg D _ l e=>?_;subst e;refine SR.bind (S:=VR) NT λg _ _ m _=>?_;refine SR.bind (yG size jp (((q.mono h1).mono l).mono m) h) λg o E u y=>?_;refine SR.bind (Na k elem size ((((t.mono h1).mono l).mono m).mono u) i) λg a a' A B=>?_;refine SR.bind (pk k elem) λg z F p j=>?_;refine SR.bind (zb elem ((((y.mono A).mono p).append (B.mono p)).append (j.cells.zeroCells _))) λg b b' _ C=>.pure (.slice _ _ C)
inductive IK(φ:Ren):Option aiI->Option aiI->Prop
 |none:IK φ none none
 |some {a a':aiI}:AR φ a a'->IK φ (some a) (some a')
def XC(elem:EV)(size:Nat)(cn:Bool)(c:VR φ x x'):
  SR P K (λ_ a b=>a=#[]/\b=#[]) φ (if !cn then aiU size 0 x else if 0*size=0 then pure #[] else ajS elem>>=λz=>pure (ajc z.cells 0))
   (if !cn then aiU size 0 x' else if 0*size=0 then pure #[] else ajS elem>>=λz=>pure (ajc z.cells 0)):=by
 split
 ·exact Dm size c
 ·rw[if_pos (Nat.zero_mul _)];exact .pure ⟨rfl,rfl⟩
def IL(φ:Ren)(n c:Nat)(b b':Option aiI):Prop:=IK φ b b'\/(n=0/\c=0/\∃a a',b=some a/\b'=some a')
def NU(q:bZ P)(elem:EV){d:Option aiI}{c:Nat}(size:Nat)(i:IL φ jp c base d)(cn:Bool)(n:Nat)(t:VR φ s s')(j:VR φ x x')(k:Fit jp s)(f:cn=false->Fit n x):
  SR P K VR φ (z8 elem base jp c size cn n s x) (z8 elem d jp c size cn n s' x'):=by
 unfold z8;dsimp only;by_cases h:jp+n<=c
 ·rw[if_pos h,if_pos h];rcases i with i|⟨rfl,rfl,b,b',rfl,rfl⟩
  case inr=>obtain rfl:n=0:=aa;refine SR.bind (XC elem size cn j) λl a a' h1 m=>?_;obtain⟨rfl,rfl⟩:=m;exact .pure .empty
  refine SR.bind (Na q elem size j f) λl a a' h1 m=>?_;cases i with
  |none=>exact .pure (.dk _ _)
  |some g=>exact SR.bind (S:=VR) (yy l 0 m.toList ((g.mono h1).add _)) λz _ _ p _=>.pure (.slice _ _ ((g.mono h1).mono p))
 ·rw[if_neg h,if_neg h];refine SR.bind (l6 elem) λl A _ h1 e=>?_;subst e;split
  ·exact C3
  ·refine SR.bind (l6 elem) λu y _ p e=>?_;subst e;have le:=Ren.le_trans h1 p;split
   ·refine .dead ?_;split
    ·exact eG (dB _)
    ·exact eG (eZ (λ_=>by split<;>first|exact eZ (λ_=>eP) (nW λw=>⟨_,_,rfl,.refl w⟩)|exact eP) WU)
   ·exact Zc q elem c size (t.mono le) (j.mono le) k f
def TI(elem:EV)(base:Option aiI)(jp c size:Nat)(s x:rl)(cn:Bool):Sem rl:=do
 let n<-if cn then do
   let l:=IntKind.i64.wrap (<-asInt x)
   if l<0 then runtimePanic (.error "makeslice: len out of range")
   if l*(<-typeInfo elem).bytes>2^48 then
    let d<-choose (.extern "append.ofMake.carriedOut" 2)
    runtimePanic (.error (if d==1 then "makeslice: len out of range" else "growslice: len out of range"))
   pure l.toNat
  else Builtin.lenOf x
 z8 elem base jp c size cn n s x
def ss(k:bZ P)(elem:EV){c:Option aiI}(jp d size:Nat)(hb:IL φ jp d base c)(cn:Bool)(m:VR φ s s')(g:VR φ x x')(f:Fit jp s):
  SR P K VR φ (TI elem base jp d size s x cn) (TI elem c jp d size s' x' cn):=by
 have p:∀{i:Ren},Ren.le φ i->IL i jp d base c:=λh=>by
  rcases hb with hb|hb
  ·cases hb with|none=>exact .inl .none|some q=>exact .inl (.some (q.mono h))
  ·exact .inr hb
 cases cn with
 |false=>exact SR.bind (zh g) λi n _ h1 e=>by obtain⟨rfl,t⟩:=e;exact NU k elem size (p h1) false n (m.mono h1) (g.mono h1) f λ_=>t
 |true=>
  refine SR.bind (uV g) λi l _ h1 e=>?_;subst e;dsimp only;split
  ·exact C3
  ·refine SR.bind (l6 elem) λu y _ j e=>?_;subst e;split
   ·exact .dead (eZ λ_=>eG (dB _))
   ·exact NU k elem size (p (Ren.le_trans h1 j)) true _ (m.mono (Ren.le_trans h1 j)) (g.mono (Ren.le_trans h1 j)) f λe=>by cases e
def aaf(i:bZ P)(ts:Array EV)(t:EV)(h:ax φ xs ys):SR P K VR φ (Builtin.append_ ts t xs) (Builtin.append_ ts t ys):=by
 unfold Builtin.append_;cases m:xs[0]? with
 |none=>cases ts[0]?<;>exact .halt _ _
 |some s=>
  obtain⟨s',p,A⟩:=h.get m;cases q:xs[1]? with
  |none=>cases ts[0]?<;>exact .halt _ _
  |some x=>
   obtain⟨x',u,j⟩:=h.get q;rw[p,u];cases ts[0]? with
   |none=>exact .halt _ _
   |some B=>
    refine SR.bind (dX B) λC d _ f e=>?_;subst e;cases d with
    |slice elem=>
     cases A with
     |dk n c=>
      refine SR.bind (eF elem) λy size _ h1 e=>?_;subst e;cases ts[1]? with
      |none=>exact ss i elem n c size (.inl .none) false (.dk n c) ((j.mono f).mono h1) (λ_ _ _ e=>by cases e;exact au _)
      |some k=>exact SR.bind (dX k) λz d _ g e=>by subst e;exact ss i elem n c size (.inl .none) _ (.dk n c) (((j.mono f).mono h1).mono g) (λ_ _ _ e=>by cases e;exact au _)
     |slice n c l=>
      refine SR.bind (eF elem) λy size _ h1 e=>?_;subst e;cases ts[1]? with
      |none=>exact ss i elem n c size (.inl (.some ((l.mono f).mono h1))) false (.slice n c ((l.mono f).mono h1)) ((j.mono f).mono h1) (λ_ _ _ e=>by cases e;exact au _)
      |some k=>exact SR.bind (dX k) λz d _ g e=>by subst e;exact ss i elem n c size (.inl (.some (((l.mono f).mono h1).mono g))) _ (.slice n c (((l.mono f).mono h1).mono g)) (((j.mono f).mono h1).mono g) (λ_ _ _ e=>by cases e;exact au _)
     |empty=>
      refine SR.bind (eF elem) λy size _ h1 e=>?_;subst e;cases ts[1]? with
      |none=>exact ss i elem 0 0 size (.inr ⟨rfl,rfl,_,_,rfl,rfl⟩) false .empty ((j.mono f).mono h1) (λ_ _ _ e=>by cases e;exact au _)
      |some k=>exact SR.bind (dX k) λz d _ g e=>by subst e;exact ss i elem 0 0 size (.inr ⟨rfl,rfl,_,_,rfl,rfl⟩) _ .empty (((j.mono f).mono h1).mono g) (λ_ _ _ e=>by cases e;exact au _)
     |_=>exact .halt _ _
    |_=>exact .halt _ _
def adv(ts:Array EV)(t:EV)(h:ax φ xs ys):SR P K VR φ (Builtin.copy_ ts t xs) (Builtin.copy_ ts t ys):=by
 unfold Builtin.copy_;cases q:xs[0]? with
 |none=>cases ts[0]?<;>exact .halt _ _
 |some s=>
  obtain⟨s',u,D⟩:=h.get q;cases y:xs[1]? with
  |none=>cases ts[0]?<;>exact .halt _ _
  |some x=>
   obtain⟨x',A,i⟩:=h.get y;rw[u,A];cases ts[0]? with
   |none=>exact .halt _ _
   |some E=>
    refine SR.bind (dX E) λG d _ g e=>?_;subst e;cases d with
    |slice elem=>
     cases D with
     |dk n c=>refine SR.bind (zh (i.mono g)) λf m _ h1 e=>?_;obtain⟨rfl,k⟩:=e;refine SR.bind (eF elem) λf z _ j e=>?_;subst e;refine SR.bind (yG _ _ (((i.mono g).mono h1).mono j) λp l c e=>aJ (Nat.min_le_left _ _) (k p l c e)) λf a a' B C=>?_;exact .pure (.int _ _)
     |slice n c C=>refine SR.bind (zh (i.mono g)) λf m _ h1 e=>?_;obtain⟨rfl,k⟩:=e;refine SR.bind (eF elem) λf z _ j e=>?_;subst e;refine SR.bind (yG _ _ (((i.mono g).mono h1).mono j) λp l c e=>aJ (Nat.min_le_left _ _) (k p l c e)) λf a a' B hc=>?_;exact SR.bind (S:=VR) (yy f 0 hc.toList ((((C.mono g).mono h1).mono j).mono B)) λH _ _ _ _=>.pure (.int _ _)
     |empty=>refine SR.bind (zh (i.mono g)) λf m _ h1 e=>?_;obtain⟨rfl,k⟩:=e;refine SR.bind (eF elem) λf z _ j e=>?_;subst e;have F:m.min 0=0:=Nat.min_zero _;rw[F];refine SR.bind (Dm _ (((i.mono g).mono h1).mono j)) λf a a' B hc=>?_;obtain⟨rfl,rfl⟩:=hc;exact .pure (.int _ _)
     |_=>exact .halt _ _
    |_=>exact .halt _ _
def FU(ts:Array EV)(t:EV)(h:ax φ xs ys):SR P K VR φ (Builtin.len_ ts t xs) (Builtin.len_ ts t ys):=by
 unfold Builtin.len_;cases f:xs[0]? with
 |none=>cases ts[0]?<;>exact .halt _ _
 |some s=>
  obtain⟨s',g,c⟩:=h.get f;rw[g];cases ts[0]? with
  |none=>exact .halt _ _
  |some j=>
   refine SR.bind (dX j) λk d _ l e=>?_;subst e;cases d with
   |array n e=>cases c<;>exact .pure (.int _ _)
   |pointer arr=>
    have i:SR P K VR k (ajg arr>>=λd=>match d with|.array n _=>pure (goInt n)|_=>stuck "len: pointer to array expected") (ajg arr>>=λd=>match d with|.array n _=>pure (goInt n)|_=>stuck "len: pointer to array expected"):=by exact Ky
    cases c<;>exact i
   |string=>cases c<;>first|exact .pure (.int _ _)|exact .halt _ _
   |slice e=>cases c<;>first|exact .pure (.int _ _)|exact .halt _ _
   |_=>cases c<;>first|exact .halt _ _|exact .pure (.int _ _)
def aeJ(ts:Array EV)(t:EV)(h:ax φ xs ys):SR P K VR φ (Builtin.cap_ ts t xs) (Builtin.cap_ ts t ys):=by
 unfold Builtin.cap_;cases f:xs[0]? with
 |none=>cases ts[0]?<;>exact .halt _ _
 |some s=>
  obtain⟨s',g,c⟩:=h.get f;rw[g];cases ts[0]? with
  |none=>exact .halt _ _
  |some j=>
   refine SR.bind (dX j) λk d _ l e=>?_;subst e;cases d with
   |array n e=>cases c<;>exact .pure (.int _ _)
   |pointer arr=>
    have i:SR P K VR k (ajg arr>>=λd=>match d with|.array n _=>pure (goInt n)|_=>stuck "cap: pointer to array expected") (ajg arr>>=λd=>match d with|.array n _=>pure (goInt n)|_=>stuck "cap: pointer to array expected"):=by exact Ky
    cases c<;>exact i
   |slice e=>cases c<;>first|exact .pure (.int _ _)|exact .halt _ _
   |_=>cases c<;>first|exact .halt _ _|exact .pure (.int _ _)
def M7(op:BinOp)(x y:ByteArray):SR P K VR φ (Op.stringOp op x y) (Op.stringOp op x y):=by unfold Op.stringOp;split<;>first|exact .pure (.bool _)|exact .halt _ _|(split<;>first|exact .pure (.string _)|exact .halt _ _)
def adw{u c:rl}(h:VR φ v v')(k:VR φ u c):SR P K VR φ (Builtin.max2 v u) (Builtin.max2 v' c):=by
 cases h with
 |int a n=>cases k<;>first|exact .pure (.int _ _)|exact .halt _ _
 |string s=>
  cases k with
  |string t=>exact Mo
  |_=>exact .halt _ _
 |_=>cases k<;>exact .halt _ _
def adx{u c:rl}(h:VR φ v v')(k:VR φ u c):SR P K VR φ (Builtin.min2 v u) (Builtin.min2 v' c):=by
 cases h with
 |int a n=>cases k<;>first|exact .pure (.int _ _)|exact .halt _ _
 |string s=>
  cases k with
  |string t=>exact Mo
  |_=>exact .halt _ _
 |_=>cases k<;>exact .halt _ _
def En{f:rl->rl->Sem rl}(d:∀(φ:Ren)(v v' u e:rl),VR φ v v'->VR φ u e->SR P K VR φ (f v u) (f v' e)):
  ∀{xs ys:List rl}(φ:Ren){v v':rl},gU φ xs ys->VR φ v v'->SR P K VR φ (xs.foldlM f v) (ys.foldlM f v')
 |[],[],_,_,_,_,h=>.pure h
 |_::_,_::_,φ,_,_,.cons g hr,h=>SR.bind (d φ _ _ _ _ h g) λi a b j c=>En d i (hr.mono j) c
def aeK(ts:Array EV)(t:EV)(h:ax φ xs ys):SR P K VR φ (Builtin.max_ ts t xs) (Builtin.max_ ts t ys):=by unfold Builtin.max_;have:=h.toList;generalize xs.toList=l at this;generalize ys.toList=m at this;cases this with|nil=>exact .halt _ _|cons h k=>exact En (λφ v v' u c h k=>adw h k) φ k h
def aeL(ts:Array EV)(t:EV)(h:ax φ xs ys):SR P K VR φ (Builtin.min_ ts t xs) (Builtin.min_ ts t ys):=by unfold Builtin.min_;have:=h.toList;generalize xs.toList=l at this;generalize ys.toList=m at this;cases this with|nil=>exact .halt _ _|cons h k=>exact En (λφ v v' u c h k=>adx h k) φ k h
end
end
section
variable[ag]
section
variable{P:Kx}{K:aF}{φ:Ren}
def Nc(op:BinOp)(k:IntKind)(x y:Int):SR P K VR φ (Op.intArith op k x y) (Op.intArith op k x y):=by unfold Op.intArith;exact yh
def NV(op:BinOp)(k:IntKind){x:Int}(y:Int):SR P K VR φ (Op.intBits op k x y) (Op.intBits op k x y):=by unfold Op.intBits;exact yh
def aag{op:BinOp}{x y:Int}:SR P K VR φ (Op.intCmp op x y) (Op.intCmp op x y):=by unfold Op.intCmp;split<;>first|exact .pure (.bool _)|exact .halt _ _
def aah{op:BinOp}{k:IntKind}{x y:Int}:SR P K VR φ (Op.intDiv op k x y) (Op.intDiv op k x y):=by
 unfold Op.intDiv;split
 ·exact .dead (dB _)
 ·exact yh
def PT(op:BinOp)(k:IntKind)(x:Int)(j:IntKind)(y:Int):SR P K VR φ (Op.shift op k x j y) (Op.shift op k x j y):=by
 unfold Op.shift;split
 ·exact .dead (dB _)
 ·dsimp only;exact yh
def PU(op:UnOp)(h:VR φ v v'):SR P K VR φ (Op.unary op v) (Op.unary op v'):=by
 cases h with
 |int k n=>cases op<;>first|exact Nc .sub k 0 n|exact NV .xor k n|exact .halt _ _
 |bool b=>cases op<;>first|exact .pure (.bool _)|exact .halt _ _
 |_=>cases op<;>exact .halt _ _
def Yf{k:IntKind}{n:Int}:SR P K VR φ (Conv.intToInt k n) (Conv.intToInt k n):=.pure (.int _ _)
def PW{c:Type}{f f':rl->c->Sem (ForInStep c)}(d:∀(φ:Ren) x y s,VR φ x y->SR P K aY φ (f x s) (f' y s)):∀{xs ys:List rl}(φ:Ren)(s:c),gU φ xs ys->SR P K aY φ (forIn xs s f) (forIn ys s f')
 |[],[],_,_,_=>by simp only[List.forIn_nil];exact .pure rfl
 |x::xs,y::ys,φ,s,.cons h hr=>by simp only[List.forIn_cons];refine SR.bind (d φ x y s h) λg z _ i e=>?_;subst e;cases z with|done b=>exact .pure rfl|yield b=>exact PW d g b (hr.mono i)
def abO{c:Type}{f f':rl->c->Sem (ForInStep c)}(d:∀(φ:Ren) x y s,VR φ x y->SR P K aY φ (f x s) (f' y s))(φ:Ren)(s:c)(h:ax φ xs ys):SR P K aY φ (forIn xs s f) (forIn ys s f'):=by rw[<-ajB,<-ajB];exact PW d φ s h.toList
def Wn(h:VR φ v v'):SR P K VR φ (akX v) (akX v'):=by
 cases h with
 |dk n c=>exact .pure (.string _)
 |slice n c f=>
  refine SR.bind (Dv f n) λg xs ys _ d=>?_;refine SR.bind (abO (λφ x y s h=>?_) g ByteArray.empty d) λi s _ _ e=>?_
  ·cases h with
   |int k n=>cases k<;>first|exact .pure rfl|exact .halt _ _
   |_=>exact .halt _ _
  ·subst e;exact .pure (.string _)
 |empty=>exact .pure (.string _)
 |_=>exact .halt _ _
def mH(t:EV):SR P K (λ_ a b=>a=b/\P.underlying t=some a) φ (ajg t) (ajg t):=by refine SR.program ?_;show SR P K _ φ (match P.underlying t with|some i=>(pure i:Sem TypeDesc)|none=>stuck "no such type") (match P.underlying t with|some i=>(pure i:Sem TypeDesc)|none=>stuck "no such type");cases P.underlying t with|none=>exact .halt _ _|some i=>exact .pure ⟨rfl,rfl⟩
def Aj(P:Kx)(src dst:EV):Bool:=
 match P.underlying src,P.underlying dst with
 |some (.int _),some (.int _)=>true
 |some (.slice e),some .string=>(match P.underlying e with|some (.int .u8)=>true|_=>false)
 |_,_=>false
def WI(n:Int):SR P K VR φ (Conv.intToString n) (Conv.intToString n):=.pure (.string _)
def NX(src dst:EV)(hd:Aj P src dst=true)(h:VR φ v v'):SR P K VR φ (convert src dst v) (convert src dst v'):=by
 refine SR.bind (mH src) λC d _ u e=>?_;obtain⟨rfl,h1⟩:=e;refine SR.bind (mH dst) λl d2 _ i e=>?_;obtain⟨rfl,m⟩:=e;unfold Aj at hd;rw[h1,m] at hd;replace h:=(h.mono u).mono i;cases d with
 |int k=>
  cases d2 with
  |int D=>cases h<;>first|exact Yf|exact .halt _ _
  |_=>cases hd
 |slice e=>
  cases d2 with
  |string=>
   have g:(match P.underlying e with|some (.int .u8)=>true|_=>false)=true:=hd;cases he:P.underlying e with
   |none=>rw[he] at g;cases g
   |some y=>
    rw[he] at g
    have f:∀{x x':rl},VR l x x'->SR P K VR l (ajg e>>=λd=>match d with|.int .u8=>akX x|.int .i32=>Conv.runesToString x|_=>stuck "Convert: a slice of what to string?")
      (ajg e>>=λd=>match d with|.int .u8=>akX x'|.int .i32=>Conv.runesToString x'|_=>stuck "Convert: a slice of what to string?"):=λ{x x'} z=>by
     refine SR.bind (mH e) λE d3 _ j A=>?_;obtain⟨rfl,q⟩:=A;rw[he] at q;cases q;cases y with
     |int k=>cases k<;>first|exact Wn (z.mono j)|cases g
     |_=>cases g
    cases h with
    |int k n=>exact WI n
    |string s=>exact .pure (.string s)
    |bool b=>exact f (.bool b)
    |nilFunc=>exact f .nilFunc
    |nilIface=>exact f .nilIface
    |nilPtr=>exact f .nilPtr
    |hQ=>exact f .hQ
    |gZ=>exact f .gZ
    |ptr h=>exact f (.ptr h)
    |dk n c=>exact f (.dk n c)
    |slice n c B=>exact f (.slice n c B)
    |empty=>exact f .empty
    |iface t h p=>exact f (.iface t h p)
    |aX h1 m=>refine SR.dead ?_;exact eZ (λd=>by split<;>exactλw=>⟨_,_,rfl,trivial,.refl w⟩) (qZ e).calm
    |agg h k=>exact f (.agg h k)
    |tuple h k=>exact f (.tuple h k)
    |func a b c d e=>exact f (.func a b c d e)
  |_=>cases hd
 |_=>cases hd
end
end
section
variable[ag]
section
variable{P:Kx}{K:aF}{φ:Ren}
def mY{α β:Type}(x:Sem α)(f:α->Sem β)(w:ns)(es:Array ajl):
  (x>>=f).runT P w es=match x.runT P w es with
   |(.ok a w',c)=>(f a).runT P w' c
   |(.halt h w',c)=>(.halt h w',c):=nL P x f w es
def iS(w:ns)(a:aiI):Bool:=w.frozen? a||(match w.shape? a.block with|some (_,n)=>w.frozen? {block:=a.block,off:=n}|none=>false)
def Mp(w:ns)(a:aiI)(es:Array ajl):(stringish a).runT P w es=(.ok (iS w a) w,es):=by
 show(if w.frozen? a=true then _ else _:Sem Bool).runT P w es=_;unfold iS;cases c:w.frozen? a with
 |true=>rfl
 |false=>show(match w.shape? a.block with|some (_,n)=>frozen {block:=a.block,off:=n}|none=>pure false:Sem Bool).runT P w es=_;cases w.shape? a.block with|none=>rfl|some x=>rfl
def pN(w:ns)(a:aiI):Bool:=(w.shape? a.block) matches some (_,0)
def iT(w:ns)(a b:aiI):Bool:=(iS w a&&iS w b)||(iS w a&&pN w a)||(iS w b&&pN w b)
def XD(w:ns)(a b:aiI)(es:Array ajl):(mayBeOne a b).runT P w es=(.ok (iT w a b) w,es):=by unfold mayBeOne;rw[mY,Mp];dsimp only;rw[mY,Mp];rfl
def NY(h:w.heap[a.block]?=some o)(g:∀x y,o≠.view x y):∃d:Array ajl,(∀es,(noView a).runT P w es=(.ok () w,es++d))/\∀e∈d,(∀cs t f,o≠.cells cs t f)/\e=⟨.obj a.block,false,o.isChan⟩:=by
 rcases isCells o with⟨cs,t,f,rfl⟩|c
 ·refine⟨#[],λes=>?_,aj⟩;unfold noView;rw[mY,ru h];rfl
 ·refine⟨#[⟨.obj a.block,false,o.isChan⟩],λes=>?_,λe he=>⟨c,by simpa using he⟩⟩;unfold noView;rw[mY,pn h c g];rfl
def NZ(w:ns)(a:aiI)(es:Array ajl):(frozen a).runT P w es=(.ok (w.frozen? a) w,es):=rfl
def yN(i:a.block≠b.block){c g:Obj}(h1:w.heap[a.block]?=some c)(j:w.heap[b.block]?=some g)(v1:∀x y,c≠.view x y)(v2:∀x y,g≠.view x y):
  ∃d:Array ajl,(∀es,(ajJ a b).runT P w es=if(w.frozen? a&&w.frozen? b)=true then(.halt (.unsupported .addressObserved) w,es) else
    if iT w a b=true then(choose (.extern "sameAddr.stringBytes" 2)>>=λn=>pure (n==1)).runT P w (es++d) else(.ok false w,es++d))/\
   ∀e∈d,((∀cs t f,c≠.cells cs t f)/\e=⟨.obj a.block,false,c.isChan⟩)\/((∀cs t f,g≠.cells cs t f)/\e=⟨.obj b.block,false,g.isChan⟩):=by
 obtain⟨d1,k,l⟩:=NY (P:=P) h1 v1;obtain⟨d2,m,p⟩:=NY (P:=P) j v2;refine⟨d1++d2,λes=>?_,λe he=>(jc.1 he).elim (λh=>.inl (l e h)) λh=>.inr (p e h)⟩;unfold ajJ;have q:(a.block==b.block)=false:=eg;rw[q];simp only[aiP,if_false];rw[mY];rw[NZ];dsimp only;rw[mY,NZ];dsimp only;cases u:(w.frozen? a&&w.frozen? b) with
 |true=>rfl
 |false=>simp only[aiP,if_false];rw[mY,k];dsimp only;rw[mY,m];dsimp only;rw[mY,XD,Array.append_assoc];cases iT w a b<;>rfl
def HR.DC(H:HR K φ w.heap w'.heap)(q:K.strict=true)(e:ag.cl a.block)(u:AR φ a a'):w'.frozen? a'=false/\(w.frozen? a=true->K.ro a.block/\∃t n,w.shape? a.block=some (t,n)/\0<n):=by
 obtain⟨o,o',c,d,y⟩:=H.obj _ _ u.block;cases y with
 |@shut z i t B h1 g k A=>obtain rfl:=A e;refine⟨by simp[ais,d],λm=>⟨h1,t,z.size,by simp only[ajQ,c],?_⟩⟩;simp[ais,c] at m;exact Nat.lt_of_le_of_lt (dC _) m
 |token s p i t h1 g j=>obtain rfl:=j e;exact⟨by simp[ais,d],λh=>by simp[ais,c] at h⟩
 |@blank _ s p h1 g=>exact⟨by unfold ais;rw[d];cases o'<;>first|rfl|exact g.elim,λh=>by simp[ais,c] at h⟩
 |num l h1 g=>exact⟨by simp[ais,d],λh=>by simp[ais,c] at h⟩
 |own h1 g j k=>
  cases j with
  |cells t f hc=>have:f=(0,0):=k q;subst this;exact⟨by simp[ais,d],λh=>by simp[ais,c] at h⟩
  |loop _=>exact⟨by simp[ais,d],λh=>by simp[ais,c] at h⟩
  |deferred=>exact⟨by simp[ais,d],λh=>by simp[ais,c] at h⟩
  |taken=>exact⟨by simp[ais,d],λh=>by simp[ais,c] at h⟩
  |number _ _=>exact⟨by simp[ais,d],λh=>by simp[ais,c] at h⟩
def HR.RU(H:HR K φ w.heap w'.heap)(d:K.strict=false){b c:Nat}(e:φ b=some c):∃o o',w.heap[b]?=some o/\w'.heap[c]?=some o'/\OR φ o o':=by obtain⟨o,o',f,g,h⟩:=H.obj _ _ e;cases h with|shut t h1 _ _=>have:=(H.below b (.inl h1)).2;rw[d] at this;cases this|token s p i t h1 _=>have:=(H.below b (.inr h1)).2;rw[d] at this;cases this|blank s p h1 _=>have:=(H.below b (.inr h1)).2;rw[d] at this;cases this|num l h1 _=>have:=(H.below b (.inr h1)).2;rw[d] at this;cases this|own h1 k j m=>exact⟨o,o',f,g,j⟩
def HR.yS(H:HR K φ w.heap w'.heap)(e:K.strict=false)(g:φ a.block=some a'.block)(h:a'.off=a.off):w'.frozen? a'=w.frozen? a:=by obtain⟨o,o',c,d,i⟩:=H.RU e g;cases i with|cells t f hc=>simp[ais,c,d,h]|loop _=>simp[ais,c,d]|deferred=>simp[ais,c,d]|taken=>simp[ais,c,d]|number _ _=>simp[ais,c,d]
def HR.Zd(H:HR K φ w.heap w'.heap)(g:K.strict=false){b c:Nat}(h:φ b=some c):w'.shape? c=w.shape? b:=by obtain⟨o,o',d,e,i⟩:=H.RU g h;cases i with|cells t f hc=>simp[ajQ,d,e,hc.size]|loop _=>simp[ajQ,d,e]|deferred=>simp[ajQ,d,e]|taken=>simp[ajQ,d,e]|number _ _=>simp[ajQ,d,e]
def HR.PX(H:HR K φ w.heap w'.heap)(d:K.strict=false)(c:AR φ a a'):iS w' a'=iS w a/\pN w' a'=pN w a:=by
 unfold iS pN;rw[H.yS d c.block c.off,H.Zd d c.block];refine⟨?_,rfl⟩;cases w.shape? a.block with
 |none=>rfl
 |some x=>obtain⟨t,n⟩:=x;dsimp only;rw[H.yS d (a:=⟨a.block,n,none⟩) (a':=⟨a'.block,n,none⟩) c.block rfl]
def HR.OI(H:HR K φ w.heap w'.heap)(j:K.strict=true)(e:ag.cl a.block)(k:AR φ a a'):iS w' a'=false/\(iS w a=true->w.frozen? a=true/\pN w a=false):=by
 have g:=H.DC j e k;constructor
 ·unfold iS;rw[g.1];cases w'.shape? a'.block with
  |none=>rfl
  |some x=>obtain⟨t,n⟩:=x;have:=(H.DC j (a:=⟨a.block,n,none⟩) (a':=⟨a'.block,n,none⟩) e ⟨k.block,rfl,rfl⟩).1;simp[this]
 ·intro h;unfold iS at h;cases m:w.frozen? a with
  |true=>obtain⟨_,t,n,c,A⟩:=g.2 m;refine⟨rfl,?_⟩;unfold pN;rw[c];cases n with|zero=>omega|succ n=>rfl
  |false=>
   rw[m,Bool.false_or] at h;cases c:w.shape? a.block with
   |none=>rw[c] at h;cases h
   |some x=>
    obtain⟨t,n⟩:=x;rw[c] at h;obtain⟨o,o',d,B,u⟩:=H.obj _ _ k.block;cases u with
    |shut t h1 i q=>simp only[ajQ,d,Option.some.injEq,Prod.mk.injEq] at c;simp[ais,d] at h;omega
    |token s p y t h1 i=>simp[ais,d] at h
    |blank s p h1 i=>simp[ais,d] at h
    |num l h1 i=>simp[ais,d] at h
    |own h1 i z q=>
     cases z with
     |cells t f hc=>have:f=(0,0):=q j;subst this;simp[ais,d] at h
     |loop _=>simp[ais,d] at h
     |deferred=>simp[ais,d] at h
     |taken=>simp[ais,d] at h
     |number _ _=>simp[ais,d] at h
def HO.noView{b:Nat}{o':Obj}(h:HO K φ b o o'):(∀x y,o≠.view x y)/\(∀x y,o'≠.view x y)/\o'.isChan=false:=by cases h with|shut=>exact⟨λ_ _ e=>bw,λ_ _ e=>bw,rfl⟩|token=>exact⟨λ_ _ e=>bw,λ_ _ e=>bw,rfl⟩|blank s p _ h=>exact⟨λ_ _ e=>bw,λ_ _ e=>(by subst e;exact h),by cases o'<;>first|rfl|exact h.elim⟩|num=>exact⟨λ_ _ e=>bw,λ_ _ e=>bw,rfl⟩|own c d h _=>cases h<;>exact⟨λ_ _ e=>bw,λ_ _ e=>bw,rfl⟩
def Nd(R:ag.cl a.block)(cb:ag.cl b.block)(q:AR φ a a')(t:AR φ b b'):SR P K aY φ (ajJ a b) (ajJ a' b'):=by
 refine .of_does (λ{w w' c M} es hw J=>?_) (λw w' hw x M e=>?_) (λw w' hw x M e=>?_)
 case refine_3=>
  by_cases g:a.block=b.block
  ·have e1:(a.block==b.block)=true:=by simpa using g
   have H:∀i:ns,(ajJ a b).run P i=.ok (a==b) i:=by intro i;have:(ajJ a b).runT P i #[]=(.ok (a==b) i,#[]):=Ch;rw[<-ajf P (ajJ a b) i #[],this]
   rw[H] at e;cases e;exact⟨0,rfl,rfl,λT n _=>H _⟩
  ·obtain⟨S,p1,z,V,q1⟩:=hw.heap.obj _ _ q.block;obtain⟨W,p2,A,X,B⟩:=hw.heap.obj _ _ t.block
   have C:∀i:ns,i.heap[a.block]?=some S->i.heap[b.block]?=some W->(ajJ a b).run P i=if(i.frozen? a&&i.frozen? b)=true then .halt (.unsupported .addressObserved) i else
     if iT i a b=true then(choose (.extern "sameAddr.stringBytes" 2)>>=λn=>pure (n==1):Sem Bool).run P i else .ok false i:=by
    intro i h1 N;obtain⟨d,r,_⟩:=yN (P:=P) g h1 N q1.noView.1 B.noView.1;rw[<-ajf P (ajJ a b) i #[],r];split
    ·rfl
    ·split
     ·rw[ajf]
     ·rfl
   rw[C w z A] at e;cases j:(w.frozen? a&&w.frozen? b) with
   |true=>rw[j,if_pos rfl] at e;cases e
   |false=>
    rw[j] at e;simp only[aiP,if_false] at e;have y:∀T n,((w.on T n).frozen? a&&(w.on T n).frozen? b)=false:=λT n=>j;cases hm:iT w a b with
    |false=>rw[hm] at e;simp only[aiP,if_false] at e;cases e;refine⟨0,rfl,rfl,λT n _=>?_⟩;have D:iT (w.on T n) a b=false:=hm;rw[C (w.on T n) z A,y,D];rfl
    |true=>rw[hm] at e;simp only[if_true] at e;have Q:∀i:ns,(choose (.extern "sameAddr.stringBytes" 2)>>=λn=>pure (n==1):Sem Bool).run P i=.ok (i.tape i.drawn (.extern "sameAddr.stringBytes" 2)%2==1) {i with drawn:=i.drawn+1}:=λi=>rfl;rw[Q] at e;cases e;refine⟨1,rfl,rfl,λT n hT=>?_⟩;have D:iT (w.on T n) a b=true:=hm;have h0:=hT 0 aa (.extern "sameAddr.stringBytes" 2);simp only[Nat.add_zero] at h0;rw[C (w.on T n) z A,y,D];simp only[aiP,if_false,if_true];rw[Q];show Result.ok (T n (.extern "sameAddr.stringBytes" 2)%2==1) _=_;rw[h0];rfl
 case refine_2=>
  rw[<-ajf P (ajJ a b) w #[]] at e;by_cases g:a.block=b.block
  ·have e1:(a.block==b.block)=true:=by simpa using g
   have H:(ajJ a b).runT P w #[]=(.ok (a==b) w,#[]):=Ch;rw[H] at e;cases e
  ·obtain⟨S,p1,z,V,q1⟩:=hw.heap.obj _ _ q.block;obtain⟨W,p2,A,X,B⟩:=hw.heap.obj _ _ t.block;obtain⟨d,r,_⟩:=yN (P:=P) g z A q1.noView.1 B.noView.1;rw[r] at e;split at e
   ·cases e;exact⟨trivial,φ,w'.heap,Ren.le_refl _,hw.heap⟩
   ·split at e
    ·rw[ajf] at e;have:=(mO yQ (λ_=>jI) w).1 x M e;exact⟨this.1,φ,w'.heap,Ren.le_refl _,hw.heap.cM this.2⟩
    ·cases e
 have f:((ajJ a b).runT P w #[]).1=.ok c M:=by rw[ajf];exact J
 by_cases g:a.block=b.block
 ·have k:a'.block=b'.block:=by have:=q.block;rw[g,t.block] at this;exact(aL this).symm
  have e1:(a.block==b.block)=true:=by simpa using g
  have Q:(a'.block==b'.block)=true:=by simpa using k
  have H:(ajJ a b).runT P w #[]=(.ok (a==b) w,#[]):=Ch;have r2:(ajJ a' b').runT P.two w' es=(.ok (a'==b') w',es):=by unfold ajJ;rw[Q];rfl
  rw[H] at f;cases f;refine⟨φ,a'==b',w',#[],by rw[r2,akW],?_,hw,.refl _,.refl _ _ _ _,aj⟩;show(a==b)=(a'==b');obtain⟨ab,ao,Ue⟩:=a;obtain⟨bb,bo,bsp⟩:=b;obtain⟨ab',ao',ah4⟩:=a';obtain⟨bb',bo',ah5⟩:=b';have h1:=q.off;have N:=q.spot;have h3:=t.off;have h4:=t.spot;simp only at h1 N h3 h4 g k;subst h1;subst N;subst h3;subst h4;subst g;subst k;rw[akP,beq_iff_eq,beq_iff_eq];simp
 ·have k:a'.block≠b'.block:=λe=>(hw.heap.inj _ _ _ q.block (by rw[e];exact t.block)).elim g λm=>m.2.2.1 ⟨R,cb⟩;obtain⟨S,p1,z,V,q1⟩:=hw.heap.obj _ _ q.block;obtain⟨W,p2,A,X,B⟩:=hw.heap.obj _ _ t.block;obtain⟨d,r,_⟩:=yN (P:=P) g z A q1.noView.1 B.noView.1;obtain⟨L,Z,ev⟩:=yN (P:=P.two) k V X q1.noView.2.1 B.noView.2.1
  have E:∀F,Ren.le φ F->∀e∈L,ey K F e:=λF hl e he=>by
   rcases ev e he with⟨hn,rfl⟩|⟨hn,rfl⟩
   ·exact .inr (.inl ⟨_,_,rfl,q1.noView.2.2,hl _ _ q.block,λe=>by cases e⟩)
   ·exact .inr (.inl ⟨_,_,rfl,B.noView.2.2,hl _ _ t.block,λe=>by cases e⟩)
  rw[r] at f;cases j:(w.frozen? a&&w.frozen? b) with
  |true=>rw[j,if_pos rfl] at f;cases f
  |false=>
   rw[j] at f;simp only[aiP,if_false] at f;cases l:K.strict with
   |true=>
    have sa:=hw.heap.OI l R q;have I:=hw.heap.OI l cb t
    have hm:iT w a b=false:=by
     unfold iT;cases hA:iS w a<;>cases hB:iS w b
     ·rfl
     ·simp[(I.2 hB).2]
     ·simp[(sa.2 hA).2]
     ·rw[(sa.2 hA).1,(I.2 hB).1] at j;cases j
    have T':iT w' a' b'=false:=by unfold iT;rw[sa.1,I.1];rfl
    have p:(w'.frozen? a'&&w'.frozen? b')=false:=by rw[(hw.heap.DC l R q).1];rfl
    rw[hm] at f;simp only[aiP,if_false] at f;cases f;exact⟨φ,false,w',L,by rw[Z,p,T'];rfl,rfl,hw,.refl _,.refl _ _ _ _,E φ (Ren.le_refl _)⟩
   |false=>
    have sa:=hw.heap.PX l q;have I:=hw.heap.PX l t;have hm:iT w' a' b'=iT w a b:=by unfold iT;rw[sa.1,sa.2,I.1,I.2]
    have p:(w'.frozen? a'&&w'.frozen? b')=false:=by rw[hw.heap.yS l q.block q.off,hw.heap.yS l t.block t.off];exact j
    cases u:iT w a b with
    |false=>rw[u] at f;simp only[aiP,if_false] at f;cases f;exact⟨φ,false,w',L,by rw[Z,p,hm,u];rfl,rfl,hw,.refl _,.refl _ _ _ _,E φ (Ren.le_refl _)⟩
    |true=>
     rw[u] at f;simp only[if_true] at f;rw[ajf] at f;have G:SR P K aY φ (choose (.extern "sameAddr.stringBytes" 2)>>=λn=>pure (n==1)) (choose (.extern "sameAddr.stringBytes" 2)>>=λn=>pure (n==1)):=SR.bind Em λF n _ _ e=>by subst e;exact .pure rfl
     obtain⟨F,b1,Y',dd,x1,x2,x3,x4,x5,x6⟩:=G.run (es++L) hw f;exact⟨F,b1,Y',L++dd,by rw[Z,p,hm,u];simp only[aiP,if_false,if_true];rw[x1];simp,x2,x3,x4,x5,λe he=>(jc.1 he).elim (λh=>E F x5.le e h) (x6 e)⟩
end
end
section
variable[ag]
section
variable{P:Kx}{K:aF}{φ:Ren}
def SR.test{c f:Bool}(h:∀w w',WR K φ w w'->f=c):SR P K aY φ (akg c) (akg f):=
 .of_does (λ{w w' a g} es hw d=>by cases d;exact⟨φ,f,w',#[],by rw[akW];rfl,(h w w' hw).symm,hw,.refl _,.refl _ _ _ _,aj⟩) (λw w' _ x g e=>by cases e) (λw w' _ x g e=>by cases e;exact⟨0,rfl,rfl,λT n _=>rfl⟩)
def SR.afE{c d:Bool}(h:c=true->d=true):SR P K (λ_ c d=>c=true->d=true) φ (akg c) (akg d):=.pure h
def AR.agO(ha:AR φ a a')(hb:AR φ b b')(e:(a==b)=true):(a'==b')=true:=by rw[beq_iff_eq] at e⊢;exact Kz
def AR.beq(ha:AR φ a a')(hb:AR φ b b')(hw:WR K φ w w')(h:ag.cl a.block)(cb:ag.cl b.block):(a'==b')=(a==b):=by
 rw[akP,beq_iff_eq,beq_iff_eq];constructor
 ·intro e;have h1:=(hw.heap.inj _ _ _ ha.block (by rw[e];exact hb.block)).elim id λm=>absurd ⟨h,cb⟩ m.2.2.1;obtain⟨k,l,i⟩:=a;obtain⟨p,q,j⟩:=b;have c:=ha.off;have d:=ha.spot;have f:=hb.off;have g:=hb.spot;rw[e] at c d;simp only at h1 c d f g;rw[h1,<-c,<-d,<-f,<-g]
 ·intro e;exact Kz
def yp{cs:Array rl}{t:EV}{f:Nat×Nat}(h:w.heap[r]?=some (.cells cs t f))(es:Array ajl){P:Kx}:(ajI r).runT P w es=(.ok none w,es):=by have c:w.shape? r=some (t,cs.size):=Cu;unfold ajI shape;simp only[bind,akQ,akf,c,Option.isSome_some,if_true];rfl
def yq(h:w.heap[r]?=some o)(hn:∀cs t f,o≠.cells cs t f)(hv:∀x y,o≠.number x y)(es:Array ajl){P:Kx}:(ajI r).runT P w es=(.ok none w,es.push ⟨.obj r,false,o.isChan⟩):=by
 have hs:w.shape? r=none:=by unfold ajQ;rw[h];cases o<;>first|rfl|exact absurd rfl (hn _ _ _)
 unfold ajI shape getObj;exact JQ
def yi{l:Bool}(h:w.heap[r]?=some (.number a l))(es:Array ajl){P:Kx}:(ajI r).runT P w es=(.ok (some (a,l)) w,es.push ⟨.obj r,false,false⟩):=by have c:w.shape? r=none:=Cu;unfold ajI shape getObj;simp only[bind,akQ,akf,c,Option.isSome_none,aiP,if_false,h];rfl
def GU(c:Ren)(a b:Option (aiI×Bool)):Prop:=(a=none/\b=none)\/∃x y l,a=some (x,l)/\b=some (y,l)/\AR c x y
def Nf{m:Nat}(h:φ r=some m):SR P K GU φ (ajI r) (ajI m):=by
 refine .of_does (λ{w w' c q} es hw D=>?_) (λw w' hw x q e=>?_) (λw w' hw x q e=>?_)
 case refine_3=>
  obtain⟨o,B,i,E,M⟩:=hw.heap.obj _ _ h
  have j:∃u,∀k:ns,k.heap[r]?=some o->(ajI r).run P k=.ok u k:=by
   rcases isCells o with⟨F,t,f,rfl⟩|C
   ·exact⟨none,λk h0=>by rw[<-ajf P (ajI r) k #[],yp h0]⟩
   ·by_cases G:∃x y,o=.number x y
    ·obtain⟨x,y,rfl⟩:=G;exact⟨_,λk h0=>by rw[<-ajf P (ajI r) k #[],yi h0]⟩
    ·exact⟨none,λk h0=>by rw[<-ajf P (ajI r) k #[],yq h0 C λx y e=>G ⟨x,y,e⟩]⟩
  obtain⟨u,j⟩:=j;rw[j w i] at e;cases e;exact⟨0,rfl,rfl,λT n _=>j _ i⟩
 case refine_2=>
  obtain⟨o,B,i,E,M⟩:=hw.heap.obj _ _ h;rw[<-ajf P (ajI r) w #[]] at e;rcases isCells o with⟨F,t,f,rfl⟩|C
  ·rw[yp i] at e;cases e
  ·by_cases G:∃x y,o=.number x y
   ·obtain⟨x,y,rfl⟩:=G;rw[yi i] at e;cases e
   ·rw[yq i C λx y e=>G ⟨x,y,e⟩] at e;cases e
 obtain⟨o,B,i,E,M⟩:=hw.heap.obj _ _ h;have g:((ajI r).runT P w #[]).1=.ok c q:=by rw[ajf];exact D
 have z:∀d N,GU φ c N->q=w->(ajI m).runT P.two w' es=(.ok N w',es++d)->(∀e∈d,ey K φ e)->
   ∃Q b A d,(ajI m).runT P.two w' es=(.ok b A,es++d)/\GU Q c b/\WR K Q q A/\iv w q/\eH K φ Q w.heap.size w' A/\∀e∈d,ey K Q e:=λd N hc H R hd=>
  ⟨φ,N,w',d,R,hc,H▸hw,H▸.refl _,.refl _ _ _ _,hd⟩
 have I:(∀F t f,B≠.cells F t f)->∀e∈#[(⟨.obj m,false,false⟩:ajl)],ey K φ e:=λC e he=>by simp at he;subst he;exact .inr (.inl ⟨m,r,rfl,rfl,h,λe=>by cases e⟩)
 have J:(∃x y l,o=.number x l/\B=.number y l/\AR φ x y)\/((∀x y,o≠.number x y)/\∀x y,B≠.number x y):=by
  cases M with
  |shut=>exact .inr ⟨λ_ _ e=>bw,λ_ _ e=>bw⟩
  |token=>exact .inr ⟨λ_ _ e=>bw,λ_ _ e=>bw⟩
  |blank s p _ h=>exact .inr ⟨λ_ _ e=>bw,λ_ _ e=>(by subst e;exact h)⟩
  |num l _ h=>exact .inl ⟨_,_,l,rfl,rfl,h⟩
  |own V W h _=>cases h with|number l h=>exact .inl ⟨_,_,l,rfl,rfl,h⟩|_=>exact .inr ⟨λ_ _ e=>bw,λ_ _ e=>bw⟩
 rcases J with⟨x,y,l,rfl,rfl,S⟩|⟨v1,v2⟩
 ·rw[yi i] at g;cases g;exact z #[⟨.obj m,false,false⟩] (some (y,l)) (.inr ⟨x,y,l,rfl,rfl,S⟩) rfl (by rw[yi E];rfl) (I λ_ _ _ e=>by cases e)
 ·have hc:c=none/\q=w:=by
   rcases isCells o with⟨F,t,f,rfl⟩|C
   ·rw[yp i] at g;cases g;exact⟨rfl,rfl⟩
   ·rw[yq i C v1] at g;cases g;exact⟨rfl,rfl⟩
  rcases isCells B with⟨F,t,f,rfl⟩|L
  ·exact z #[] none (.inl ⟨hc.1,rfl⟩) hc.2 (by rw[yp E,akW]) aj
  ·exact z #[⟨.obj m,false,false⟩] none (.inl ⟨hc.1,rfl⟩) hc.2 (by rw[yq E L v2,M.noView.2.2];rfl) (I L)
def nK(c:AR φ a a'):SR P K (λd x y=>AR d x.1 y.1/\x.2=y.2) φ (ajk a) (ajk a'):=by
 refine SR.bind (Nf c.block) λd x y e h=>?_;rcases h with⟨rfl,rfl⟩|⟨x,y,l,rfl,rfl,h⟩
 ·exact .pure ⟨c.mono e,rfl⟩
 ·exact .pure ⟨h,rfl⟩
def Ay(t:EV)(a b:aiI)(c:Bool)(n:Bool):Sem Bool:=do
 if c then return (<-akF a)==(<-akF b)
 let .named "sync.copyChecker" _:=(<-typeInfo t).desc|unsupported .addressObserved
 if n then pure true else unsupported .addressObserved
def abP(t:EV)(h:AR φ a a')(i:AR φ b b')(c:Bool){n d:Bool}(j:n=true->d=true):SR P K aY φ (Ay t a b c n) (Ay t a' b' c d):=by
 cases c with
 |true=>refine SR.bind (pv h) λf x _ g e=>?_;subst e;refine SR.bind (pv (i.mono g)) λf y _ _ e=>?_;subst e;exact .pure rfl
 |false=>
  refine SR.bind (l6 t) λf k _ g e=>?_;subst e;split
  ·cases n
   ·exact .dead eP
   ·rw[j rfl];exact .pure rfl
  ·exact .halt _ _
def OJ(hG:K.G=P.globals.size)(t:EV)(p:AR φ a a')(q:AR φ b b'):
  SR P K aY φ (do
   let(a,b):=((<-ajk a).1,(<-ajk b).1)
   if a.block==b.block&&a.block<(<-program).globals.size then return (<-akF a)==(<-akF b)
   let .named "sync.copyChecker" _:=(<-typeInfo t).desc|unsupported .addressObserved
   if a==b then pure true else unsupported .addressObserved:Sem Bool) (do
   let(a,b):=((<-ajk a').1,(<-ajk b').1)
   if a.block==b.block&&a.block<(<-program).globals.size then return (<-akF a)==(<-akF b)
   let .named "sync.copyChecker" _:=(<-typeInfo t).desc|unsupported .addressObserved
   if a==b then pure true else unsupported .addressObserved:Sem Bool):=by
 refine SR.bind (nK p) λC x x' u f=>?_;obtain⟨x,D⟩:=x;obtain⟨x',z⟩:=x';refine SR.bind (nK (q.mono u)) λk y g j h=>?_;obtain⟨y,E⟩:=y;obtain⟨g,A⟩:=g;have f:=f.1.mono j;have h:=h.1;refine SR.ask ?_
 have h1:SR P K aY k (akg (x.block==y.block&&decide (x.block<P.globals.size))) (akg (x'.block==g.block&&decide (x'.block<P.globals.size))):=.test λw w' hw=>by
  have l:=hw.heap.low _ _ f.block;rw[hG] at l;rw[akP,OF,OF,decide_eq_true_eq,decide_eq_true_eq,beq_iff_eq,beq_iff_eq,<-l];constructor
  ·intro e;refine⟨(hw.heap.inj _ _ _ f.block (by rw[e.1];exact h.block)).elim id λm=>?_,e.2⟩;have h1:=m.2.2.2;omega
  ·intro e;refine⟨?_,e.2⟩;have:=f.block;rw[e.1,h.block] at this;exact(aL this).symm
 show SR P K aY k (akQ (akg (x.block==y.block&&decide (x.block<P.globals.size))) λc=>akQ (akg (x==y)) λn=>Ay t x y c n)
  (akQ (akg (x'.block==g.block&&decide (x'.block<P.globals.size))) λc=>akQ (akg (x'==g)) λn=>Ay t x' g c n)
 refine SR.bind h1 λF c _ d e=>?_;subst e;refine SR.bind (SR.afE ((f.mono d).agO (h.mono d))) λB n H i e=>?_;exact abP t ((f.mono d).mono i) ((h.mono d).mono i) c e
end
end
end Go.Proofs.Q0.aI
