import Derived.Test.YtfmnlpedhgficaaGreatDoorK12
set_option maxRecDepth 100000
set_option maxHeartbeats 8000000
set_option linter.all false
open Go.Value renaming int->U,slice->Y,bool->a5,agg->a9,pointer->bi,tuple->ci,iface->em
open Go.IntKind renaming i64->O
open Go.Obj renaming cells->ac
open Go.Ending renaming returned->be
open Array renaming forIn_toList->akx,getElem?_map->ald,range->alg
open Bool renaming and_eq_true->aft,false->Bz,true->AT
open Go renaming Addr->ajF,Program->NO,TypeId->TO,Value->so,World->AS,behindNumber->akd,byteOf->aly,underlying->ajV,zeroValue->akY
open Go.Builtin renaming firstCells->ajO,zeroCells->ajX
open Go.Conv renaming bytesToString->alc
open Go.Instr renaming sliceBound->als,sliceBounds->akO
open Go.IntKind renaming i64->EV
open Go.Op renaming equalIn->ajL
open Go.Sem renaming bind->alz,pure->akJ,runT->akX
open Go.World renaming frozen?->aku
open Option renaming none->ns,some->an
open Std.Legacy.Range renaming forIn_eq_forIn_range'->ajT
namespace Go.Proofs
def Lf{p:Prop}(h:p:=by show SR P K _ φ (loadCells a (0*size)) (loadCells a' (0*size));rw[Nat.zero_mul];exact .pure ⟨rfl,rfl⟩):p:=h
def DF{p:Prop}(h:p:=by exact .dead (fz (eE _))):p:=h
def Lg{p:Prop}(h:p:=by refine SR.bind (ew arr) λχ d _ _ e=>?_;subst e;cases d<;>first|exact .pure (.int _ _)|exact .halt _ _):p:=h
def MO{p:Prop}(h:p:=by refine SR.bind (NG _ _ _) λψ a b _ xM=>SR.bind (Pf xM) λχ x _ _ e=>?_;subst e;exact .pure (.string _)):p:=h
def zh{p:Prop}(h:p:=by split<;>first|exact .pure (.int _ _)|exact .halt _ _):p:=h
abbrev jI:=@Array.mem_toList_iff
end Go.Proofs
namespace Go.Proofs.Q0.aL
variable{v v' x u u' x' s s':so}{lo lm hi kw mx PP:Option so}{n r ka:Nat}{xs ys:Array so}{a a' b b':ajF}{base:Option ajF}{w:AS}
section
variable[ag]
section
variable{P:NO}{K:aH}{φ:Ren}
def vS(h:VR φ v v'):SR P K AR φ (asAddr v) (asAddr v'):=by cases h with|ptr h=>exact .pure h|nilPtr=>exact .dead (eE (P:=P) (α:=ajF) .nilDeref)|_=>exact .halt _ _
def vp(h:VR φ v v')(y:Nat)(c:BoundsCode):SR P K (λ_ a b=>a=b/\a<=y) φ (als v y c) (als v' y c):=by
 refine SR.bind (zI h) λf x _ g e=>?_;subst e;obtain⟨k,i⟩:=x;by_cases d:0<=i/\i<=y
 ·have hle:i.toNat<=y:=by omega
  simp only[d,and_self,if_true];exact .pure ⟨rfl,hle⟩
 ·simp only[d,if_false];exact vq
def zu(h:VR φ v v')(y:Nat){c:BoundsCode}:SR P K aZ φ (als v y c) (als v' y c):=(vp h y c).mono λ_ _ _ x=>x.1
inductive gK(φ:Ren):Option so->Option so->Prop
 |none:gK φ ns ns
 |some {v v':so}:VR φ v v'->gK φ (an v) (an v')
def gK.mono{c:Ren}{v v':Option so}(h:gK φ v v')(k:Ren.le φ c):gK c v v':=by cases h with|none=>exact .none|some h=>exact .some (h.mono k)
def Bw(low:Option so)(h m:Nat)(b:Bool):Sem (Nat×Nat×Nat):=do
 let l<-match low with
  |some v=>als v h (if b then .slice3C else .sliceB)
  |none=>pure 0
 pure (l,h,m)
def FG{low c:Option so}(d:gK φ low c)(h m:Nat)(b:Bool):SR P K aZ φ (Bw low h m b) (Bw c h m b):=by
 cases d with
 |none=>exact .pure rfl
 |some f=>exact SR.bind (zu f h) λg x _ _ e=>by subst e;exact .pure rfl
def vr(c:Bool)(len d:Nat)(h1:gK φ lo lm)(j:gK φ hi kw)(k:gK φ mx PP):
  SR P K aZ φ (akO c len d lo hi mx) (akO c len d lm kw PP):=by
 cases k with
 |none=>
  cases j with
  |none=>exact FG h1 len d Bz
  |some h=>refine SR.bind (R:=aZ) (.pure rfl) λl m _ f e=>?_;subst e;exact SR.bind (zu (h.mono f) m) λo x _ g e=>by subst e;exact FG ((h1.mono f).mono g) x m Bz
 |some hm=>
  refine SR.bind (zu hm d) λo m _ g e=>?_;subst e;cases j with
  |none=>exact .halt _ _
  |some h=>exact SR.bind (zu (h.mono g) m) λl x _ i e=>by subst e;exact FG ((h1.mono g).mono i) x m AT
def E6{low c:Option so}(d:gK φ low c)(b:Bool):SR P K (λ_ x y=>x=(0,0,0)/\y=(0,0,0)) φ (Bw low 0 0 b) (Bw c 0 0 b):=by
 cases d with
 |none=>exact .pure ⟨rfl,rfl⟩
 |some f=>refine SR.bind (vp f 0 _) λg x _ _ e=>?_;obtain⟨rfl,e⟩:=e;obtain rfl:x=0:=aa;exact .pure ⟨rfl,rfl⟩
def Xp(h1:gK φ lo lm)(h:gK φ hi kw)(i:gK φ mx PP):
  SR P K (λ_ x y=>x=(0,0,0)/\y=(0,0,0)) φ (akO AT 0 0 lo hi mx) (akO AT 0 0 lm kw PP):=by
 cases i with
 |none=>
  cases h with
  |none=>exact E6 h1 Bz
  |some f=>refine SR.bind (R:=λ_ a b=>a=0/\b=0) (.pure ⟨rfl,rfl⟩) λj m l c e=>?_;obtain⟨rfl,rfl⟩:=e;refine SR.bind (vp (f.mono c) 0 _) λk x _ d e=>?_;obtain⟨rfl,e⟩:=e;obtain rfl:x=0:=aa;exact E6 ((h1.mono c).mono d) Bz
 |some hm=>
  refine SR.bind (vp hm 0 _) λk m _ d e=>?_;obtain⟨rfl,e⟩:=e;obtain rfl:m=0:=aa;cases h with
  |none=>exact .halt _ _
  |some f=>refine SR.bind (vp (f.mono d) 0 _) λj x _ g e=>?_;obtain⟨rfl,e⟩:=e;obtain rfl:x=0:=aa;exact E6 ((h1.mono d).mono g) AT
def acw(t:TO)(h:VR φ v v')(h1:gK φ lo lm)(i:gK φ hi kw)(j:gK φ mx PP):
  SR P K VR φ (Instr.slice t v lo hi mx) (Instr.slice t v' lm kw PP):=by
 refine SR.bind (ew t) λD d _ A e=>?_;subst e;replace h1:=h1.mono A;replace i:=i.mono A;replace j:=j.mono A;replace h:=h.mono A;cases d with
 |string=>
  cases h with
  |string s=>
   dsimp only;cases j with
   |none=>exact SR.bind (vr Bz s.size s.size h1 i .none) λo x _ _ e=>by subst e;exact .pure (.string _)
   |some _=>exact .halt _ _
  |_=>exact .halt _ _
 |slice elem=>
  cases h with
  |dV n c=>refine SR.bind (vr AT n c h1 i j) λo x _ _ e=>?_;subst e;obtain⟨l,h,m⟩:=x;refine SR.bind (fJ elem) λB z _ _ e=>?_;subst e;refine .pure ?_;split<;>exact .dV _ _
  |slice n c p=>
   refine SR.bind (vr AT n c h1 i j) λo x _ f e=>?_;subst e;obtain⟨l,h,m⟩:=x;refine SR.bind (fJ elem) λB z _ g e=>?_;subst e;refine .pure ?_;split
   ·exact .slice _ _ ((p.mono f).mono g)
   ·exact .slice _ _ (((p.mono f).mono g).add _)
  |empty=>refine SR.bind (Xp h1 i j) λo x y f e=>?_;obtain⟨rfl,rfl⟩:=e;refine SR.bind (fJ elem) λB z _ g e=>?_;subst e;exact .pure .empty
  |_=>exact .halt _ _
 |pointer arr=>
  have C:SR P K VR D (asAddr v>>=λa=>ajV arr>>=λd=>match d with
    |.array n elem=>akO Bz n n lo hi mx>>=λx=>sizeOf elem>>=λsize=>pure (.slice (an (if x.2.2=x.1 then a else a.add (x.1*size))) (x.2.1-x.1) (x.2.2-x.1))
    |_=>stuck "Slice: array type expected") (asAddr v'>>=λa=>ajV arr>>=λd=>match d with
    |.array n elem=>akO Bz n n lm kw PP>>=λx=>sizeOf elem>>=λsize=>pure (.slice (an (if x.2.2=x.1 then a else a.add (x.1*size))) (x.2.1-x.1) (x.2.2-x.1))
    |_=>stuck "Slice: array type expected"):=by
   refine SR.bind (vS h) λo a a' k p=>?_;refine SR.bind (ew arr) λo d _ f e=>?_;subst e;cases d with
   |array n elem=>
    refine SR.bind (vr Bz n n ((h1.mono k).mono f) ((i.mono k).mono f) ((j.mono k).mono f)) λB x _ g e=>?_;subst e;refine SR.bind (fJ elem) λB z _ q e=>?_;subst e;refine .pure ?_;split
    ·exact .slice _ _ (((p.mono f).mono g).mono q)
    ·exact .slice _ _ ((((p.mono f).mono g).mono q).add _)
   |_=>exact .halt _ _
  cases h<;>first|exact .halt _ _|exact C
 |_=>cases h<;>exact .halt _ _
def ZQ(t:TO)(h:VR φ v v')(h1:gK φ lo lm)(j:gK φ hi kw)(k:gK φ mx PP):
  SR P K VR φ (Instr.sliceAt t v lo hi mx) (Instr.sliceAt t v' lm kw PP):=by
 refine SR.bind (ew t) λo d _ c e=>?_;subst e;cases d with
 |array n elem=>
  refine SR.bind (vH (h.mono c)) λp a a' f l=>?_;refine SR.bind (vr Bz n n ((h1.mono c).mono f) ((j.mono c).mono f) ((k.mono c).mono f)) λm x _ g e=>?_;subst e;refine SR.bind (fJ elem) λm z _ i e=>?_;subst e;refine .pure ?_;split
  ·exact .slice _ _ ((l.mono g).mono i)
  ·exact .slice _ _ (((l.mono g).mono i).add _)
 |_=>exact acw t (h.mono c) (h1.mono c) (j.mono c) (k.mono c)
def Oq:SR P K aZ φ (askRoom n) (askRoom n):=by
 unfold askRoom;split
 ·exact .quiet (.inl rfl) (.pure rfl)
 ·exact .pure rfl
theorem Rw{k:Nat}(h:xs[k]?=an x):xs[k]! =x:=fu
def aw.Hx(h:aw φ xs ys){k:Nat}(hd:VR φ (default:so) default):VR φ xs[k]! ys[k]!:=by
 cases c:xs[k]? with
 |none=>
  have h1:¬k<xs.size:=eY;have d:¬k<ys.size:=by rw[<-h.size];exact h1
  rw[getElem!_neg xs k h1,getElem!_neg ys k d];exact hd
 |some x=>obtain⟨y,e,f⟩:=h.get c;rw[Rw c,Rw e];exact f
def Ey:VR φ (default:so) default:=.bool _
theorem aw.E7{f g:Nat->so}(h:∀i,VR φ (f i) (g i)):aw φ ((alg n).map f) ((alg n).map g):=by refine⟨aj,λi x y c d=>?_⟩;rw[ald] at c d;cases e:(alg n)[i]? with|none=>rw[e] at c;cases c|some k=>grind
def Yn(p:cO P)(t:TO)(h:VR φ v v')(hu:VR φ u u'):SR P K VR φ (Instr.makeSlice t v u) (Instr.makeSlice t v' u'):=by
 refine SR.bind (ew t) λD d _ o e=>?_;subst e;cases d with
 |slice elem=>
  refine SR.bind (vX (h.mono o)) λl len _ m e=>?_;subst e;refine SR.bind (vX ((hu.mono o).mono m)) λg f _ q e=>?_;subst e;refine SR.bind (mR elem) λg F _ y e=>?_;subst e;dsimp only;split
  ·refine .dead ?_;split
   ·exact fz (eE _)
   ·split
    ·exact fz (eE _)
    ·exact fI λ_=>fz (eE _)
  ·refine SR.bind (S:=VR) Oq λg _ _ A _=>?_;refine SR.bind (fJ elem) λg n _ B e=>?_;subst e
   have k:∀(l:Ren)(z j:Array so),aw l z j->SR P K VR l (newRow elem (Array.map (λx=>z[x%z.size]!) (alg ((EV.wrap f).toNat*n)))>>=λa=>pure (Value.slice (an a) (EV.wrap len).toNat (EV.wrap f).toNat))
     (newRow elem (Array.map (λx=>j[x%j.size]!) (alg ((EV.wrap f).toNat*n)))>>=λa=>pure (Value.slice (an a) (EV.wrap len).toNat (EV.wrap f).toNat)):=λl z j c=>by
    refine SR.bind (zR elem (aw.E7 λi=>?_)) λg a a' _ C=>.pure (.slice _ _ C);rw[c.size];exact c.Hx Ey
   split
   ·exact SR.bind (R:=aw) (.pure .empty) λg z j _ c=>k g z j c
   ·exact SR.bind (pT p elem) λg z j _ c=>k g _ _ c.cells
 |_=>exact .halt _ _
end
end
section
variable[ag]
section
variable{P:NO}{K:aH}{φ:Ren}
def aw.append{a b c d:Array so}(h:aw φ a b)(k:aw φ c d):aw φ (a++c) (b++d):=by
 refine⟨by simp[h.size,k.size],λi x y f e=>?_⟩;rw[Array.getElem?_append] at f e;split at f
 ·rw[if_pos uX] at e;exact h.at_ i x y f e
 ·rw[if_neg uX,<-h.size] at e;exact k.at_ _ x y f e
def aw.zeroCells{z c:Array so}(h:aw φ z c)(n:Nat):aw φ (ajX z n) (ajX c n):=by unfold ajX;rw[h.size];exact aw.E7 λi=>h.Hx Ey
def Fit(n:Nat)(v:so):Prop:=∀p l c,v=.slice p l c->n<=l
def aaV(h:VR φ v v'):SR P K (λ_ a b=>a=b/\Fit a v) φ (Builtin.lenOf v) (Builtin.lenOf v'):=by cases h with|dV n c=>exact .pure ⟨rfl,λ_ _ _ e=>by cases e;exact av _⟩|slice n c h=>exact .pure ⟨rfl,λ_ _ _ e=>by cases e;exact av _⟩|empty=>exact .pure ⟨rfl,λ_ _ _ e=>by cases e;exact av _⟩|string s=>exact .pure ⟨rfl,λ_ _ _ e=>by cases e⟩|_=>exact .halt _ _
def aw.ofMap{α:Type}(xs:Array α)(f:α->so)(e:∀a,VR φ (f a) (f a)):aw φ (xs.map f) (xs.map f):=by refine⟨rfl,λi x y c d=>?_⟩;rw[c] at d;cases d;rw[ald] at c;cases hq:xs[i]? with|none=>rw[hq] at c;cases c|some a=>rw[hq] at c;cases c;exact e a
def Mt(size:Nat)(h:VR φ v v'):SR P K (λ_ a b=>a=#[]/\b=#[]) φ (ajO size 0 v) (ajO size 0 v'):=by
 have d:∀s:ByteArray,((s.extract 0 0).data.map λb=>Value.int .u8 b.toNat)=#[]:=λs=>by simp
 cases h with
 |dV m c=>exact .pure ⟨rfl,rfl⟩
 |@slice a a' m c h=>exact Lf
 |@empty a a'=>exact Lf
 |string s=>exact .pure ⟨d s,d s⟩
 |_=>exact .halt _ _
def MP(size n:Nat)(h:VR φ v v')(d:Fit n v):SR P K aw φ (ajO size n v) (ajO size n v'):=by
 cases h with
 |dV m c=>exact .pure .empty
 |slice m c h=>exact Ec h _
 |empty=>obtain rfl:n=0:=Nat.le_zero.1 (d _ _ _ rfl);exact(Mt size .empty).mono λ_ _ _ e=>by rw[e.1,e.2];exact .empty
 |string s=>exact .pure (aw.ofMap _ _ λb=>.int _ _)
 |_=>exact .halt _ _
def ZR:Calm P (shape r):=qi λw=>⟨_,_,rfl,.refl w⟩
def YV:Calm P (frozen a):=qi λw=>⟨_,_,rfl,.refl w⟩
def Lh:Calm P (Builtin.holdsCells a n):=sJ ZR λs=>by cases s<;>exact lU
def XK{size:Nat}:Calm P (Builtin.mayShare size ka n base x):=by
 have last:∀b:Bool,Calm P (if(!b)=AT then pure AT else match x with
   |.slice (an b) _ _=>(do pure (!(<-Builtin.holdsCells b (n*size))||base.any (·.block==b.block)):Sem Bool)
   |_=>pure Bz):=λb=>by
  split
  ·exact lU
  ·split
   ·exact sJ Lh λ_=>lU
   ·exact lU
 cases base with
 |none=>exact last AT
 |some a=>exact sJ Lh λb=>sJ YV λc=>last _
def A0(elem:TO)(base:Option ajF)(ka f size:Nat)(cG:Bool)(n:Nat)(s x:so):Sem so:=do
 let d:Sem (Array so):=
  if !cG then ajO size n x
  else if n*size=0 then pure #[]
  else do pure (ajX (<-akY elem).cells n)
 let c:=ka+n
 if c<=f then
  let new<-d
  if let an a:=base then storeCells (a.add (ka*size)) new.toList
  pure (.slice base c f)
 else
  if(c:Int)>EV.max/\(cG\/(<-typeInfo elem).bytes=0) then runtimePanic (.error "growslice: len out of range")
  if Builtin.nextslicecap c f*(<-typeInfo elem).bytes>2^48 then(if cG then runtimePanic (.error "growslice: len out of range") else do
   if !(<-Builtin.mayShare size ka n base x) then mark .noRoom
   unsupported (.resourceLimit "append: a slice or a string whose bytes no memory bears"))
  let e<-choose (.appendCap c f elem)
  askRoom (e*(<-typeInfo elem).bytes)
  let old<-ajO size ka s
  let new<-d
  let rest:=ajX (<-akY elem).cells (e-c)
  pure (.slice (an (<-newRow elem (old++new++rest))) c e)
def NH(c:cO P)(elem:TO)(size:Nat){cG:Bool}(d:VR φ x x')(e:cG=Bz->Fit n x):
  SR P K aw φ (if !cG then ajO size n x else if n*size=0 then pure #[] else akY elem>>=λz=>pure (ajX z.cells n))
   (if !cG then ajO size n x' else if n*size=0 then pure #[] else akY elem>>=λz=>pure (ajX z.cells n)):=by
 split
 ·next hz2=>exact MP size n d (e (by simpa using hz2))
 ·split
  ·exact .pure .empty
  ·exact SR.bind (pT c elem) λf z g _ h=>.pure (h.cells.zeroCells n)
def E8{q:Question}:SR P K aZ φ (choose q) (choose q):=.choose λn=>.pure rfl
def Rx(elem:TO)(d e size ka n:Nat)(cG:Bool)(s x:so):Sem so:=do
 let c<-choose (.appendCap d e elem)
 askRoom (c*(<-typeInfo elem).bytes)
 let old<-ajO size ka s
 let new<-(if !cG then ajO size n x
  else if n*size=0 then pure #[]
  else do pure (ajX (<-akY elem).cells n):Sem (Array so))
 let rest:=ajX (<-akY elem).cells (c-d)
 pure (.slice (an (<-newRow elem (old++new++rest))) d c)
def ZS(k:cO P)(elem:TO){d:Nat}(f size:Nat){cG:Bool}(q:VR φ s s')(t:VR φ x x')(h:Fit ka s)(i:cG=Bz->Fit n x):
  SR P K VR φ (Rx elem d f size ka n cG s x) (Rx elem d f size ka n cG s' x'):=by
 refine SR.bind E8 λg c _ h1 e=>?_;subst e;refine SR.bind (mR elem) λg F _ l e=>?_;subst e;refine SR.bind (S:=VR) Oq λg _ _ m _=>?_;refine SR.bind (MP size ka (((q.mono h1).mono l).mono m) h) λg o G y A=>?_;refine SR.bind (NH k elem size ((((t.mono h1).mono l).mono m).mono y) i) λg a a' B C=>?_;refine SR.bind (pT k elem) λg z H p j=>?_;refine SR.bind (zR elem ((((A.mono B).mono p).append (C.mono p)).append (j.cells.zeroCells _))) λg b b' _ D=>.pure (.slice _ _ D)
inductive Jd(φ:Ren):Option ajF->Option ajF->Prop
 |none:Jd φ ns ns
 |some {a a':ajF}:AR φ a a'->Jd φ (an a) (an a')
def Yo(elem:TO)(size:Nat)(cG:Bool)(c:VR φ x x'):
  SR P K (λ_ a b=>a=#[]/\b=#[]) φ (if !cG then ajO size 0 x else if 0*size=0 then pure #[] else akY elem>>=λz=>pure (ajX z.cells 0))
   (if !cG then ajO size 0 x' else if 0*size=0 then pure #[] else akY elem>>=λz=>pure (ajX z.cells 0)):=by
 split
 ·exact Mt size c
 ·rw[if_pos (Nat.zero_mul _)];exact .pure ⟨rfl,rfl⟩
def Je(φ:Ren)(n c:Nat)(b b':Option ajF):Prop:=Jd φ b b'\/(n=0/\c=0/\∃a a',b=an a/\b'=an a')
def Ot(p:cO P)(elem:TO){d:Option ajF}{c:Nat}(size:Nat)(i:Je φ ka c base d)(cG:Bool)(n:Nat)(q:VR φ s s')(j:VR φ x x')(k:Fit ka s)(f:cG=Bz->Fit n x):
  SR P K VR φ (A0 elem base ka c size cG n s x) (A0 elem d ka c size cG n s' x'):=by
 unfold A0;dsimp only;by_cases h:ka+n<=c
 ·rw[if_pos h,if_pos h];rcases i with i|⟨rfl,rfl,b,b',rfl,rfl⟩
  case inr=>obtain rfl:n=0:=aa;refine SR.bind (Yo elem size cG j) λl a a' h1 m=>?_;obtain⟨rfl,rfl⟩:=m;exact .pure .empty
  refine SR.bind (NH p elem size j f) λl a a' h1 m=>?_;cases i with
  |none=>exact .pure (.dV _ _)
  |some g=>exact SR.bind (S:=VR) (D4 l 0 m.toList ((g.mono h1).add _)) λz _ _ o _=>.pure (.slice _ _ ((g.mono h1).mono o))
 ·rw[if_neg h,if_neg h];refine SR.bind (mR elem) λl A _ h1 e=>?_;subst e;split
  ·exact DF
  ·refine SR.bind (mR elem) λt y _ o e=>?_;subst e;have le:=Ren.le_trans h1 o;split
   ·refine .dead ?_;split
    ·exact fz (eE _)
    ·exact fz (fI (λ_=>by split<;>first|exact fI (λ_=>eZ) (qi λw=>⟨_,_,rfl,.refl w⟩)|exact eZ) XK)
   ·exact ZS p elem c size (q.mono le) (j.mono le) k f
def Uo(elem:TO)(base:Option ajF)(ka c size:Nat)(s x:so)(cG:Bool):Sem so:=do
 let n<-if cG then do
   let l:=EV.wrap (<-asInt x)
   if l<0 then runtimePanic (.error "makeslice: len out of range")
   if l*(<-typeInfo elem).bytes>2^48 then
    let d<-choose (.extern "append.ofMake.carriedOut" 2)
    runtimePanic (.error (if d==1 then "makeslice: len out of range" else "growslice: len out of range"))
   pure l.toNat
  else Builtin.lenOf x
 A0 elem base ka c size cG n s x
def th(k:cO P)(elem:TO){c:Option ajF}(ka d size:Nat)(hb:Je φ ka d base c)(cG:Bool)(m:VR φ s s')(g:VR φ x x')(f:Fit ka s):
  SR P K VR φ (Uo elem base ka d size s x cG) (Uo elem c ka d size s' x' cG):=by
 have o:∀{i:Ren},Ren.le φ i->Je i ka d base c:=λh=>by
  rcases hb with hb|hb
  ·cases hb with|none=>exact .inl .none|some p=>exact .inl (.some (p.mono h))
  ·exact .inr hb
 cases cG with
 |false=>exact SR.bind (aaV g) λi n _ h1 e=>by have⟨rfl,q⟩:=e;exact Ot k elem size (o h1) Bz n (m.mono h1) (g.mono h1) f λ_=>q
 |true=>
  refine SR.bind (vX g) λi l _ h1 e=>?_;subst e;dsimp only;split
  ·exact DF
  ·refine SR.bind (mR elem) λt y _ j e=>?_;subst e;split
   ·exact .dead (fI λ_=>fz (eE _))
   ·exact Ot k elem size (o (Ren.le_trans h1 j)) AT _ (m.mono (Ren.le_trans h1 j)) (g.mono (Ren.le_trans h1 j)) f λe=>by cases e
def aaW(i:cO P)(ts:Array TO)(t:TO)(h:aw φ xs ys):SR P K VR φ (Builtin.append_ ts t xs) (Builtin.append_ ts t ys):=by
 unfold Builtin.append_;cases m:xs[0]? with
 |none=>cases ts[0]?<;>exact .halt _ _
 |some s=>
  have⟨s',o,A⟩:=h.get m;cases p:xs[1]? with
  |none=>cases ts[0]?<;>exact .halt _ _
  |some x=>
   have⟨x',q,j⟩:=h.get p;rw[o,q];cases ts[0]? with
   |none=>exact .halt _ _
   |some B=>
    refine SR.bind (ew B) λC d _ f e=>?_;subst e;cases d with
    |slice elem=>
     cases A with
     |dV n c=>
      refine SR.bind (fJ elem) λy size _ h1 e=>?_;subst e;cases ts[1]? with
      |none=>exact th i elem n c size (.inl .none) Bz (.dV n c) ((j.mono f).mono h1) (λ_ _ _ e=>by cases e;exact av _)
      |some k=>exact SR.bind (ew k) λz d _ g e=>by subst e;exact th i elem n c size (.inl .none) _ (.dV n c) (((j.mono f).mono h1).mono g) (λ_ _ _ e=>by cases e;exact av _)
     |slice n c l=>
      refine SR.bind (fJ elem) λy size _ h1 e=>?_;subst e;cases ts[1]? with
      |none=>exact th i elem n c size (.inl (.some ((l.mono f).mono h1))) Bz (.slice n c ((l.mono f).mono h1)) ((j.mono f).mono h1) (λ_ _ _ e=>by cases e;exact av _)
      |some k=>exact SR.bind (ew k) λz d _ g e=>by subst e;exact th i elem n c size (.inl (.some (((l.mono f).mono h1).mono g))) _ (.slice n c (((l.mono f).mono h1).mono g)) (((j.mono f).mono h1).mono g) (λ_ _ _ e=>by cases e;exact av _)
     |empty=>
      refine SR.bind (fJ elem) λy size _ h1 e=>?_;subst e;cases ts[1]? with
      |none=>exact th i elem 0 0 size (.inr ⟨rfl,rfl,_,_,rfl,rfl⟩) Bz .empty ((j.mono f).mono h1) (λ_ _ _ e=>by cases e;exact av _)
      |some k=>exact SR.bind (ew k) λz d _ g e=>by subst e;exact th i elem 0 0 size (.inr ⟨rfl,rfl,_,_,rfl,rfl⟩) _ .empty (((j.mono f).mono h1).mono g) (λ_ _ _ e=>by cases e;exact av _)
     |_=>exact .halt _ _
    |_=>exact .halt _ _
def Gw(ts:Array TO)(t:TO)(h:aw φ xs ys):SR P K VR φ (Builtin.len_ ts t xs) (Builtin.len_ ts t ys):=by
 unfold Builtin.len_;cases f:xs[0]? with
 |none=>cases ts[0]?<;>exact .halt _ _
 |some s=>
  obtain⟨s',g,c⟩:=h.get f;rw[g];cases ts[0]? with
  |none=>exact .halt _ _
  |some j=>
   refine SR.bind (ew j) λk d _ l e=>?_;subst e;cases d with
   |array n e=>cases c<;>exact .pure (.int _ _)
   |pointer arr=>
    have i:SR P K VR k (ajV arr>>=λd=>match d with|.array n _=>pure (goInt n)|_=>stuck "len: pointer to array expected") (ajV arr>>=λd=>match d with|.array n _=>pure (goInt n)|_=>stuck "len: pointer to array expected"):=by exact Lg
    cases c<;>exact i
   |string=>cases c<;>first|exact .pure (.int _ _)|exact .halt _ _
   |slice e=>cases c<;>first|exact .pure (.int _ _)|exact .halt _ _
   |_=>cases c<;>first|exact .halt _ _|exact .pure (.int _ _)
def afv(ts:Array TO)(t:TO)(h:aw φ xs ys):SR P K VR φ (Builtin.cap_ ts t xs) (Builtin.cap_ ts t ys):=by
 unfold Builtin.cap_;cases f:xs[0]? with
 |none=>cases ts[0]?<;>exact .halt _ _
 |some s=>
  obtain⟨s',g,c⟩:=h.get f;rw[g];cases ts[0]? with
  |none=>exact .halt _ _
  |some j=>
   refine SR.bind (ew j) λk d _ l e=>?_;subst e;cases d with
   |array n e=>cases c<;>exact .pure (.int _ _)
   |pointer arr=>
    have i:SR P K VR k (ajV arr>>=λd=>match d with|.array n _=>pure (goInt n)|_=>stuck "cap: pointer to array expected") (ajV arr>>=λd=>match d with|.array n _=>pure (goInt n)|_=>stuck "cap: pointer to array expected"):=by exact Lg
    cases c<;>exact i
   |slice e=>cases c<;>first|exact .pure (.int _ _)|exact .halt _ _
   |_=>cases c<;>first|exact .halt _ _|exact .pure (.int _ _)
def NG(op:BinOp)(x y:ByteArray):SR P K VR φ (Op.stringOp op x y) (Op.stringOp op x y):=by unfold Op.stringOp;split<;>first|exact .pure (.bool _)|exact .halt _ _|(split<;>first|exact .pure (.string _)|exact .halt _ _)
def aef(h:VR φ v v')(k:VR φ u u'):SR P K VR φ (Builtin.max2 v u) (Builtin.max2 v' u'):=by
 cases h with
 |int a n=>cases k<;>first|exact .pure (.int _ _)|exact .halt _ _
 |string s=>
  cases k with
  |string t=>exact MO
  |_=>exact .halt _ _
 |_=>cases k<;>exact .halt _ _
def aeg(h:VR φ v v')(k:VR φ u u'):SR P K VR φ (Builtin.min2 v u) (Builtin.min2 v' u'):=by
 cases h with
 |int a n=>cases k<;>first|exact .pure (.int _ _)|exact .halt _ _
 |string s=>
  cases k with
  |string t=>exact MO
  |_=>exact .halt _ _
 |_=>cases k<;>exact .halt _ _
def E9{f:so->so->Sem so}(d:∀(φ:Ren)(v v' u u':so),VR φ v v'->VR φ u u'->SR P K VR φ (f v u) (f v' u')):
  ∀{xs ys:List so}(φ:Ren){v v':so},iy φ xs ys->VR φ v v'->SR P K VR φ (xs.foldlM f v) (ys.foldlM f v')
 |[],[],_,_,_,_,h=>.pure h
 |_::_,_::_,φ,_,_,.cons e hr,h=>SR.bind (d φ _ _ _ _ h e) λg a b i c=>E9 d g (hr.mono i) c
def afw(ts:Array TO)(t:TO)(h:aw φ xs ys):SR P K VR φ (Builtin.max_ ts t xs) (Builtin.max_ ts t ys):=by unfold Builtin.max_;have:=h.toList;generalize xs.toList=l at this;generalize ys.toList=m at this;cases this with|nil=>exact .halt _ _|cons h k=>exact E9 (λφ v v' u u' h k=>aef h k) φ k h
def afx(ts:Array TO)(t:TO)(h:aw φ xs ys):SR P K VR φ (Builtin.min_ ts t xs) (Builtin.min_ ts t ys):=by unfold Builtin.min_;have:=h.toList;generalize xs.toList=l at this;generalize ys.toList=m at this;cases this with|nil=>exact .halt _ _|cons h k=>exact E9 (λφ v v' u u' h k=>aeg h k) φ k h
end
end
section
variable[ag]
section
variable{P:NO}{K:aH}{φ:Ren}
def NI(op:BinOp)(k:IntKind)(x y:Int):SR P K VR φ (Op.intArith op k x y) (Op.intArith op k x y):=by unfold Op.intArith;exact zh
def Ou(op:BinOp)(k:IntKind){x:Int}(y:Int):SR P K VR φ (Op.intBits op k x y) (Op.intBits op k x y):=by unfold Op.intBits;exact zh
def aaX{op:BinOp}{x y:Int}:SR P K VR φ (Op.intCmp op x y) (Op.intCmp op x y):=by unfold Op.intCmp;split<;>first|exact .pure (.bool _)|exact .halt _ _
def aaY{op:BinOp}{k:IntKind}{x y:Int}:SR P K VR φ (Op.intDiv op k x y) (Op.intDiv op k x y):=by
 unfold Op.intDiv;split
 ·exact .dead (eE _)
 ·exact zh
def Ql(op:BinOp)(k:IntKind)(x:Int)(j:IntKind)(y:Int):SR P K VR φ (Op.shift op k x j y) (Op.shift op k x j y):=by
 unfold Op.shift;split
 ·exact .dead (eE _)
 ·dsimp only;exact zh
def Qm(op:UnOp)(h:VR φ v v'):SR P K VR φ (Op.unary op v) (Op.unary op v'):=by
 cases h with
 |int k n=>cases op<;>first|exact NI .sub k 0 n|exact Ou .xor k n|exact .halt _ _
 |bool b=>cases op<;>first|exact .pure (.bool _)|exact .halt _ _
 |_=>cases op<;>exact .halt _ _
def YW{k:IntKind}{n:Int}:SR P K VR φ (Conv.intToInt k n) (Conv.intToInt k n):=.pure (.int _ _)
def Qn{c:Type}{f f':so->c->Sem (ForInStep c)}(d:∀(φ:Ren) x y s,VR φ x y->SR P K aZ φ (f x s) (f' y s)):∀{xs ys:List so}(φ:Ren)(s:c),iy φ xs ys->SR P K aZ φ (forIn xs s f) (forIn ys s f')
 |[],[],_,_,_=>by simp only[List.forIn_nil];exact .pure rfl
 |x::xs,y::ys,φ,s,.cons h hr=>by simp only[List.forIn_cons];refine SR.bind (d φ x y s h) λg z _ i e=>?_;subst e;cases z with|done b=>exact .pure rfl|yield b=>exact Qn d g b (hr.mono i)
def acx{c:Type}{f f':so->c->Sem (ForInStep c)}(d:∀(φ:Ren) x y s,VR φ x y->SR P K aZ φ (f x s) (f' y s))(φ:Ren)(s:c)(h:aw φ xs ys):SR P K aZ φ (forIn xs s f) (forIn ys s f'):=by rw[<-akx,<-akx];exact Qn d φ s h.toList
def Xb(h:VR φ v v'):SR P K VR φ (alc v) (alc v'):=by
 cases h with
 |dV n c=>exact .pure (.string _)
 |slice n c f=>
  refine SR.bind (Ec f n) λg xs ys _ d=>?_;refine SR.bind (acx (λφ x y s h=>?_) g ByteArray.empty d) λi s _ _ e=>?_
  ·cases h with
   |int k n=>cases k<;>first|exact .pure rfl|exact .halt _ _
   |_=>exact .halt _ _
  ·subst e;exact .pure (.string _)
 |empty=>exact .pure (.string _)
 |_=>exact .halt _ _
def nA(t:TO):SR P K (λ_ a b=>a=b/\P.underlying t=an a) φ (ajV t) (ajV t):=by refine SR.program ?_;show SR P K _ φ (match P.underlying t with|some i=>(pure i:Sem TypeDesc)|none=>stuck "no such type") (match P.underlying t with|some i=>(pure i:Sem TypeDesc)|none=>stuck "no such type");cases P.underlying t with|none=>exact .halt _ _|some i=>exact .pure ⟨rfl,rfl⟩
def Bo(P:NO)(src dst:TO):Bool:=
 match P.underlying src,P.underlying dst with
 |some (.int _),an (.int _)=>AT
 |some (.slice e),an .string=>(match P.underlying e with|some (.int .u8)=>AT|_=>Bz)
 |_,_=>Bz
def XB{n:Int}:SR P K VR φ (Conv.intToString n) (Conv.intToString n):=.pure (.string _)
def Ov(src dst:TO)(hd:Bo P src dst=AT)(h:VR φ v v'):SR P K VR φ (convert src dst v) (convert src dst v'):=by
 refine SR.bind (nA src) λy d _ o e=>?_;obtain⟨rfl,h1⟩:=e;refine SR.bind (nA dst) λj d2 _ f e=>?_;obtain⟨rfl,l⟩:=e;unfold Bo at hd;rw[h1,l] at hd;replace h:=(h.mono o).mono f;cases d with
 |int k=>
  cases d2 with
  |int z=>cases h<;>first|exact YW|exact .halt _ _
  |_=>cases hd
 |slice e=>
  cases d2 with
  |string=>
   have c:(match P.underlying e with|some (.int .u8)=>AT|_=>Bz)=AT:=hd;cases he:P.underlying e with
   |none=>rw[he] at c;cases c
   |some p=>
    rw[he] at c
    have g:∀{x x':so},VR j x x'->SR P K VR j (ajV e>>=λd=>match d with|.int .u8=>alc x|.int .i32=>Conv.runesToString x|_=>stuck "Convert: a slice of what to string?")
      (ajV e>>=λd=>match d with|.int .u8=>alc x'|.int .i32=>Conv.runesToString x'|_=>stuck "Convert: a slice of what to string?"):=λ{x x'} q=>by
     refine SR.bind (nA e) λA d3 _ i t=>?_;obtain⟨rfl,m⟩:=t;rw[he] at m;cases m;cases p with
     |int k=>cases k<;>first|exact Xb (q.mono i)|cases c
     |_=>cases c
    have k:=g h;cases h with
    |int=>exact XB
    |string s=>exact .pure (.string s)
    |aW h1 l=>refine SR.dead ?_;show fD P (ajV e>>=λd=>match d with|.int .u8=>alc aW|.int .i32=>Conv.runesToString aW|_=>stuck "Convert: a slice of what to string?");exact fI (λd=>by split<;>exactλw=>⟨_,_,rfl,trivial,.refl w⟩) (rZ e).calm
    |_=>exact k
  |_=>cases hd
 |_=>cases hd
end
end
section
variable[ag]
section
variable{P:NO}{K:aH}{φ:Ren}
section
omit [ag]
variable{w:AS}{a b:ajF}{E:Event->Prop}
def Clear(w:AS)(b:Nat):Prop:=∀c:ajF,c.block=b->w.frozen? c=Bz
def Nn(h:Clear w a.block):eB P (stringish a) w Bz E:=by
 refine eB.bind (.nil λ_=>rfl) ?_;rw[h a rfl];refine eB.bind (a:=w.shape? a.block) (.nil λ_=>rfl) ?_;cases w.shape? a.block with
 |none=>exact .nil λ_=>rfl
 |some x=>exact .nil λes=>by show(Result.ok (w.frozen? {block:=a.block,off:=x.2}) w,es)=_;rw[h ⟨a.block,x.2,ns⟩ rfl]
def MQ(h:a.block=b.block):eB P (sameAddr a b) w (a==b) E:=.nil λes=>by unfold sameAddr;rw[show(a.block==b.block)=AT by simpa using h];rfl
def No{c d:Obj}(f:a.block≠b.block)(h1:w.heap[a.block]?=an c)(g:w.heap[b.block]?=an d)(v1:∀x y,c≠.view x y)(v2:∀x y,d≠.view x y)(f1:Clear w a.block)(f2:Clear w b.block)
  (h:E ⟨.obj a.block,Bz,c.isChan⟩)(i:E ⟨.obj b.block,Bz,d.isChan⟩):eB P (sameAddr a b) w Bz E:=by
 unfold sameAddr;rw[show(a.block==b.block)=Bz by simpa using f];refine eB.bind (a:=Bz) (.nil λes=>by show(Result.ok (w.frozen? a) w,es)=_;rw[f1 a rfl]) ?_;refine eB.bind (a:=w.frozen? b) (.nil λ_=>rfl) ?_;refine eB.bind (eB.bind ((zF h1 v1).mono λ_ e=>e▸h) (.nil λ_=>rfl)) ?_;refine eB.bind (eB.bind ((zF g v2).mono λ_ e=>e▸i) (.nil λ_=>rfl)) ?_;refine eB.bind (a:=Bz) (eB.bind (Nn f1) (eB.bind (Nn f2) ?_)) (.nil λ_=>rfl);exact .nil λ_=>rfl
end
def HR.clear{w':AS}(H:HR K φ w.heap w'.heap)(d:ag.cl a.block)(i:AR φ a a'):Clear w a.block/\Clear w' a'.block:=by obtain⟨o,o',f,g,l⟩:=H.obj _ _ i.block;have j:=(H.cl _ d).2 _ i.block;cases l with|own _ h=>exact absurd j h|shut _ _ h=>exact absurd j h|token s p m t h1 k q=>obtain rfl:=q d;exact⟨λc e=>by simp[aku,e,f],λc e=>by simp[aku,e,g]⟩|blank s p h1 k=>exact⟨λc e=>by simp[aku,e,f],λc e=>by unfold aku;rw[e,g];cases o'<;>first|rfl|exact k.elim⟩|num=>exact⟨λc e=>by simp[aku,e,f],λc e=>by simp[aku,e,g]⟩
def Addr.ext'(h1:a.block=b.block)(c:a.off=b.off)(d:a.spot=b.spot):a=b:=by cases a;cases b;simp_all
def AR.Up(c:AR φ a a')(d:AR φ b b')(e:(a==b)=AT):(a'==b')=AT:=by rw[beq_iff_eq] at e⊢;subst e;exact Addr.ext' (aJ (c.block.symm.trans d.block)) (c.off.trans d.off.symm) (c.spot.trans d.spot.symm)
def AR.beq(c:AR φ a a')(d:AR φ b b'){w':AS}(hw:WR K φ w w')(f:ag.cl a.block)(cb:ag.cl b.block):(a'==b')=(a==b):=by rw[Bool.eq_iff_iff];refine⟨λe=>?_,c.Up d⟩;rw[beq_iff_eq] at e⊢;exact Addr.ext' ((hw.heap.inj _ _ _ c.block (by rw[e];exact d.block)).elim id λm=>absurd ⟨f,cb⟩ m.2.2.1) (by rw[<-c.off,e,d.off]) (by rw[<-c.spot,e,d.spot])
def NJ(j:ag.cl a.block)(cb:ag.cl b.block)(f:AR φ a a')(g:AR φ b b'):SR P K aZ φ (sameAddr a b) (sameAddr a' b'):=.xL λw y hw=>by
 by_cases d:a.block=b.block
 ·exact⟨_,_,λl _=>MQ d,MQ (aJ (f.block.symm.trans (d▸g.block))),(f.beq g hw j cb).symm⟩
 ·have i:a'.block≠b'.block:=λe=>(hw.heap.inj _ _ _ f.block (by rw[e];exact g.block)).elim d λm=>m.2.2.1 ⟨j,cb⟩;obtain⟨z,A,o,p,q1⟩:=hw.heap.obj _ _ f.block;obtain⟨B,C,q,t,k⟩:=hw.heap.obj _ _ g.block;have f1:=hw.heap.clear j f;have f2:=hw.heap.clear cb g
  exact⟨_,_,λl e=>No d (e▸o) (e▸q) q1.noView.1 k.noView.1 (λc h=>by unfold aku;rw[e];exact f1.1 c h) (λc h=>by unfold aku;rw[e];exact f2.1 c h) trivial trivial,
   No i p t q1.noView.2.1 k.noView.2.1 f1.2 f2.2 (Al f.block q1) (Al g.block k),rfl⟩
end
end
section
variable[ag]
section
variable{P:NO}{K:aH}{φ:Ren}
def SR.test{c d:Bool}(h:∀w w',WR K φ w w'->d=c):SR P K aZ φ (akJ c) (akJ d):=
 .xL λw w' hw=>⟨c,d,λ_ _=>.nil λ_=>rfl,.nil λ_=>rfl,(h w w' hw).symm⟩
def SR.agn{c d:Bool}(h:c=AT->d=AT):SR P K (λ_ c d=>c=AT->d=AT) φ (akJ c) (akJ d):=.pure h
def ahF(c:Ren)(a b:Option (ajF×Bool)):Prop:=(a=ns/\b=ns)\/∃x y l,a=an (x,l)/\b=an (y,l)/\AR c x y
def numOf:Obj->Option (ajF×Bool)
 |.number a l=>an (a,l)
 |_=>ns
omit [ag] in
def MR{P:NO}{o:Obj}(h:w.heap[r]?=an o):eB P (numberAt r) w (numOf o) (· =⟨.obj r,Bz,o.isChan⟩):=by
 cases o<;>first|exact⟨#[],λes=>by unfold numberAt shape;simp only[bind,alz,akX,World.shape?,h,Option.isSome_some,if_true,Array.append_empty];rfl,aj⟩|
  exact⟨#[_],λes=>by unfold numberAt shape getObj;simp only[bind,alz,akX,World.shape?,h,Option.isSome_none,Bool.false_eq_true,if_false];rfl,λe he=>by simpa using he⟩
def NK{c:Nat}(h:φ r=an c):SR P K ahF φ (numberAt r) (numberAt c):=.xL λw j hw=>by
 obtain⟨o,f,g,i,d⟩:=hw.heap.obj _ _ h;refine⟨_,_,λk e=>(MR (e▸g)).mono λ_ _=>trivial,(MR i).mono λ_ e=>e▸Al h d,?_⟩;cases d with
 |num l _ h=>exact .inr ⟨_,_,l,rfl,rfl,h⟩
 |blank s p _ h=>exact .inl ⟨rfl,by cases f<;>first|rfl|exact h.elim⟩
 |own _ _ h _=>cases h with|number l h=>exact .inr ⟨_,_,l,rfl,rfl,h⟩|_=>exact .inl ⟨rfl,rfl⟩
 |_=>exact .inl ⟨rfl,rfl⟩
def oJ(c:AR φ a a'):SR P K (λd x y=>AR d x.1 y.1/\x.2=y.2) φ (akd a) (akd a'):=by
 refine SR.bind (NK c.block) λd x y e h=>?_;rcases h with⟨rfl,rfl⟩|⟨x,y,l,rfl,rfl,h⟩
 ·exact .pure ⟨c.mono e,rfl⟩
 ·exact .pure ⟨h,rfl⟩
def By(t:TO)(a b:ajF)(c:Bool)(n:Bool):Sem Bool:=do
 if c then return (<-aly a)==(<-aly b)
 let .named "sync.copyChecker" _:=(<-typeInfo t).desc|unsupported .addressObserved
 if n then pure AT else unsupported .addressObserved
def acy(t:TO)(h:AR φ a a')(i:AR φ b b')(c:Bool){n d:Bool}(j:n=AT->d=AT):SR P K aZ φ (By t a b c n) (By t a' b' c d):=by
 cases c with
 |true=>refine SR.bind (pV h) λf x _ g e=>?_;subst e;refine SR.bind (pV (i.mono g)) λf y _ _ e=>?_;subst e;exact .pure rfl
 |false=>
  refine SR.bind (mR t) λf k _ g e=>?_;subst e;split
  ·cases n
   ·exact .dead eZ
   ·rw[j rfl];exact .pure rfl
  ·exact .halt _ _
def Ph(hG:K.G=P.globals.size)(t:TO)(o:AR φ a a')(p:AR φ b b'):
  SR P K aZ φ (do
   let(a,b):=((<-akd a).1,(<-akd b).1)
   if a.block==b.block&&a.block<(<-program).globals.size then return (<-aly a)==(<-aly b)
   let .named "sync.copyChecker" _:=(<-typeInfo t).desc|unsupported .addressObserved
   if a==b then pure AT else unsupported .addressObserved:Sem Bool) (do
   let(a,b):=((<-akd a').1,(<-akd b').1)
   if a.block==b.block&&a.block<(<-program).globals.size then return (<-aly a)==(<-aly b)
   let .named "sync.copyChecker" _:=(<-typeInfo t).desc|unsupported .addressObserved
   if a==b then pure AT else unsupported .addressObserved:Sem Bool):=by
 refine SR.bind (oJ o) λC x x' q f=>?_;obtain⟨x,D⟩:=x;obtain⟨x',z⟩:=x';refine SR.bind (oJ (p.mono q)) λk y g j h=>?_;obtain⟨y,F⟩:=y;obtain⟨g,A⟩:=g;have f:=f.1.mono j;have h:=h.1;refine SR.ask ?_
 have h1:SR P K aZ k (akJ (x.block==y.block&&decide (x.block<P.globals.size))) (akJ (x'.block==g.block&&decide (x'.block<P.globals.size))):=.test λw H hw=>by
  have l:=hw.heap.low _ _ f.block;rw[hG] at l;rw[Bool.eq_iff_iff,aft,aft,decide_eq_true_eq,decide_eq_true_eq,beq_iff_eq,beq_iff_eq,<-l];constructor
  ·intro e;refine⟨(hw.heap.inj _ _ _ f.block (by rw[e.1];exact h.block)).elim id λm=>?_,e.2⟩;have h1:=m.2.2.2;omega
  ·intro e;refine⟨?_,e.2⟩;have:=f.block;rw[e.1,h.block] at this;exact(aJ this).symm
 show SR P K aZ k (alz (akJ (x.block==y.block&&decide (x.block<P.globals.size))) λc=>alz (akJ (x==y)) λn=>By t x y c n)
  (alz (akJ (x'.block==g.block&&decide (x'.block<P.globals.size))) λc=>alz (akJ (x'==g)) λn=>By t x' g c n)
 refine SR.bind h1 λI c _ d e=>?_;subst e;refine SR.bind (SR.agn ((f.mono d).Up (h.mono d))) λB n J i e=>?_;exact acy t ((f.mono d).mono i) ((h.mono d).mono i) c e
end
end
section
variable[ag]
section
variable{P:NO}{K:aH}{φ:Ren}
def Yp{t:TO}:Calm P (typeStr t):=((se t).bind λi=>by
 dsimp only;split
 ·exact .unsupported _
 ·exact .ret _).calm
def acz(elem:TO)(f:ag.cl a.block)(cb:ag.cl b.block)(g:AR φ a a')(h:AR φ b b'):
  SR P K aZ φ (do if(<-sizeOf elem)≠0 then sameAddr a b else if a==b then pure AT else pure ((<-choose .zeroSizeEq)=1):Sem Bool)
   (do if(<-sizeOf elem)≠0 then sameAddr a' b' else if a'==b' then pure AT else pure ((<-choose .zeroSizeEq)=1):Sem Bool):=by
 refine SR.bind (fJ elem) λi n _ d e=>?_;subst e;split
 ·exact NJ f cb (g.mono d) (h.mono d)
 ·show SR P K aZ i (alz (akJ (a==b)) λc=>if c=AT then pure AT else choose .zeroSizeEq>>=λn=>pure (decide (n=1))) (alz (akJ (a'==b')) λc=>if c=AT then pure AT else choose .zeroSizeEq>>=λn=>pure (decide (n=1)));refine SR.bind (SR.test λw j hw=>(g.mono d).beq (h.mono d) hw f cb) λk c _ _ e=>?_;subst e;split
  ·exact .pure rfl
  ·exact SR.bind E8 λl n _ _ e=>by subst e;exact .pure rfl
def Am{α d:Type}{c:Ren}{f f':α->d->Sem (ForInStep d)}(h:∀(φ:Ren),Ren.le c φ->∀a s,SR P K aZ φ (f a s) (f' a s)):∀(l:List α)(φ:Ren),Ren.le c φ->∀(s:d),SR P K aZ φ (forIn l s f) (forIn l s f')
 |[],_,_,_=>by simp only[List.forIn_nil];exact .pure rfl
 |a::l,φ,i,s=>by simp only[List.forIn_cons];refine SR.bind (h φ i a s) λj x _ g e=>?_;subst e;cases x with|done b=>exact .pure rfl|yield b=>exact Am h l j (Ren.le_trans i g) b
def zS{α d:Type}{c:Ren}{f f':α->d->Sem (ForInStep d)}{L:List α}(i:∀(φ:Ren),Ren.le c φ->∀a,a∈L->∀s,SR P K aZ φ (f a s) (f' a s)):∀(l:List α),(∀a,a∈l->a∈L)->∀(φ:Ren),Ren.le c φ->∀(s:d),SR P K aZ φ (forIn l s f) (forIn l s f')
 |[],_,_,_,_=>by simp only[List.forIn_nil];exact .pure rfl
 |a::l,hm,φ,j,s=>by simp only[List.forIn_cons];refine SR.bind (i φ j a (hm a aj) s) λk x _ g e=>?_;subst e;cases x with|done b=>exact .pure rfl|yield b=>exact zS i l (λa h=>hm a (by simp[h])) k (Ren.le_trans j g) b
def flat(P:NO):Nat->TO->Bool
 |0,_=>Bz
 |n+1,t=>match P.underlying t with
  |some (.pointer _)|some .unsafePointer|some (.interface _)|some (.func ..)=>Bz
  |some (.struct fs)=>fs.all λf=>flat P n f.type
  |some (.array _ e)=>flat P n e
  |_=>AT
def zT(hG:K.G=P.globals.size):∀(d n:Nat)(φ:Ren)(t:TO){x x' y Q:so},flat P n t=AT->VR φ x x'->VR φ y Q->SR P K aZ φ (ajL d t x y) (ajL d t x' Q)
 |0,_,_,_,_,_,_,_,_,_,_=>.halt _ _
 |_,0,_,_,_,_,_,_,j,_,_=>by cases j
 |d+1,n+1,φ,t,x,x',y,Q,j,m,l=>by
  unfold ajL;refine SR.bind (nA t) λI de _ X e=>?_;obtain⟨rfl,hu⟩:=e;unfold flat at j;rw[hu] at j;replace m:=m.mono X;replace l:=l.mono X;cases de with
  |bool=>cases m<;>(cases l<;>first|exact .pure rfl|exact .halt _ _)
  |int k=>
   cases m with
   |int k1 n1=>
    cases l with
    |int k2 Z=>
     dsimp only;split
     ·exact .pure rfl
     ·exact .halt _ _
    |nilPtr=>exact .halt _ _
    |ptr h=>rcases n1 with(_|n)|n<;>first|exact .pure rfl|exact .halt _ _
    |_=>exact .halt _ _
   |nilPtr=>cases l<;>exact .halt _ _
   |ptr h=>
    cases l with
    |ptr J=>exact Ph hG t h J
    |nilPtr=>exact .halt _ _
    |int k2 Z=>rcases Z with(_|n)|n<;>first|exact .pure rfl|exact .halt _ _
    |_=>exact .halt _ _
   |_=>cases l<;>exact .halt _ _
  |string=>cases m<;>(cases l<;>first|exact .pure rfl|exact .halt _ _)
  |pointer elem=>cases j
  |unsafePointer=>cases j
  |interface ms=>cases j
  |slice e=>
   cases m with
   |dV n c=>cases l<;>first|exact .pure rfl|exact .halt _ _
   |slice n c h=>cases l<;>first|exact .pure rfl|exact .halt _ _
   |empty=>cases l<;>first|exact .pure rfl|exact .halt _ _
   |_=>cases l<;>exact .halt _ _
  |func a b c=>cases j
  |struct g=>
   cases m with
   |@agg xs q z A=>
    cases l with
    |@agg ys B C D=>
     have h1:aw I xs q:=⟨z,A⟩;have J:aw I ys B:=⟨C,D⟩
     have S:∀f∈g.toList,flat P n f.type=AT:=λf h=>by have j:g.all (λf=>flat P n f.type)=AT:=j;rw[Array.all_eq_true_iff_forall_mem] at j;exact j f (jI.1 h)
     refine SR.ask ?_ (by simp only[Dp]);split
     ·exact .dead (fz eZ)
     ·rw[<-akx,<-akx];refine SR.bind (zS (λT hle f L s=>?_) g.toList (λf h=>h) I (Ren.le_refl _) _) λT r _ _ e=>?_
      ·split
       ·refine SR.bind (lX f.type (h1.mono hle) f.offset) λp a a' F V=>?_;refine SR.bind (lX f.type ((J.mono hle).mono F) f.offset) λp b b' H W=>?_;refine SR.bind (zT hG d n p f.type (S f L) (V.mono H) W) λp c _ _ e=>?_;subst e;cases c<;>exact .pure rfl
       ·exact .pure rfl
      ·subst e;obtain⟨o,u⟩:=r;cases o<;>exact SR.pure (R:=aZ) rfl
    |_=>exact .halt _ _
   |_=>cases l<;>exact .halt _ _
  |array len elem=>
   have j:flat P n elem=AT:=j;obtain⟨N,hnF,j⟩:∃N,N=n/\flat P N elem=AT:=⟨n,rfl,j⟩;cases m with
   |@agg xs q z A=>
    cases l with
    |@agg ys B C D=>
     have h1:aw I xs q:=⟨z,A⟩;have J:aw I ys B:=⟨C,D⟩;refine SR.bind (fJ elem) λT n _ M e=>?_;subst e;rw[ajT,ajT];refine SR.bind (Am (λp hle i s=>?_) _ T (Ren.le_refl _) _) λp r _ _ e=>?_
     ·refine SR.bind (lX elem ((h1.mono M).mono hle) _) λp a a' F V=>?_;refine SR.bind (lX elem (((J.mono M).mono hle).mono F) _) λp b b' H W=>?_;refine SR.bind (zT hG d N p elem j (V.mono H) W) λp c _ _ e=>?_;subst e;cases c<;>exact .pure rfl
     ·subst e;obtain⟨o,u⟩:=r;cases o<;>exact SR.pure (R:=aZ) rfl
    |_=>exact .halt _ _
   |_=>cases l<;>exact .halt _ _
  |_=>cases m<;>(cases l<;>first|exact .halt _ _|exact .pure rfl)
def oq(P:NO):Prop:=(∀t,ag.np t->∃n,flat P n t=AT)/\∀t,ag.hd t->∀e,P.underlying t≠an (.pointer e)
def mD(P:NO)(t:TO)(x y:so):Prop:=(∃n,flat P n t=AT)\/(∃c,P.underlying t=an (.interface c))\/((∃e,P.underlying t=an (.pointer e))/\(x=.pointer ns\/y=.pointer ns))
def mD.oZ{t:TO}{x y:so}(h:mD P t x y){a:Array TO}{b c}:P.underlying t≠an (.func a b c):=by
 intro e;rcases h with⟨n,d⟩|⟨g,f⟩|⟨⟨i,he⟩,_⟩
 ·cases n with|zero=>cases d|succ n=>unfold flat at d;rw[e] at d;cases d
 ·simp_all
 ·simp_all
theorem zU(t:TO)(h:aw φ xs ys)(k:∀(i:Nat) x,xs[i]?=an x->Tk x)(off:Nat):SR P K (λf a b=>VR f a b/\Tk a) φ (part t xs off) (part t ys off):=by
 refine SR.bind (FF t) λf b _ g e=>?_;subst e;cases b with
 |true=>
  refine SR.bind (fJ t) λm n _ c e=>?_;subst e;have:=((h.mono g).mono c).extract off (off+n);refine .pure ⟨.agg this.size this.at_,.agg λi x d=>?_⟩;rw[Array.getElem?_extract] at d;split at d
  ·grind
  ·cases d
 |false=>
  cases hi:xs[off]? with
  |none=>exact .halt _ _
  |some x=>obtain⟨y,j,l⟩:=h.get hi;rw[j];exact .pure ⟨l.mono g,k _ _ hi⟩
def F9(hG:K.G=P.globals.size):∀(d:Nat)(φ:Ren)(t:TO){x x' y D:so},Tk x->Tk y->VR φ x x'->VR φ y D->SR P K aZ φ (ajL d t x y) (ajL d t x' D)
 |0,_,_,_,_,_,_,_,_,_,_=>.halt _ _
 |d+1,φ,t,x,x',y,D,kx,T,p,g=>by
  unfold ajL;refine SR.bind (ew t) λF C _ V e=>?_;subst e;replace p:=p.mono V;replace g:=g.mono V;cases kx with
  |ptr q=>
   cases p with|ptr p=>
   cases T with
   |ptr j=>
    cases g with|ptr g=>
    cases C with|int k=>exact Ph hG t p g|pointer elem=>exact acz elem q j p g|unsafePointer=>exact NJ q j p g|_=>exact .halt _ _
   |agg H=>cases g with|agg _ _=>cases C<;>exact .halt _ _
  |@agg xs W=>
   cases p with
   |@agg _ I J L=>
    cases T with
    |ptr j=>cases g with|ptr g=>cases C<;>exact .halt _ _
    |@agg ys H=>
     cases g with
     |@agg _ M N Q=>
      have h1:aw F xs I:=⟨J,L⟩;have X:aw F ys M:=⟨N,Q⟩;cases C with
      |struct l=>
       refine SR.ask ?_ (by simp only[Dp]);split
       ·exact .dead (fz eZ)
       ·rw[<-akx,<-akx];refine SR.bind (zS (λS hle f Z s=>?_) l.toList (λf h=>h) F (Ren.le_refl _) _) λS r _ _ e=>?_
        ·split
         ·refine SR.bind (zU f.type (h1.mono hle) W f.offset) λm a a' z q=>?_;refine SR.bind (zU f.type ((X.mono hle).mono z) H f.offset) λm b b' A j=>?_;refine SR.bind (F9 hG d m f.type q.2 j.2 (q.1.mono A) j.1) λm c _ _ e=>?_;subst e;cases c<;>exact .pure rfl
         ·exact .pure rfl
        ·subst e;obtain⟨o,u⟩:=r;cases o<;>exact SR.pure (R:=aZ) rfl
      |array len elem=>
       refine SR.bind (fJ elem) λS n _ B e=>?_;subst e;rw[ajT,ajT];refine SR.bind (Am (λm hle i s=>?_) _ S (Ren.le_refl _) _) λm r _ _ e=>?_
       ·refine SR.bind (zU elem ((h1.mono B).mono hle) W _) λm a a' z q=>?_;refine SR.bind (zU elem (((X.mono B).mono hle).mono z) H _) λm b b' A j=>?_;refine SR.bind (F9 hG d m elem q.2 j.2 (q.1.mono A) j.1) λm c _ _ e=>?_;subst e;cases c<;>exact .pure rfl
       ·subst e;obtain⟨o,u⟩:=r;cases o<;>exact SR.pure (R:=aZ) rfl
      |_=>exact .halt _ _
def ZT(hG:K.G=P.globals.size)(H:oq P):∀(d:Nat)(φ:Ren)(t:TO){x x' y q:so},mD P t x y->VR φ x x'->VR φ y q->SR P K aZ φ (ajL d t x y) (ajL d t x' q)
 |0,_,_,_,_,_,_,_,_,_=>.halt _ _
 |d+1,φ,t,x,x',y,q,hc,j,g=>by
  rcases hc with⟨n,I⟩|⟨S,z⟩|⟨⟨e,he⟩,A⟩
  ·exact zT hG _ n φ t I j g
  ·unfold ajL;refine SR.bind (nA t) λJ L _ l e=>?_;obtain⟨rfl,hu⟩:=e;rw[z] at hu;cases hu;replace j:=j.mono l;replace g:=g.mono l;cases j with
   |nilIface=>cases g<;>first|exact .pure rfl|exact .halt _ _
   |@iface k M B F hp=>
    cases g with
    |nilIface=>exact .pure rfl
    |@iface ty N C m f=>
     dsimp only;split
     ·exact .pure rfl
     ·rename_i o;simp only[ne_eq,Decidable.not_not] at o;subst o;refine SR.bind (mR k) λD T _ i e=>?_;subst e;split
      ·refine .dead (fI λp=>?_);refine fI λV=>?_;split
       ·exact fz eZ
       ·exact fI (λ_=>eE _) Yp
      ·have c:ag.np k->SR P K aZ D (ajL d k M N) (ajL d k B C):=λh=>by obtain⟨n,Q⟩:=H.1 k h;exact zT hG d n D k Q (F.mono i) (m.mono i)
       rcases hp.or with hp|hp
       ·exact c hp
       ·rcases f.or with f|f
        ·exact c f
        ·exact F9 hG d D k hp f (F.mono i) (m.mono i)
    |_=>exact .halt _ _
   |_=>cases g<;>exact .halt _ _
  ·unfold ajL;refine SR.bind (nA t) λJ L _ l R=>?_;obtain⟨rfl,hu⟩:=R;rw[he] at hu;cases hu;replace j:=j.mono l;replace g:=g.mono l;rcases A with rfl|rfl
   ·cases j with|nilPtr=>cases g<;>first|exact .pure rfl|exact .halt _ _
   ·cases g with|nilPtr=>cases j<;>first|exact .pure rfl|exact .halt _ _
end
end
end Go.Proofs.Q0.aL
