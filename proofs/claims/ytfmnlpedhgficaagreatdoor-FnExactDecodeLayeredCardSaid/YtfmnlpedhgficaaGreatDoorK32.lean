import Derived.Test.YtfmnlpedhgficaaGreatDoorK31
import Derived.ChangeMade
set_option maxRecDepth 100000
set_option maxHeartbeats 8000000
set_option linter.all false
open Go.Value renaming int->U,slice->Y,bool->a5,agg->a9,pointer->bi,tuple->ci,iface->em
open Go.IntKind renaming i64->O
open Go.Obj renaming cells->ac
open Go.Ending renaming returned->be
open Bool renaming and_eq_true->aft,false->Bz,or_eq_true->ale,true->AT
open Go renaming Code->akA,FuncId->alo,Operand->ajR,Program->NO,TypeId->TO,TypeInfo->ali,Value->so,handleType->alm
open List renaming all_eq_true->aju
open Option renaming bind_eq_some_iff->ajo,none->ns,some->an
namespace Go.Proofs
def Ma{p:Prop}(h:p:=by
  simp only[Sem.bind,e];split
  ·exact .dead eZ
  ·exact .pure rfl):p:=h
def Mb{p:Prop}(h:p:=by intro v hv;simp only[Option.map_eq_some_iff] at hv;obtain⟨zs,e,rfl⟩:=hv;exact GI (key zs e)):p:=h
def MM{p:Prop}(h:p:=by rw[if_neg g0];exact⟨λ⟨fn2,h2,h3⟩=>by rw[h] at h2;cases h2;exact h3,λh3=>⟨fn,h,h3⟩⟩):p:=h
end Go.Proofs
namespace Go.Proofs.Q0.aL
def tR:Nat->so->Bool
 |0,_=>Bz
 |n+1,v=>match v with
  |.bool _|.int _ _|.string _|.nilFunc|.nilIface|.pointer ns|.map ns|.chan ns|.slice ns _ _=>AT
  |.agg xs=>xs.toList.all (tR n)
  |.tuple xs=>xs.toList.all (tR n)
  |_=>Bz
structure iA where
 ok:Nat
 fv:Nat
 gl:Nat
 np:List Nat
 ow:List String
 own:Bool
def eW(c:iA)(s:Nat->Bool):ajR->Bool
 |.tmp t=>s t
 |.const v=>tR 6 v
 |.global g=>c.gl.testBit g
 |.func f=>c.fv.testBit f
def wW(c:iA)(s:Nat->Bool)(xs:Array ajR):Bool:=xs.toList.all (eW c s)
def B8(c:iA)(s:Nat->Bool):Option ajR->Bool
 |none=>AT
 |some x=>eW c s x
def Hm(c:iA)(s:Nat->Bool)(k:Call):Bool:=
 wW c s k.args&&match k.callee with
  |.value f=>(match f with|.func n=>c.ok.testBit n|_=>eW c s f)
  |.invoke r name=>eW c s r&&c.ow.contains name
  |.builtin b=>match b with|.append|.len|.cap|.min|.max=>AT|_=>Bz
def Iq:ajR->Bool
 |.const (.pointer ns)=>AT
 |_=>Bz
def Ir(P:NO)(t:TO)(x y:ajR):Bool:=
 flat P 8 t||match P.underlying t with
  |some (.interface _)=>AT
  |some (.pointer _)=>Iq x||Iq y
  |_=>Bz
def lQ(P:NO)(c:iA)(s:Nat->Bool):Op->Bool
 |.makeInterface t x=>eW c s x&&c.np.contains t
 |.move x|.assign x|.box _ x|.load _ x|.nilCheck x|.unOp _ _ x|.fieldAddr _ x _|.field _ x _|.typeAssert x _ _ _|.extract x _=>eW c s x
 |.pick k a b=>eW c s k&&eW c s a&&eW c s b
 |.alloc _=>AT
 |.build _ e|.buildSlice _ _ e=>e.toList.all λp=>eW c s p.2
 |.store _ a x=>eW c s a&&eW c s x
 |.binOp op t x y _=>eW c s x&&eW c s y&&(match op with|.eql|.neq=>Ir P t x y|_=>AT)
 |.convert src dst x=>eW c s x&&Bo P src dst
 |.makeFunc fn first d=>(match fn with|.func f=>c.fv.testBit f|_=>Bz)&&wW c s first&&wW c s d
 |.makeSlice _ l k=>eW c s l&&eW c s k
 |.slice _ x g hi h=>eW c s x&&B8 c s g&&B8 c s hi&&B8 c s h
 |.indexAddr _ x i|.index _ x i=>eW c s x&&eW c s i
 |.call k=>Hm c s k
 |_=>Bz
def UN(s:Nat->Bool)(o:Oper):Bool:=match o.dst with|none=>AT|some d=>s d
def T6(P:NO)(c:iA)(s:Nat->Bool)(a:Array Oper)(o:Oper):Bool:=
 lQ P c s o.op&&match o.guard with
  |none=>AT
  |some (j,_)=>match a[j]? with|none=>AT|some b=>UN s b
def wX(c:iA)(x:akA):Bool:=c.own||match x with|.block n _=>!(n==987654)|_=>AT
def il(P:NO)(c:iA)(s:Nat->Bool):akA->Bool
 |.skip|.exit _|.label _|.goto _|.ret|.refuse _=>AT
 |.region _ d _=>d.toList.all (T6 P c s d)
 |.seq a b=>il P c s a&&il P c s b
 |.cond x a b=>eW c s x&&il P c s a&&il P c s b
 |.block _ b|.loop b|.scope b=>il P c s b
 |.rangeFunc g _ a b=>(eW c s g&&il P c s a&&il P c s b)&&(wX c a&&wX c b)
inductive dJ(x:akA):akA->Prop
 |It {a b:akA}:dJ x a->dJ x (.seq a b)
 |Iu {a b:akA}:dJ x b->dJ x (.seq a b)
 |Ho {k:ajR} {a b:akA}:dJ x a->dJ x (.cond k a b)
 |Hp {k:ajR} {a b:akA}:dJ x b->dJ x (.cond k a b)
 |block {i:Nat} {b:akA}:dJ x b->dJ x (.block i b)
 |loop {b:akA}:dJ x b->dJ x (.loop b)
 |scope {b:akA}:dJ x b->dJ x (.scope b)
 |Hq {g:ajR} {ps:Array Tmp} {b:akA}:dJ x (.rangeFunc g ps x b)
 |Hr {g:ajR} {ps:Array Tmp} {a:akA}:dJ x (.rangeFunc g ps a x)
 |J8 {g:ajR} {ps:Array Tmp} {a b:akA}:dJ x a->dJ x (.rangeFunc g ps a b)
 |J9 {g:ajR} {ps:Array Tmp} {a b:akA}:dJ x b->dJ x (.rangeFunc g ps a b)
def Iv(s:Nat->Bool):ResultVar->Bool
 |.tmp t=>s t
 |.cell t _=>s t
def yw(fn:Func)(i:Nat):Bool:=Nat.blt i fn.ntmps
def ks(fn:Func):akA:=fn.body.getD (.refuse "unsupported: a function without a Go body is entered")
def Ka(P:NO)(c:iA)(fn:Func):Bool:=il P c (yw fn) (ks fn)&&fn.results.toList.all (Iv (yw fn))
def tS(P:NO)(c:iA)(fs:Array Func)(a n:Nat)(skip:Nat):Bool:=(List.range' a n).all λf=>!c.ok.testBit f||f==skip||match fs[f]? with|some fn=>Ka P c fn|none=>Bz
section
variable[ag]{P:NO}{c:iA}{s:Nat->Bool}{f:alo}
def Gk:∀(n:Nat)(v:so),tR n v=AT->∀φ,VR φ v v
 |0,_,h,_=>by cases h
 |n+1,v,h,φ=>by
  have d:∀xs:Array so,xs.toList.all (tR n)=AT->∀(i:Nat) x y,xs[i]?=an x->xs[i]?=an y->VR φ x y:=λxs h i x y e g=>by rw[e] at g;cases g;rw[aju] at h;exact Gk n x (h x (jI.2 (lR e))) φ
  cases v with
  |bool b=>exact .bool b
  |int k n=>exact .int k n
  |string s=>exact .string s
  |nilFunc=>exact .nilFunc
  |nilIface=>exact .nilIface
  |pointer a=>cases a with|none=>exact .nilPtr|some a=>cases h
  |map a=>cases a with|none=>exact .ko|some a=>cases h
  |chan a=>cases a with|none=>exact .kk|some a=>cases h
  |slice a n c=>cases a with|none=>exact .dV n c|some a=>cases h
  |agg xs=>exact .agg rfl (d xs h)
  |tuple xs=>exact .tuple rfl (d xs h)
  |_=>cases h
structure ph(P:NO)(c:iA):Prop where
 ok:∀f,c.ok.testBit f=AT->ag.ok f
 fv:∀f,c.fv.testBit f=AT->ag.fv f
 gl:∀g,c.gl.testBit g=AT->ag.gl g
 np:∀t,c.np.contains t=AT->ag.np t
 ow:∀m,c.ow.contains m=AT->tt P m
variable(H:ph P c)(hs:∀i,s i=AT->ag.lv f i)
include H hs
def qs{x:ajR}(h:eW c s x=AT):eo (ag.lv f) x:=by cases x with|tmp t=>exact hs _ h|const v=>exact Gk _ _ h|global g=>exact H.gl _ h|func f=>exact H.fv _ h
def FU{xs:Array ajR}(h:wW c s xs=AT):xf (ag.lv f) xs:=λi x a=>by unfold wW at h;rw[aju] at h;exact qs H hs (h x (jI.2 (lR a)))
def Gl{x:Option ajR}(h:B8 c s x=AT):xP (ag.lv f) x:=by cases x with|none=>trivial|some x=>exact qs H hs h
theorem adl{k:Call}(h:Hm c s k=AT):Gy P (ag.lv f) k:=by
 unfold Hm at h;rw[aft] at h;refine⟨FU H hs h.1,?_⟩;have a:=h.2;cases hc:k.callee with
 |value g=>rw[hc] at a;cases g with|func n=>exact .inl ⟨n,rfl,H.ok _ a⟩|_=>exact .inr (qs H hs a)
 |invoke r name=>rw[hc] at a;rw[aft] at a;exact⟨qs H hs a.1,H.ow _ a.2⟩
 |builtin b=>grind
omit H hs [ag] in
def ae3{t:TO}{x y:ajR}(h:Ir P t x y=AT):BR P t x y:=by
 unfold Ir at h;rw[ale] at h;rcases h with h|h
 ·exact .inl ⟨8,h⟩
 ·cases hu:P.underlying t with
  |none=>rw[hu] at h;cases h
  |some d=>
   rw[hu] at h;cases d with
   |interface g=>exact .inr (.inl ⟨g,hu⟩)
   |pointer e=>
    have nil:∀z:ajR,Iq z=AT->z=.const (.pointer ns):=λz b=>by
     cases z with
     |const v=>cases v with
      |pointer a=>cases a with|none=>rfl|some a=>cases b
      |_=>cases b
     |_=>cases b
    rw[ale] at h;exact .inr (.inr ⟨⟨e,hu⟩,h.imp (nil x) (nil y)⟩)
   |_=>cases h
def af1{o:Op}(h:lQ P c s o=AT):Hy P (ag.lv f) o:=by
 have one:∀{x:ajR},eW c s x=AT->eo (ag.lv f) x:=λh=>qs H hs h
 have d:∀{d:Array (Nat×ajR)},(d.toList.all λp=>eW c s p.2)=AT->∀(i:Nat) p,d[i]?=an p->eo (ag.lv f) p.2:=λ{d} h i p g=>by rw[aju] at h;exact one (h p (jI.2 (lR g)))
 cases o with
 |makeInterface t x=>simp only[lQ,aft] at h;exact⟨one h.1,H.np _ h.2⟩
 |move|assign|box|load|nilCheck|unOp|fieldAddr|field|typeAssert|extract=>exact one h
 |pick k a b=>simp only[lQ,aft] at h;exact⟨one h.1.1,one h.1.2,one h.2⟩
 |alloc _=>trivial
 |build _ p=>exact d h
 |buildSlice _ _ p=>exact d h
 |store _ a x=>simp only[lQ,aft] at h;exact⟨one h.1,one h.2⟩
 |binOp op t x y u=>simp only[lQ,aft] at h;refine⟨one h.1.1,one h.1.2,λe=>?_⟩;have j:=h.2;rcases e with rfl|rfl<;>exact ae3 j
 |convert src dst x=>simp only[lQ,aft] at h;exact⟨one h.1,h.2⟩
 |makeFunc fn a b=>simp only[lQ,aft] at h;refine⟨?_,FU H hs h.1.2,FU H hs h.2⟩;cases fn with|func f=>exact⟨f,rfl,H.fv _ h.1.1⟩|_=>exact absurd h.1.1 aj
 |makeSlice _ l k=>simp only[lQ,aft] at h;exact⟨one h.1,one h.2⟩
 |slice _ x m hi n=>simp only[lQ,aft] at h;exact⟨one h.1.1.1,Gl H hs h.1.1.2,Gl H hs h.1.2,Gl H hs h.2⟩
 |indexAddr _ x i=>simp only[lQ,aft] at h;exact⟨one h.1,one h.2⟩
 |index _ x i=>simp only[lQ,aft] at h;exact⟨one h.1,one h.2⟩
 |call k=>exact adl H hs h
 |_=>cases h
def kY:∀(k:akA),il P c s k=AT->(∀x,dJ x k->wX c x=AT->ag.cd f x)->eF P f k/\∀x,dJ x k->eF P f x
 |.skip,_,_=>⟨trivial,λx h=>by cases h⟩
 |.exit _,_,_=>⟨trivial,λx h=>by cases h⟩
 |.label _,_,_=>⟨trivial,λx h=>by cases h⟩
 |.goto _,_,_=>⟨trivial,λx h=>by cases h⟩
 |.ret,_,_=>⟨trivial,λx h=>by cases h⟩
 |.refuse _,_,_=>⟨trivial,λx h=>by cases h⟩
 |.region id t d,h,_=>⟨λi o u=>by simp only[il,aju] at h;have:=h o (jI.2 (lR u));unfold T6 at this;rw[aft] at this;refine⟨af1 H hs this.1,λj r v y d w hd=>?_⟩;have n:=this.2;rw[v] at n;dsimp only at n;rw[w] at n;unfold UN at n;dsimp only at n;rw[hd] at n;exact hs _ n,λx h=>by cases h⟩
 |.seq a b,h,hc=>by simp only[il,aft] at h;obtain⟨p,q⟩:=kY a h.1 λx e=>hc x (.It e);obtain⟨l,m⟩:=kY b h.2 λx e=>hc x (.Iu e);exact⟨⟨p,l⟩,λx e=>by cases e with|It e=>exact q x e|Iu e=>exact m x e⟩
 |.cond k a b,h,hc=>by simp only[il,aft] at h;obtain⟨p,q⟩:=kY a h.1.2 λx e=>hc x (.Ho e);obtain⟨l,m⟩:=kY b h.2 λx e=>hc x (.Hp e);exact⟨⟨qs H hs h.1.1,p,l⟩,λx e=>by cases e with|Ho e=>exact q x e|Hp e=>exact m x e⟩
 |.block i b,h,hc=>by obtain⟨l,m⟩:=kY b h λx e=>hc x (.block e);exact⟨l,λx e=>by cases e with|block e=>exact m x e⟩
 |.loop b,h,hc=>by obtain⟨l,m⟩:=kY b h λx e=>hc x (.loop e);exact⟨l,λx e=>by cases e with|loop e=>exact m x e⟩
 |.scope b,h,hc=>by obtain⟨l,m⟩:=kY b h λx e=>hc x (.scope e);exact⟨l,λx e=>by cases e with|scope e=>exact m x e⟩
 |.rangeFunc g z a b,h,hc=>by simp only[il,aft] at h;obtain⟨p,q⟩:=kY a h.1.1.2 λx e=>hc x (.J8 e);obtain⟨l,m⟩:=kY b h.1.2 λx e=>hc x (.J9 e);exact⟨⟨qs H hs h.1.1.1,p,l,hc a .Hq h.2.1,hc b .Hr h.2.2⟩,λx e=>by cases e with|Hq=>exact p|Hr=>exact l|J8 e=>exact q x e|J9 e=>exact m x e⟩
end
section
open Go.Extern
section
variable[ag]{P:NO}{K:aH}{φ:Ren}
def M7{f:alo}{fn a:Func}{e:Array so->Sem so}(l:P.funcs[f]?=an fn)(b:P.two.funcs[f]?=an a)(m:(fn.name== "runtime.NumGoroutine")=Bz)(d:(a.name== "runtime.NumGoroutine")=Bz)
  (n:fn.body.isNone=AT)(g:a.body.isNone=AT)(o:Extern.findNext fn=ns)(j:Extern.findNext a=ns)(he:Extern.find fn=an e)(k:Extern.find a=an e)
  {xs ys:Array so}(h:SR P K VR φ (e xs) (e ys)):SR P K NR φ (callFunc f xs) (callFunc f ys):=by
 refine SR.program ?_;simp only[Sem.bind,l,b,m,d,n,g,o,j,he,k,Bool.false_eq_true,if_false,if_true];refine .quiet (.inr ⟨f,rfl⟩) ?_;show SR P K NR φ (e xs>>=λv=>pure (Next.value v)) (e ys>>=λv=>pure (Next.value v));exact SR.bind h λq v r _ p=>.pure (.value p)
def abx(n:φ P.globals.size=an P.globals.size)(g:ag.cl P.globals.size){e:TO}(b:P.cutTypes.find? (·.1== "internal/reflectlite.rtype")=an ("internal/reflectlite.rtype",e))(j:ag.hd e)
  {xs ys:Array so}(h:aw φ xs ys):SR P K VR φ (ReflectliteType.typeOf xs) (ReflectliteType.typeOf ys):=by
 have hs:=h.size;have o:=h.at_;obtain⟨xs⟩:=xs;obtain⟨ys⟩:=ys
 match xs,ys with
 |[],_=>exact .halt _ _
 |x::y::l,_=>cases x<;>exact .halt _ _
 |[x],[]=>simp at hs
 |[x],y::z::l=>simp at hs
 |[x],[y]=>
  have k:=o 0 x y rfl rfl;cases k with
  |nilIface=>exact .pure .nilIface
  |@iface t v r p u=>
   have d:P.two.cutTypes.find? (·.1== "internal/reflectlite.rtype")=an ("internal/reflectlite.rtype",e):=b;refine SR.program ?_;simp only[Sem.bind,b,d];refine SR.program ?_;have q:VR φ (typeHandle P t) (typeHandle P.two t):=.ptr ⟨n,rfl,rfl⟩
   exact .pure (.iface e (.agg rfl λi x y a m=>by
    match i with
    |0=>simp at a m;subst a;subst m;exact q
    |i+1=>simp at a) (.inr (.inr ⟨j,.agg λi x a=>by
    match i with
    |0=>simp at a;subst a;exact .ptr g
    |i+1=>simp at a⟩)))
  |_=>exact .halt _ _
def Zj(j:φ P.globals.size=an P.globals.size){x y:so}(h:VR φ x y):SR P K aZ φ (Rtype.ofHandle x) (Rtype.ofHandle y):=by
 refine SR.program ?_;cases h with
 |@ptr a b h=>
  by_cases d:a.block=P.globals.size
  ·have e:b.block=P.globals.size:=by have:=h.block;rw[d,j] at this;exact(aJ this).symm
   have g:alm P (.pointer (an a))=an a.off:=by simp[alm,d]
   have k:alm P.two (.pointer (an b))=an a.off:=by show(if b.block==P.globals.size then an b.off else ns)=_;simp[e,h.off]
   show SR P K aZ φ (match alm P (.pointer (an a)) with|some t=>pure t|none=>stuck "a type descriptor expected") (match alm P.two (.pointer (an b)) with|some t=>pure t|none=>stuck "a type descriptor expected");rw[g,k];exact .pure rfl
  ·have g:alm P (.pointer (an a))=ns:=by simp[alm,d]
   show SR P K aZ φ (match alm P (.pointer (an a)) with|some t=>pure t|none=>stuck "a type descriptor expected") (match alm P.two (.pointer (an b)) with|some t=>pure t|none=>stuck "a type descriptor expected");rw[g];exact .halt _ _
 |_=>exact .halt _ _
def OD(t:TO):P.two.packed t=P.packed t:=by
 have:P.two.packedAs t=P.packedAs t:=by unfold Program.packedAs;exact Me
 unfold Program.packed;rw[this]
def Mc:∀(d:Nat)(t:TO),P.two.holdsPacked d t=P.holdsPacked d t
 |0,_=>rfl
 |d+1,t=>by unfold Program.holdsPacked;have a:P.two.holdsPacked d=P.holdsPacked d:=funext λt=>Mc d t;rw[a,OD];rfl
def aby{what:String}(t:TO):SR P K aZ φ (Rtype.noPack what t) (Rtype.noPack what t):=by refine SR.program ?_;have e:P.two.packed t=P.packed t:=OD t;exact Ma
def X0{what:String}(t:TO):SR P K aZ φ (Rtype.noPackHeld what t) (Rtype.noPackHeld what t):=by refine SR.program ?_;refine SR.program ?_;have e:P.two.holdsPacked P.two.depth t=P.holdsPacked P.depth t:=Mc _ t;exact Ma
def aap(b:φ P.globals.size=an P.globals.size){x y:so}(h:VR φ x y):SR P K aZ φ (ReflectliteType.ofRtype x) (ReflectliteType.ofRtype y):=by
 cases h with
 |@agg xs a hs d=>
  obtain⟨xs⟩:=xs;obtain⟨a⟩:=a
  match xs,a with
  |[],_=>exact .halt _ _
  |x::y::l,_=>exact .halt _ _
  |[x],[]=>simp at hs
  |[x],y::z::l=>simp at hs
  |[x],[y]=>refine SR.bind (Zj b (d 0 x y rfl rfl)) λg t j _ e=>?_;subst e;exact SR.bind (aby t) λk _ _ _ _=>.pure rfl
 |_=>exact .halt _ _
def X4(a:φ P.globals.size=an P.globals.size){xs ys:Array so}(h:aw φ xs ys):
  SR P K VR φ (ReflectliteType.method (λt=>do Rtype.noPackHeld "Comparable" t;pure (.bool (<-typeInfo t).comparable)) xs) (ReflectliteType.method (λt=>do Rtype.noPackHeld "Comparable" t;pure (.bool (<-typeInfo t).comparable)) ys):=by
 have hs:=h.size;have b:=h.at_;obtain⟨xs⟩:=xs;obtain⟨ys⟩:=ys
 match xs,ys with
 |[],_=>exact .halt _ _
 |x::y::l,_=>exact .halt _ _
 |[x],[]=>simp at hs
 |[x],y::z::l=>simp at hs
 |[x],[y]=>refine SR.bind (aap a (b 0 x y rfl rfl)) λd t g _ e=>?_;subst e;refine SR.bind (X0 t) λj _ _ _ _=>?_;refine SR.bind (mR t) λk i m _ e=>?_;subst e;exact .pure (.bool _)
end
end
end Go.Proofs.Q0.aL
namespace Go.Proofs.Q0.Open
section
open Go.Conc Go.ConcN aL
def ja:Nat:=1729122518512978492652104934378969580530371051877497972738558013734904
def okW:Nat:=1729122517658948228255020437171622127341020195237668575684390155190272
def eu:iA:={ok:=ja,fv:=6324609097153523318444898181049335672201093274285123829760,gl:=31,np:=[195,196,229],ow:=["loop.example/videocodec/impl.fits", "Comparable", "Is", "Unwrap"],own:=Bz}
def xl:iA:={eu with ok:=okW}
def xm:iA:={eu with own:=AT}
@[reducible]
noncomputable def cj(T:Nat->Prop):ag where
 ok f:=ja.testBit f=AT
 fv f:=eu.fv.testBit f=AT
 gl g:=eu.gl.testBit g=AT\/g=Gz.prog.globals.size
 cd f x:=ja.testBit f=AT/\f≠53/\wX eu x=AT/\∃fn,Tryz.prog.funcs[f]?=an fn/\dJ x (ks fn)
 fs:=Tryz.prog.funcs
 lv f i:=if f=53 then((kept i=AT\/i=4)/\i<41) else∃fn,Tryz.prog.funcs[f]?=an fn/\i<fn.ntmps
 dM c c':=c=jm/\c'=iG
 home:=53
 cl:=T
 np t:=eu.np.contains t=AT
 hd t:=t=212
 jk _:=True
noncomputable abbrev jA(T:Nat->Prop):ag:={cj T with ok:=λf=>okW.testBit f=AT,cd:=λf x=>okW.testBit f=AT/\(cj T).cd f x,dM:=λ_ _=>False}
noncomputable def xn(f i:Nat):Prop:=if f=53 then i<41 else∃fn,Tryz.prog.funcs[f]?=an fn/\i<fn.ntmps
def Iw(f:Nat)(x:akA):Prop:=(ja.testBit f=AT/\f≠53/\∃fn,Tryz.prog.funcs[f]?=an fn/\dJ x (ks fn))\/(f=53/\dJ x l8)
noncomputable abbrev jx(T:Nat->Prop):ag:={cj T with cd:=Iw,lv:=xn,dM:=λ_ _=>False}
def af2:tS Gz.prog eu Tryz.prog.funcs 0 243 53=AT:=ah
def Td:tS Gz.prog xl Tryz.prog.funcs 0 243 53=AT:=ah
def af3:tS Gz.prog xm Tryz.prog.funcs 0 243 53=AT:=ah
end
end Go.Proofs.Q0.Open
namespace Go.Proofs.Q0.aL
section
variable[ag]
def Ev(v:so):Prop:=∀φ,VR φ v v
def Ev.cells{v:so}(h:Ev v){x:so}(a:x∈v.cells):Ev x:=by
 have one:∀u:so,Ev u->x∈(#[u]:Array so)->Ev x:=λu hu a=>by simp_all
 cases v with
 |agg xs=>intro φ;have b:x∈xs:=a;obtain⟨i,hi,e⟩:=zD.1 b;have h1:xs[i]?=an x:=eY;cases h φ with|agg d c=>exact c i x x h1 h1
 |_=>exact one _ h a
def GI{xs:Array so}(h:∀x,x∈xs->Ev x):Ev (.agg xs):=λφ=>.agg rfl λi x y a b=>by rw[a] at b;cases b;exact h x (lR a) φ
omit [ag] in
def PQ{α d:Type}(I:d->Prop)(f:α->d->Option (ForInStep d))(h:∀a s r,I s->f a s=an r->I r.value):∀(l:List α)(s c:d),I s->forIn l s f=an c->I c
 |[],s,c,g,e=>by simp only[List.forIn_nil] at e;cases e;exact g
 |a::l,s,c,g,e=>by simp only[List.forIn_cons,bind,ajo] at e;obtain⟨r,hr,e⟩:=e;have:=h a s r g hr;cases r with|done b=>cases e;exact this|yield b=>exact PQ I f h l b c this e
def qI(i:ali):Prop:=∀v,i.zero=an v->Ev v
def abz{d:TO->Option ali}(hi:∀t i,d t=an i->qI i){fs:Array Field}{i:ali}(h:Made.reckonStruct d fs=an i):qI i:=by
 unfold Made.reckonStruct at h;simp only[bind,ajo,pure] at h;obtain⟨a,h1,h⟩:=h;rw[<-Array.forIn_toList] at h1;have key:=PQ (λs=>∀g:Array so,s.2.2.2.2.2.2.2.1=an g->∀x,x∈g->Ev x) _ (λf s r m c=>?_) _ _ _ (λg e x l=>by cases e;simp at l) h1
 ·split at h
  ·cases h;exact Mb
  ·cases h;exact Mb
 ·clear h1;simp only[ajo] at c;obtain⟨j,n,c⟩:=c
  have k:∀g:Array so,(if s.2.1+j.size>Made.mostCells then ns else s.2.2.2.2.2.2.2.1.bind λa=>j.zero.bind λb=>an (a++b.cells))=an g->∀x,x∈g->Ev x:=λg e x l=>by
   split at e
   ·cases e
   ·simp only[ajo] at e;obtain⟨o,p,q,u,v⟩:=e;cases v;rcases j7.1 l with h|h
    ·exact m o p x h
    ·exact(hi _ _ n q u).cells h
  repeat' first
   |exact k
   |(obtain⟨_,_,c⟩:=c)
   |(cases c;done)
   |(cases c;exact k)
   |(simp only[ajo] at c)
   |(split at c)
def abA{b:TO->Option ali}(hi:∀t i,b t=an i->qI i){d:TypeDesc}{i:ali}(h:Made.reckon b d=an i):qI i:=by
 unfold Made.reckon at h;split at h
 ·simp only[bind,ajo,pure] at h
  repeat' first
   |(obtain⟨_,_,h⟩:=h)
   |(cases h;done)
   |(intro v a;cases a;exactλ_=>.nilPtr)
   |(cases h;intro v a;cases a;exactλ_=>.nilPtr)
   |(split at h)
   |(simp only[ajo] at h)
 ·simp only[bind,ajo,pure] at h
  repeat' first
   |(obtain⟨_,_,h⟩:=h)
   |(intro v a;cases a;exactλ_=>.dV 0 0)
   |(cases h;intro v a;cases a;exactλ_=>.dV 0 0)
   |(simp only[ajo] at h)
 ·simp only[bind,ajo,pure] at h
  repeat' first
   |(obtain⟨_,_,h⟩:=h)
   |(intro v a;cases a;exactλ_=>.ko)
   |(cases h;intro v a;cases a;exactλ_=>.ko)
   |(simp only[ajo] at h)
 ·simp only[bind,ajo,pure] at h
  repeat' first
   |(obtain⟨_,_,h⟩:=h)
   |(intro v a;cases a;exactλ_=>.kk)
   |(cases h;intro v a;cases a;exactλ_=>.kk)
   |(simp only[ajo] at h)
 ·simp only[bind,ajo,pure] at h
  repeat' first
   |(obtain⟨_,_,h⟩:=h)
   |(intro v a;cases a;exactλ_=>.nilFunc)
   |(cases h;intro v a;cases a;exactλ_=>.nilFunc)
   |(simp only[ajo] at h)
 ·simp only[bind,ajo,pure] at h;obtain⟨j,e,s,_,h⟩:=h;cases h;intro v a;split at a
  ·cases a
  ·split at a
   ·cases a;exact GI λx c=>by simp at c
   ·simp only[Option.map_eq_some_iff] at a;obtain⟨z,f,rfl⟩:=a;refine GI λx c=>?_;obtain⟨xs,h1,g⟩:=Array.mem_flatten.1 c;rw[Array.mem_replicate] at h1;exact(hi _ _ e z f).cells (h1.2▸g)
 ·exact abz hi h
 ·cases h
def PR{T:Tables}(a:∀(t:Nat)(i:ali),T.types[t]?=an i->qI i):∀(n:Nat)(t:TO)(i:ali),Made.infoAt T n t=an i->qI i
 |0,_,_,h=>by cases h
 |n+1,t,i,h=>by
  unfold Made.infoAt at h;split at h
  ·exact a t i h
  ·simp only[ajo] at h;obtain⟨d,_,h⟩:=h;exact abA (PR a n) h
def adm{P:NO}(a:∀(t:Nat)(i:ali),P.types[t]?=an i->qI i):cO P:=λt i v hi b φ=>by
 have h:=hi;unfold Tables.info? at h;split at h
 ·exact a t i h v b φ
 ·exact PR a _ t i h v b φ
def Zk{b:TO->Option ali}{d:TypeDesc}{i:ali}(h:Made.reckon b d=an i):i.methods=#[]:=by
 unfold Made.reckon at h;split at h;all_goals try simp only[bind,ajo,pure] at h
 all_goals repeat' first
  |(obtain⟨_,_,h⟩:=h)
  |(split at h)
 all_goals first
  |rfl
  |(simp only[ajo] at h;obtain⟨_,_,h⟩:=h;cases h;rfl)
  |skip
 unfold Made.reckonStruct at h;simp only[bind,ajo,pure] at h;obtain⟨a,_,h⟩:=h;split at h<;>(cases h;rfl)
theorem adn{P:NO}{name:String}(a:∀(t:Nat)(i:ali) m f b,P.types[t]?=an i->i.methods.find? (·.name==name)=an m->m.func=an (f,b)->ag.ok f):tt P name:=λt i m f b hi hm c=>by
 have h:=hi;unfold Tables.info? at h;split at h
 ·grind
 ·unfold Made.depth at h;unfold Made.infoAt at h;split at h
  ·simp_all
  ·simp only[ajo] at h;obtain⟨d,_,h⟩:=h;rw[Zk h] at hm;simp at hm
end
end Go.Proofs.Q0.aL
namespace Go.Proofs.Q0.Open
open Go.Proofs.Tryz
variable{f i:Nat}{x:akA}{fn:Func}
section
open Go.Conc Go.ConcN aL
def T7(P:NO):Bool:=P.types.toList.all λi=>match i.zero with|none=>AT|some v=>tR 6 v
def T8(P:NO)(ok:Nat)(name:String):Bool:=P.types.toList.all λi=>i.methods.toList.all λm=>!(m.name==name)||match m.func with|some (f,_)=>ok.testBit f|none=>AT
def UO(fs:Array Func)(ok a n:Nat):Bool:=(List.range' a n).all λf=>!ok.testBit f||f==145||f==221||match fs[f]? with|some fn=>fn.body.isSome&&!(fn.name== "runtime.NumGoroutine")|none=>Bz
def aha:T7 Gz.prog=AT:=aE
def ahb:(eu.ow.all (T8 Gz.prog okW))=AT:=aE
def aiq:UO Tryz.prog.funcs ja 0 243=AT:=ah
def nV:okW&&&ja=okW:=aE
def ahc:eu.fv&&&okW=eu.fv:=aE
def af4:ja>>>243=0:=aE
theorem mZ{a b:Nat}(h:a&&&b=a)(k:a.testBit f=AT):b.testBit f=AT:=fu
def vT(h:ja.testBit f=AT):f<243:=by apply Nat.lt_of_not_le;intro a;have:=Nat.testBit_shiftRight (i:=243) (j:=f-243) ja;rw[af4,Nat.zero_testBit,Nat.add_sub_cancel' a,h] at this;cases this
def mem_range(h:f<243):f∈List.range' 0 243:=eY
def ado{c:iA}(h:tS Gz.prog c Tryz.prog.funcs 0 243 53=AT)(e:f<243)(a:c.ok.testBit f=AT)(b:f≠53):∃fn,Tryz.prog.funcs[f]?=an fn/\Ka Gz.prog c fn=AT:=by unfold tS at h;rw[aju] at h;have:=h f (mem_range e);simp only[a,Bool.not_true,Bool.false_or,ale,beq_iff_eq,b,false_or] at this;cases d:Tryz.prog.funcs[f]? with|none=>rw[d] at this;cases this|some fn=>rw[d] at this;exact⟨fn,rfl,this⟩
def adp(a:ja.testBit f=AT)(h1:f≠145)(b:f≠221):∃fn,Tryz.prog.funcs[f]?=an fn/\fn.body.isSome=AT/\(fn.name== "runtime.NumGoroutine")=Bz:=by have h:=aiq;unfold UO at h;rw[aju] at h;have:=h f (mem_range (vT a));simp only[a,Bool.not_true,Bool.false_or,ale,beq_iff_eq,h1,b,false_or] at this;cases c:Tryz.prog.funcs[f]? with|none=>rw[c] at this;cases this|some fn=>simp_all
theorem QW{P:NO}{t:TO}{i:ali}(h:P.types[t]?=an i):i∈P.types.toList:=fu
section
variable[X:ag]
def Bi:cO Gz.prog:=adm λt i hi v a φ=>by have h:=aha;unfold T7 at h;rw[aju] at h;have:=h i (QW hi);rw[a] at this;exact Gk 6 v this φ
def ae4(a:∀f,okW.testBit f=AT->ag.ok f)(m:String)(hm:eu.ow.contains m=AT):tt Gz.prog m:=adn λt i g f b hi c j=>by have h:=ahb;rw[aju] at h;have h1:=h m (by simpa using hm);unfold T8 at h1;rw[aju] at h1;have d:=h1 i (QW hi);rw[aju] at d;have e:=d g (jI.2 (Array.mem_of_find?_eq_some c));have k:=Array.find?_some (p:=λx:Method=>x.name==m) c;rw[k,j] at e;exact a f (by simpa using e)
end
def npC:(eu.np.all λt=>flat Gz.prog 8 t)=AT:=ah
def hdC:(match Gz.prog.underlying 212 with|some (.pointer _)=>Bz|_=>AT)=AT:=mP
def rtC:Gz.prog.cutTypes.find? (·.1== "internal/reflectlite.rtype")=an ("internal/reflectlite.rtype",212):=aE
structure Sets(X:ag):Prop where
 ok1:∀f,X.ok f->ja.testBit f=AT
 okW:∀f,okW.testBit f=AT->X.ok f
 fv:∀f,X.fv f<->eu.fv.testBit f=AT
 gl:∀g,eu.gl.testBit g=AT->X.gl g
 glG:X.gl Gz.prog.globals.size
 np:∀t,X.np t<->eu.np.contains t=AT
 hd:∀t,X.hd t<->t=212
 clG:X.cl Gz.prog.globals.size
 two:∀f fn,f≠53->Tryz.prog.funcs[f]?=an fn->X.fs[f]?=an fn
 ahd:∃fn,X.fs[53]?=an fn/\fn.body.isSome=AT/\(fn.name== "runtime.NumGoroutine")=Bz
def Sets.T9{X:ag}(S:Sets X):@oq X Gz.prog:=⟨λt a=>⟨8,by
 have h:=npC;rw[aju] at h;exact h t (by simpa using(S.np t).1 a)⟩,λt a e he=>by
 rw[(S.hd t).1 a] at he;have h:=hdC;rw[he] at h;cases h⟩
def Bq:Gz.f53.body.isSome=AT/\(Gz.f53.name== "runtime.NumGoroutine")=Bz:=⟨rfl,ah⟩
def Sets.Br{X:ag}(S:Sets X)(K:aH):@dY X Gz.prog K:=by
 refine⟨S.T9,λf l=>S.okW f (mZ ahc ((S.fv f).1 l)),λf b φ xs o m h=>?_⟩;have j:=m _ S.glG;have c:=S.ok1 f b;by_cases a:f=53
 ·subst a;obtain⟨n,d,e,g⟩:=S.ahd;exact@NL X Gz.prog K φ _ _ _ Gz.func53 Bq.1 Bq.2 d e g b _ _ h
 by_cases h1:f=145
 ·subst h1
  exact@M7 X Gz.prog K φ _ _ _ Extern.ReflectliteType.typeOf (Gz.mU func145 a) (S.two _ _ a func145) ah ah ah ah ah ah ah ah _ _
   (@abx X Gz.prog K φ j S.clG _ rtC ((S.hd _).2 rfl) _ _ h)
 by_cases k:f=221
 ·subst k
  exact@M7 X Gz.prog K φ _ _ _ (Extern.ReflectliteType.method λt=>do Extern.Rtype.noPackHeld "Comparable" t;pure (.bool (<-typeInfo t).comparable)) (Gz.mU func221 a) (S.two _ _ a func221) ah ah ah ah ah ah ah ah _ _
   (@X4 X Gz.prog K φ j _ _ h)
 obtain⟨fn,d,e,g⟩:=adp c h1 k;exact@NL X Gz.prog K φ _ _ _ (Gz.mU d a) e g (S.two _ _ a d) e g b _ _ h
def Sets.tV{X:ag}(S:Sets X){c:iA}(ok:∀f,c.ok.testBit f=AT->X.ok f)(h1:c.fv=eu.fv)(a:c.gl=eu.gl)(b:c.np=eu.np)(d:c.ow=eu.ow):@ph X Gz.prog c:=
 @ph.mk X Gz.prog c ok (λf h=>(S.fv f).2 (h1▸h)) (λg h=>S.gl g (a▸h)) (λt h=>(S.np t).2 (b▸h)) (λm h=>@ae4 X S.okW m (d▸h))
def AF{X:ag}{c:iA}(H:@ph X Gz.prog c)(d:∀f fn i,f≠53->Tryz.prog.funcs[f]?=an fn->(X.lv f i<->i<fn.ntmps))
  (hc:tS Gz.prog c Tryz.prog.funcs 0 243 53=AT){f:Nat}(k:f<243)(e:c.ok.testBit f=AT)(a:f≠53)(g:∀fn x,Tryz.prog.funcs[f]?=an fn->dJ x (ks fn)->wX c x=AT->X.cd f x):
  ∃fn,Tryz.prog.funcs[f]?=an fn/\@eF X Gz.prog f (ks fn)/\(∀x,dJ x (ks fn)->@eF X Gz.prog f x)/\∀r∈fn.results,@qD (X.lv f) r:=by
 obtain⟨fn,h1,b⟩:=ado hc k e a;unfold Ka at b;rw[aft] at b;have h:∀i,yw fn i=AT->X.lv f i:=λi hi=>(d f fn i a h1).2 (by unfold yw at hi;rwa[Nat.blt_eq] at hi);obtain⟨l,m⟩:=@kY X Gz.prog c (yw fn) f H h (ks fn) b.1 λx=>g fn x h1;refine⟨fn,h1,l,m,λr n=>?_⟩;have j:=b.2;rw[aju] at j;have:=j r (jI.2 n);cases r with|tmp t=>exact h t this|cell t _=>exact h t this
end
section
open Go.Conc Go.ConcN aL
def jf:akA->Bool
 |.seq a b=>jf a&&jf b
 |.cond _ a b=>jf a&&jf b
 |.block _ b=>jf b
 |.loop b=>jf b
 |.scope b=>jf b
 |.rangeFunc .. =>Bz
 |_=>AT
def af5:∀{k:akA},dJ x k->jf k=AT->False:=by
 intro k h
 induction h with|Hq=>intro e;cases e|Hr=>intro e;cases e|J8=>intro e;cases e|J9=>intro e;cases e|It _ a=>intro e;simp only[jf,aft] at e;exact a e.1|Iu _ a=>intro e;simp only[jf,aft] at e;exact a e.2|Ho _ a=>intro e;simp only[jf,aft] at e;exact a e.1|Hp _ a=>intro e;simp only[jf,aft] at e;exact a e.2|block _ a=>intro e;exact a e|loop _ a=>intro e;exact a e|scope _ a=>intro e;exact a e
def pL(i:Nat):Bool:=(kept i||i==4)&&Nat.blt i 41
def uP(i:Nat):Bool:=Nat.blt i 41
def af6:(il Gz.prog eu pL l7.sl&&jf l7.sl)=AT:=aE
def af7:(il Gz.prog eu pL l7.sr.sl&&jf l7.sr.sl)=AT:=aE
def ahe:(il Gz.prog eu pL dB&&jf dB)=AT:=aE
def af8:il Gz.prog xm uP l8=AT:=aE
def UP:(Tryz.f53.results.toList.all (Iv pL)&&Tryz.f53.results.toList.all (Iv uP))=AT:=aE
def aiL:ks Tryz.f53=.seq l7.sl (.seq l7.sr.sl iG):=aE
def Te:Tryz.f53.body.isSome=AT/\(Tryz.f53.name== "runtime.NumGoroutine")=Bz:=⟨ah,ah⟩
def Tf:Gz.f53.ntmps=41:=aE
def ahf:okW.testBit 53=Bz:=aE
section
variable{T:Nat->Prop}
def BH(a:T Gz.prog.globals.size):Sets (cj T):=⟨λ_ h=>h,λ_ h=>mZ nV h,λ_=>.rfl,λ_ h=>.inl h,.inr rfl,λ_=>.rfl,λ_=>.rfl,a,λ_ _ _ h=>h,_,func53,Te⟩
def Hs(a:T Gz.prog.globals.size):Sets (jA T):=⟨λ_ h=>mZ nV h,λ_ h=>h,λ_=>.rfl,λ_ h=>.inl h,.inr rfl,λ_=>.rfl,λ_=>.rfl,a,λ_ _ _ h=>h,_,func53,Te⟩
def GJ(a:T Gz.prog.globals.size):Sets (ag.exact (jA T) Gz.prog.funcs):=⟨λ_ h=>mZ nV h,λ_ h=>h,λ_=>.rfl,λ_ h=>.inl h,.inr rfl,λ_=>.rfl,λ_=>.rfl,a,λ_ _ n h=>Gz.mU h n,_,Gz.func53,Bq⟩
def GK(a:T Gz.prog.globals.size):Sets (ag.exact (jx T) Gz.prog.funcs):=⟨λ_ h=>h,λ_ h=>mZ nV h,λ_=>.rfl,λ_ h=>.inl h,.inr rfl,λ_=>.rfl,λ_=>.rfl,a,λ_ _ n h=>Gz.mU h n,_,Gz.func53,Bq⟩
def uQ(g0:f≠53)(h:Tryz.prog.funcs[f]?=an fn):(cj T).lv f i<->i<fn.ntmps:=by show(if f=53 then _ else∃fn,Tryz.prog.funcs[f]?=an fn/\i<fn.ntmps)<->_;exact MM
def WN(g0:f≠53)(h:Tryz.prog.funcs[f]?=an fn):xn f i<->i<fn.ntmps:=by show(if f=53 then i<41 else∃fn,Tryz.prog.funcs[f]?=an fn/\i<fn.ntmps)<->_;exact MM
def Ix:(cj T).lv 53 i<->((kept i=AT\/i=4)/\i<41):=aD
def Ua:xn 53 i<->i<41:=aD
def GL(h:pL i=AT):(cj T).lv 53 i:=by unfold pL at h;simp only[aft,ale,beq_iff_eq] at h;exact Ix.2 ⟨h.1,by have:=h.2;rwa[Nat.blt_eq] at this⟩
def air(h:ja.testBit f=AT/\f≠53/\∃fn,Tryz.prog.funcs[f]?=an fn/\dJ x (ks fn)):Iw f x:=Or.inl h
def ais(h:dJ x l8):Iw 53 x:=Or.inr ⟨rfl,h⟩
def Tg(hi:uP i=AT):xn 53 i:=Ua.2 (by unfold uP at hi;rwa[Nat.blt_eq] at hi)
def Sb(a:T Gz.prog.globals.size):@ph (cj T) Gz.prog eu:=(BH a).tV (λ_ h=>h) rfl rfl rfl rfl
def ae5(a:T Gz.prog.globals.size):@ph (jA T) Gz.prog xl:=(Hs a).tV (λ_ h=>h) rfl rfl rfl rfl
def adq(a:T Gz.prog.globals.size):@ph (ag.exact (jA T) Gz.prog.funcs) Gz.prog xl:=(GJ a).tV (λ_ h=>h) rfl rfl rfl rfl
def QX(a:T Gz.prog.globals.size):@ph (ag.exact (jx T) Gz.prog.funcs) Gz.prog xm:=(GK a).tV (λ_ h=>h) rfl rfl rfl rfl
def GM(a:T Gz.prog.globals.size){k:akA}(h:(il Gz.prog eu pL k&&jf k)=AT):@eF (cj T) Gz.prog 53 k:=by rw[aft] at h;exact(@kY (cj T) Gz.prog eu pL 53 (Sb a) (λi hi=>GL hi) k h.1 λx b _=>(af5 b h.2).elim).1
def Bj{X:ag}(S:Sets X)(b:f≠53)(h:Tryz.prog.funcs[f]?=an fn)(h1:@eF X Gz.prog f (ks fn))(c:∀r∈fn.results,@qD (X.lv f) r)(d:∀i,X.lv f i->i<fn.ntmps):
  ∃fn a,Gz.prog.funcs[f]?=an fn/\(@NO.two X Gz.prog).funcs[f]?=an a/\a.results=fn.results/\a.ntmps=fn.ntmps/\(∀r∈fn.results,qD (X.lv f) r)/\(∀i,X.lv f i->i<fn.ntmps)/\
   @iz X Gz.prog f AT (fn.body.getD (.refuse "unsupported: a function without a Go body is entered")) (a.body.getD (.refuse "unsupported: a function without a Go body is entered")):=
 ⟨fn,fn,Gz.mU h b,S.two f fn b h,rfl,rfl,c,d,@iz.same X Gz.prog f AT _ h1⟩
def CG(X:ag)(f:Nat):Prop:=∃fn,Tryz.prog.funcs[f]?=an fn/\@eF X Gz.prog f (ks fn)/\(∀x,dJ x (ks fn)->@eF X Gz.prog f x)/\∀r∈fn.results,@qD (X.lv f) r
def Ub(c:T Gz.prog.globals.size)(a:ja.testBit f=AT)(b:f≠53):CG (cj T) f:=@AF (cj T) eu (Sb c) (λ_ _ _ n h=>uQ n h) af2 f (vT a) a b (λfn x h d e=>⟨a,b,e,fn,h,d⟩)
def Uc(c:T Gz.prog.globals.size)(a:okW.testBit f=AT)(b:f≠53):CG (jA T) f:=@AF (jA T) xl (ae5 c) (λ_ _ _ n h=>uQ (T:=T) n h) Td f (vT (mZ nV a)) a b (λfn x h d e=>⟨a,mZ nV a,b,e,fn,h,d⟩)
def Th(c:T Gz.prog.globals.size)(a:okW.testBit f=AT)(b:f≠53):CG (ag.exact (jA T) Gz.prog.funcs) f:=@AF (ag.exact (jA T) Gz.prog.funcs) xl (adq c) (λ_ _ _ n h=>uQ (T:=T) n h) Td f (vT (mZ nV a)) a b (λfn x h d e=>⟨a,mZ nV a,b,e,fn,h,d⟩)
def Ti(c:T Gz.prog.globals.size)(a:ja.testBit f=AT)(b:f≠53):CG (ag.exact (jx T) Gz.prog.funcs) f:=@AF (ag.exact (jx T) Gz.prog.funcs) xm (QX (T:=T) c) (λ_ _ _ n h=>WN n h) af3 f (vT a) a b (λfn x h d _=>air ⟨a,b,fn,h,d⟩)
def ae6(b:T Gz.prog.globals.size):@dA (cj T) Gz.prog:=λf c=>by
 by_cases a:f=53
 ·subst a;have e:=UP;rw[aft,aju] at e;refine⟨_,_,Gz.func53,func53,rfl,rfl,λr d=>?_,λi hi=>by rw[Tf];have:=(Ix.1 hi).2;omega,?_⟩
  ·have:=e.1 r (jI.2 d);cases r with|tmp t=>exact GL this|cell t _=>exact GL this
  ·show@iz (cj T) Gz.prog 53 AT l8 (ks Tryz.f53);exact@iz.seq (cj T) _ _ _ _ _ _ _ (@iz.same (cj T) _ _ _ _ (GM b af6)) (@iz.seq (cj T) _ _ _ _ _ _ _ (@iz.same (cj T) _ _ _ _ (GM b af7)) (@iz.dM (cj T) _ _ _ _ _ ⟨rfl,rfl⟩ rfl rfl))
 ·obtain⟨fn,h1,g,_,h⟩:=Ub b c a;exact Bj (BH b) a h1 g h λi hi=>(uQ a h1).1 hi
def WO(a:okW.testBit f=AT):f≠53:=λe=>by subst e;rw[ahf] at a;cases a
def ae7(c:T Gz.prog.globals.size):@dA (jA T) Gz.prog:=λf b=>by have a:=WO b;obtain⟨fn,h1,d,_,e⟩:=Uc c b a;exact Bj (Hs c) a h1 d e λi hi=>(uQ (T:=T) a h1).1 hi
def adr(c:T Gz.prog.globals.size):@dA (ag.exact (jA T) Gz.prog.funcs) Gz.prog:=λf b=>by have a:=WO b;obtain⟨fn,h1,d,_,e⟩:=Th c b a;exact Bj (GJ c) a h1 d e λi hi=>(uQ (T:=T) a h1).1 hi
def Sc(a:T Gz.prog.globals.size):@eF (ag.exact (jx T) Gz.prog.funcs) Gz.prog 53 l8/\∀x,dJ x l8->@eF (ag.exact (jx T) Gz.prog.funcs) Gz.prog 53 x:=@kY (ag.exact (jx T) Gz.prog.funcs) Gz.prog xm uP 53 (QX (T:=T) a) (λi hi=>Tg hi) l8 af8 λx b _=>ais b
def zZ(J:ag)(fs:Array Func)(P:NO):(@NO.two (ag.exact J fs) P).funcs=fs:=rfl
def af9(J:ag):(@NO.two (ag.exact J Gz.prog.funcs) Gz.prog).funcs[53]?=an Gz.f53:=aE
def adt(c:T Gz.prog.globals.size):@dA (ag.exact (jx T) Gz.prog.funcs) Gz.prog:=λf d=>by
 by_cases a:f=53
 ·subst a;have g:=UP;rw[aft,aju,aju] at g;refine⟨Gz.f53,Gz.f53,Gz.func53,af9 (jx T),rfl,rfl,λr e=>?_,λi hi=>by rw[Tf];have:=(Ua).1 hi;omega,?_⟩
  ·have:=g.2 r (jI.2 e);have b:∀i,uP i=AT->xn 53 i:=λi hi=>Tg hi;cases r with|tmp t=>exact b t this|cell t _=>exact b t this
  ·exact@iz.same (ag.exact (jx T) Gz.prog.funcs) Gz.prog _ _ l8 (Sc c).1
 ·obtain⟨fn,h1,h,_,j⟩:=Ti c d a;exact Bj (GK c) a h1 h j λi hi=>(WN a h1).1 hi
def cdM(c:T Gz.prog.globals.size):@ee (cj T) Gz.prog:=λf x⟨a,b,_,fn,h,d⟩=>by obtain⟨e,h1,_,g,_⟩:=Ub c a b;rw[h] at h1;cases h1;exact g x d
def cdW(c:T Gz.prog.globals.size):@ee (jA T) Gz.prog:=λf x⟨a,_,b,_,fn,h,d⟩=>by obtain⟨e,h1,_,g,_⟩:=Uc c a b;rw[h] at h1;cases h1;exact g x d
def ait(c:T Gz.prog.globals.size):@ee (ag.exact (jA T) Gz.prog.funcs) Gz.prog:=λf x⟨a,_,b,_,fn,h,d⟩=>by obtain⟨e,h1,_,g,_⟩:=Th c a b;rw[h] at h1;cases h1;exact g x d
def aiu(d:T Gz.prog.globals.size):@ee (ag.exact (jx T) Gz.prog.funcs) Gz.prog:=λf x a=>by
 rcases a with⟨b,c,fn,h,a⟩|⟨rfl,a⟩
 ·obtain⟨e,h1,_,g,_⟩:=Ti d b c;rw[h] at h1;cases h1;exact g x a
 ·exact(Sc d).2 x a
noncomputable abbrev GN(T:Nat->Prop):aC:={cj T with
 two:=rfl
 nx:=λf h=>by have:=h.2.2.1;cases this
 fr:=λ_ _=>.rfl
 hm:=rfl
 CB:=λd=>Ix (T:=T)}
noncomputable def aiv(a:T Gz.prog.globals.size):@Env (GN T):=
 @Env.mk (GN T) (jA T) ⟨⟨λ_=>.rfl,λ_=>.rfl,λ_=>.rfl,λ_=>.rfl,λ_=>.rfl⟩,λ_ h=>mZ nV h,λ_ _ _ h=>h,λ_ _ h=>h.2⟩ (λ_ h=>h) rfl (λ_ _ h=>h) (by show okW.testBit _=AT;kernel_rfl)
  (ae7 a) (cdW a) (@Bi (jA T)) (λK _=>(Hs a).Br K) (adr a) (ait a) (@Bi (ag.exact (jA T) Gz.prog.funcs)) (λK _=>(GJ a).Br K) (.inl ah) (.inl ah) (@Bi (cj T)) (BH a).T9 (GM a ahe)
end
abbrev dR(n k:Nat)(b:Nat):Prop:=b=Gz.prog.globals.size\/(n<=b/\b<n+k)
def ahg(d:wU){W:World}{ts:List Nat}(hG:∃cs t,W.heap[Gz.prog.globals.size]?=an (.cells cs t (0,0))/\0<cs.size)(n:ts.Nodup)(y:∀b,b∈ts->Gz.prog.globals.size<b/\∃cs t,W.heap[b]?=an (.cells cs t (0,0))/\0<cs.size)
  (p:∀g,g<5->rowsOf W.heap g=an g){f:alo}(q:Gz.prog.funcs[f]?=an fn)(j:∀r∈fn.results,∃t,r=.tmp t)(k:Gz.prog.inits.idxOf? f=ns)(s:ja.testBit f=AT)
  {args:Array so}(c:@aw (cj (dR W.heap.size ts.length)) (ff ts W.heap) args args)
  (l:∀wg:World,wg.heap=@aL.startHeap (cj (dR W.heap.size ts.length)) (λ_=>trivial) Gz.prog.globals.size ts W.heap->Calls Gz.prog f args wg λ|be v,_=>v=.bool AT|_,_=>False):
  ∃M last o w' w,runNT Tryz.prog (M+1) (solo (G (Frame.enter Tryz.prog f args .normal) []) W) #[]=(.ended o w',w)/\runN Tryz.prog M (solo (G (Frame.enter Tryz.prog f args .normal) []) W)=.next last/\
   Go.step Tryz.prog last=.ended o w'/\Conc.Good Tryz.prog (Bh W) last o w' w:=by
 have a:dR W.heap.size ts.length Gz.prog.globals.size:=.inl rfl
 have u:∀g,rowsOf W.heap g=an g->ff ts W.heap g=an g:=λg e=>by obtain⟨_,cs,t,f,h1⟩:=@En (cj λ_=>True) _ _ _ e;exact@Eh (cj λ_=>True) _ _ _ _ _ _ h1
 refine@adk (GN (dR W.heap.size ts.length)) (aiv (T:=dR W.heap.size ts.length) a) (jx (dR W.heap.size ts.length)) ⟨λ_=>.rfl,λ_=>.rfl,λ_=>.rfl,λ_=>.rfl,λ_=>.rfl⟩ (λ_ h=>h) (λ_ h=>h) d (λ_=>trivial) (ae6 (T:=dR W.heap.size ts.length) a) (cdM (T:=dR W.heap.size ts.length) a) (λK _=>(BH (T:=dR W.heap.size ts.length) a).Br K) (adt (T:=dR W.heap.size ts.length) a) (aiu (T:=dR W.heap.size ts.length) a) (@Bi (ag.exact (jx (dR W.heap.size ts.length)) Gz.prog.funcs)) (λK _=>(GK (T:=dR W.heap.size ts.length) a).Br K)
  _ ts hG (λ_=>.rfl) n y (λg m=>?_) f fn q j k s args args c l
 rcases m with m|rfl
 ·refine u g (p g (Nat.lt_of_not_le λh=>?_));have:eu.gl.testBit g=Bz:=Nat.testBit_lt_two_pow (bH (by decide:eu.gl<2^5) (Nat.pow_le_pow_right al h));rw[this] at m;cases m
 ·obtain⟨cs,t,h1,_⟩:=hG;exact@Eh (cj λ_=>True) _ _ _ _ _ _ h1
end
end Go.Proofs.Q0.Open
