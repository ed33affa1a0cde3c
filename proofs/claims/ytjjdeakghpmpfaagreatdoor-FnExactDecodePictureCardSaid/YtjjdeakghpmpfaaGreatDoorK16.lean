import Derived.Test.YtjjdeakghpmpfaaGreatDoorK15
import Derived.Conc.Own
import Derived.Conc.Listed
set_option maxRecDepth 100000
set_option maxHeartbeats 8000000
set_option linter.all false
open Go.Value renaming int->U,slice->Y,bool->a9,agg->a5,pointer->ci,tuple->dl,iface->em
open Go.IntKind renaming i64->O
open Go.Obj renaming cells->ac
open Go.Ending renaming returned->be
open Go renaming Code->ajP,Frame->aiH,FuncId->akh,Oper->aku,Operand->ajd,Program->Kx,TypeId->EV,Value->rl,World->ns,doReturn->ajZ,execOp->ait
open Go.CallKind renaming wrapped->alc
open Go.Frame renaming enter->aiy
open Go.GStep renaming after->aiv
open Go.GStep.go renaming injEq->akm
open Go.Instr renaming beginRound->ake,endLoop->akD,endRound->ajO,enterLoop->ajE
open Go.Op renaming eqGuardIn->ajK
open Go.Region renaming wanted->aiu
open Go.stepG renaming apply->aiZ,exec->NO,oper->akC
open Option renaming getD_some->aiL,map_some->akE
namespace Go.Proofs
abbrev l4:=@Go.Conc.mem_seen
def yr{p:Prop}(h:p:=by simp only[if_true,h1,IM,Bool.false_eq_true,if_false,GStep.after,Array.append_empty,Array.empty_append];rfl):p:=h
def C5{p:Prop}(h:p:=by
  conv=>lhs;unfold stepG.exec
  split<;>simp_all<;>rfl):p:=h
end Go.Proofs
namespace Go.Proofs.Q0.aI
variable{x y:ajd}{t:EV}{v u u' v':rl}{xs ys:Array rl}{fr bi:aiH}{s:Nat->Prop}{ops:Array aku}{f fn:akh}{l l':Nat}{cs cs' B B':List aiH}{k k':List Item}{w w':ns}{bt:Prop}
section
variable[ag]
def dV(s:Nat->Prop):ajd->Prop
 |.tmp t=>s t
 |.const v=>∀φ,VR φ v v
 |.global g=>ag.gl g
 |.func f=>ag.fv f
def vP(s:Nat->Prop)(xs:Array ajd):Prop:=∀(i:Nat) x,xs[i]?=some x->dV s x
def wR(s:Nat->Prop):Option ajd->Prop
 |none=>True
 |some x=>dV s x
def FW(P:Kx)(s:Nat->Prop)(c:Call):Prop:=
 vP s c.args/\match c.callee with
  |.value f=>(∃n,f=.func n/\ag.ok n)\/dV s f
  |.invoke recv name=>dV s recv/\sG P name
  |.builtin b=>match b with|.append|.len|.cap|.copy|.min|.max=>True|_=>False
def AQ(P:Kx)(t:EV)(x y:ajd):Prop:=(∃n,flat P n t=true)\/(∃a,P.underlying t=some (.interface a))\/((∃e,P.underlying t=some (.pointer e))/\(x=.const (.pointer none)\/y=.const (.pointer none)))
def GV(P:Kx)(s:Nat->Prop):Op->Prop
 |.makeInterface t x=>dV s x/\ag.np t
 |.move x|.assign x|.box _ x|.load _ x|.nilCheck x|.unOp _ _ x|.fieldAddr _ x _|.field _ x _|.typeAssert x _ _ _|.extract x _|.panic x=>dV s x
 |.pick c a b=>dV s c/\dV s a/\dV s b
 |.alloc _=>True
 |.build _ e|.buildSlice _ _ e=>∀(i:Nat) p,e[i]?=some p->dV s p.2
 |.store _ a x=>dV s a/\dV s x
 |.binOp op t x y _=>dV s x/\dV s y/\(op=.eql\/op=.neq->AQ P t x y)
 |.convert src dst x=>dV s x/\Aj P src dst=true
 |.makeFunc fn first d=>(∃f,fn=.func f/\ag.fv f)/\vP s first/\vP s d
 |.makeSlice _ l c=>dV s l/\dV s c
 |.slice _ x g hi h=>dV s x/\wR s g/\wR s hi/\wR s h
 |.indexAddr _ x i|.index _ x i=>dV s x/\dV s i
 |.call c=>FW P s c
 |_=>False
def ER(φ:Ren)(s:Nat->Prop)(ρ rx:ajd->rl):Prop:=(∀x,dV s x->VR φ (ρ x) (rx x))/\(∀v,ρ (.const v)=v)/\(∀f,ρ (.func f)=.func (.func f) #[] #[]/\rx (.func f)=.func (.func f) #[] #[])/\ep φ
section
variable{P:Kx}{K:aF}{φ:Ren}{s:Nat->Prop}{ρ rx:ajd->rl}
def AQ.val(he:ER φ s ρ rx)(h:AQ P t x y):lL P t (ρ x) (ρ y):=by
 rcases h with h|h|⟨h,rfl|rfl⟩
 ·exact .inl h
 ·exact .inr (.inl h)
 ·exact .inr (.inr ⟨h,.inl (he.2.1 _)⟩)
 ·exact .inr (.inr ⟨h,.inr (he.2.1 _)⟩)
def ER.map(he:ER φ s ρ rx){xs:Array ajd}(h:vP s xs):ax φ (xs.map ρ) (xs.map rx):=by refine⟨aj,λi x y a b=>?_⟩;rw[Array.getElem?_map] at a b;cases hq:xs[i]? with|none=>rw[hq] at a;cases a|some o=>rw[hq] at a b;cases a;cases b;exact he.1 o (h i o hq)
def ER.opt(he:ER φ s ρ rx){x:Option ajd}(h:wR s x):fW φ (x.map ρ) (x.map rx):=by cases x with|none=>exact .none|some x=>exact .some (he.1 x h)
def ER.parts(he:ER φ s ρ rx){a:Array (Nat×ajd)}(h:∀(i:Nat) p,a[i]?=some p->dV s p.2):lR φ (a.map λ(i,x)=>(i,ρ x)).toList (a.map λ(i,x)=>(i,rx x)).toList:=by
 rw[Array.toList_map,Array.toList_map];have b:∀(i:Nat) p,a.toList[i]?=some p->dV s p.2:=λi p c=>h i p (by simpa using c);generalize a.toList=l at b
 induction l with
 |nil=>exact .nil
 |cons p l d=>obtain⟨i,x⟩:=p;exact .cons i (he.1 x (b 0 (i,x) rfl)) (d λn q hq=>b (n+1) q (by simpa using hq))
def gS{s s':Sem rl}(h:SR P K VR φ s s'):SR P K NR φ (s>>=λv=>pure (Next.value v)) (s'>>=λv=>pure (Next.value v)):=
 SR.bind h λb v v' _ a=>.pure (.value a)
def WY:Calm P Instr.panicnil:=by
 refine mO (nW λw=>⟨_,_,rfl,.refl w⟩) λr=>?_;cases r with
 |strings a=>exact mO Mz λp=>jI
 |_=>exactλw=>⟨λx c e=>(by cases e;exact⟨trivial,.refl w⟩),λb c e=>bw⟩
def Zj:fh P (Instr.panic v):=by
 cases v with
 |nilIface=>
  refine eZ (λn=>?_) WY;split
  ·exact uB
  ·exact dB _
 |iface t v=>exact uB
 |_=>exact gI
def Zk(d:bZ P){b:Builtin}(e:match b with|.append|.len|.cap|.copy|.min|.max=>True|_=>False)(ts:Array EV)(t:EV){cs:Array Bool}(h:ax φ xs ys):
  SR P K NR φ (builtin b ts t cs xs) (builtin b ts t cs ys):=by
 cases b with
 |append=>exact SR.bind (aaf d ts t h) λc v v' _ a=>.pure (.value a)
 |len=>exact SR.bind (FU ts t h) λc v v' _ a=>.pure (.value a)
 |cap=>exact SR.bind (aeJ ts t h) λc v v' _ a=>.pure (.value a)
 |copy=>exact SR.bind (adv ts t h) λc v v' _ a=>.pure (.value a)
 |min=>exact SR.bind (aeL ts t h) λc v v' _ a=>.pure (.value a)
 |max=>exact SR.bind (aeK ts t h) λc v v' _ a=>.pure (.value a)
 |_=>exact e.elim
def Ms(name:String)(us:Array rl)(r:rl)(xs:Array rl):(invoke (.fn (.method name) us) (#[r]++xs))=callMethod r name xs:=by
 have one:(#[r]++xs)[0]?=some r/\(#[r]++xs).extract 1 (#[r]++xs).size=xs:=by
  refine⟨by rw[Array.getElem?_append_left aj];rfl,?_⟩;apply yw;intro i;by_cases hi:i<xs.size
  ·simp_all
  ·simp_all
 unfold invoke;rw[one.1,one.2]
def Mt:fh P (invoke (.fn (.method "") #[]) (#[.nilIface]++xs)):=by rw[Ms];exact dB (P:=P) (α:=Next) .nilDeref
def ady(A:bZ P)(hF:dn P K){c:Call}(t:EV)(hc:FW P s c)(he:ER φ s ρ rx):
  SR P K NR φ (resolve ρ c t>>=λd=>invoke d.target d.args) (resolve rx c t>>=λd=>invoke d.target d.args):=by
 obtain⟨C,a⟩:=hc;have e:=he.map C;unfold resolve;cases g:c.callee with
 |builtin b=>rw[g] at a;exact Zk A a c.argTypes t e
 |invoke recv name=>rw[g] at a;obtain⟨D,hm⟩:=a;have inv:=Ms name #[];have j:=WX (φ:=φ) hF he.2.2.2 hm (he.1 recv D) e;rw[<-inv,<-inv] at j;exact j
 |value f=>
  rw[g] at a;rcases a with⟨n,rfl,i⟩|a
  ·dsimp only;rw[(he.2.2.1 n).1,(he.2.2.1 n).2];have:=hF.2.2 n i φ _ _ he.2.2.2 e;simpa[Deferred.ofValue,invoke] using this
  have m:=he.1 f a;dsimp only;generalize ρ f=u at m;generalize rx f=u' at m;cases m with
  |nilFunc=>exact .dead (dB (P:=P) (α:=Next) .nilDeref)
  |aX _ _=>exact .dead Mt
  |func o r z p q=>cases o with|func f i=>exact hF.2.2 f (hF.2.1 f i) φ _ _ he.2.2.2 ((ax.append ⟨r,z⟩ e).append ⟨p,q⟩)|yield h=>exact P0 h (ax.append ⟨r,z⟩ e)
  |_=>exact .halt _ _
def DZ(t:EV){m:String}(hc:lL P t u v)(a:u≠aX)(c:v≠aX)(hu:VR φ u u')(d:VR φ v v'):
  SR P K aY φ (ajK Op.maxDepth t u v>>=λb=>if b=true then unsupported (.noEntry m) else pure ()) (ajK Op.maxDepth t u' v'>>=λb=>if b=true then unsupported (.noEntry m) else pure ()):=by
 refine SR.bind (Yh _ φ t hc hu d a c) λg b _ _ e=>?_;subst e;cases b
 ·exact .pure rfl
 ·exact .dead eP
def Zl(op:BinOp)(t:EV)(x y:ajd)(hc:op=.eql\/op=.neq->lL P t u v)(c:u≠aX)(a:v≠aX)(hu:VR φ u u')(d:VR φ v v'):SR P K aY φ (eqGuard op t x y u v) (eqGuard op t x y u' v'):=by
 have skip:SR P K aY φ (Sem.pure ():Sem Unit) (Sem.pure ()):=.pure rfl
 have agg:∀{u u' v v':rl},lL P t u v->u≠aX->v≠aX->VR φ u u'->VR φ v v'->SR P K aY φ (program>>=λp=>program>>=λq=>if(!p.eqGuardType q.depth t)=true then pure () else ajK Op.maxDepth t u v>>=λb=>if b=true then unsupported (.noEntry "binop/eql: two nil values of an interface type with methods, in a part of a struct or an array") else pure ())
   (program>>=λp=>program>>=λq=>if(!p.eqGuardType q.depth t)=true then pure () else ajK Op.maxDepth t u' v'>>=λb=>if b=true then unsupported (.noEntry "binop/eql: two nil values of an interface type with methods, in a part of a struct or an array") else pure ()):=λhc c a hu d=>by
  refine SR.ask (SR.ask ?_ (by have e:P.two.depth=P.depth:=rfl;simp only[e])) (by simp only[CN]);split
  ·exact skip
  ·exact DZ t hc c a hu d
 cases op with
 |eql=>
  cases hu with
  |nilIface=>cases d with|aX=>exact absurd rfl a|nilIface=>cases x<;>(cases y<;>first|exact skip|exact DZ t (hc aj) c a .nilIface .nilIface)|_=>exact skip
  |agg h1 g=>cases d with|aX=>exact absurd rfl a|agg h i=>exact agg (hc aj) c a (.agg h1 g) (.agg h i)|_=>exact skip
  |aX=>exact absurd rfl c
  |_=>cases d<;>first|exact skip|exact absurd rfl a
 |neq=>
  cases hu with
  |nilIface=>cases d with|aX=>exact absurd rfl a|nilIface=>cases x<;>(cases y<;>first|exact skip|exact DZ t (hc aj) c a .nilIface .nilIface)|_=>exact skip
  |agg h1 g=>cases d with|aX=>exact absurd rfl a|agg h i=>exact agg (hc aj) c a (.agg h1 g) (.agg h i)|_=>exact skip
  |aX=>exact absurd rfl c
  |_=>cases d<;>first|exact skip|exact absurd rfl a
 |_=>exact skip
def WZ{op:BinOp}:Calm P (eqGuard op t x y aX v):=by cases op<;>exact jI
def W4{op:BinOp}:Calm P (eqGuard op t x y v aX):=by cases op<;>first|exact jI|(cases v<;>exact jI)
open Classical in
def FX(hG:K.G=P.globals.size)(op:BinOp)(t:TypeId)(x y:Operand)(hc:op=.eql\/op=.neq->nu P/\lL P t u v)(hu:VR φ u u')(a:VR φ v v'):
  SR P K VR φ ((eqGuard op t x y u v).bind λ_=>binOp op t u v) ((eqGuard op t x y u' v').bind λ_=>binOp op t u' v'):=by
 by_cases b:u=aX
 ·subst b;exact .dead (eZ (λ_=>OM λh _ _ _=>(hc h).2.oa) WZ)
 by_cases c:v=aX
 ·subst c;exact .dead (eZ (λ_=>rK λh _ _ _=>(hc h).2.oa) W4)
 exact SR.bind (S:=VR) (Zl op t x y (λh=>(hc h).2) b c hu a) λe _ _ d _=>abT hG hc (hu.mono d) (a.mono d)
def Yi(h:VR φ v v'){o:aku}(j:o.op=.nilCheck x)(m:ρ x=v)(g:rx x=v'):SR P K NR φ (ait ρ o) (ait rx o):=by
 unfold ait;rw[j];dsimp only;rw[m,g];cases h with
 |nilPtr=>exact .dead (dB (P:=P) (α:=Next) .nilDeref)
 |nilIface=>exact .dead (dB (P:=P) (α:=Next) .nilDeref)
 |nilFunc=>exact .dead (dB (P:=P) (α:=Next) .nilDeref)
 |hQ=>first|exact .pure (.value .hQ)|exact .dead (dB (P:=P) (α:=Next) .nilDeref)
 |gZ=>first|exact .pure (.value .gZ)|exact .dead (dB (P:=P) (α:=Next) .nilDeref)
 |aX _ _=>exact .dead (dB (P:=P) (α:=Next) .nilDeref)
 |bool b=>exact .pure (.value (.bool b))
 |int k n=>exact .pure (.value (.int k n))
 |string s=>exact .pure (.value (.string s))
 |ptr h=>exact .pure (.value (.ptr h))
 |dk n c=>exact .pure (.value (.dk n c))
 |slice n c h=>exact .pure (.value (.slice n c h))
 |empty=>exact .pure (.value .empty)
 |iface t h p=>exact .pure (.value (.iface t h p))
 |agg h k=>exact .pure (.value (.agg h k))
 |tuple h k=>exact .pure (.value (.tuple h k))
 |func a b c d e=>cases a with
  |func f i=>exact .pure (.value (.func (.func f i) b c d e))
  |yield h=>exact .pure (.value (.func (.yield h) b c d e))
def OO(m:bZ P)(hG:K.G=P.globals.size)(hF:dn P K){o:aku}(g:GV P s o.op)(he:ER φ s ρ rx):SR P K NR φ (ait ρ o) (ait rx o):=by
 cases j:o.op with
 |nilCheck x=>rw[j] at g;exact Yi (he.1 x g) j rfl rfl
 |move x=>rw[j] at g;unfold ait;rw[j];exact .pure (.value (he.1 x g))
 |assign x=>rw[j] at g;unfold ait;rw[j];exact .pure (.value (he.1 x g))
 |pick c a b=>
  rw[j] at g;unfold ait;rw[j];refine SR.bind (Oe (he.1 c g.1)) λr t _ q e=>?_;subst e;cases t
  ·exact .pure (.value ((he.1 b g.2.2).mono q))
  ·exact .pure (.value ((he.1 a g.2.1).mono q))
 |alloc t=>unfold ait;rw[j];exact gS (aa1 m t)
 |box t x=>rw[j] at g;unfold ait;rw[j];exact gS (aeo t (he.1 x g))
 |build t z=>rw[j] at g;unfold ait;rw[j];exact gS (abU m t (he.parts g))
 |buildSlice t n z=>rw[j] at g;unfold ait;rw[j];exact gS (WV m t n (he.parts g))
 |load t x=>rw[j] at g;unfold ait;rw[j];exact gS (uL t (he.1 x g))
 |store t a x=>rw[j] at g;unfold ait;rw[j];exact SR.bind (YA t (he.1 a g.1) (he.1 x g.2)) λr _ _ _ _=>.pure .skip
 |binOp op t x y D=>rw[j] at g;unfold ait;rw[j];refine gS ?_;exact FX hG op t x y (λh=>⟨hF.1,(g.2.2 h).val he⟩) (he.1 x g.1) (he.1 y g.2.1)
 |unOp op t x=>rw[j] at g;unfold ait;rw[j];exact gS (PU op (he.1 x g))
 |convert s d x=>rw[j] at g;unfold ait;rw[j];exact gS (NX s d g.2 (he.1 x g.1))
 |makeInterface t x=>rw[j] at g;unfold ait;rw[j];exact gS (Wi (he.1 x g.1) g.2)
 |makeFunc fn first p=>rw[j] at g;unfold ait;rw[j];obtain⟨⟨f,rfl,A⟩,h1,C⟩:=g;exact gS (XQ (.func f A) (he.map h1) (he.map C))
 |makeSlice t l c=>rw[j] at g;unfold ait;rw[j];exact gS (XB m t (he.1 l g.1) (he.1 c g.2))
 |slice t x E hi F=>rw[j] at g;unfold ait;rw[j];exact gS (Za t (he.1 x g.1) (he.opt g.2.1) (he.opt g.2.2.1) (he.opt g.2.2.2))
 |fieldAddr s x f=>rw[j] at g;unfold ait;rw[j];exact gS (YC s (he.1 x g) f)
 |field s x f=>rw[j] at g;unfold ait;rw[j];exact gS (aa2 s (he.1 x g) f)
 |indexAddr t x i=>rw[j] at g;unfold ait;rw[j];exact gS (Nt t (he.1 x g.1) (he.1 i g.2))
 |index t x i=>rw[j] at g;unfold ait;rw[j];exact gS (aa3 t (he.1 x g.1) (he.1 i g.2))
 |typeAssert x t a ok=>rw[j] at g;unfold ait;rw[j];exact gS (Dt m t a ok (he.1 x g))
 |extract t i=>rw[j] at g;unfold ait;rw[j];exact gS (YB i (he.1 t g))
 |panic x=>unfold ait;rw[j];exact .dead (eG Zj)
 |call c=>rw[j] at g;unfold ait;rw[j];exact ady m hF o.type g he
 |_=>rw[j] at g;exact g.elim
end
end
section
variable[ag]
def pV(P:Kx)(s:Nat->Prop)(ops:Array aku):Prop:=
 ∀(i:Nat) o,ops[i]?=some o->GV P s o.op/\∀j a,o.guard=some (j,a)->∀b d,ops[j]?=some b->b.dst=some d->s d
def ee(P:Kx)(f:akh):ajP->Prop
 |.skip|.exit _|.label _|.goto _|.ret|.refuse _=>True
 |.region _ ops _=>pV P (ag.lv f) ops
 |.seq a b=>ee P f a/\ee P f b
 |.cond c x y=>dV (ag.lv f) c/\ee P f x/\ee P f y
 |.block _ b|.loop b|.scope b=>ee P f b
 |.rangeFunc g _ a b=>dV (ag.lv f) g/\ee P f a/\ee P f b/\ag.cd f a/\ag.cd f b
inductive gW(P:Kx)(f:akh)(s:Bool):ajP->ajP->Prop
 |same {c:ajP}:ee P f c->gW P f s c c
 |seq {a b a' b':ajP}:gW P f s a a'->gW P f s b b'->gW P f s (.seq a b) (.seq a' b')
 |dH {c c':ajP}:ag.dH c c'->f=ag.home->s=true->gW P f s c c'
inductive jz(P:Kx)(φ:Ren)(f:akh)(s:Bool):Item->Item->Prop
 |code {c c':ajP}:gW P f s c c'->jz P φ f s (.code c) (.code c')
 |inBlock (id:Nat):jz P φ f s (.inBlock id) (.inBlock id)
 |inLoop {b:ajP}:ee P f b->jz P φ f s (.inLoop b) (.inLoop b)
 |inScope {b:ajP}:ee P f b->jz P φ f s (.inScope b) (.inScope b)
 |inRegion {ops:Array aku} (todo:List Nat):pV P (ag.lv f) ops->jz P φ f s (.inRegion ops todo) (.inRegion ops todo)
 |pG {l l':Nat}:φ l=some l'->jz P φ f s (.inRangeFunc l) (.inRangeFunc l')
 |pC {l l':Nat}:φ l=some l'->jz P φ f s (.endRangeFunc l) (.endRangeFunc l')
 |beginRound:jz P φ f s .beginRound .beginRound
inductive eK(P:Kx)(φ:Ren)(f:akh)(s:Bool):List Item->List Item->Prop
 |nil:eK P φ f s [] []
 |cons {x y:Item} {xs ys:List Item}:jz P φ f s x y->eK P φ f s xs ys->eK P φ f s (x::xs) (y::ys)
 |stop {IN:String} {ys:List Item}:s=true->eK P φ f s [.code (.refuse IN)] ys
def su(fr:aiH):Prop:=∃a,fr.todo=[.code (.refuse a)]
def jz.mono{P:Kx}{φ a:Ren}{f:akh}{s:Bool}{x y:Item}(h:jz P φ f s x y)(k:Ren.le φ a):jz P a f s x y:=by cases h with|code h=>exact .code h|inBlock id=>exact .inBlock id|inLoop h=>exact .inLoop h|inScope h=>exact .inScope h|inRegion t h=>exact .inRegion t h|pG h=>exact .pG (k _ _ h)|pC h=>exact .pC (k _ _ h)|beginRound=>exact .beginRound
def eK.mono{P:Kx}{φ a:Ren}{f:akh}{s:Bool}{xs ys:List Item}(h:eK P φ f s xs ys)(k:Ren.le φ a):eK P a f s xs ys:=by induction h with|nil=>exact .nil|cons h _ b=>exact .cons (h.mono k) b|stop e=>exact .stop e
inductive IP:FrameMode->FrameMode->Prop
 |run:IP .run .run
 |returning:IP .returning .returning
structure bV(P:Kx)(φ:Ren)(fr bi:aiH):Prop where
 fn:bi.fn=fr.fn
 tmps:cN φ (ag.lv fr.fn) fr.tmps bi.tmps
 todo:eK P φ fr.fn fr.roundOf.isNone fr.todo bi.todo
 defers:iZ φ fr.defers bi.defers
 mode:IP fr.mode bi.mode
 kind:fr.kind=.normal/\bi.kind=.normal
 round:qN φ fr.roundOf bi.roundOf
 iU:ox fr.fn
def qN.mono{φ a:Ren}{l l':Option Nat}(h:qN φ l l')(k:Ren.le φ a):qN a l l':=by cases h with|none=>exact .none|some h=>exact .some (k _ _ h)
def bV.mono{P:Kx}{φ a:Ren}{fr bi:aiH}(h:bV P φ fr bi)(k:Ren.le φ a):bV P a fr bi:=⟨h.fn,h.tmps.mono k,h.todo.mono k,h.defers.mono k,h.mode,h.kind,h.round.mono k,h.iU⟩
inductive dp(P:Kx)(φ:Ren):List aiH->List aiH->Prop
 |nil:dp P φ [] []
 |cons {x y:aiH} {xs ys:List aiH}:bV P φ x y->¬su x->dp P φ xs ys->dp P φ (x::xs) (y::ys)
def dp.mono{P:Kx}{φ a:Ren}{xs ys:List aiH}(h:dp P φ xs ys)(k:Ren.le φ a):dp P a xs ys:=by induction h with|nil=>exact .nil|cons h b _ c=>exact .cons (h.mono k) b c
section
variable{P:Kx}{K:aF}{φ:Ren}
def zF:VR φ undef undef:=.tuple rfl λi x y a _=>by simp at a
def cN.getD{s:Nat->Prop}{xs ys:Array rl}(h:cN φ s xs ys)(i:Nat)(b:s i):VR φ (xs.getD i undef) (ys.getD i undef):=by
 rw[Array.getD_eq_getD_getElem?,Array.getD_eq_getD_getElem?];cases a:xs[i]? with
 |none=>
  have:ys[i]?=none:=by rw[Array.getElem?_eq_none_iff] at a⊢;rw[<-h.size];exact a
  rw[this];exact zF
 |some x=>obtain⟨y,c,d⟩:=h.get b a;rw[c];exact d
def bV.eval(h:bV P φ fr bi)(b:ep φ):ER φ (ag.lv fr.fn) fr.eval bi.eval:=⟨λx a=>by
 cases x with
 |tmp t=>exact h.tmps.getD t a
 |const v=>exact a φ
 |global g=>exact .ptr ⟨b g a,rfl,rfl⟩
 |func f=>exact .func (.func f a) rfl (λi x y a _=>by simp at a) rfl (λi x y a _=>by simp at a),λ_=>rfl,λ_=>⟨rfl,rfl⟩,b⟩
def cN.yielded(h:cN φ s xs ys)(ops:Array aku)(j:Nat)(e:∀a d,ops[j]?=some a->a.dst=some d->s d):yielded ops ys j=yielded ops xs j:=by
 unfold Go.yielded;cases g:ops[j]? with
 |none=>rfl
 |some a=>
  simp only[Option.bind_some];cases hd:a.dst with
  |none=>rfl
  |some d=>
   have b:=e a d g hd;simp only[Option.bind_some];cases c:xs[d]? with
   |none=>
    have:ys[d]?=none:=by rw[Array.getElem?_eq_none_iff] at c⊢;rw[<-h.size];exact c
    rw[this]
   |some x=>
    obtain⟨y,i,m⟩:=h.get b c;rw[i];cases m with
    |aX _ h=>cases y<;>first|rfl|exact absurd rfl (h.2.2 _)
    |_=>rfl
def cN.wanted(h:cN φ s xs ys)(hr:pV P s ops)(i:Nat):((ops[i]?).map (aiu · (Go.yielded ops ys))).getD false=((ops[i]?).map (aiu · (Go.yielded ops xs))).getD false:=by
 cases b:ops[i]? with
 |none=>rfl
 |some o=>
  simp only[akE,aiL];unfold aiu;cases c:o.guard with
  |none=>rfl
  |some p=>obtain⟨j,a⟩:=p;dsimp only;rw[h.yielded ops j ((hr i o b).2 j a c)]
def bV.finish(h:bV P φ fr bi)(A:¬su fr)(C:VR φ v v'):bV P φ (fr.finish v) (bi.finish v'):=by
 obtain⟨fn,tmps,todo,defers,mode,kind,round⟩:=fr;obtain⟨D,p,q,n,r,z,o⟩:=bi;obtain⟨h1,a,E,b,c,d,e,g⟩:=h;subst h1;unfold Frame.finish;cases E with
 |stop _=>exact absurd ⟨_,rfl⟩ A
 |nil=>exact⟨rfl,a,.nil,b,c,d,e,g⟩
 |@cons x y xs ys F j=>
  cases F with
  |inRegion todo m=>
   cases todo with
   |nil=>exact⟨rfl,a,.cons (.inRegion [] m) j,b,c,d,e,g⟩
   |cons i rest=>
    refine⟨rfl,?_,.cons (.inRegion rest m) j,b,c,d,e,g⟩;dsimp only;split
    ·exact a.set _ C
    ·exact a
  |pG G=>exact⟨rfl,a,.cons (.pC G) j,b,c,d,e,g⟩
  |beginRound=>exact⟨rfl,a,j,b,c,d,e,g⟩
  |code h=>exact⟨rfl,a,.cons (.code h) j,b,c,d,e,g⟩
  |inBlock id=>exact⟨rfl,a,.cons (.inBlock id) j,b,c,d,e,g⟩
  |inLoop h=>exact⟨rfl,a,.cons (.inLoop h) j,b,c,d,e,g⟩
  |inScope h=>exact⟨rfl,a,.cons (.inScope h) j,b,c,d,e,g⟩
  |pC h=>exact⟨rfl,a,.cons (.pC h) j,b,c,d,e,g⟩
end
end
section
variable[ag]
section
variable{P:Kx}{K:aF}{φ:Ren}
def E5(id:Nat){s:Bool}{xs ys:List Item}(h:eK P φ f s xs ys):(exitTo id xs=none/\(s=false->exitTo id ys=none))\/∃a b,exitTo id xs=some a/\exitTo id ys=some b/\eK P φ f s a b:=by
 induction h with
 |stop e=>exact .inl ⟨rfl,λc=>by rw[e] at c;cases c⟩
 |nil=>exact .inl ⟨rfl,λ_=>rfl⟩
 |cons h i d=>
  cases h with
  |inBlock g=>
   unfold exitTo;split
   ·simp_all
   ·exact d
  |_=>exact d
def DG{f:akh}(l:Nat):∀(c:ajP)(r:ajP),findLabel c l=some r->ee P f c->ee P f r
 |.seq a b,r,h,hc=>by
  unfold findLabel at h;cases d:findLabel a l with
  |none=>rw[d] at h;exact DG l b r h hc.2
  |some x=>rw[d] at h;cases h;exact⟨DG l a x d hc.1,hc.2⟩
 |.label l',r,h,_=>by
  unfold findLabel at h;split at h
  ·cases h;trivial
  ·cases h
 |.skip,r,h,_=>by cases h
 |.region _ _ _,r,h,_=>by cases h
 |.cond _ _ _,r,h,_=>by cases h
 |.block _ _,r,h,_=>by cases h
 |.loop _,r,h,_=>by cases h
 |.rangeFunc _ _ _ _,r,h,_=>by cases h
 |.exit _,r,h,_=>by cases h
 |.scope _,r,h,_=>by cases h
 |.goto _,r,h,_=>by cases h
 |.ret,r,h,_=>by cases h
 |.refuse _,r,h,_=>by cases h
def E6(l:Nat){s:Bool}{xs ys:List Item}(h:eK P φ f s xs ys):(gotoIn l xs=none/\(s=false->gotoIn l ys=none))\/∃a b,gotoIn l xs=some a/\gotoIn l ys=some b/\eK P φ f s a b:=by
 induction h with
 |stop e=>exact .inl ⟨rfl,λc=>by rw[e] at c;cases c⟩
 |nil=>exact .inl ⟨rfl,λ_=>rfl⟩
 |cons h i d=>
  cases h with
  |@inScope body g=>unfold gotoIn;cases j:findLabel body l with|none=>exact d|some r=>exact .inr ⟨_,_,rfl,rfl,.cons (.code (.same (DG l body r j g))) (.cons (.inScope g) i)⟩
  |_=>exact d
def pW(s:Nat->Prop):ResultVar->Prop
 |.tmp t=>s t
 |.cell a _=>s a
def cJ(P:Kx):Prop:=∀f,ox f->∃fn a,P.funcs[f]?=some fn/\P.two.funcs[f]?=some a/\a.results=fn.results/\a.ntmps=fn.ntmps/\(∀r∈fn.results,pW (ag.lv f) r)/\(∀i,ag.lv f i->i<fn.ntmps)/\
 gW P f true (fn.body.getD (.refuse "unsupported: a function without a Go body is entered")) (a.body.getD (.refuse "unsupported: a function without a Go body is entered"))
def dc(P:Kx):Prop:=∀f c,ag.cd f c->ee P f c
def u7(b:cJ P){f:akh}(d:ag.ok f){xs ys:Array rl}(h:ax φ xs ys):bV P φ (aiy P f xs .normal) (aiy P.two f ys .normal):=by
 obtain⟨fn,g,j,m,o,n,_,c,b⟩:=b f d;unfold aiy;rw[j,m];refine⟨rfl,?_,.cons (.code b) .nil,.nil,.run,⟨rfl,rfl⟩,.none,d⟩;simp only[akE,aiL];rw[n,h.size];refine(h.append ⟨rfl,λi x y a e=>?_⟩).tmR λi hi=>by have:=c i hi;have:=h.size;simp;omega
 rw[a] at e;cases e;rw[Array.getElem?_replicate] at a;split at a
 ·cases a;exact zF
 ·cases a
def adz(c:dc P)(d:φ l=some l')(h:cN φ (ag.lv f) xs ys){a b:ajP}(e:ag.cd f a)(g:ag.cd f b)(i:ox f):bV P φ (Frame.round l f xs a b .normal) (Frame.round l' f ys a b .normal):=
 ⟨rfl,h,.cons (.code (.same (c f a e))) (.cons .beginRound (.cons (.code (.same (c f b g))) .nil)),.nil,.run,⟨rfl,rfl⟩,.some d,i⟩
end
end
section
variable[ag]
open Go.Conc (G)
section
variable{P:Kx}{K:aF}{φ:Ren}
def QY{a:Ren}{p:ResultVar->Prop}{f f':ResultVar->Sem rl}(e:∀(φ:Ren),Ren.le a φ->∀r,p r->SR P K VR φ (f r) (f' r)):∀(l:List ResultVar)(φ:Ren),(∀r∈l,p r)->Ren.le a φ->SR P K gU φ (l.mapM f) (l.mapM f')
 |[],φ,_,_=>by simp only[List.mapM_nil];exact .pure .nil
 |r::l,φ,g,b=>by simp only[List.mapM_cons];refine SR.bind (e φ b r (g r aj)) λh v v' c i=>?_;exact SR.bind (QY e l h (λx j=>g x (by simp[j])) (Ren.le_trans b c)) λn vs m b d=>.pure (.cons (i.mono b) d)
def yY(fn:Func)(c:∀r∈fn.results,pW s r)(h:cN φ s xs ys):SR P K VR φ (results fn xs) (results fn ys):=by
 unfold results;rw[Array.mapM_eq_mapM_toList,Array.mapM_eq_mapM_toList];refine SR.bind (R:=ax) (SR.bind (QY (p:=pW s) (λg i r d=>?_) _ φ (λr d=>c r (j9.1 d)) (Ren.le_refl _)) λg j e _ b=>.pure b.toArray) λg j e _ b=>?_
 ·cases r with
  |tmp t=>exact .pure ((h.mono i).getD t d)
  |cell a t=>exact SR.bind (uR ((h.mono i).getD a d)) λm u u' _ hu=>uH t hu
 ·refine .pure ?_;have c:=b.size;split
  ·rename_i h1;rw[dif_pos (by rw[<-c];exact h1)];exact b.at_ 0 _ _ (eE aa) (eE aa)
  ·rename_i h1;rw[dif_neg (by rw[<-c];exact h1)];exact .tuple b.size b.at_
end
end
section
variable[ag]
open Go.Conc (G)
section
variable{P:Kx}{K:aF}{φ:Ren}
def dv:aiH->List aiH->Prop
 |fr,[]=>fr.roundOf=none
 |_,c::cs=>dv c cs
omit [ag] in
def dv.congr{a:aiH}(h:dv fr cs)(e:a.roundOf=fr.roundOf):dv a cs:=by cases cs with|nil=>exact e.trans h|cons c cs=>exact h
omit [ag] in
def uD:(fr.finish v).roundOf=fr.roundOf:=by unfold Frame.finish;split<;>rfl
def Out(P:Kx)(K:aF)(φ:Ren)(B B':List aiH)(_fn:akh)(bt:Prop)(w w':ns)(s s':GStep):Prop:=
 ∀n m es,s=.go n m es->(∃g li NE b a c h',n=G {li with mode:=.panicking c} (b++B)/\bV P g li NE/\dp P g b a/\HR K g m.heap h')\/
  ∃g i b h a j d,n=G i (b++B)/\s'=.go (G h (a++B')) j d/\bV P g i h/\dp P g b a/\
   (bt->dv i b)/\WR K g m j/\iv w m/\eH K φ g w.heap.size w' j/\∀e∈d,ey K g e
omit [ag] in
def raise_mode(fr:aiH)(vs:List PanicEntry):∃c,fr.raise vs={fr with mode:=.panicking c}:=by unfold Frame.raise;split<;>exact⟨_,rfl⟩
def yT{x:Item}(h:fr.todo=x::k)(b:∀a,x≠.code (.refuse a)):fr.todo≠[]/\¬su fr:=
 ⟨by rw[h];simp,λ⟨a,e⟩=>by rw[h] at e;cases e;exact b a rfl⟩
def Aa(W:cJ P)(X:dc P){s s':Sem Next}(i:bV P φ fr bi)(j:fr.todo≠[]/\¬su fr)(p:dp P φ cs cs')(S:SR P K NR φ s s')(hw:WR K φ w w'):
  Out P K φ B B' fr.fn (dv fr cs) w w' (aiZ P true fr (cs++B) none s w) (aiZ P.two true bi (cs'++B') none s' w'):=by
 intro g1 w1 es g;have J:(fr.kind==CallKind.early)=false:=by rw[i.kind.1];rfl
 have IM:(bi.kind==CallKind.early)=false:=by rw[i.kind.2];rfl
 have E:(match fr.todo with|.call _ true _ _::_=>alc|_=>.normal)=.normal/\(match bi.todo with|.call _ true _ _::_=>alc|_=>.normal)=.normal:=by have h:=i.todo;have h1:=j.1;have D:=j.2;unfold su at D;revert h h1 D;generalize fr.todo=l;generalize bi.todo=l';intro h h1 D;cases h with|nil=>exact absurd rfl h1|stop _=>exact absurd ⟨_,rfl⟩ D|cons h _=>cases h<;>exact⟨rfl,rfl⟩
 obtain⟨E,L⟩:=E;have r:=nM P s w #[];revert g r;unfold aiZ;generalize s.runT P w #[]=q;obtain⟨q1,q2⟩:=q;intro g r;replace r:=r;subst r;simp only[if_true,J,Bool.false_eq_true,if_false,E] at g;cases F:s.run P w with
 |halt x T=>
  obtain⟨V,C,Z,hle,hh⟩:=S.pR w w' hw x T F;rw[F] at g
  left
  cases x with
  |panic v=>simp only[aiv,akm] at g;obtain⟨rfl,rfl,_⟩:=g;obtain⟨c,hc⟩:=raise_mode fr [{v,recovered:=false}];exact⟨C,fr,bi,cs,cs',c,Z,by rw[<-hc];rfl,i.mono hle,p.mono hle,hh⟩
  |stuck m=>simp[aiv] at g
  |unsupported u=>cases u<;>first|exact V.elim|simp[aiv] at g
  |_=>exact V.elim
 |ok n T=>
  obtain⟨C,n',z,d,h1,D,G,H,o,I⟩:=S.run #[] hw F;rw[F] at g
  right
  cases D with
  |value hv=>simp only[aiv,akm] at g;obtain⟨rfl,rfl,_⟩:=g;refine⟨C,_,cs,_,cs',z,seen P.two bi.fn d,rfl,?_,((i.mono o.le).finish j.2 hv),p.mono o.le,λA=>A.congr uD,G,H,o,λe he=>I e (l4 he)⟩;exact yr
  |skip=>simp only[aiv,akm] at g;obtain⟨rfl,rfl,_⟩:=g;refine⟨C,_,cs,_,cs',z,seen P.two bi.fn d,rfl,?_,((i.mono o.le).finish j.2 zF),p.mono o.le,λA=>A.congr uD,G,H,o,λe he=>I e (l4 he)⟩;exact yr
  |@enter f xs ys M N=>
   have Q:bV P C (aiy P f xs (match fr.todo with|.call _ true _ _::_=>alc|_=>.normal)) (aiy P.two f ys (match bi.todo with|.call _ true _ _::_=>alc|_=>.normal)):=by rw[E,L];exact u7 W M N
   simp only[aiv,akm] at g;obtain⟨rfl,rfl,_⟩:=g;refine⟨C,_,fr::cs,_,bi::cs',z,seen P.two bi.fn d,rfl,?_,Q,.cons (i.mono o.le) j.2 (p.mono o.le),λA=>A,G,H,o,λe he=>I e (l4 he)⟩;exact yr
  |round f a b hl N ha A R=>simp only[aiv,akm] at g;obtain⟨rfl,rfl,_⟩:=g;refine⟨C,_,fr::cs,_,bi::cs',z,seen P.two bi.fn d,rfl,?_,adz X hl N ha A R,.cons (i.mono o.le) j.2 (p.mono o.le),λA=>A,G,H,o,λe he=>I e (l4 he)⟩;exact yr
end
end
section
variable[ag]
open Go.Conc (G)
section
variable{P:Kx}{K:aF}{φ:Ren}
def fB(a:bV P φ fr bi)(b:dp P φ cs cs')(hw:WR K φ w w')(c:bt->dv fr cs):
  Out P K φ B B' fn bt w w' (.go (G fr (cs++B)) w) (.go (G bi (cs'++B')) w'):=by
 intro d g es h;obtain⟨rfl,rfl,_⟩:=h;exact .inr ⟨φ,_,cs,_,cs',w',#[],rfl,rfl,a,b,c,hw,.refl w,.refl K φ _ w',λe h=>by simp at h⟩
def uS{o:Outcome}{w2:ns}{s':GStep}:Out P K φ B B' fn bt w w' (.ended o w2) s':=by intro a b es h;exact GStep.noConfusion h
def bV.to(h:bV P φ fr bi){t a:List Item}(b:eK P φ fr.fn fr.roundOf.isNone t a):bV P φ {fr with todo:=t} {bi with todo:=a}:=⟨h.fn,h.tmps,b,h.defers,h.mode,h.kind,h.round,h.iU⟩
def pO(m i:Bool){c:ajP}(j:ep φ)(d:bV P φ fr bi)(e:dp P φ cs cs')(hw:WR K φ w w')
  (h1:fr.todo=.code c::k)(n:bi.todo=.code c::k')(hc:ee P fr.fn c)(h:eK P φ fr.fn fr.roundOf.isNone k k')
  (hm:match c with|.skip|.label _|.seq _ _|.cond _ _ _|.block _ _|.loop _|.scope _=>True|_=>False):
  Out P K φ B B' fr.fn (dv fr cs) w w' (NO P m true fr (cs++B) none w) (NO P.two i true bi (cs'++B') none w'):=by
 unfold NO;rw[h1,n];cases c with
 |skip=>exact fB (d.to h) e hw (λg=>g.congr rfl)
 |label l=>exact fB (d.to h) e hw (λg=>g.congr rfl)
 |seq a b=>exact fB (d.to (.cons (.code (.same hc.1)) (.cons (.code (.same hc.2)) h))) e hw (λg=>g.congr rfl)
 |block id b=>exact fB (d.to (.cons (.code (.same hc)) (.cons (.inBlock id) h))) e hw (λg=>g.congr rfl)
 |loop b=>exact fB (d.to (.cons (.code (.same hc)) (.cons (.inLoop hc) h))) e hw (λg=>g.congr rfl)
 |scope b=>exact fB (d.to (.cons (.code (.same hc)) (.cons (.inScope hc) h))) e hw (λg=>g.congr rfl)
 |cond x a b=>
  have he:=(d.eval j).1 x hc.1;dsimp only;generalize fr.eval x=v at he;generalize bi.eval x=v' at he;cases he with
  |bool t=>
   cases t
   ·exact fB (d.to (.cons (.code (.same hc.2.2)) h)) e hw (λg=>g.congr rfl)
   ·exact fB (d.to (.cons (.code (.same hc.2.1)) h)) e hw (λg=>g.congr rfl)
  |_=>exact uS
 |_=>exact hm.elim
def Ak(m e:Bool){x y:Item}(a:bV P φ fr bi)(b:dp P φ cs cs')(hw:WR K φ w w')
  (h1:fr.todo=x::k)(g:bi.todo=y::k')(j:jz P φ fr.fn fr.roundOf.isNone x y)(d:eK P φ fr.fn fr.roundOf.isNone k k')
  (hm:match x with|.inBlock _|.inScope _|.inLoop _|.inRegion _ []=>True|_=>False):
  Out P K φ B B' fr.fn (dv fr cs) w w' (NO P m true fr (cs++B) none w) (NO P.two e true bi (cs'++B') none w'):=by
 unfold NO;rw[h1,g];cases j with
 |inBlock id=>exact fB (a.to d) b hw (λc=>c.congr rfl)
 |inScope h=>exact fB (a.to d) b hw (λc=>c.congr rfl)
 |inLoop h=>exact fB (a.to (.cons (.code (.same h)) (.cons (.inLoop h) d))) b hw (λc=>c.congr rfl)
 |inRegion t h=>cases t with|nil=>exact fB (a.to d) b hw (λc=>c.congr rfl)|cons i t=>exact hm.elim
 |_=>exact hm.elim
def RY(m p:Bool){c:ajP}{a b:List Item}(d:bV P φ fr bi)(g:dp P φ cs cs')(hw:WR K φ w w')
  (h1:fr.todo=.code c::k)(q:bi.todo=.code c::k')(o:eK P φ fr.fn fr.roundOf.isNone k k')
  (hm:(∃id,c=.exit id/\exitTo id k=some a)\/∃l,c=.goto l/\gotoIn l k=some a):
  Out P K φ B B' fr.fn (dv fr cs) w w' (NO P m true fr (cs++B) none w) (NO P.two p true bi (cs'++B') none w'):=by
 unfold NO;rw[h1,q];obtain⟨id,rfl,e⟩|⟨id,rfl,e⟩:=hm
 ·obtain⟨i,_⟩|⟨u,v,i,j,h⟩:=E5 id o
  ·simp_all
  ·dsimp only;rw[i,j];exact fB (d.to h) g hw (λn=>n.congr rfl)
 ·obtain⟨i,_⟩|⟨u,v,i,j,h⟩:=E6 id o
  ·simp_all
  ·dsimp only;rw[i,j];exact fB (d.to h) g hw (λn=>n.congr rfl)
def Q3(m g:Bool)(a:bV P φ fr bi)(d:dp P φ cs cs')(hw:WR K φ w w')(b:fr.roundOf=none)
  (hm:(fr.todo=[]/\bi.todo=[])\/∃k k',fr.todo=.code .ret::k/\bi.todo=.code .ret::k'):
  Out P K φ B B' fr.fn (dv fr cs) w w' (NO P m true fr (cs++B) none w) (NO P.two g true bi (cs'++B') none w'):=by
 have c:bi.roundOf=none:=by have h:=a.round;rw[b] at h;generalize bi.roundOf=q at h;cases h;rfl
 unfold NO;obtain⟨h1,e⟩|⟨k,k',h1,e⟩:=hm
 all_goals
  rw[h1,e];rw[b,c];exact fB ⟨a.fn,a.tmps,by have t:=a.todo;rw[h1,e,b] at t;exact t,a.defers,.returning,a.kind,by have t:=a.round;rw[b,c] at t;exact t,a.iU⟩ d hw (λi=>i.congr b.symm)
end
end
section
variable[ag]
open Go.Conc (G)
section
variable{P:Kx}{K:aF}{φ:Ren}
def aeM(A:cJ P)(C:dc P)(D:bZ P)(hG:K.G=P.globals.size)(hF:dn P K)(m r:Bool){i:Nat}{t:List Nat}
  (E:ep φ)(a:bV P φ fr bi)(b:dp P φ cs cs')(hw:WR K φ w w')(h1:fr.todo=.inRegion ops (i::t)::k)(F:bi.todo=.inRegion ops (i::t)::k')
  (d:pV P (ag.lv fr.fn) ops)(j:∀(i:Nat) o c,ops[i]?=some o->o.op≠.defer c):
  Out P K φ B B' fr.fn (dv fr cs) w w' (NO P m true fr (cs++B) none w) (NO P.two r true bi (cs'++B') none w'):=by
 have n:fr.oper?=ops[i]?:=by unfold Frame.oper?;rw[h1]
 have p:bi.oper?=ops[i]?:=by unfold Frame.oper?;rw[F]
 have H:=a.tmps.wanted d i;have g:=yT h1 (λ_ e=>by cases e);have h:=a.finish g.2 zF
 have q:Out P K φ B B' fr.fn (dv fr cs) w w' (akC P true fr (cs++B) none w) (akC P.two true bi (cs'++B') none w'):=by
  unfold akC;rw[n,p];cases z:ops[i]? with
  |none=>exact uS
  |some o=>
   dsimp only;have hd:=j i o;have I:=Aa (B:=B) (B':=B') A C a g b (OO D hG hF (d i o z).1 (a.eval E)) hw;split
   ·next c _ e=>exact absurd e (hd c z)
   ·simp_all
 have J:NO P m true fr (cs++B) none w=if((ops[i]?).map (aiu · (yielded ops fr.tmps))).getD false then akC P true fr (cs++B) none w else .go (G (fr.finish undef) (cs++B)) w:=by exact C5
 have L:NO P.two r true bi (cs'++B') none w'=if((ops[i]?).map (aiu · (yielded ops bi.tmps))).getD false then akC P.two true bi (cs'++B') none w' else .go (G (bi.finish undef) (cs'++B')) w':=by exact C5
 rw[J,L,H];split
 ·exact q
 ·exact fB h b hw (λM=>M.congr uD)
end
end
section
variable[ag]
open Go.Conc (G)
section
variable{P:Kx}{K:aF}{φ:Ren}
def abV(m d:Bool){id:Nat}(a:bV P φ fr bi)(b:dp P φ cs cs')(hw:WR K φ w w')
  (h1:fr.todo=.code (.region id ops false)::k)(e:bi.todo=.code (.region id ops false)::k')(c:pV P (ag.lv fr.fn) ops)(g:eK P φ fr.fn fr.roundOf.isNone k k'):
  Out P K φ B B' fr.fn (dv fr cs) w w' (NO P m true fr (cs++B) none w) (NO P.two d true bi (cs'++B') none w'):=by
 unfold NO;rw[h1,e];exact fB (a.to (.cons (.inRegion _ c) g)) b hw (λh=>h.congr rfl)
def adA(g:cJ P)(h:dc P)(m d:Bool)(a:bV P φ fr bi)(b:dp P φ cs cs')(hw:WR K φ w w')
  (h1:fr.todo=.beginRound::k)(p:bi.todo=.beginRound::k')(hr:fr.roundOf=some l)(i:bi.roundOf=some l')(j:φ l=some l'):
  Out P K φ B B' fr.fn (dv fr cs) w w' (NO P m true fr (cs++B) none w) (NO P.two d true bi (cs'++B') none w'):=by
 have c:=Aa (B:=B) (B':=B') g h a (yT h1 λ_ e=>by cases e) b (s:=do ake l;pure .skip) (s':=do ake l';pure .skip) (SR.bind (Mr j) λq _ _ _ _=>.pure .skip) hw
 have n:NO P m true fr (cs++B) none w=aiZ P true fr (cs++B) none (do ake l;pure .skip) w:=by
  conv=>lhs;unfold NO
  split<;>simp_all
 have o:NO P.two d true bi (cs'++B') none w'=aiZ P.two true bi (cs'++B') none (do ake l';pure .skip) w':=by
  conv=>lhs;unfold NO
  split<;>simp_all
 rw[n,o];exact c
end
end
section
variable[ag]
open Go.Conc (G)
section
variable{P:Kx}{K:aF}{φ:Ren}
def SR.both{α β:Type}{R:Ren->α->β->Prop}{s:Sem α}{s':Sem β}(h:SR P K R φ s s')(hw:WR K φ w w'):
  (∃x c es,s.runT P w #[]=(.halt x c,es)/\lf x/\∃ψ h',Ren.le φ ψ/\HR K ψ c.heap h')\/∃a c es ψ b g d,s.runT P w #[]=(.ok a c,es)/\s'.runT P.two w' #[]=(.ok b g,d)/\R ψ a b/\WR K ψ c g/\iv w c/\eH K φ ψ w.heap.size w' g/\∀e∈d,ey K ψ e:=by
 have h1:=nM P s w #[];cases i:s.run P w with
 |halt x c=>
  left
  refine⟨x,c,(s.runT P w #[]).2,?_,h.pR w w' hw x c i⟩;rw[i] at h1;rw[<-h1]
 |ok a c=>
  right
  obtain⟨ψ,b,g,d,j,m,n,o,p,q⟩:=h.run #[] hw i;rw[i] at h1;exact⟨a,c,(s.runT P w #[]).2,ψ,b,g,d,by rw[<-h1],by simpa using j,m,n,o,p,q⟩
def aeN(m d:Bool){id:Nat}(a:bV P φ fr bi)(b:dp P φ cs cs')(hw:WR K φ w w')
  (h1:fr.todo=.code (.region id ops true)::k)(g:bi.todo=.code (.region id ops true)::k')(c:pV P (ag.lv fr.fn) ops)(j:eK P φ fr.fn fr.roundOf.isNone k k'):
  Out P K φ B B' fr.fn (dv fr cs) w w' (NO P m true fr (cs++B) none w) (NO P.two d true bi (cs'++B') none w'):=by
 have n:=hw.tape 0 (.order fr.fn id)
 have o:NO P m true fr (cs++B) none w=.go (G {fr with todo:=.inRegion ops (Region.schedule (P.follows .mixedOrders) ops (w.tape w.drawn (.order fr.fn id)))::k} (cs++B)) {w with drawn:=w.drawn+1}:=by unfold NO;rw[h1];rfl
 have p:NO P.two d true bi (cs'++B') none w'=.go (G {bi with todo:=.inRegion ops (Region.schedule (P.follows .mixedOrders) ops (w'.tape w'.drawn (.order bi.fn id)))::k'} (cs'++B')) {w' with drawn:=w'.drawn+1}:=by unfold NO;rw[g];rfl
 have hq:w'.tape w'.drawn (.order bi.fn id)=w.tape w.drawn (.order fr.fn id):=by rw[a.fn];exact n.symm
 rw[o,p,hq];intro z A es h;obtain⟨rfl,rfl,_⟩:=h
 exact .inr ⟨φ,_,cs,_,cs',{w' with drawn:=w'.drawn+1},#[],rfl,rfl,(a.to (.cons (.inRegion _ c) j)),b,λr=>r.congr rfl,
  ⟨hw.heap,λi q=>by have:=hw.tape (1+i) q;simpa[Nat.add_assoc] using this⟩,⟨rfl,rfl,rfl,aj,au _⟩,⟨⟨rfl,rfl,rfl,aj,au _⟩,Ren.le_refl _,λ_ _ h=>.inl h,λ_ _ _=>rfl⟩,λe h=>by simp at h⟩
def W6(n:bV P φ fr bi)(m F:Bool)(p:dp P φ cs cs')(hw:WR K φ w w')(G:φ l=some l')(hr:fr.roundOf=some l)(o:dv fr cs)(j:Option ajP)(H:Jump j):
  Out P K φ B B' fr.fn (dv fr cs) w w'
   (aiv (seen P fr.fn ((ajO l j).runT P w #[]).2) (match((ajO l j).runT P w #[]).1 with
    |.ok v w=>ajZ P m fr (cs++B) none v w
    |.halt _ w=>.ended (.stuck "range over a function: no such loop" (fr.pos P)) w))
   (aiv (seen P.two bi.fn ((ajO l' j).runT P.two w' #[]).2) (match((ajO l' j).runT P.two w' #[]).1 with
    |.ok v w=>ajZ P.two F bi (cs'++B') none v w
    |.halt _ w=>.ended (.stuck "range over a function: no such loop" (bi.pos P.two)) w)):=by
 intro V W es h;rcases(Nh (P:=P) (K:=K) G j H).both hw with⟨x,I,q,J,_⟩|⟨a,I,q,L,b,r,d,z,A,M,N,Q,C,R⟩
 ·rw[J] at h;simp[aiv] at h
 ·rw[z] at h;rw[A];cases p with
  |nil=>exact absurd (hr.symm.trans o) aj
  |@cons c X rest g hc D i=>
   have S:=n.kind.1;have E:=n.kind.2;simp only[List.cons_append,ajZ,S,aiv,akm] at h;obtain⟨rfl,rfl,_⟩:=h
   right
   refine⟨L,_,rest,_,g,r,seen P.two bi.fn d,rfl,?_,(hc.mono C.le).finish D M,i.mono C.le,λT=>dv.congr (fr:=c) T uD,N,Q,C,λe he=>R e (l4 he)⟩;simp only[List.cons_append,ajZ,E,aiv,Array.append_empty,Array.empty_append];rfl
def Out.after{i:Ren}{w2 BT:ns}{s s':GStep}{es a:Array Event}(h:Out P K i B B' fn bt w2 BT s s')(p:iv w w2)(z:eH K φ i w.heap.size w' BT)(A:∀e∈a,ey K i e):
  Out P K φ B B' fn bt w w' (aiv es s) (aiv a s'):=by
 intro q L C he;cases s with
 |go g w3 j=>
  obtain⟨rfl,rfl,_⟩:=he;rcases h _ _ j rfl with M|⟨D,m,n,b,c,o,d,q,rfl,E,F,G,H,I,r,J⟩
  ·simp_all
  ·exact .inr ⟨D,m,n,b,c,o,a++d,q,rfl,E,F,G,H,p.trans I,z.trans r p.size,λe he=>(jc.1 he).elim (λh=>(A e h).mono r.le) (J e)⟩
 |_=>simp[aiv] at he
def Ni(hF:dn P K)(he:ER φ (ag.lv fr.fn) fr.eval bi.eval){f:ajd}(c:dV (ag.lv fr.fn) f)(p:φ l=some l'):
  SR P K NR φ (do let d<-resolve fr.eval {callee:=.value f,args:=#[.const (.func (.yield l) #[] #[])],argTypes:=#[]} 0;invoke d.target d.args)
   (do let d<-resolve bi.eval {callee:=.value f,args:=#[.const (.func (.yield l') #[] #[])],argTypes:=#[]} 0;invoke d.target d.args):=by
 have a:ax φ (#[Operand.const (.func (.yield l) #[] #[])].map fr.eval) (#[Operand.const (.func (.yield l') #[] #[])].map bi.eval):=by
  refine⟨aj,λi x y b n=>?_⟩
  match i with
  |0=>simp[Frame.eval] at b n;subst b;subst n;exact .func (.yield p) rfl (λi x y b _=>by simp at b) rfl (λi x y b _=>by simp at b)
  |i+1=>simp at b
 have c:=he.1 f c;unfold resolve;dsimp only;generalize fr.eval f=u at c;generalize bi.eval f=u' at c;cases c with
 |nilFunc=>exact .dead (dB (P:=P) (α:=Next) .nilDeref)
 |aX _ _=>exact .dead Mt
 |func e o b g j=>cases e with|func f m=>exact hF.2.2 f (hF.2.1 f m) φ _ _ he.2.2.2 ((ax.append ⟨o,b⟩ a).append ⟨g,j⟩)|yield h=>exact P0 h (ax.append ⟨o,b⟩ a)
 |_=>exact .halt _ _
def adB(J:cJ P)(L:dc P)(hF:dn P K)(m G:Bool){f:ajd}{i:Array Tmp}{a b:ajP}(M:ep φ)(c:bV P φ fr bi)(r:dp P φ cs cs')(hw:WR K φ w w')
  (h1:fr.todo=.code (.rangeFunc f i a b)::k)(N:bi.todo=.code (.rangeFunc f i a b)::k')(hc:ee P fr.fn (.rangeFunc f i a b))(Q:eK P φ fr.fn fr.roundOf.isNone k k'):
  Out P K φ B B' fr.fn (dv fr cs) w w' (NO P m true fr (cs++B) none w) (NO P.two G true bi (cs'++B') none w'):=by
 have R:NO P m true fr (cs++B) none w=aiv (seen P fr.fn ((ajE fr.fn fr.tmps i a b fr.roundOf).runT P w #[]).2) (match((ajE fr.fn fr.tmps i a b fr.roundOf).runT P w #[]).1 with
   |.ok (l,mark) w=>aiZ P true {fr with todo:=.inRangeFunc l::k,defers:=mark++fr.defers} (cs++B) none (do let d<-resolve ({fr with todo:=.inRangeFunc l::k,defers:=mark++fr.defers}:aiH).eval {callee:=.value f,args:=#[.const (.func (.yield l) #[] #[])],argTypes:=#[]} 0;invoke d.target d.args) w
   |.halt _ w=>.ended (.stuck "range over a function: no such loop" (fr.pos P)) w):=by
  conv=>lhs;unfold NO
  rw[h1];rfl
 have S:NO P.two G true bi (cs'++B') none w'=aiv (seen P.two bi.fn ((ajE bi.fn bi.tmps i a b bi.roundOf).runT P.two w' #[]).2) (match((ajE bi.fn bi.tmps i a b bi.roundOf).runT P.two w' #[]).1 with
   |.ok (l,mark) w=>aiZ P.two true {bi with todo:=.inRangeFunc l::k',defers:=mark++bi.defers} (cs'++B') none (do let d<-resolve ({bi with todo:=.inRangeFunc l::k',defers:=mark++bi.defers}:aiH).eval {callee:=.value f,args:=#[.const (.func (.yield l) #[] #[])],argTypes:=#[]} 0;invoke d.target d.args) w
   |.halt _ w=>.ended (.stuck "range over a function: no such loop" (bi.pos P.two)) w):=by
  conv=>lhs;unfold NO
  rw[N];rfl
 rw[R,S]
 have T:SR P K (λo u v=>o u.1=some v.1/\iZ o u.2 v.2) φ (ajE fr.fn fr.tmps i a b fr.roundOf) (ajE bi.fn bi.tmps i a b bi.roundOf):=by rw[c.fn];exact MN (P:=P) (K:=K) fr.fn c.iU c.tmps i a b hc.2.2.2.1 hc.2.2.2.2 c.round
 rcases T.both hw with⟨x,V,z,W,_⟩|⟨u,V,z,o,v,X,d,Z,g2,g3,g4,g5,n,g7⟩
 ·rw[W];intro g H es h;simp[aiv] at h
 ·obtain⟨l,mk⟩:=u;obtain⟨l',mk'⟩:=v;obtain⟨I,hm⟩:=g3;rw[Z,g2]
  have j:bV P o {fr with todo:=.inRangeFunc l::k,defers:=mk++fr.defers} {bi with todo:=.inRangeFunc l'::k',defers:=mk'++bi.defers}:=
   ⟨c.fn,c.tmps.mono n.le,.cons (.pG I) (Q.mono n.le),hm.append (c.defers.mono n.le),c.mode,c.kind,c.round.mono n.le,c.iU⟩
  have A:ep o:=λg hg=>n.le _ _ (M g hg);have C:=Aa (B:=B) (B':=B') J L j (yT (x:=.inRangeFunc l) (k:=k) rfl λ_ e=>by cases e) (r.mono n.le) (Ni hF (j.eval A) hc.1 I) g4;refine Out.after ?_ g5 n λe he=>g7 e (l4 he);intro g H es h;rcases C g H es h with hp|⟨χ,D,E,p,q,F,d,x1,x2,x3,x4,x5,x6⟩
  ·simp_all
  ·exact .inr ⟨χ,D,E,p,q,F,d,x1,x2,x3,x4,λhb=>x5 (hb.congr rfl),x6⟩
def Zm(m q:Bool)(j:bV P φ fr bi)(n:dp P φ cs cs')(hw:WR K φ w w')
  (h1:fr.todo=.endRangeFunc l::k)(A:bi.todo=.endRangeFunc l'::k')(C:φ l=some l')(D:eK P φ fr.fn fr.roundOf.isNone k k'):
  Out P K φ B B' fr.fn (dv fr cs) w w' (NO P m true fr (cs++B) none w) (NO P.two q true bi (cs'++B') none w'):=by
 have E:NO P m true fr (cs++B) none w=aiv (seen P fr.fn ((akD l).runT P w #[]).2) (match((akD l).runT P w #[]).1 with
   |.ok a w=>.go (G {fr with todo:=(a.map Item.code).toList++k} (cs++B)) w
   |.halt (.panic v) w=>.go (G (fr.raise [{v,recovered:=false}]) (cs++B)) w
   |.halt _ w=>.ended (.stuck "range over a function: no such loop" (fr.pos P)) w):=by
  conv=>lhs;unfold NO
  rw[h1];rfl
 have F:NO P.two q true bi (cs'++B') none w'=aiv (seen P.two bi.fn ((akD l').runT P.two w' #[]).2) (match((akD l').runT P.two w' #[]).1 with
   |.ok a w=>.go (G {bi with todo:=(a.map Item.code).toList++k'} (cs'++B')) w
   |.halt (.panic v) w=>.go (G (bi.raise [{v,recovered:=false}]) (cs'++B')) w
   |.halt _ w=>.ended (.stuck "range over a function: no such loop" (bi.pos P.two)) w):=by
  conv=>lhs;unfold NO
  rw[A];rfl
 rw[E,F];rcases(N4 (P:=P) (K:=K) C).both hw with⟨x,H,p,I,r⟩|⟨u,H,p,z,v,J,d,L,M,N,Q,R,o,S⟩
 ·rw[I];intro g Z es h;cases x with
  |panic v=>obtain⟨rfl,rfl,_⟩:=h;obtain⟨r,z,T,hle,V⟩:=r;obtain⟨c,hc⟩:=raise_mode fr [{v,recovered:=false}];exact .inl ⟨z,fr,bi,cs,cs',c,T,by rw[<-hc],j.mono hle,n.mono hle,V⟩
  |_=>simp[aiv] at h
 ·obtain⟨rfl,W⟩:=N;rw[L,M];refine Out.after (fB ((j.mono o.le).to ?_) (n.mono o.le) Q λX=>X.congr rfl) R o λe he=>S e (l4 he);have b:=D.mono o.le;rcases W with rfl|rfl|⟨i,rfl⟩|⟨i,rfl⟩
  ·simp_all
  ·exact .cons (.code (.same trivial)) b
  ·exact .cons (.code (.same trivial)) b
  ·exact .cons (.code (.same trivial)) b
end
end
end Go.Proofs.Q0.aI
