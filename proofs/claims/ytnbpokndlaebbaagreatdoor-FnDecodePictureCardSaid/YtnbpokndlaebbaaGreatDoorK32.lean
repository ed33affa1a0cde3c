import Derived.Test.YtnbpokndlaebbaaGreatDoorK31
import Derived.Conc.LeavingOf
import Derived.ChangeMade
set_option maxRecDepth 100000
set_option maxHeartbeats 8000000
set_option linter.all false
open Go.Value renaming int->U,slice->Y,bool->ci,agg->bi,pointer->d9,tuple->em,iface->gc
open Go.IntKind renaming i64->O
open Go.Obj renaming cells->ap
open Go.Ending renaming returned->dl
open Bool renaming and_eq_true->Uy,false->Ba,or_eq_true->ajO,true->AT
open Go renaming Addr->aic,Code->ajd,FuncId->ajH,Operand->aiD,Program->OF,TypeId->SL,TypeInfo->ajS,Value->AS,World->rl,handleType->ajV
open Go.Frame renaming enter->aid
open List renaming all_eq_true->aia
open Option renaming bind_eq_some_iff->ahS,none->ns,some->an
namespace Go.Proofs
def Ln{p:Prop}(h:p:=by
  simp only[Sem.bind,e];split
  ·exact .dead eX
  ·exact .pure rfl):p:=h
def Lo{p:Prop}(h:p:=by intro v hv;simp only[Option.map_eq_some_iff] at hv;obtain⟨zs,e,rfl⟩:=hv;exact Gb (key zs e)):p:=h
def Ma{p:Prop}(h:p:=by rw[if_neg i6];exact⟨λ⟨fn2,h2,h3⟩=>by rw[h] at h2;cases h2;exact h3,λh3=>⟨fn,h,h3⟩⟩):p:=h
end Go.Proofs
namespace Go.Proofs.Q0.Open
section
open Go.Conc Go.ConcN aM
variable[aG]
def AH(W:rl)(v:AS)(a:rl):Prop:=v=.bool AT/\iZ W a/\W.heap.size<=a.heap.size/\∀c,c<W.heap.size->a.heap[c]?=W.heap[c]?
def ab5(E:Env){m:ah}(q:ah.ku aG.toah m)(w:∀g,m.gl g->aG.toah.gl g)(y:∀f,aG.toah.ok f->m.ok f)(z:wC)(l:∀v,aG.toah.jk v)(P:@dz aG.toah Gz.prog)(hC:@ef aG.toah Gz.prog)(hF:∀K:aI,K.G=Gz.prog.globals.size->@dX aG.toah Gz.prog K)
  (Q:@dz (ah.exact m Gz.prog.funcs) Gz.prog)(R:@ef (ah.exact m Gz.prog.funcs) Gz.prog)(S:@cN (ah.exact m Gz.prog.funcs) Gz.prog)(V:∀K:aI,K.G=Gz.prog.globals.size->@dX (ah.exact m Gz.prog.funcs) Gz.prog K)
  {W:rl}{ts:List Nat}(hG:∃cs t,W.heap[Gz.prog.globals.size]?=an (.cells cs t (0,0))/\0<cs.size)(A:∀b,aG.toah.cl b<->(qs ts W.heap Gz.prog.globals.size).tok b)(X:ts.Nodup)(ht:∀b,b∈ts->Gz.prog.globals.size<b/\∃cs t,W.heap[b]?=an (.cells cs t (0,0))/\0<cs.size)
  (Z:∀g,aG.toah.gl g->fN ts W.heap g=an g){f:ajH}{fn:Func}(WF:Gz.prog.funcs[f]?=an fn)(B:∀r∈fn.results,∃t,r=.tmp t)(C:Gz.prog.inits.idxOf? f=ns)(D:aG.toah.ok f){args a:Array AS}(i:@aB aG.toah (fN ts W.heap) a args)
  (F:∀wg:rl,wg.heap=@aM.startHeap aG.toah l Gz.prog.globals.size ts W.heap->Calls Gz.prog f a wg λ|dl v,_=>v=.bool AT|_,_=>False):
  ∃M last o w' N,runNT Tryz.prog (M+1) (solo (G (aid Tryz.prog f args .normal) []) W) #[]=(.ended o w',N)/\runN Tryz.prog M (solo (G (aid Tryz.prog f args .normal) []) W)=.next last/\
   Go.step Tryz.prog last=.ended o w'/\Conc.Good Tryz.prog (AH W) last o w' N:=by
 let K:=qs ts W.heap Gz.prog.globals.size
 have n:=A
 let wg:rl:={W with heap:=@aM.startHeap aG.toah l Gz.prog.globals.size ts W.heap}
 have hH:=@adJ aG.toah ts W.heap Gz.prog.globals.size l hG A X ht;have xy:=@vq aG.toah ts W.heap Gz.prog.globals.size;have hv:=Z;have j:=HR.Rx (hG:=wg.heap) (λ_=>Ba) Gz.prog.funcs q hH rfl (λb hb=>(n b).1 ((q.cl b).2 hb)) (ay _) λb _=>rfl;rw[show kJ (λ_=>Ba) wg.heap=wg.heap from@Zo aG.toah l Gz.prog.globals.size ts W.heap] at j
 have k:bO Gz.prog (jl Gz.prog λv _=>v=.bool AT) (G (aid Gz.prog f a .normal) [c0 Gz.prog]) wg:=
  @Mj (ah.exact m Gz.prog.funcs) Gz.prog _ Q R S rfl (V _ rfl) (λ_ _ x=>x) f fn WF B C (y f D) a a wg _ _ (aB.id (aB.inst q i)) j (λg hg=>Ren.zN (hv g (w g hg))) _ λT _=>(F (wg.on T wg.drawn) rfl).mono λe w' he=>by cases e<;>exact he
 have fd:@eT aG.toah Gz.prog (fN ts W.heap) (aid Gz.prog f a .normal) (aid Tryz.prog f args .normal):=by have h:=@vO aG.toah Gz.prog (fN ts W.heap) P f D a args i;rwa[aG.two] at h
 have hD:@dJ aG.toah Gz.prog K [] (fN ts W.heap) (G (aid Gz.prog f a .normal) [c0 Gz.prog]) wg (G (aid Tryz.prog f args .normal) []) W:=
  ⟨_,_,[],[],rfl,rfl,fd,@iC.nil aG.toah _ _,hH,hv,rfl⟩
 obtain⟨N1,rG,a1,w1,H,t1,q1,ψ,g1,I,Sh1,r1,e1,f1,IL,J,Ca,s⟩:=afG E z (K:=K) rfl rfl (λb=>(E.le.cl b).trans (n b)) P hC (hF K rfl) (x:=(G (aid Gz.prog f a .normal) [c0 Gz.prog],wg)) (ac6 k.acc)
  #[G (aid Tryz.prog f args .normal) []] (G (aid Tryz.prog f args .normal) []) W ns #[] (λ_=>0) (fN ts W.heap) (λ_=>False) k hD adI rfl (λ_ _ _ _ _ x=>x)
 have nl:jl Gz.prog (λv _=>v=.bool AT) g1 I.heap:=by cases IL with|lv _ h=>exact h|step h _ _=>exact absurd J h
 obtain⟨χ,v,v',hR,_,IY,L,p⟩:=@aeD aG.toah Gz.prog K P ψ g1 I a1 w1 _ Ca J nl;subst hR
 have pC:v'=.bool AT:=by cases IY;rfl
 subst pC;rw[aG.two] at p;have u:∀c,c<W.heap.size->w1.heap[c]?=W.heap[c]?:=λc hc=>s.apart c hc λb hb=>xy b c hb;obtain⟨N2,last,o,w',N,x1,x2,x3,x4⟩:=Yh (Post:=AH W) (sl:=H) (t:=t1) e1 f1 L λd=>⟨_,p d,rfl,s.io,s.size,u⟩;have hc:(solo (G (aid Tryz.prog f args .normal) []) W)=crowd #[G (aid Tryz.prog f args .normal) []] W ns:=rfl;refine⟨N1+N2,last,o,w',N,?_,?_,x3,x4⟩
 ·rw[hc,Nat.add_assoc,runNT_add,r1];exact x1
 ·rw[hc,runN_add];have h1:runN Tryz.prog N1 (crowd #[G (aid Tryz.prog f args .normal) []] W ns)=.next (crowd rG w1 H):=by rw[<-runNT_fst _ _ _ #[],r1]
  rw[h1];exact x2
end
end Go.Proofs.Q0.Open
namespace Go.Proofs.Q0.aM
def tL:Nat->AS->Bool
 |0,_=>Ba
 |n+1,v=>match v with
  |.bool _|.int _ _|.string _|.nilFunc|.nilIface|.pointer ns|.map ns|.chan ns|.slice ns _ _=>AT
  |.agg xs=>xs.toList.all (tL n)
  |.tuple xs=>xs.toList.all (tL n)
  |_=>Ba
structure il where
 ok:Nat
 fv:Nat
 gl:Nat
 np:List Nat
 nW:List String
 own:Bool
def eS(c:il)(s:Nat->Bool):aiD->Bool
 |.tmp t=>s t
 |.const v=>tL 6 v
 |.global g=>c.gl.testBit g
 |.func f=>c.fv.testBit f
def wE(c:il)(s:Nat->Bool)(xs:Array aiD):Bool:=xs.toList.all (eS c s)
def BH(c:il)(s:Nat->Bool):Option aiD->Bool
 |none=>AT
 |some x=>eS c s x
def GJ(c:il)(s:Nat->Bool)(k:Call):Bool:=
 wE c s k.args&&match k.callee with
  |.value f=>(match f with|.func n=>c.ok.testBit n|_=>eS c s f)
  |.invoke r name=>eS c s r&&c.nW.contains name
  |.builtin b=>match b with|.append|.len|.cap|.min|.max=>AT|_=>Ba
def Hj:aiD->Bool
 |.const (.pointer ns)=>AT
 |_=>Ba
def Hk(P:OF)(t:SL)(x y:aiD):Bool:=
 flat P 8 t||match P.underlying t with
  |some (.interface _)=>AT
  |some (.pointer _)=>Hj x||Hj y
  |_=>Ba
def lA(P:OF)(c:il)(s:Nat->Bool):Op->Bool
 |.makeInterface t x=>eS c s x&&c.np.contains t
 |.move x|.assign x|.box _ x|.load _ x|.nilCheck x|.unOp _ _ x|.fieldAddr _ x _|.field _ x _|.typeAssert x _ _ _|.extract x _=>eS c s x
 |.pick k a b=>eS c s k&&eS c s a&&eS c s b
 |.alloc _=>AT
 |.build _ e|.buildSlice _ _ e=>e.toList.all λp=>eS c s p.2
 |.store _ a x=>eS c s a&&eS c s x
 |.binOp op t x y _=>eS c s x&&eS c s y&&(match op with|.eql|.neq=>Hk P t x y|_=>AT)
 |.convert src dst x=>eS c s x&&AO P src dst
 |.makeFunc fn first d=>(match fn with|.func f=>c.fv.testBit f|_=>Ba)&&wE c s first&&wE c s d
 |.makeSlice _ l k=>eS c s l&&eS c s k
 |.slice _ x g hi h=>eS c s x&&BH c s g&&BH c s hi&&BH c s h
 |.indexAddr _ x i|.index _ x i=>eS c s x&&eS c s i
 |.call k=>GJ c s k
 |_=>Ba
def T4(s:Nat->Bool)(o:Oper):Bool:=match o.dst with|none=>AT|some d=>s d
def S8(P:OF)(c:il)(s:Nat->Bool)(a:Array Oper)(o:Oper):Bool:=
 lA P c s o.op&&match o.guard with
  |none=>AT
  |some (j,_)=>match a[j]? with|none=>AT|some b=>T4 s b
def wF(c:il)(x:ajd):Bool:=c.own||match x with|.block n _=>!(n==987654)|_=>AT
def hZ(P:OF)(c:il)(s:Nat->Bool):ajd->Bool
 |.skip|.exit _|.label _|.goto _|.ret|.refuse _=>AT
 |.region _ d _=>d.toList.all (S8 P c s d)
 |.seq a b=>hZ P c s a&&hZ P c s b
 |.cond x a b=>eS c s x&&hZ P c s a&&hZ P c s b
 |.block _ b|.loop b|.scope b=>hZ P c s b
 |.rangeFunc g _ a b=>(eS c s g&&hZ P c s a&&hZ P c s b)&&(wF c a&&wF c b)
inductive dI(x:ajd):ajd->Prop
 |Hl {a b:ajd}:dI x a->dI x (.seq a b)
 |Hm {a b:ajd}:dI x b->dI x (.seq a b)
 |GK {k:aiD} {a b:ajd}:dI x a->dI x (.cond k a b)
 |GL {k:aiD} {a b:ajd}:dI x b->dI x (.cond k a b)
 |block {i:Nat} {b:ajd}:dI x b->dI x (.block i b)
 |loop {b:ajd}:dI x b->dI x (.loop b)
 |scope {b:ajd}:dI x b->dI x (.scope b)
 |GM {g:aiD} {ps:Array Tmp} {b:ajd}:dI x (.rangeFunc g ps x b)
 |GN {g:aiD} {ps:Array Tmp} {a:ajd}:dI x (.rangeFunc g ps a x)
 |JD {g:aiD} {ps:Array Tmp} {a b:ajd}:dI x a->dI x (.rangeFunc g ps a b)
 |JE {g:aiD} {ps:Array Tmp} {a b:ajd}:dI x b->dI x (.rangeFunc g ps a b)
def Ho(s:Nat->Bool):ResultVar->Bool
 |.tmp t=>s t
 |.cell t _=>s t
def xZ(fn:Func)(i:Nat):Bool:=Nat.blt i fn.ntmps
def j4(fn:Func):ajd:=fn.body.getD (.refuse "unsupported: a function without a Go body is entered")
def JF(P:OF)(c:il)(fn:Func):Bool:=hZ P c (xZ fn) (j4 fn)&&fn.results.toList.all (Ho (xZ fn))
def tM(P:OF)(c:il)(fs:Array Func)(a n:Nat)(skip:Nat):Bool:=(List.range' a n).all λf=>!c.ok.testBit f||f==skip||match fs[f]? with|some fn=>JF P c fn|none=>Ba
section
variable[ah]{P:OF}{c:il}{s:Nat->Bool}{f:ajH}
def FM:∀(n:Nat)(v:AS),tL n v=AT->∀φ,VR φ v v
 |0,_,h,_=>by cases h
 |n+1,v,h,φ=>by
  have d:∀xs:Array AS,xs.toList.all (tL n)=AT->∀(i:Nat) x y,xs[i]?=an x->xs[i]?=an y->VR φ x y:=λxs h i x y e g=>by rw[e] at g;cases g;rw[aia] at h;exact FM n x (h x (jw.2 (lB e))) φ
  cases v with
  |bool b=>exact .bool b
  |int k n=>exact .int k n
  |string s=>exact .string s
  |nilFunc=>exact .nilFunc
  |nilIface=>exact .nilIface
  |pointer a=>cases a with|none=>exact .nilPtr|some a=>cases h
  |map a=>cases a with|none=>exact .jZ|some a=>cases h
  |chan a=>cases a with|none=>exact .jX|some a=>cases h
  |slice a n c=>cases a with|none=>exact .dU n c|some a=>cases h
  |agg xs=>exact .agg rfl (d xs h)
  |tuple xs=>exact .tuple rfl (d xs h)
  |_=>cases h
structure oV(P:OF)(c:il):Prop where
 ok:∀f,c.ok.testBit f=AT->ah.ok f
 fv:∀f,c.fv.testBit f=AT->ah.fv f
 gl:∀g,c.gl.testBit g=AT->ah.gl g
 np:∀t,c.np.contains t=AT->ah.np t
 nW:∀m,c.nW.contains m=AT->tk P m
variable(H:oV P c)(hs:∀i,s i=AT->ah.lv f i)
include H hs
def qn{x:aiD}(h:eS c s x=AT):ej (ah.lv f) x:=by cases x with|tmp t=>exact hs _ h|const v=>exact FM _ _ h|global g=>exact H.gl _ h|func f=>exact H.fv _ h
def Fo{xs:Array aiD}(h:wE c s xs=AT):wM (ah.lv f) xs:=λi x a=>by unfold wE at h;rw[aia] at h;exact qn H hs (h x (jw.2 (lB a)))
def FN{x:Option aiD}(h:BH c s x=AT):xw (ah.lv f) x:=by cases x with|none=>trivial|some x=>exact qn H hs h
theorem ab6{k:Call}(h:GJ c s k=AT):F3 P (ah.lv f) k:=by
 unfold GJ at h;rw[Uy] at h;refine⟨Fo H hs h.1,?_⟩;have a:=h.2;cases hc:k.callee with
 |value g=>rw[hc] at a;cases g with|func n=>exact .inl ⟨n,rfl,H.ok _ a⟩|_=>exact .inr (qn H hs a)
 |invoke r name=>rw[hc] at a;rw[Uy] at a;exact⟨qn H hs a.1,H.nW _ a.2⟩
 |builtin b=>grind
omit H hs [ah] in
def adK{t:SL}{x y:aiD}(h:Hk P t x y=AT):Bt P t x y:=by
 unfold Hk at h;rw[ajO] at h;rcases h with h|h
 ·exact .inl ⟨8,h⟩
 ·cases hu:P.underlying t with
  |none=>rw[hu] at h;cases h
  |some d=>
   rw[hu] at h;cases d with
   |interface g=>exact .inr (.inl ⟨g,hu⟩)
   |pointer e=>
    have nil:∀z:aiD,Hj z=AT->z=.const (.pointer ns):=λz b=>by
     cases z with
     |const v=>cases v with
      |pointer a=>cases a with|none=>rfl|some a=>cases b
      |_=>cases b
     |_=>cases b
    rw[ajO] at h;exact .inr (.inr ⟨⟨e,hu⟩,h.imp (nil x) (nil y)⟩)
   |_=>cases h
def aeF{o:Op}(h:lA P c s o=AT):GX P (ah.lv f) o:=by
 have one:∀{x:aiD},eS c s x=AT->ej (ah.lv f) x:=λh=>qn H hs h
 have d:∀{d:Array (Nat×aiD)},(d.toList.all λp=>eS c s p.2)=AT->∀(i:Nat) p,d[i]?=an p->ej (ah.lv f) p.2:=λ{d} h i p g=>by rw[aia] at h;exact one (h p (jw.2 (lB g)))
 cases o with
 |makeInterface t x=>simp only[lA,Uy] at h;exact⟨one h.1,H.np _ h.2⟩
 |move|assign|box|load|nilCheck|unOp|fieldAddr|field|typeAssert|extract=>exact one h
 |pick k a b=>simp only[lA,Uy] at h;exact⟨one h.1.1,one h.1.2,one h.2⟩
 |alloc _=>trivial
 |build _ p=>exact d h
 |buildSlice _ _ p=>exact d h
 |store _ a x=>simp only[lA,Uy] at h;exact⟨one h.1,one h.2⟩
 |binOp op t x y u=>simp only[lA,Uy] at h;refine⟨one h.1.1,one h.1.2,λe=>?_⟩;have j:=h.2;rcases e with rfl|rfl<;>exact adK j
 |convert src dst x=>simp only[lA,Uy] at h;exact⟨one h.1,h.2⟩
 |makeFunc fn a b=>simp only[lA,Uy] at h;refine⟨?_,Fo H hs h.1.2,Fo H hs h.2⟩;cases fn with|func f=>exact⟨f,rfl,H.fv _ h.1.1⟩|_=>exact absurd h.1.1 au
 |makeSlice _ l k=>simp only[lA,Uy] at h;exact⟨one h.1,one h.2⟩
 |slice _ x m hi n=>simp only[lA,Uy] at h;exact⟨one h.1.1.1,FN H hs h.1.1.2,FN H hs h.1.2,FN H hs h.2⟩
 |indexAddr _ x i=>simp only[lA,Uy] at h;exact⟨one h.1,one h.2⟩
 |index _ x i=>simp only[lA,Uy] at h;exact⟨one h.1,one h.2⟩
 |call k=>exact ab6 H hs h
 |_=>cases h
def kK:∀(k:ajd),hZ P c s k=AT->(∀x,dI x k->wF c x=AT->ah.cd f x)->eI P f k/\∀x,dI x k->eI P f x
 |.skip,_,_=>⟨trivial,λx h=>by cases h⟩
 |.exit _,_,_=>⟨trivial,λx h=>by cases h⟩
 |.label _,_,_=>⟨trivial,λx h=>by cases h⟩
 |.goto _,_,_=>⟨trivial,λx h=>by cases h⟩
 |.ret,_,_=>⟨trivial,λx h=>by cases h⟩
 |.refuse _,_,_=>⟨trivial,λx h=>by cases h⟩
 |.region id t d,h,_=>⟨λi o u=>by simp only[hZ,aia] at h;have:=h o (jw.2 (lB u));unfold S8 at this;rw[Uy] at this;refine⟨aeF H hs this.1,λj r v y d w hd=>?_⟩;have n:=this.2;rw[v] at n;dsimp only at n;rw[w] at n;unfold T4 at n;dsimp only at n;rw[hd] at n;exact hs _ n,λx h=>by cases h⟩
 |.seq a b,h,hc=>by simp only[hZ,Uy] at h;obtain⟨p,q⟩:=kK a h.1 λx e=>hc x (.Hl e);obtain⟨l,m⟩:=kK b h.2 λx e=>hc x (.Hm e);exact⟨⟨p,l⟩,λx e=>by cases e with|Hl e=>exact q x e|Hm e=>exact m x e⟩
 |.cond k a b,h,hc=>by simp only[hZ,Uy] at h;obtain⟨p,q⟩:=kK a h.1.2 λx e=>hc x (.GK e);obtain⟨l,m⟩:=kK b h.2 λx e=>hc x (.GL e);exact⟨⟨qn H hs h.1.1,p,l⟩,λx e=>by cases e with|GK e=>exact q x e|GL e=>exact m x e⟩
 |.block i b,h,hc=>by obtain⟨l,m⟩:=kK b h λx e=>hc x (.block e);exact⟨l,λx e=>by cases e with|block e=>exact m x e⟩
 |.loop b,h,hc=>by obtain⟨l,m⟩:=kK b h λx e=>hc x (.loop e);exact⟨l,λx e=>by cases e with|loop e=>exact m x e⟩
 |.scope b,h,hc=>by obtain⟨l,m⟩:=kK b h λx e=>hc x (.scope e);exact⟨l,λx e=>by cases e with|scope e=>exact m x e⟩
 |.rangeFunc g z a b,h,hc=>by simp only[hZ,Uy] at h;obtain⟨p,q⟩:=kK a h.1.1.2 λx e=>hc x (.JD e);obtain⟨l,m⟩:=kK b h.1.2 λx e=>hc x (.JE e);exact⟨⟨qn H hs h.1.1.1,p,l,hc a .GM h.2.1,hc b .GN h.2.2⟩,λx e=>by cases e with|GM=>exact p|GN=>exact l|JD e=>exact q x e|JE e=>exact m x e⟩
end
section
open Go.Extern
section
variable[ah]{P:OF}{K:aI}{φ:Ren}
def Mm{f:ajH}{fn a:Func}{e:Array AS->Sem AS}(m:P.funcs[f]?=an fn)(b:P.two.funcs[f]?=an a)(n:(fn.name== "runtime.NumGoroutine")=Ba)(d:(a.name== "runtime.NumGoroutine")=Ba)
  (o:fn.body.isNone=AT)(g:a.body.isNone=AT)(p:Extern.findNext fn=ns)(j:Extern.findNext a=ns)(he:Extern.find fn=an e)(k:Extern.find a=an e)
  {xs l:Array AS}(h:SR P K VR φ (e xs) (e l)):SR P K NR φ (callFunc f xs) (callFunc f l):=by
 refine SR.program ?_;simp only[Sem.bind,m,b,n,d,o,g,p,j,he,k,Bool.false_eq_true,if_false,if_true];refine .quiet (.inr ⟨f,rfl⟩) ?_;show SR P K NR φ (e xs>>=λv=>pure (Next.value v)) (e l>>=λv=>pure (Next.value v));exact SR.bind h λr v t _ q=>.pure (.value q)
def aau(o:φ P.globals.size=an P.globals.size)(j:ah.cl P.globals.size){g:SL}(b:P.cutTypes.find? (·.1== "internal/reflectlite.rtype")=an ("internal/reflectlite.rtype",g))(k:ah.hd g)
  {xs d:Array AS}(h:aB φ xs d):SR P K VR φ (ReflectliteType.typeOf xs) (ReflectliteType.typeOf d):=by
 have hs:=h.size;have p:=h.at_;obtain⟨xs⟩:=xs;obtain⟨d⟩:=d
 match xs,d with
 |[],_=>exact .halt _ _
 |x::y::l,_=>cases x<;>exact .halt _ _
 |[x],[]=>simp at hs
 |[x],y::z::l=>simp at hs
 |[x],[y]=>
  have m:=p 0 x y rfl rfl;cases m with
  |nilIface=>exact .pure .nilIface
  |@iface t v u q w=>
   have e:P.two.cutTypes.find? (·.1== "internal/reflectlite.rtype")=an ("internal/reflectlite.rtype",g):=b;refine SR.program ?_;simp only[Sem.bind,b,e];refine SR.program ?_;have r:VR φ (typeHandle P t) (typeHandle P.two t):=.ptr ⟨o,rfl,rfl⟩
   exact .pure (.iface g (.agg rfl λi x y a n=>by
    match i with
    |0=>simp at a n;subst a;subst n;exact r
    |i+1=>simp at a) (.inr (.inr ⟨k,.agg λi x a=>by
    match i with
    |0=>simp at a;subst a;exact .ptr j
    |i+1=>simp at a⟩)))
  |_=>exact .halt _ _
def Yi(j:φ P.globals.size=an P.globals.size){x y:AS}(h:VR φ x y):SR P K aZ φ (Rtype.ofHandle x) (Rtype.ofHandle y):=by
 refine SR.program ?_;cases h with
 |@ptr a b h=>
  by_cases d:a.block=P.globals.size
  ·have e:b.block=P.globals.size:=by have:=h.block;rw[d,j] at this;exact(aH this).symm
   have g:ajV P (.pointer (an a))=an a.off:=by simp[ajV,d]
   have k:ajV P.two (.pointer (an b))=an a.off:=by show(if b.block==P.globals.size then an b.off else ns)=_;simp[e,h.off]
   show SR P K aZ φ (match ajV P (.pointer (an a)) with|some t=>pure t|none=>stuck "a type descriptor expected") (match ajV P.two (.pointer (an b)) with|some t=>pure t|none=>stuck "a type descriptor expected");rw[g,k];exact .pure rfl
  ·have g:ajV P (.pointer (an a))=ns:=by simp[ajV,d]
   show SR P K aZ φ (match ajV P (.pointer (an a)) with|some t=>pure t|none=>stuck "a type descriptor expected") (match ajV P.two (.pointer (an b)) with|some t=>pure t|none=>stuck "a type descriptor expected");rw[g];exact .halt _ _
 |_=>exact .halt _ _
def NK(t:SL):P.two.packed t=P.packed t:=by
 have:P.two.packedAs t=P.packedAs t:=by unfold Program.packedAs;exact Lq
 unfold Program.packed;rw[this]
def Lp:∀(d:Nat)(t:SL),P.two.holdsPacked d t=P.holdsPacked d t
 |0,_=>rfl
 |d+1,t=>by unfold Program.holdsPacked;have a:P.two.holdsPacked d=P.holdsPacked d:=funext λt=>Lp d t;rw[a,NK];rfl
def aav{what:String}(t:SL):SR P K aZ φ (Rtype.noPack what t) (Rtype.noPack what t):=by refine SR.program ?_;have e:P.two.packed t=P.packed t:=NK t;exact Ln
def WZ{what:String}(t:SL):SR P K aZ φ (Rtype.noPackHeld what t) (Rtype.noPackHeld what t):=by refine SR.program ?_;refine SR.program ?_;have e:P.two.holdsPacked P.two.depth t=P.holdsPacked P.depth t:=Lp _ t;exact Ln
def Zp(b:φ P.globals.size=an P.globals.size){x y:AS}(h:VR φ x y):SR P K aZ φ (ReflectliteType.ofRtype x) (ReflectliteType.ofRtype y):=by
 cases h with
 |@agg xs a hs d=>
  obtain⟨xs⟩:=xs;obtain⟨a⟩:=a
  match xs,a with
  |[],_=>exact .halt _ _
  |x::y::l,_=>exact .halt _ _
  |[x],[]=>simp at hs
  |[x],y::z::l=>simp at hs
  |[x],[y]=>refine SR.bind (Yi b (d 0 x y rfl rfl)) λg t j _ e=>?_;subst e;exact SR.bind (aav t) λk _ _ _ _=>.pure rfl
 |_=>exact .halt _ _
def W4(b:φ P.globals.size=an P.globals.size){xs a:Array AS}(h:aB φ xs a):
  SR P K VR φ (ReflectliteType.method (λt=>do Rtype.noPackHeld "Comparable" t;pure (.bool (<-typeInfo t).comparable)) xs) (ReflectliteType.method (λt=>do Rtype.noPackHeld "Comparable" t;pure (.bool (<-typeInfo t).comparable)) a):=by
 have hs:=h.size;have d:=h.at_;obtain⟨xs⟩:=xs;obtain⟨a⟩:=a
 match xs,a with
 |[],_=>exact .halt _ _
 |x::y::l,_=>exact .halt _ _
 |[x],[]=>simp at hs
 |[x],y::z::l=>simp at hs
 |[x],[y]=>refine SR.bind (Zp b (d 0 x y rfl rfl)) λg t j _ e=>?_;subst e;refine SR.bind (WZ t) λk _ _ _ _=>?_;refine SR.bind (mC t) λm i n _ e=>?_;subst e;exact .pure (.bool _)
end
end
end Go.Proofs.Q0.aM
namespace Go.Proofs.Q0.Open
section
open Go.Conc Go.ConcN aM
def iS:Nat:=105537263092833159951910789310193441263666635018348663751028244472
def okW:Nat:=105537263039184026087851729388729347892561325514774750395864449024
def eu:il:={ok:=iS,fv:=191743168811265139256650635313045467046850094652456960,gl:=7,np:=[169,170,219],nW:=["loop.example/videocodec/impl.fits", "Comparable", "Is", "Unwrap"],own:=Ba}
def wS:il:={eu with ok:=okW}
def wT:il:={eu with own:=AT}
@[reducible]
noncomputable def cY(T:Nat->Prop):ah where
 ok f:=iS.testBit f=AT
 fv f:=eu.fv.testBit f=AT
 gl g:=eu.gl.testBit g=AT\/g=Gz.prog.globals.size
 cd f x:=iS.testBit f=AT/\f≠27/\wF eu x=AT/\∃fn,Tryz.prog.funcs[f]?=an fn/\dI x (j4 fn)
 fs:=Tryz.prog.funcs
 lv f i:=if f=27 then((kept i=AT\/i=4)/\i<41) else∃fn,Tryz.prog.funcs[f]?=an fn/\i<fn.ntmps
 dL c c':=c=ja/\c'=iv
 home:=27
 cl:=T
 np t:=eu.np.contains t=AT
 hd t:=t=202
 jk _:=True
noncomputable abbrev jq(T:Nat->Prop):ah:={cY T with ok:=λf=>okW.testBit f=AT,cd:=λf x=>okW.testBit f=AT/\(cY T).cd f x,dL:=λ_ _=>False}
noncomputable def wU(f i:Nat):Prop:=if f=27 then i<41 else∃fn,Tryz.prog.funcs[f]?=an fn/\i<fn.ntmps
def Hp(f:Nat)(x:ajd):Prop:=(iS.testBit f=AT/\f≠27/\∃fn,Tryz.prog.funcs[f]?=an fn/\dI x (j4 fn))\/(f=27/\dI x lL)
noncomputable abbrev jm(T:Nat->Prop):ah:={cY T with cd:=Hp,lv:=wU,dL:=λ_ _=>False}
def aeG:tM Gz.prog eu Tryz.prog.funcs 0 227 27=AT:=aj
def Sj:tM Gz.prog wS Tryz.prog.funcs 0 227 27=AT:=aj
def aeH:tM Gz.prog wT Tryz.prog.funcs 0 227 27=AT:=aj
end
end Go.Proofs.Q0.Open
namespace Go.Proofs.Q0.aM
section
variable[ah]
def Ev(v:AS):Prop:=∀φ,VR φ v v
def Ev.cells{v:AS}(h:Ev v){x:AS}(a:x∈v.cells):Ev x:=by
 have one:∀u:AS,Ev u->x∈(#[u]:Array AS)->Ev x:=λu hu a=>by simp_all
 cases v with
 |agg xs=>intro φ;have b:x∈xs:=a;obtain⟨i,hi,e⟩:=zp.1 b;have h1:xs[i]?=an x:=eN;cases h φ with|agg d c=>exact c i x x h1 h1
 |_=>exact one _ h a
def Gb{xs:Array AS}(h:∀x,x∈xs->Ev x):Ev (.agg xs):=λφ=>.agg rfl λi x y a b=>by rw[a] at b;cases b;exact h x (lB a) φ
omit [ah] in
def OY{α d:Type}(I:d->Prop)(f:α->d->Option (ForInStep d))(h:∀a s r,I s->f a s=an r->I r.value):∀(l:List α)(s c:d),I s->forIn l s f=an c->I c
 |[],s,c,g,e=>by simp only[List.forIn_nil] at e;cases e;exact g
 |a::l,s,c,g,e=>by simp only[List.forIn_cons,bind,ahS] at e;obtain⟨r,hr,e⟩:=e;have:=h a s r g hr;cases r with|done b=>cases e;exact this|yield b=>exact OY I f h l b c this e
def qG(i:ajS):Prop:=∀v,i.zero=an v->Ev v
def aaw{d:SL->Option ajS}(hi:∀t i,d t=an i->qG i){fs:Array Field}{i:ajS}(h:Made.reckonStruct d fs=an i):qG i:=by
 unfold Made.reckonStruct at h;simp only[bind,ahS,pure] at h;obtain⟨a,h1,h⟩:=h;rw[<-Array.forIn_toList] at h1;have key:=OY (λs=>∀g:Array AS,s.2.2.2.2.2.2.2.1=an g->∀x,x∈g->Ev x) _ (λf s r m c=>?_) _ _ _ (λg e x l=>by cases e;simp at l) h1
 ·split at h
  ·cases h;exact Lo
  ·cases h;exact Lo
 ·clear h1;simp only[ahS] at c;obtain⟨j,n,c⟩:=c
  have k:∀g:Array AS,(if s.2.1+j.size>Made.mostCells then ns else s.2.2.2.2.2.2.2.1.bind λa=>j.zero.bind λb=>an (a++b.cells))=an g->∀x,x∈g->Ev x:=λg e x l=>by
   split at e
   ·cases e
   ·simp only[ahS] at e;obtain⟨o,p,q,u,v⟩:=e;cases v;rcases jv.1 l with h|h
    ·exact m o p x h
    ·exact(hi _ _ n q u).cells h
  repeat' first
   |exact k
   |(obtain⟨_,_,c⟩:=c)
   |(cases c;done)
   |(cases c;exact k)
   |(simp only[ahS] at c)
   |(split at c)
def aax{b:SL->Option ajS}(hi:∀t i,b t=an i->qG i){d:TypeDesc}{i:ajS}(h:Made.reckon b d=an i):qG i:=by
 unfold Made.reckon at h;split at h
 ·simp only[bind,ahS,pure] at h
  repeat' first
   |(obtain⟨_,_,h⟩:=h)
   |(cases h;done)
   |(intro v a;cases a;exactλ_=>.nilPtr)
   |(cases h;intro v a;cases a;exactλ_=>.nilPtr)
   |(split at h)
   |(simp only[ahS] at h)
 ·simp only[bind,ahS,pure] at h
  repeat' first
   |(obtain⟨_,_,h⟩:=h)
   |(intro v a;cases a;exactλ_=>.dU 0 0)
   |(cases h;intro v a;cases a;exactλ_=>.dU 0 0)
   |(simp only[ahS] at h)
 ·simp only[bind,ahS,pure] at h
  repeat' first
   |(obtain⟨_,_,h⟩:=h)
   |(intro v a;cases a;exactλ_=>.jZ)
   |(cases h;intro v a;cases a;exactλ_=>.jZ)
   |(simp only[ahS] at h)
 ·simp only[bind,ahS,pure] at h
  repeat' first
   |(obtain⟨_,_,h⟩:=h)
   |(intro v a;cases a;exactλ_=>.jX)
   |(cases h;intro v a;cases a;exactλ_=>.jX)
   |(simp only[ahS] at h)
 ·simp only[bind,ahS,pure] at h
  repeat' first
   |(obtain⟨_,_,h⟩:=h)
   |(intro v a;cases a;exactλ_=>.nilFunc)
   |(cases h;intro v a;cases a;exactλ_=>.nilFunc)
   |(simp only[ahS] at h)
 ·simp only[bind,ahS,pure] at h;obtain⟨j,e,s,_,h⟩:=h;cases h;intro v a;split at a
  ·cases a
  ·split at a
   ·cases a;exact Gb λx c=>by simp at c
   ·simp only[Option.map_eq_some_iff] at a;obtain⟨z,f,rfl⟩:=a;refine Gb λx c=>?_;obtain⟨xs,h1,g⟩:=Array.mem_flatten.1 c;rw[Array.mem_replicate] at h1;exact(hi _ _ e z f).cells (h1.2▸g)
 ·exact aaw hi h
 ·cases h
def OZ{T:Tables}(a:∀(t:Nat)(i:ajS),T.types[t]?=an i->qG i):∀(n:Nat)(t:SL)(i:ajS),Made.infoAt T n t=an i->qG i
 |0,_,_,h=>by cases h
 |n+1,t,i,h=>by
  unfold Made.infoAt at h;split at h
  ·exact a t i h
  ·simp only[ahS] at h;obtain⟨d,_,h⟩:=h;exact aax (OZ a n) h
def ab7{P:OF}(a:∀(t:Nat)(i:ajS),P.types[t]?=an i->qG i):cN P:=λt i v hi b φ=>by
 have h:=hi;unfold Tables.info? at h;split at h
 ·exact a t i h v b φ
 ·exact OZ a _ t i h v b φ
def Yj{b:SL->Option ajS}{d:TypeDesc}{i:ajS}(h:Made.reckon b d=an i):i.methods=#[]:=by
 unfold Made.reckon at h;split at h;all_goals try simp only[bind,ahS,pure] at h
 all_goals repeat' first
  |(obtain⟨_,_,h⟩:=h)
  |(split at h)
 all_goals first
  |rfl
  |(simp only[ahS] at h;obtain⟨_,_,h⟩:=h;cases h;rfl)
  |skip
 unfold Made.reckonStruct at h;simp only[bind,ahS,pure] at h;obtain⟨a,_,h⟩:=h;split at h<;>(cases h;rfl)
theorem ab8{P:OF}{name:String}(a:∀(t:Nat)(i:ajS) m f b,P.types[t]?=an i->i.methods.find? (·.name==name)=an m->m.func=an (f,b)->ah.ok f):tk P name:=λt i m f b hi hm c=>by
 have h:=hi;unfold Tables.info? at h;split at h
 ·grind
 ·unfold Made.depth at h;unfold Made.infoAt at h;split at h
  ·simp_all
  ·simp only[ahS] at h;obtain⟨d,_,h⟩:=h;rw[Yj h] at hm;simp at hm
end
end Go.Proofs.Q0.aM
namespace Go.Proofs.Q0.Open
open Go.Proofs.Tryz
variable{f i:Nat}{x:ajd}{fn:Func}
section
open Go.Conc Go.ConcN aM
def S9(P:OF):Bool:=P.types.toList.all λi=>match i.zero with|none=>AT|some v=>tL 6 v
def Ta(P:OF)(ok:Nat)(name:String):Bool:=P.types.toList.all λi=>i.methods.toList.all λm=>!(m.name==name)||match m.func with|some (f,_)=>ok.testBit f|none=>AT
def T5(fs:Array Func)(ok a n:Nat):Bool:=(List.range' a n).all λf=>!ok.testBit f||f==115||f==207||match fs[f]? with|some fn=>fn.body.isSome&&!(fn.name== "runtime.NumGoroutine")|none=>Ba
def afH:S9 Gz.prog=AT:=aF
def afI:(eu.nW.all (Ta Gz.prog okW))=AT:=aF
def agT:T5 Tryz.prog.funcs iS 0 227=AT:=aj
def nK:okW&&&iS=okW:=aF
def afJ:eu.fv&&&okW=eu.fv:=aF
def aeI:iS>>>227=0:=aF
theorem mJ{a b:Nat}(h:a&&&b=a)(k:a.testBit f=AT):b.testBit f=AT:=eW
def vC(h:iS.testBit f=AT):f<227:=by apply Nat.lt_of_not_le;intro a;have:=Nat.testBit_shiftRight (i:=227) (j:=f-227) iS;rw[aeI,Nat.zero_testBit,Nat.add_sub_cancel' a,h] at this;cases this
def mem_range(h:f<227):f∈List.range' 0 227:=eN
def ab9{c:il}(h:tM Gz.prog c Tryz.prog.funcs 0 227 27=AT)(e:f<227)(a:c.ok.testBit f=AT)(b:f≠27):∃fn,Tryz.prog.funcs[f]?=an fn/\JF Gz.prog c fn=AT:=by unfold tM at h;rw[aia] at h;have:=h f (mem_range e);simp only[a,Bool.not_true,Bool.false_or,ajO,beq_iff_eq,b,false_or] at this;cases d:Tryz.prog.funcs[f]? with|none=>rw[d] at this;cases this|some fn=>rw[d] at this;exact⟨fn,rfl,this⟩
def aca(a:iS.testBit f=AT)(h1:f≠115)(b:f≠207):∃fn,Tryz.prog.funcs[f]?=an fn/\fn.body.isSome=AT/\(fn.name== "runtime.NumGoroutine")=Ba:=by have h:=agT;unfold T5 at h;rw[aia] at h;have:=h f (mem_range (vC a));simp only[a,Bool.not_true,Bool.false_or,ajO,beq_iff_eq,h1,b,false_or] at this;cases c:Tryz.prog.funcs[f]? with|none=>rw[c] at this;cases this|some fn=>simp_all
theorem Qc{P:OF}{t:SL}{i:ajS}(h:P.types[t]?=an i):i∈P.types.toList:=eW
section
variable[X:ah]
def AI:cN Gz.prog:=ab7 λt i hi v a φ=>by have h:=afH;unfold S9 at h;rw[aia] at h;have:=h i (Qc hi);rw[a] at this;exact FM 6 v this φ
def adL(a:∀f,okW.testBit f=AT->ah.ok f)(m:String)(hm:eu.nW.contains m=AT):tk Gz.prog m:=ab8 λt i g f b hi c j=>by have h:=afI;rw[aia] at h;have h1:=h m (by simpa using hm);unfold Ta at h1;rw[aia] at h1;have d:=h1 i (Qc hi);rw[aia] at d;have e:=d g (jw.2 (Array.mem_of_find?_eq_some c));have k:=Array.find?_some (p:=λx:Method=>x.name==m) c;rw[k,j] at e;exact a f (by simpa using e)
end
def npC:(eu.np.all λt=>flat Gz.prog 8 t)=AT:=aj
def hdC:(match Gz.prog.underlying 202 with|some (.pointer _)=>Ba|_=>AT)=AT:=my
def rtC:Gz.prog.cutTypes.find? (·.1== "internal/reflectlite.rtype")=an ("internal/reflectlite.rtype",202):=aF
structure Sets(X:ah):Prop where
 ok1:∀f,X.ok f->iS.testBit f=AT
 okW:∀f,okW.testBit f=AT->X.ok f
 fv:∀f,X.fv f<->eu.fv.testBit f=AT
 gl:∀g,eu.gl.testBit g=AT->X.gl g
 glG:X.gl Gz.prog.globals.size
 np:∀t,X.np t<->eu.np.contains t=AT
 hd:∀t,X.hd t<->t=202
 clG:X.cl Gz.prog.globals.size
 two:∀f fn,f≠27->Tryz.prog.funcs[f]?=an fn->X.fs[f]?=an fn
 afK:∃fn,X.fs[27]?=an fn/\fn.body.isSome=AT/\(fn.name== "runtime.NumGoroutine")=Ba
def Sets.Tc{X:ah}(S:Sets X):@nT X Gz.prog:=⟨λt a=>⟨8,by
 have h:=npC;rw[aia] at h;exact h t (by simpa using(S.np t).1 a)⟩,λt a e he=>by
 rw[(S.hd t).1 a] at he;have h:=hdC;rw[he] at h;cases h⟩
def AQ:Gz.f27.body.isSome=AT/\(Gz.f27.name== "runtime.NumGoroutine")=Ba:=⟨rfl,aj⟩
def Sets.AU{X:ah}(S:Sets X)(K:aI):@dX X Gz.prog K:=by
 refine⟨S.Tc,λf l=>S.okW f (mJ afJ ((S.fv f).1 l)),λf b φ xs o m h=>?_⟩;have j:=m _ S.glG;have c:=S.ok1 f b;by_cases a:f=27
 ·subst a;obtain⟨n,d,e,g⟩:=S.afK;exact@MU X Gz.prog K φ _ _ _ Gz.func27 AQ.1 AQ.2 d e g b _ _ h
 by_cases h1:f=115
 ·subst h1
  exact@Mm X Gz.prog K φ _ _ _ Extern.ReflectliteType.typeOf (Gz.mE func115 a) (S.two _ _ a func115) aj aj aj aj aj aj aj aj _ _
   (@aau X Gz.prog K φ j S.clG _ rtC ((S.hd _).2 rfl) _ _ h)
 by_cases k:f=207
 ·subst k
  exact@Mm X Gz.prog K φ _ _ _ (Extern.ReflectliteType.method λt=>do Extern.Rtype.noPackHeld "Comparable" t;pure (.bool (<-typeInfo t).comparable)) (Gz.mE func207 a) (S.two _ _ a func207) aj aj aj aj aj aj aj aj _ _
   (@W4 X Gz.prog K φ j _ _ h)
 obtain⟨fn,d,e,g⟩:=aca c h1 k;exact@MU X Gz.prog K φ _ _ _ (Gz.mE d a) e g (S.two _ _ a d) e g b _ _ h
def Sets.tO{X:ah}(S:Sets X){c:il}(ok:∀f,c.ok.testBit f=AT->X.ok f)(h1:c.fv=eu.fv)(a:c.gl=eu.gl)(b:c.np=eu.np)(d:c.nW=eu.nW):@oV X Gz.prog c:=
 @oV.mk X Gz.prog c ok (λf h=>(S.fv f).2 (h1▸h)) (λg h=>S.gl g (a▸h)) (λt h=>(S.np t).2 (b▸h)) (λm h=>@adL X S.okW m (d▸h))
def Aj{X:ah}{c:il}(H:@oV X Gz.prog c)(d:∀f fn i,f≠27->Tryz.prog.funcs[f]?=an fn->(X.lv f i<->i<fn.ntmps))
  (hc:tM Gz.prog c Tryz.prog.funcs 0 227 27=AT){f:Nat}(k:f<227)(e:c.ok.testBit f=AT)(a:f≠27)(g:∀fn x,Tryz.prog.funcs[f]?=an fn->dI x (j4 fn)->wF c x=AT->X.cd f x):
  ∃fn,Tryz.prog.funcs[f]?=an fn/\@eI X Gz.prog f (j4 fn)/\(∀x,dI x (j4 fn)->@eI X Gz.prog f x)/\∀r∈fn.results,@qC (X.lv f) r:=by
 obtain⟨fn,h1,b⟩:=ab9 hc k e a;unfold JF at b;rw[Uy] at b;have h:∀i,xZ fn i=AT->X.lv f i:=λi hi=>(d f fn i a h1).2 (by unfold xZ at hi;rwa[Nat.blt_eq] at hi);obtain⟨l,m⟩:=@kK X Gz.prog c (xZ fn) f H h (j4 fn) b.1 λx=>g fn x h1;refine⟨fn,h1,l,m,λr n=>?_⟩;have j:=b.2;rw[aia] at j;have:=j r (jw.2 n);cases r with|tmp t=>exact h t this|cell t _=>exact h t this
end
section
open Go.Conc Go.ConcN aM
def iX:ajd->Bool
 |.seq a b=>iX a&&iX b
 |.cond _ a b=>iX a&&iX b
 |.block _ b=>iX b
 |.loop b=>iX b
 |.scope b=>iX b
 |.rangeFunc .. =>Ba
 |_=>AT
def aeJ:∀{k:ajd},dI x k->iX k=AT->False:=by
 intro k h
 induction h with|GM=>intro e;cases e|GN=>intro e;cases e|JD=>intro e;cases e|JE=>intro e;cases e|Hl _ a=>intro e;simp only[iX,Uy] at e;exact a e.1|Hm _ a=>intro e;simp only[iX,Uy] at e;exact a e.2|GK _ a=>intro e;simp only[iX,Uy] at e;exact a e.1|GL _ a=>intro e;simp only[iX,Uy] at e;exact a e.2|block _ a=>intro e;exact a e|loop _ a=>intro e;exact a e|scope _ a=>intro e;exact a e
def pI(i:Nat):Bool:=(kept i||i==4)&&Nat.blt i 41
def uA(i:Nat):Bool:=Nat.blt i 41
def aeK:(hZ Gz.prog eu pI lK.sl&&iX lK.sl)=AT:=aF
def aeL:(hZ Gz.prog eu pI lK.sr.sl&&iX lK.sr.sl)=AT:=aF
def afL:(hZ Gz.prog eu pI dA&&iX dA)=AT:=aF
def aeM:hZ Gz.prog wT uA lL=AT:=aF
def T6:(Tryz.f27.results.toList.all (Ho pI)&&Tryz.f27.results.toList.all (Ho uA))=AT:=aF
def ahd:j4 Tryz.f27=.seq lK.sl (.seq lK.sr.sl iv):=aF
def Sk:Tryz.f27.body.isSome=AT/\(Tryz.f27.name== "runtime.NumGoroutine")=Ba:=⟨aj,aj⟩
def Sl:Gz.f27.ntmps=41:=aF
def afM:okW.testBit 27=Ba:=aF
section
variable{T:Nat->Prop}
def Bj(a:T Gz.prog.globals.size):Sets (cY T):=⟨λ_ h=>h,λ_ h=>mJ nK h,λ_=>.rfl,λ_ h=>.inl h,.inr rfl,λ_=>.rfl,λ_=>.rfl,a,λ_ _ _ h=>h,_,func27,Sk⟩
def GO(a:T Gz.prog.globals.size):Sets (jq T):=⟨λ_ h=>mJ nK h,λ_ h=>h,λ_=>.rfl,λ_ h=>.inl h,.inr rfl,λ_=>.rfl,λ_=>.rfl,a,λ_ _ _ h=>h,_,func27,Sk⟩
def Gc(a:T Gz.prog.globals.size):Sets (ah.exact (jq T) Gz.prog.funcs):=⟨λ_ h=>mJ nK h,λ_ h=>h,λ_=>.rfl,λ_ h=>.inl h,.inr rfl,λ_=>.rfl,λ_=>.rfl,a,λ_ _ n h=>Gz.mE h n,_,Gz.func27,AQ⟩
def Gd(a:T Gz.prog.globals.size):Sets (ah.exact (jm T) Gz.prog.funcs):=⟨λ_ h=>h,λ_ h=>mJ nK h,λ_=>.rfl,λ_ h=>.inl h,.inr rfl,λ_=>.rfl,λ_=>.rfl,a,λ_ _ n h=>Gz.mE h n,_,Gz.func27,AQ⟩
def uB(i6:f≠27)(h:Tryz.prog.funcs[f]?=an fn):(cY T).lv f i<->i<fn.ntmps:=by show(if f=27 then _ else∃fn,Tryz.prog.funcs[f]?=an fn/\i<fn.ntmps)<->_;exact Ma
def VV(i6:f≠27)(h:Tryz.prog.funcs[f]?=an fn):wU f i<->i<fn.ntmps:=by show(if f=27 then i<41 else∃fn,Tryz.prog.funcs[f]?=an fn/\i<fn.ntmps)<->_;exact Ma
def Hq:(cY T).lv 27 i<->((kept i=AT\/i=4)/\i<41):=aC
def Td:wU 27 i<->i<41:=aC
def Ge(h:pI i=AT):(cY T).lv 27 i:=by unfold pI at h;simp only[Uy,ajO,beq_iff_eq] at h;exact Hq.2 ⟨h.1,by have:=h.2;rwa[Nat.blt_eq] at this⟩
def agU(h:iS.testBit f=AT/\f≠27/\∃fn,Tryz.prog.funcs[f]?=an fn/\dI x (j4 fn)):Hp f x:=Or.inl h
def agV(h:dI x lL):Hp 27 x:=Or.inr ⟨rfl,h⟩
def Sm(hi:uA i=AT):wU 27 i:=Td.2 (by unfold uA at hi;rwa[Nat.blt_eq] at hi)
def Rf(a:T Gz.prog.globals.size):@oV (cY T) Gz.prog eu:=(Bj a).tO (λ_ h=>h) rfl rfl rfl rfl
def adM(a:T Gz.prog.globals.size):@oV (jq T) Gz.prog wS:=(GO a).tO (λ_ h=>h) rfl rfl rfl rfl
def acb(a:T Gz.prog.globals.size):@oV (ah.exact (jq T) Gz.prog.funcs) Gz.prog wS:=(Gc a).tO (λ_ h=>h) rfl rfl rfl rfl
def Qd(a:T Gz.prog.globals.size):@oV (ah.exact (jm T) Gz.prog.funcs) Gz.prog wT:=(Gd a).tO (λ_ h=>h) rfl rfl rfl rfl
def Gf(a:T Gz.prog.globals.size){k:ajd}(h:(hZ Gz.prog eu pI k&&iX k)=AT):@eI (cY T) Gz.prog 27 k:=by rw[Uy] at h;exact(@kK (cY T) Gz.prog eu pI 27 (Rf a) (λi hi=>Ge hi) k h.1 λx b _=>(aeJ b h.2).elim).1
def AJ{X:ah}(S:Sets X)(b:f≠27)(h:Tryz.prog.funcs[f]?=an fn)(h1:@eI X Gz.prog f (j4 fn))(c:∀r∈fn.results,@qC (X.lv f) r)(d:∀i,X.lv f i->i<fn.ntmps):
  ∃fn a,Gz.prog.funcs[f]?=an fn/\(@OF.two X Gz.prog).funcs[f]?=an a/\a.results=fn.results/\a.ntmps=fn.ntmps/\(∀r∈fn.results,qC (X.lv f) r)/\(∀i,X.lv f i->i<fn.ntmps)/\
   @ik X Gz.prog f AT (fn.body.getD (.refuse "unsupported: a function without a Go body is entered")) (a.body.getD (.refuse "unsupported: a function without a Go body is entered")):=
 ⟨fn,fn,Gz.mE h b,S.two f fn b h,rfl,rfl,c,d,@ik.same X Gz.prog f AT _ h1⟩
def CG(X:ah)(f:Nat):Prop:=∃fn,Tryz.prog.funcs[f]?=an fn/\@eI X Gz.prog f (j4 fn)/\(∀x,dI x (j4 fn)->@eI X Gz.prog f x)/\∀r∈fn.results,@qC (X.lv f) r
def Te(c:T Gz.prog.globals.size)(a:iS.testBit f=AT)(b:f≠27):CG (cY T) f:=@Aj (cY T) eu (Rf c) (λ_ _ _ n h=>uB n h) aeG f (vC a) a b (λfn x h d e=>⟨a,b,e,fn,h,d⟩)
def Tf(c:T Gz.prog.globals.size)(a:okW.testBit f=AT)(b:f≠27):CG (jq T) f:=@Aj (jq T) wS (adM c) (λ_ _ _ n h=>uB (T:=T) n h) Sj f (vC (mJ nK a)) a b (λfn x h d e=>⟨a,mJ nK a,b,e,fn,h,d⟩)
def Sn(c:T Gz.prog.globals.size)(a:okW.testBit f=AT)(b:f≠27):CG (ah.exact (jq T) Gz.prog.funcs) f:=@Aj (ah.exact (jq T) Gz.prog.funcs) wS (acb c) (λ_ _ _ n h=>uB (T:=T) n h) Sj f (vC (mJ nK a)) a b (λfn x h d e=>⟨a,mJ nK a,b,e,fn,h,d⟩)
def So(c:T Gz.prog.globals.size)(a:iS.testBit f=AT)(b:f≠27):CG (ah.exact (jm T) Gz.prog.funcs) f:=@Aj (ah.exact (jm T) Gz.prog.funcs) wT (Qd (T:=T) c) (λ_ _ _ n h=>VV n h) aeH f (vC a) a b (λfn x h d _=>agU ⟨a,b,fn,h,d⟩)
def adN(b:T Gz.prog.globals.size):@dz (cY T) Gz.prog:=λf c=>by
 by_cases a:f=27
 ·subst a;have e:=T6;rw[Uy,aia] at e;refine⟨_,_,Gz.func27,func27,rfl,rfl,λr d=>?_,λi hi=>by rw[Sl];have:=(Hq.1 hi).2;omega,?_⟩
  ·have:=e.1 r (jw.2 d);cases r with|tmp t=>exact Ge this|cell t _=>exact Ge this
  ·show@ik (cY T) Gz.prog 27 AT lL (j4 Tryz.f27);exact@ik.seq (cY T) _ _ _ _ _ _ _ (@ik.same (cY T) _ _ _ _ (Gf b aeK)) (@ik.seq (cY T) _ _ _ _ _ _ _ (@ik.same (cY T) _ _ _ _ (Gf b aeL)) (@ik.dL (cY T) _ _ _ _ _ ⟨rfl,rfl⟩ rfl rfl))
 ·obtain⟨fn,h1,g,_,h⟩:=Te b c a;exact AJ (Bj b) a h1 g h λi hi=>(uB a h1).1 hi
def VW(a:okW.testBit f=AT):f≠27:=λe=>by subst e;rw[afM] at a;cases a
def adO(c:T Gz.prog.globals.size):@dz (jq T) Gz.prog:=λf b=>by have a:=VW b;obtain⟨fn,h1,d,_,e⟩:=Tf c b a;exact AJ (GO c) a h1 d e λi hi=>(uB (T:=T) a h1).1 hi
def acd(c:T Gz.prog.globals.size):@dz (ah.exact (jq T) Gz.prog.funcs) Gz.prog:=λf b=>by have a:=VW b;obtain⟨fn,h1,d,_,e⟩:=Sn c b a;exact AJ (Gc c) a h1 d e λi hi=>(uB (T:=T) a h1).1 hi
def Rg(a:T Gz.prog.globals.size):@eI (ah.exact (jm T) Gz.prog.funcs) Gz.prog 27 lL/\∀x,dI x lL->@eI (ah.exact (jm T) Gz.prog.funcs) Gz.prog 27 x:=@kK (ah.exact (jm T) Gz.prog.funcs) Gz.prog wT uA 27 (Qd (T:=T) a) (λi hi=>Sm hi) lL aeM λx b _=>agV b
def OM(J:ah)(fs:Array Func)(P:OF):(@OF.two (ah.exact J fs) P).funcs=fs:=rfl
def aeN(J:ah):(@OF.two (ah.exact J Gz.prog.funcs) Gz.prog).funcs[27]?=an Gz.f27:=aF
def ace(c:T Gz.prog.globals.size):@dz (ah.exact (jm T) Gz.prog.funcs) Gz.prog:=λf d=>by
 by_cases a:f=27
 ·subst a;have g:=T6;rw[Uy,aia,aia] at g;refine⟨Gz.f27,Gz.f27,Gz.func27,aeN (jm T),rfl,rfl,λr e=>?_,λi hi=>by rw[Sl];have:=(Td).1 hi;omega,?_⟩
  ·have:=g.2 r (jw.2 e);have b:∀i,uA i=AT->wU 27 i:=λi hi=>Sm hi;cases r with|tmp t=>exact b t this|cell t _=>exact b t this
  ·exact@ik.same (ah.exact (jm T) Gz.prog.funcs) Gz.prog _ _ lL (Rg c).1
 ·obtain⟨fn,h1,h,_,j⟩:=So c d a;exact AJ (Gd c) a h1 h j λi hi=>(VV a h1).1 hi
def cdM(c:T Gz.prog.globals.size):@ef (cY T) Gz.prog:=λf x⟨a,b,_,fn,h,d⟩=>by obtain⟨e,h1,_,g,_⟩:=Te c a b;rw[h] at h1;cases h1;exact g x d
def cdW(c:T Gz.prog.globals.size):@ef (jq T) Gz.prog:=λf x⟨a,_,b,_,fn,h,d⟩=>by obtain⟨e,h1,_,g,_⟩:=Tf c a b;rw[h] at h1;cases h1;exact g x d
def agW(c:T Gz.prog.globals.size):@ef (ah.exact (jq T) Gz.prog.funcs) Gz.prog:=λf x⟨a,_,b,_,fn,h,d⟩=>by obtain⟨e,h1,_,g,_⟩:=Sn c a b;rw[h] at h1;cases h1;exact g x d
def agX(d:T Gz.prog.globals.size):@ef (ah.exact (jm T) Gz.prog.funcs) Gz.prog:=λf x a=>by
 rcases a with⟨b,c,fn,h,a⟩|⟨rfl,a⟩
 ·obtain⟨e,h1,_,g,_⟩:=So d b c;rw[h] at h1;cases h1;exact g x a
 ·exact(Rg d).2 x a
noncomputable abbrev Gg(T:Nat->Prop):aG:={cY T with
 two:=rfl
 nx:=λf h=>by have:=h.2.2.1;cases this
 fr:=λ_ _=>.rfl
 hm:=rfl
 Ci:=λd=>Hq (T:=T)}
noncomputable def agY(a:T Gz.prog.globals.size):@Env (Gg T):=
 @Env.mk (Gg T) (jq T) ⟨⟨λ_=>.rfl,λ_=>.rfl,λ_=>.rfl,λ_=>.rfl,λ_=>.rfl⟩,λ_ h=>mJ nK h,λ_ _ _ h=>h,λ_ _ h=>h.2⟩ (λ_ h=>h) rfl (λ_ _ h=>h) (by show okW.testBit _=AT;kernel_rfl)
  (adO a) (cdW a) (@AI (jq T)) (λK _=>(GO a).AU K) (acd a) (agW a) (@AI (ah.exact (jq T) Gz.prog.funcs)) (λK _=>(Gc a).AU K) (.inl aj) (.inl aj) (@AI (cY T)) (Bj a).Tc (Gf a afL)
end
abbrev fj(n k:Nat)(b:Nat):Prop:=b=Gz.prog.globals.size\/(n<=b/\b<n+k)
def afN(d:wC){W:rl}{ts:List Nat}(hG:∃cs t,W.heap[Gz.prog.globals.size]?=an (.cells cs t (0,0))/\0<cs.size)(n:ts.Nodup)(y:∀b,b∈ts->Gz.prog.globals.size<b/\∃cs t,W.heap[b]?=an (.cells cs t (0,0))/\0<cs.size)
  (p:∀g,g<3->rowsOf W.heap g=an g){f:ajH}(q:Gz.prog.funcs[f]?=an fn)(j:∀r∈fn.results,∃t,r=.tmp t)(k:Gz.prog.inits.idxOf? f=ns)(s:iS.testBit f=AT)
  {args:Array AS}(c:@aB (cY (fj W.heap.size ts.length)) (fN ts W.heap) args args)
  (l:∀wg:rl,wg.heap=@aM.startHeap (cY (fj W.heap.size ts.length)) (λ_=>trivial) Gz.prog.globals.size ts W.heap->Calls Gz.prog f args wg λ|dl v,_=>v=.bool AT|_,_=>False):
  ∃M last o w' w,runNT Tryz.prog (M+1) (solo (G (aid Tryz.prog f args .normal) []) W) #[]=(.ended o w',w)/\runN Tryz.prog M (solo (G (aid Tryz.prog f args .normal) []) W)=.next last/\
   Go.step Tryz.prog last=.ended o w'/\Conc.Good Tryz.prog (AH W) last o w' w:=by
 have a:fj W.heap.size ts.length Gz.prog.globals.size:=.inl rfl
 have u:∀g,rowsOf W.heap g=an g->fN ts W.heap g=an g:=λg e=>by obtain⟨_,cs,t,f,h1⟩:=@D4 (cY λ_=>True) _ _ _ e;exact@DW (cY λ_=>True) _ _ _ _ _ _ h1
 refine@ab5 (Gg (fj W.heap.size ts.length)) (agY (T:=fj W.heap.size ts.length) a) (jm (fj W.heap.size ts.length)) ⟨λ_=>.rfl,λ_=>.rfl,λ_=>.rfl,λ_=>.rfl,λ_=>.rfl⟩ (λ_ h=>h) (λ_ h=>h) d (λ_=>trivial) (adN (T:=fj W.heap.size ts.length) a) (cdM (T:=fj W.heap.size ts.length) a) (λK _=>(Bj (T:=fj W.heap.size ts.length) a).AU K) (ace (T:=fj W.heap.size ts.length) a) (agX (T:=fj W.heap.size ts.length) a) (@AI (ah.exact (jm (fj W.heap.size ts.length)) Gz.prog.funcs)) (λK _=>(Gd (T:=fj W.heap.size ts.length) a).AU K)
  _ ts hG (λ_=>.rfl) n y (λg m=>?_) f fn q j k s args args c l
 rcases m with m|rfl
 ·refine u g (p g (Nat.lt_of_not_le λh=>?_));have:eu.gl.testBit g=Ba:=Nat.testBit_lt_two_pow (cC (by decide:eu.gl<2^3) (Nat.pow_le_pow_right aw h));rw[this] at m;cases m
 ·obtain⟨cs,t,h1,_⟩:=hG;exact@DW (cY λ_=>True) _ _ _ _ _ _ h1
end
end Go.Proofs.Q0.Open
namespace Go.Proofs.Q0
open Go.Proofs.Tryz
variable{a:aic}
section
open Go.ChangeShapes Go.WideShapes Go.ChangeAt Go.RowKit Go.Joins Go.Deep aM Go.Proofs.Q0.Open
def Hr(W:rl)(A:Option aic)(c:Nat):Prop:=(A=ns/\c=0)\/∃a,A=an a/\(c=0\/∃cs t f,W.heap[a.block]?=an (.cells cs t f))
def acf[ah]{ts:List Nat}{W:rl}{A:Option aic}{n c:Nat}(h:Hr W A c)(b:n<=c):VR (fN ts W.heap) (.slice A n c) (.slice A n c):=by
 rcases h with⟨rfl,rfl⟩|⟨a,rfl,rfl|⟨e,t,f,h⟩⟩
 ·exact .dU _ _
 ·obtain rfl:n=0:=by omega
  exact .empty
 ·exact .slice _ _ ⟨DW h,rfl,rfl⟩
structure Hs(W:rl)(A:Option aic)(c:Nat)(xs:List Int):Prop where
 iP:Hr W A c
 le:xs.length<=c
 cm:c<=maxLen
 rd:bC W W.heap.size A xs
 bI:bytes xs
def Yk{k:IntKind}{w:rl}{h:List Int}{len:Nat}(m:len<=h.length)(c:∀i,i<h.length->w.cell? (a.add i)=an (.int k (h.getD i 0))):
  0<len->∃b o,a=⟨b,o,ns⟩/\b<w.heap.size/\∀i,i<len->w.cell? ⟨b,o+i,ns⟩=an (.int k ((h.take len)[i]?.getD 0)):=by
 intro h0;obtain⟨b,off,g⟩:=a;have hc:=c 0 aa;have f:g=ns:=by simpa[Addr.add] using World.cell?_spot hc
 subst f;refine⟨b,off,rfl,?_,λi hi=>?_⟩
 ·rcases cZ b w.heap.size with l|j
  ·omega
  ·simp[Addr.add,World.cell?,j] at hc
 ·have h1:=c i aa
  have e:(⟨b,off,ns⟩:aic).add i=⟨b,off+i,ns⟩:=by
   unfold Addr.add;split
   ·simp
   ·rfl
  rw[e] at h1;rw[h1];simp[hi]
def sG(a:aic)(n:Nat):(a.add n).block=a.block:=by unfold Addr.add;split<;>rfl
section
variable{H:Type}{enc:SL×AS->H}{W:rl}{base:Nat}{v:AS}{d:DataW H}{p:List MemPlace}
def adP{c:Nat}{V:Nat->AS}(h:∀i,i<c->W.cell? (a.add i)=an (V i)):Hr W (an a) c:=by
 refine .inr ⟨a,rfl,?_⟩;rcases iI c with h0|h0
 ·omega
 ·obtain⟨b,t,f,h1,_⟩:=cells_of_cell (h 0 h0);exact .inr ⟨b,t,f,h1⟩
def aay{n:Nat}{y:DataW H×List MemPlace}(m:DataW.trod enc Tryz.prog W 0 (λ_=>AT) AT n 22 [v]=an y):∃A c xs,v=.slice A xs.length c/\Hs W A c xs:=by
 rcases ChangeShapes.open_ints underlying22 underlying5 aj m with⟨f,_⟩|⟨x,l,c,h,f,_,q,hm,j,_,g,k⟩
 ·simp at f;subst f;exact⟨ns,0,[],rfl,.inl ⟨rfl,rfl⟩,ay _,ez _,bC.nil _ _ _,λx r=>by cases r⟩
 ·simp at f;subst f;simp only[if_true] at j;have hlen:(h.take l).length=l:=eN;refine⟨an x,c,h.take l,by simp[hlen],adP (V:=λi=>.int .u8 (h.getD i 0)) λi hi=>g i aa,by rw[hlen];exact q,hm,?_,λz j=>bounds_u8 (k z (List.mem_of_mem_take j))⟩;intro h0;obtain⟨b,o,e,s,hc⟩:=Yk (len:=l) aa g (by rw[hlen] at h0;exact h0);subst e;exact⟨b,o,rfl,s,λi hi=>hc i (by rw[hlen] at hi;exact hi)⟩
end
def tN(W:rl)(ts:List Nat)(a:aic):aic:={a with block:=W.heap.size+ts.idxOf a.block}
abbrev Sp(ts:List Nat)(W wg:rl):Prop:=wg.heap=@aM.startHeap (cY (fj W.heap.size ts.length)) (λ_=>trivial) Gz.prog.globals.size ts W.heap
section
variable{W wg:rl}{a1 a2:aic}{ts:List Nat}(hs:St W a1 a2)(hw:Sp ts W wg)
include hw in
def Sp.size:wg.heap.size=W.heap.size+ts.length:=by rw[hw];exact@yY (cY (fj W.heap.size ts.length)) ts W.heap _ (λ_=>trivial)
include hs in
def St.T7{v:AS}(h:W.cell? a=an v)(g:∀n,v≠.int .u64 n):a.block≠Gz.prog.globals.size:=λe=>by obtain⟨cs,t,f,c,_,b⟩:=cells_of_cell h;rw[e,show Gz.prog.globals.size=3 from Bh,hs.hG] at c;cases c;rw[Array.getElem?_map] at b;obtain⟨_,_,b⟩:=jR.1 b;exact g _ b.symm
include hs hw in
def Tg{k:IntKind}{n:Int}(h:W.cell? a=an (.int k n))(b:k≠.u64):wg.cell? a=an (.int k n):=
 @NJ (cY (fj W.heap.size ts.length)) ts W.heap _ (λ_=>trivial) W wg rfl hw a _ h (hs.T7 h λ_ e=>by cases e;exact b rfl) (@VR.int (cY (fj W.heap.size ts.length)) _ k n)
include hs hw in
def Th{b:aic}{u:SL}(h:W.cell? a=an (.iface u (.pointer (an b))))(c:b.block∈ts):wg.cell? a=an (.iface u (.pointer (an (tN W ts b)))):=by
 have e:mv W.heap.size ts (.iface u (.pointer (an b)))=.iface u (.pointer (an (tN W ts b))):=by simp[mv,c,tN]
 have:=@NJ (cY (fj W.heap.size ts.length)) ts W.heap _ (λ_=>trivial) W wg rfl hw a _ h (hs.T7 h λ_ e=>by cases e) (by
  rw[e];refine@VR.iface (cY (fj W.heap.size ts.length)) _ u _ _ (@VR.ptr (cY (fj W.heap.size ts.length)) _ _ _ ⟨@XB (cY (fj W.heap.size ts.length)) _ _ _ c,rfl,rfl⟩) (.inr (.inl ⟨_,rfl,.inr ⟨?_,?_⟩⟩))
  ·show W.heap.size<=W.heap.size+_;omega
  ·have:=List.idxOf_lt_length_of_mem c;show W.heap.size+_<_;omega)
 rw[e] at this;exact this
include hw in
def Ti{b:aic}(c:b.block∈ts):dD wg (tN W ts b):=by refine⟨.stringIter default 0,?_,(λ_ _ e=>by cases e),λ_ _ _ e=>by cases e⟩;rw[hw];have:=List.idxOf_lt_length_of_mem c;exact@DY (cY (fj W.heap.size ts.length)) ts W.heap _ (λ_=>trivial) _ (by show W.heap.size<=W.heap.size+_;omega) (by show W.heap.size+_<_;omega)
include hs hw in
def adQ{A:Option aic}{c:Nat}{xs:List Int}(h:Hs W A c xs):bC wg wg.heap.size A xs:=λh0=>by obtain⟨b,o,e,f,hc⟩:=h.rd h0;have:=hw.size;exact⟨b,o,e,aa,λi hi=>Tg hs hw (hc i hi) aw⟩
include hs hw in
def aeO(h1:a1.block∈ts)(b:a2.block∈ts):gQ wg (tN W ts a1) (tN W ts a2) wg.heap.size:=by have:=hw.size;have c:=(bU.1 hs.hG).1;exact⟨Th hs hw hs.e1 h1,Th hs hw hs.e2 b,by show 1<_;omega,by show 2<_;omega⟩
include hs hw in
def agZ(hq:Lib.TabIs Tryz.prog W nj .i64 [1,2,4,8,12,16,24,32,48,64,96,128,192,256,384,512]):Tb wg:=by have:=hw.size;have b:=(bU.1 hs.hG).1;refine⟨aa,λq h=>?_⟩;rw[Tg hs hw (hq.cell Sf q h) aw];unfold step steps;rw[List.getD_eq_getElem?_getD]
end
end
end Go.Proofs.Q0
