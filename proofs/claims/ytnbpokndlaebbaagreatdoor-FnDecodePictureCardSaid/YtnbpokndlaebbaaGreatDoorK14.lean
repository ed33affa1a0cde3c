import Derived.Test.YtnbpokndlaebbaaGreatDoorK13
import Derived.Conc.Own
set_option maxRecDepth 100000
set_option maxHeartbeats 8000000
set_option linter.all false
open Go.Value renaming int->U,slice->Y,bool->ci,agg->bi,pointer->d9,tuple->em,iface->gc
open Go.IntKind renaming i64->O
open Go.Obj renaming cells->ap
open Go.Ending renaming returned->dl
open Array renaming forIn_toList->ajt,mapM_eq_mapM_toList->akv,range->ajP
open Bool renaming false->Ba,false_eq_true->air,true->AT
open Go renaming Code->ajd,Frame->ahY,FuncId->ajH,Oper->ajq,Operand->aiD,Program->OF,TypeId->SL,Value->AS,execOp->aie,zeroValue->ajs
open Go.Frame renaming enter->aid
open Go.Instr renaming enterLoop->akk,fill->ajJ,takeDeferred->aks,typeAssert->aiL
open Go.Op renaming eqGuardIn->aiY
open Option renaming getD_some->aii,map_some->ajc,none->ns,some->an
open Std.Legacy.Range renaming forIn_eq_forIn_range'->aiA
namespace Go.Proofs
def LL{p:Prop}(h:p:=by subst e;exact QI (((h.mono hl).mono B3).mono xu) ((hzz.cells.mono B3).mono xu) λa b B7=>.pure (.agg B7.size B7.at_)):p:=h
end Go.Proofs
namespace Go.Proofs.Q0.aM
variable{v v' u u':AS}{xs ys:Array AS}{l l':Nat}{x y:aiD}{t:SL}{s:Nat->Prop}{f:ajH}
section
variable[ah]
section
variable{P:OF}{K:aI}{φ:Ren}
def DU:∀(d n:Nat)(φ:Ren)(t:SL){x F y G:AS},flat P n t=AT->VR φ x F->VR φ y G->SR P K aZ φ (aiY d t x y) (aiY d t F G)
 |0,_,_,_,_,_,_,_,_,_,_=>.halt _ _
 |_,0,_,_,_,_,_,_,j,_,_=>by cases j
 |d+1,n+1,φ,t,x,F,y,G,j,H,m=>by
  unfold aiY;refine SR.bind (na t) λI X _ W e=>?_;obtain⟨rfl,hu⟩:=e;unfold flat at j;rw[hu] at j;replace H:=H.mono W;replace m:=m.mono W;cases X with
  |interface ms=>cases j
  |struct g=>
   cases H with
   |@agg xs p q w=>
    cases m with
    |@agg ys z A B=>
     have h1:aB I xs p:=⟨q,w⟩;have N:aB I ys z:=⟨A,B⟩
     have Q:∀f∈g.toList,flat P n f.type=AT:=λf h=>by have j:g.all (λf=>flat P n f.type)=AT:=j;rw[Array.all_eq_true_iff_forall_mem] at j;exact j f (jw.1 h)
     dsimp only;rw[<-ajt,<-ajt];refine SR.bind (zI (λS hle f J s=>?_) g.toList (λf h=>h) I (Ren.le_refl _) _) λS r _ _ e=>?_
     ·split
      ·refine SR.bind (lF f.type (h1.mono hle) f.offset) λk a Z C T=>?_;refine SR.bind (lF f.type ((N.mono hle).mono C) f.offset) λk b b' D V=>?_;refine SR.bind (DU d n k f.type (Q f J) (T.mono D) V) λk c _ _ e=>?_;subst e;cases c<;>exact .pure rfl
      ·exact .pure rfl
     ·subst e;obtain⟨o,u⟩:=r;cases o<;>exact SR.pure (R:=aZ) rfl
    |aX _ E=>cases G<;>first|exact .pure rfl|exact absurd rfl (E.1 _)
    |_=>exact .pure rfl
   |aX _ E=>cases F<;>first|exact .pure rfl|exact absurd rfl (E.1 _)
   |_=>cases m<;>exact .pure rfl
  |array len elem=>
   have j:flat P n elem=AT:=j;obtain⟨M,hnF,j⟩:∃M,M=n/\flat P M elem=AT:=⟨n,rfl,j⟩;cases H with
   |@agg xs p q w=>
    cases m with
    |@agg ys z A B=>
     have h1:aB I xs p:=⟨q,w⟩;have N:aB I ys z:=⟨A,B⟩;refine SR.bind (fF elem) λS n _ L e=>?_;subst e;rw[aiA,aiA];refine SR.bind (zY (λk hle i s=>?_) _ S (Ren.le_refl _) _) λk r _ _ e=>?_
     ·refine SR.bind (lF elem ((h1.mono L).mono hle) _) λk a Z C T=>?_;refine SR.bind (lF elem (((N.mono L).mono hle).mono C) _) λk b b' D V=>?_;refine SR.bind (DU d M k elem j (T.mono D) V) λk c _ _ e=>?_;subst e;cases c<;>exact .pure rfl
     ·subst e;obtain⟨o,u⟩:=r;cases o<;>exact SR.pure (R:=aZ) rfl
    |aX _ E=>cases G<;>first|exact .pure rfl|exact absurd rfl (E.1 _)
    |_=>exact .pure rfl
   |aX _ E=>cases F<;>first|exact .pure rfl|exact absurd rfl (E.1 _)
   |_=>cases m<;>exact .pure rfl
  |_=>cases H<;>(cases m<;>exact .pure rfl)
def XZ:∀(d:Nat)(φ:Ren)(t:SL){x a y b:AS},l8 P t x y->VR φ x a->VR φ y b->x≠aX->y≠aX->SR P K aZ φ (aiY d t x y) (aiY d t a b)
 |0,_,_,_,_,_,_,_,_,_,_,_=>.halt _ _
 |d+1,φ,t,x,a,y,b,hc,g,h,i,j=>by
  rcases hc with⟨n,k⟩|⟨w,c⟩|⟨⟨e,he⟩,m⟩
  ·exact DU _ n φ t k g h
  ·unfold aiY;refine SR.bind (na t) λo p _ q e=>?_;obtain⟨rfl,hu⟩:=e;rw[c] at hu;cases hu;cases g with
   |aX=>exact absurd rfl i
   |nilIface=>cases h with|aX=>exact absurd rfl j|_=>exact .pure rfl
   |_=>exact .pure rfl
  ·unfold aiY;refine SR.bind (na t) λo p _ q r=>?_;obtain⟨rfl,hu⟩:=r;rw[he] at hu;cases hu;exact .pure rfl
def aB.foldl_set(off:Nat):∀{us vs:List (AS×Nat)}{cs e:Array AS},us.length=vs.length->(∀(i:Nat)(u v:AS×Nat),us[i]?=an u->vs[i]?=an v->VR φ u.1 v.1/\u.2=v.2)->aB φ cs e->
  aB φ (us.foldl (λcs c=>cs.setIfInBounds (off+c.2) c.1) cs) (vs.foldl (λcs c=>cs.setIfInBounds (off+c.2) c.1) e)
 |[],[],_,_,_,_,h=>h
 |[],_::_,_,_,d,_,_=>by simp at d
 |_::_,[],_,_,d,_,_=>by simp at d
 |(u,i)::us,(v,j)::vs,cs,e,d,g,h=>by obtain⟨h1,k⟩:=g 0 (u,i) (v,j) rfl rfl;simp only at h1 k;subst k;exact aB.foldl_set (us:=us) (vs:=vs) off (by simpa using d) (λn a b m hb=>g (n+1) a b (by simpa using m) uK) (h.set (off+i) h1)
inductive ml(φ:Ren):List (Nat×AS)->List (Nat×AS)->Prop
 |nil:ml φ [] []
 |cons (i:Nat) {x y:AS} {xs ys:List (Nat×AS)}:VR φ x y->ml φ xs ys->ml φ ((i,x)::xs) ((i,y)::ys)
def ml.mono{a:Ren}{xs ys:List (Nat×AS)}(h:ml φ xs ys)(k:Ren.le φ a):ml a xs ys:=by induction h with|nil=>exact .nil|cons i h _ b=>exact .cons i (h.mono k) b
def Rw(c:Nat->Option (Nat×Nat)):∀{xs ys:List (Nat×AS)}{cs d:Array AS},ml φ xs ys->aB φ cs d->
  (ajJ c cs xs=ns/\ajJ c d ys=ns)\/∃a b,ajJ c cs xs=an a/\ajJ c d ys=an b/\aB φ a b
 |[],[],cs,d,_,h=>.inr ⟨cs,d,rfl,rfl,h⟩
 |(i,x)::xs,(_,y)::ys,cs,d,.cons _ e hr,h=>by
  unfold ajJ;cases k:c i with
  |none=>exact .inl ⟨rfl,rfl⟩
  |some p=>
   obtain⟨off,size⟩:=p;dsimp only;have hc:=e.cells;rw[hc.size,h.size];split
   ·exact .inl ⟨rfl,rfl⟩
   ·refine Rw c hr ?_;simp only[<-Array.foldl_toList,Array.toList_zipIdx]
    exact aB.foldl_set off (by simp[hc.size]) (λn u v hu g=>by simp only[List.getElem?_zipIdx,Option.map_eq_some_iff] at hu g;obtain⟨a,j,rfl⟩:=hu;obtain⟨b,hb,rfl⟩:=g;exact⟨hc.at_ n a b (by simpa using j) uK,rfl⟩) h
def QI{d:Nat->Option (Nat×Nat)}{xs ys:List (Nat×AS)}{cs g:Array AS}(h:ml φ xs ys)(k:aB φ cs g){e:String}{R:Ren->AS->AS->Prop}{f f':Array AS->Sem AS}
  (j:∀a b,aB φ a b->SR P K R φ (f a) (f' b)):
  SR P K R φ (match ajJ d cs xs with|some c=>f c|_=>stuck e) (match ajJ d g ys with|some c=>f' c|_=>stuck e):=by
 rcases Rw d h k with⟨h1,i⟩|⟨a,b,h1,i,m⟩
 ·rw[h1,i];exact .halt _ _
 ·simp_all
def YU{α β:Type}{f:α->Sem β}(c:∀a,Looks P (f a))(xs:Array α):Looks P (xs.mapM f):=by
 rw[akv]
 have:∀l:List α,Looks P (l.mapM f):=λl=>by
  induction l with
  |nil=>simp only[List.mapM_nil];exact .ret _
  |cons a l d=>simp only[List.mapM_cons];exact(c a).bind λb=>d.bind λe=>.ret _
 exact(this xs.toList).bind λ_=>.ret _
def abr(b:cN P)(t:SL){xs ys:Array (Nat×AS)}(h:ml φ xs.toList ys.toList):SR P K VR φ (Instr.build t xs) (Instr.build t ys):=by
 refine SR.bind (pQ b t) λg z i hl hzz=>?_;refine SR.bind (eB t) λj d _ B3 e=>?_;subst e;cases d with
 |struct a=>refine SR.bind ((YU (λf=>(zk f.type).bind λn=>.ret (f.offset,n)) a).sr) λc k _ xu e=>?_;exact LL
 |array n elem=>refine SR.bind (fF elem) λc s _ xu e=>?_;exact LL
 |_=>exact .halt _ _
def WE(w:cN P)(t:SL)(len:Nat){xs ys:Array (Nat×AS)}(h:ml φ xs.toList ys.toList):SR P K VR φ (Instr.buildSlice t len xs) (Instr.buildSlice t len ys):=by
 refine SR.bind (eB t) λC d _ A e=>?_;subst e;cases d with
 |slice elem=>
  refine SR.bind (fF elem) λr size _ o e=>?_;subst e;dsimp only
  have m:∀(k:Ren)(z n:Array AS),Ren.le r k->aB k z n->SR P K VR k
    (match ajJ (λi=>an (i*size,size)) ((ajP (len*size)).map (z[· %z.size]!)) xs.toList with|some g=>newRow elem g>>=λa=>pure (.slice (an a) len len)|_=>stuck "buildSlice: a part of the wrong size")
    (match ajJ (λi=>an (i*size,size)) ((ajP (len*size)).map (n[· %n.size]!)) ys.toList with|some g=>newRow elem g>>=λa=>pure (.slice (an a) len len)|_=>stuck "buildSlice: a part of the wrong size"):=λk z n hle j=>by
   refine QI (((h.mono A).mono o).mono hle) (aB.Ey λi=>?_) λa b p=>SR.bind (zG elem p) λB c D _ hc=>.pure (.slice _ _ hc);rw[j.size];exact j.GV Ed
  split
  ·exact .dead (fu eX)
  ·split
   ·exact m r #[] #[] (Ren.le_refl _) .empty
   ·exact SR.bind (pQ w elem) λk z n q j=>m k _ _ q j.cells
 |_=>exact .halt _ _
def PD(ok:Bool)(h:VR φ v v'):SR P K VR φ (pure (if ok then .tuple #[v,.bool AT] else v)) (pure (if ok then .tuple #[v',.bool AT] else v')):=by cases ok with|false=>exact .pure h|true=>have:=Rv h (VR.bool (φ:=φ) AT);exact .pure (.tuple this.size this.at_)
def zZ(d:cN P)(ok:Bool)(c:SL)(a b:Option SL)(m:String):
  SR P K VR φ (if ok then(do pure (.tuple #[<-ajs c,.bool Ba])) else runtimePanic (.typeAssertion a b c m)) (if ok then(do pure (.tuple #[<-ajs c,.bool Ba])) else runtimePanic (.typeAssertion a b c m)):=by
 cases ok with
 |false=>simp only[air,if_false];exact .dead (eG _)
 |true=>exact SR.bind (pQ d c) λe z g _ h=>by have:=Rv h (VR.bool (φ:=e) Ba);exact .pure (.tuple this.size this.at_)
def DG(j:cN P)(b a:SL)(ok:Bool)(h:VR φ v v'):SR P K VR φ (aiL v b a ok) (aiL v' b a ok):=by
 refine SR.bind (eB a) λo d _ p e=>?_;subst e;replace h:=h.mono p
 have c:∀{t:SL}{x k:AS},VR o x k->SR P K VR o (if t=a then pure (if ok then .tuple #[x,.bool AT] else x) else(if ok then(do pure (.tuple #[<-ajs a,.bool Ba])) else runtimePanic (.typeAssertion (an b) (an t) a "")))
   (if t=a then pure (if ok then .tuple #[k,.bool AT] else k) else(if ok then(do pure (.tuple #[<-ajs a,.bool Ba])) else runtimePanic (.typeAssertion (an b) (an t) a ""))):=λg=>by
  split
  ·exact PD ok g
  ·exact zZ j ok a _ _ _
 cases d with
 |interface i=>
  cases h with
  |nilIface=>exact zZ j ok a ns ns ""
  |@iface t x k g q=>refine SR.bind (mC t) λw r _ n e=>?_;subst e;cases hm:Instr.missingMethod i r.methods with|none=>exact PD ok (.iface t (g.mono n) q)|some m=>exact zZ j ok a ns (an t) m
  |_=>exact .halt _ _
 |_=>cases h with|nilIface=>exact zZ j ok a (an b) ns ""|iface t g _=>exact c g|_=>exact .halt _ _
end
end
section
variable[ah]
section
variable{P:OF}{K:aI}{φ:Ren}
inductive oa(φ:Ren):Place->Place->Prop
 |val {v v':AS}:VR φ v v'->oa φ (.val v) (.val v')
 |var {a a':Addr}:AR φ a a'->oa φ (.var a) (.var a')
def oa.mono{a:Ren}{x y:Place}(h:oa φ x y)(k:Ren.le φ a):oa a x y:=by cases h with|val h=>exact .val (h.mono k)|var h=>exact .var (h.mono k)
def F2(t:SL){x y:Place}(h:oa φ x y):SR P K VR φ (x.get t) (y.get t):=by cases h with|val h=>exact .pure h|var h=>exact vo t h
def zL:∀(l:List FieldStep)(φ:Ren)(t:SL){x y:Place},oa φ x y->SR P K (λk a b=>a.1=b.1/\oa k a.2 b.2) φ (follow l t x) (follow l t y)
 |[],φ,t,x,y,h=>.pure ⟨rfl,h⟩
 |s::rest,φ,t,x,y,h=>by
  unfold follow;refine SR.bind (eB s.struct) λk d _ j e=>?_;subst e;cases d with
  |struct g=>
   dsimp only;cases g[s.index]? with
   |none=>exact .halt _ _
   |some f=>
    dsimp only;split
    ·refine SR.bind (F2 t (h.mono j)) λz v v' n o=>?_;refine SR.bind (vB o) λA a a' p q=>?_;exact SR.bind (DF q f) λc b m _ i=>zL rest c f.type (.var i)
    ·cases h with
     |var h=>exact SR.bind (DF (h.mono j) f) λc b m _ i=>zL rest c f.type (.var i)
     |val h=>
      cases h.mono j with
      |agg r w=>exact SR.bind (lF f.type (aB.mk r w) f.offset) λc b m _ i=>zL rest c f.type (.val i)
      |_=>exact .halt _ _
  |_=>exact .halt _ _
def YV(t:SL){ts:Array SL}(h:VR φ v v'){a b:ByteArray}:SR P K VR φ (Builtin.ssaWrapNilChk_ ts t #[v,.string a,.string b]) (Builtin.ssaWrapNilChk_ ts t #[v',.string a,.string b]):=by
 cases h with
 |ptr h=>exact .pure (.ptr h)
 |nilPtr=>
  refine .dead ?_;refine fE λn=>?_;dsimp only;split
  ·exact fu (eG _)
  ·cases ts[0]? with
   |none=>exact iq
   |some e=>
    refine fE λd=>?_;cases d with
    |pointer t2=>
     refine fE λc=>?_;cases c.desc with
     |named name u=>
      cases String.fromUTF8? b with
      |none=>exact iq
      |some m=>
       dsimp only;split
       ·exact eG _
       ·exact eX
     |_=>exact iq
    |_=>exact iq
 |_=>exact .halt _ _
def WG(c:SL){x y:Place}(h:oa φ x y)(g:Bool){b:Option String}:SR P K VR φ (receiverAt c x g b) (receiverAt c y g b):=by
 refine SR.bind (eB c) λp d _ m e=>?_;subst e;replace h:=h.mono m;have get:=F2 (P:=P) (K:=K) c h;cases g with
 |true=>
  cases d with
  |pointer elem=>exact get
  |_=>cases h with|var h=>exact .pure (.ptr h)|val h=>exact .halt _ _
 |false=>
  cases d with
  |pointer elem=>
   cases b with
   |none=>exact SR.bind get λi v v' _ j=>SR.bind (R:=VR) (.pure j) λi u u' _ hu=>SR.bind (vB hu) λn a o _ k=>vo elem k
   |some name=>exact SR.bind get λi v v' _ j=>SR.bind (YV c j) λi u u' _ hu=>SR.bind (vB hu) λn a o _ k=>vo elem k
  |_=>exact get
def tk(P:OF)(name:String):Prop:=∀t i m f b,P.info? t=an i->i.methods.find? (·.name==name)=an m->m.func=an (f,b)->ah.ok f
def Ox{name:String}(hm:tk P name):∀(n:Nat)(φ:Ren)(t:SL){v v':AS},VR φ v v'->SR P K (λc a b=>a.1=b.1/\ah.ok a.1/\VR c a.2 b.2) φ (method n t v name) (method n t v' name)
 |0,_,_,_,_,_=>.halt _ _
 |n+1,φ,t,v,v',h=>by
  unfold method;refine SR.bind (Mx t) λc o _ r e=>?_;obtain⟨rfl,d⟩:=e;dsimp only;cases g:o.methods.find? (·.name==name) with
  |none=>exact .halt _ _
  |some m=>
   dsimp only;refine SR.bind (zL m.path.toList c t (.val (h.mono r))) λD x y w i=>?_;obtain⟨p,x⟩:=x;obtain⟨E,y⟩:=y;obtain⟨e,j⟩:=i;simp only at e j;subst e;dsimp only;cases z:m.func with
   |none=>refine SR.bind (F2 p j) λq u u' A hu=>?_;cases hu with|iface t2 B=>exact Ox hm n q t2 B|nilIface=>exact .dead (eG _)|_=>exact .halt _ _
   |some C=>obtain⟨f,b⟩:=C;have k:=hm t o m f b d g z;exact SR.bind (WG p j b) λq u u' _ hu=>.pure ⟨rfl,k,hu⟩
inductive NR(φ:Ren):Next->Next->Prop
 |value {v v':AS}:VR φ v v'->NR φ (.value v) (.value v')
 |skip:NR φ .skip .skip
 |enter (f:ajH) {xs ys:Array AS}:ah.ok f->aB φ xs ys->NR φ (.enter f xs) (.enter f ys)
 |round {l l':Nat} (f:ajH) {xs ys:Array AS} (a b:ajd):φ l=an l'->cU φ (ah.lv f) xs ys->ah.cd f a->ah.cd f b->pd f->NR φ (.round l f xs a b) (.round l' f ys a b)
def gR(φ:Ren):Prop:=∀g,ah.gl g->φ g=an g
def gR.mono{φ a:Ren}(h:gR φ)(k:Ren.le φ a):gR a:=λg b=>k _ _ (h g b)
def dX(P:OF)(K:aI):Prop:=nT P/\(∀f,ah.fv f->ah.ok f)/\∀f,ah.ok f->∀(φ:Ren)(xs ys:Array AS),gR φ->aB φ xs ys->SR P K NR φ (callFunc f xs) (callFunc f ys)
def MU{f:ajH}{fn a:Func}(i:P.funcs[f]?=an fn)(m:fn.body.isSome=AT)(j:(fn.name== "runtime.NumGoroutine")=Ba)
  (c:P.two.funcs[f]?=an a)(k:a.body.isSome=AT)(d:(a.name== "runtime.NumGoroutine")=Ba)(e:ah.ok f){xs ys:Array AS}(h:aB φ xs ys):SR P K NR φ (callFunc f xs) (callFunc f ys):=by
 have g:fn.body.isNone=Ba:=eN;have b:a.body.isNone=Ba:=eN;refine SR.program ?_;simp only[Sem.bind,i,c,j,d,g,b,air,if_false];exact .pure (.enter f e h)
def WH(hF:dX P K)(d:gR φ){name:String}(hm:tk P name)(h:VR φ v v')(c:aB φ xs ys):SR P K NR φ (callMethod v name xs) (callMethod v' name ys):=by
 unfold callMethod;cases h with
 |iface t n=>
  refine SR.ask ?_;refine SR.bind (Ox hm _ φ t n) λo a b k g=>?_;obtain⟨f,r⟩:=a;obtain⟨q,w⟩:=b;obtain⟨e,j,p⟩:=g;subst e;refine hF.2.2 f j o _ _ (d.mono k) (aB.append ⟨rfl,λi x y c m=>?_⟩ (c.mono k))
  match i with
  |0=>simp at c m;subst c;subst m;exact p
  |i+1=>simp at c
 |nilIface=>exact .dead (eG _)
 |_=>exact .halt _ _
def vp(h:φ l=an l'):SR P K (λc a b=>cL c a b/\¬K.ro l/\¬K.tok l) φ (Instr.getLoop l) (Instr.getLoop l'):=by refine SR.getObj h (λo j d e g=>?_) (λs p=>iq) λa l=>iq;cases d with|loop i=>exact .pure ⟨i,e,g⟩|_=>exact .halt _ _
def Mz{s:Nat->Prop}:∀(a:List Tmp){xs ys:List AS}{cs b:Array AS},ij φ xs ys->cU φ s cs b->
  cU φ s ((a.zip xs).foldl (λt p=>t.setIfInBounds p.1 p.2) cs) ((a.zip ys).foldl (λt p=>t.setIfInBounds p.1 p.2) b)
 |[],_,_,_,_,_,h=>h
 |_::_,[],[],_,_,.nil,h=>h
 |p::a,x::xs,y::ys,cs,b,.cons c hr,h=>Mz a hr (h.set p c)
def PF(h:φ l=an l')(b:aB φ xs ys):SR P K NR φ (Instr.yield l xs) (Instr.yield l' ys):=by
 refine SR.bind (vp h) λe r g c a=>?_;obtain⟨a,_,_⟩:=a;rw[a.params,<-b.size];by_cases d:xs.size=r.params.size
 ·simp only[d,ne_eq,not_true_eq_false,if_false];rw[a.fn,a.assign,a.body];refine .pure (.round _ _ _ (c _ _ h) ?_ a.rz a.okB a.okF);simp only[<-Array.foldl_toList,Array.toList_zip];exact Mz _ (b.mono c).toList a.tmps
 ·simp only[d,ne_eq,not_false_eq_true,if_true];exact .dead (fu iq)
def WI(h:φ l=an l'):SR P K aZ φ (Instr.beginRound l) (Instr.beginRound l'):=by refine SR.bind (vp h) λb r c d a=>?_;obtain⟨a,e,g⟩:=a;refine SR.setObj (d _ _ h) e g (.loop ⟨rfl,a.pending,a.fn,a.tmps,a.params,a.assign,a.body,a.defers,a.rz,a.okB,a.tZ,a.okF⟩) trivial ?_;show SR P K aZ b (match r.state with|.ready=>pure ()|.done=>runtimePanic _|.busy=>runtimePanic _|.exhausted=>runtimePanic _) (match c.state with|.ready=>pure ()|.done=>runtimePanic _|.busy=>runtimePanic _|.exhausted=>runtimePanic _);rw[a.state];cases r.state with|ready=>exact .pure rfl|_=>exact .dead (eG _)
def X0(h:φ l=an l'){j:Option ajd}(b:Jump j):SR P K VR φ (Instr.endRound l j) (Instr.endRound l' j):=by refine SR.bind (vp h) λg r i c a=>?_;obtain⟨a,d,e⟩:=a;exact SR.setObj (c _ _ h) d e (.loop ⟨rfl,rfl,a.fn,a.tmps,a.params,a.assign,a.body,a.defers,a.rz,a.okB,b,a.okF⟩) trivial (.pure (.bool _))
def YW(h:φ l=an l'):SR P K (λ_ a b=>a=b/\Jump a) φ (Instr.endLoop l) (Instr.endLoop l'):=by
 refine SR.bind (vp h) λi r j d c=>?_;obtain⟨c,e,g⟩:=c;rw[c.state,c.pending];split
 ·exact Dm
 ·exact SR.setObj (d _ _ h) e g (.loop ⟨rfl,rfl,c.fn,c.tmps,c.params,c.assign,c.body,c.defers,c.rz,c.okB,c.tZ,c.okF⟩) trivial (.pure ⟨rfl,c.tZ⟩)
inductive DR(φ:Ren):Deferred->Deferred->Prop
 |mark {r r':Nat}:φ r=an r'->DR φ {target:=.collected r,args:=#[]} {target:=.collected r',args:=#[]}
inductive jr(φ:Ren):List Deferred->List Deferred->Prop
 |nil:jr φ [] []
 |cons {d d':Deferred} {ds xv:List Deferred}:DR φ d d'->jr φ ds xv->jr φ (d::ds) (d'::xv)
def jr.mono{a:Ren}{ds xv:List Deferred}(h:jr φ ds xv)(k:Ren.le φ a):jr a ds xv:=by
 induction h with
 |nil=>exact .nil
 |cons h _ b=>cases h with|mark h=>exact .cons (.mark (k _ _ h)) b
def jr.append{a b c d:List Deferred}(h:jr φ a b)(k:jr φ c d):jr φ (a++c) (b++d):=by induction h with|nil=>exact k|cons h _ e=>exact .cons h e
inductive rA(φ:Ren):Option Nat->Option Nat->Prop
 |none:rA φ ns ns
 |some {l l':Nat}:φ l=an l'->rA φ (an l) (an l')
def MA(f:ajH)(j:pd f)(k:cU φ (ah.lv f) xs ys)(m:Array Tmp)(a b:ajd)(n:ah.cd f a)(o:ah.cd f b){l l':Option Nat}(h:rA φ l l'):
  SR P K (λd u v=>d u.1=an v.1/\jr d u.2 v.2) φ (akk f xs m a b l) (akk f ys m a b l'):=by
 cases h with
 |none=>refine SR.new .deferred trivial λd r p g e=>?_;refine SR.new (.loop ⟨rfl,rfl,rfl,k.mono g,rfl,rfl,rfl,e,n,o,.inl rfl,j⟩) trivial λq s w c i=>?_;exact .pure ⟨i,.cons (.mark (c _ _ e)) .nil⟩
 |some h=>refine SR.bind (vp h) λd r p g e=>?_;refine SR.new (.loop ⟨rfl,rfl,rfl,k.mono g,rfl,rfl,rfl,e.1.defers,n,o,.inl rfl,j⟩) trivial λq s w c i=>?_;exact .pure ⟨i,.nil⟩
def Kp{r c:Nat}(h:φ r=an c):SR P K (λ_ a b=>a=[]/\b=[]) φ (aks r) (aks c):=by refine SR.getObj h (λo i d e g=>?_) (λs p=>iq) λa l=>iq;cases d with|deferred=>exact SR.setObj h e g .taken trivial (.pure ⟨rfl,rfl⟩)|_=>exact .halt _ _
end
end
section
variable[ah]
def ej(s:Nat->Prop):aiD->Prop
 |.tmp t=>s t
 |.const v=>∀φ,VR φ v v
 |.global g=>ah.gl g
 |.func f=>ah.fv f
def wM(s:Nat->Prop)(xs:Array aiD):Prop:=∀(i:Nat) x,xs[i]?=an x->ej s x
def xw(s:Nat->Prop):Option aiD->Prop
 |none=>True
 |some x=>ej s x
def F3(P:OF)(s:Nat->Prop)(c:Call):Prop:=
 wM s c.args/\match c.callee with
  |.value f=>(∃n,f=.func n/\ah.ok n)\/ej s f
  |.invoke recv name=>ej s recv/\tk P name
  |.builtin b=>match b with|.append|.len|.cap|.min|.max=>True|_=>False
def Bt(P:OF)(t:SL)(x y:aiD):Prop:=(∃n,flat P n t=AT)\/(∃a,P.underlying t=an (.interface a))\/((∃e,P.underlying t=an (.pointer e))/\(x=.const (.pointer ns)\/y=.const (.pointer ns)))
def GX(P:OF)(s:Nat->Prop):Op->Prop
 |.makeInterface t x=>ej s x/\ah.np t
 |.move x|.assign x|.box _ x|.load _ x|.nilCheck x|.unOp _ _ x|.fieldAddr _ x _|.field _ x _|.typeAssert x _ _ _|.extract x _=>ej s x
 |.pick c a b=>ej s c/\ej s a/\ej s b
 |.alloc _=>True
 |.build _ e|.buildSlice _ _ e=>∀(i:Nat) p,e[i]?=an p->ej s p.2
 |.store _ a x=>ej s a/\ej s x
 |.binOp op t x y _=>ej s x/\ej s y/\(op=.eql\/op=.neq->Bt P t x y)
 |.convert src dst x=>ej s x/\AO P src dst=AT
 |.makeFunc fn first d=>(∃f,fn=.func f/\ah.fv f)/\wM s first/\wM s d
 |.makeSlice _ l c=>ej s l/\ej s c
 |.slice _ x g hi h=>ej s x/\xw s g/\xw s hi/\xw s h
 |.indexAddr _ x i|.index _ x i=>ej s x/\ej s i
 |.call c=>F3 P s c
 |_=>False
def ER(φ:Ren)(s:Nat->Prop)(ρ ut:aiD->AS):Prop:=(∀x,ej s x->VR φ (ρ x) (ut x))/\(∀v,ρ (.const v)=v)/\(∀f,ρ (.func f)=.func (.func f) #[] #[]/\ut (.func f)=.func (.func f) #[] #[])/\gR φ
section
variable{P:OF}{K:aI}{φ:Ren}{s:Nat->Prop}{ρ ut:aiD->AS}
def Bt.val(he:ER φ s ρ ut)(h:Bt P t x y):l8 P t (ρ x) (ρ y):=by
 rcases h with h|h|⟨h,rfl|rfl⟩
 ·exact .inl h
 ·exact .inr (.inl h)
 ·exact .inr (.inr ⟨h,.inl (he.2.1 _)⟩)
 ·exact .inr (.inr ⟨h,.inr (he.2.1 _)⟩)
def ER.map(he:ER φ s ρ ut){xs:Array aiD}(h:wM s xs):aB φ (xs.map ρ) (xs.map ut):=by refine⟨au,λi x y a b=>?_⟩;rw[Array.getElem?_map] at a b;cases hq:xs[i]? with|none=>rw[hq] at a;cases a|some o=>rw[hq] at a b;cases a;cases b;exact he.1 o (h i o hq)
def ER.opt(he:ER φ s ρ ut){x:Option aiD}(h:xw s x):gF φ (x.map ρ) (x.map ut):=by cases x with|none=>exact .none|some x=>exact .some (he.1 x h)
def ER.parts(he:ER φ s ρ ut){a:Array (Nat×aiD)}(h:∀(i:Nat) p,a[i]?=an p->ej s p.2):ml φ (a.map λ(i,x)=>(i,ρ x)).toList (a.map λ(i,x)=>(i,ut x)).toList:=by
 rw[Array.toList_map,Array.toList_map];have b:∀(i:Nat) p,a.toList[i]?=an p->ej s p.2:=λi p c=>h i p (by simpa using c);generalize a.toList=l at b
 induction l with
 |nil=>exact .nil
 |cons p l d=>obtain⟨i,x⟩:=p;exact .cons i (he.1 x (b 0 (i,x) rfl)) (d λn q hq=>b (n+1) q (by simpa using hq))
def ic{s a:Sem AS}(h:SR P K VR φ s a):SR P K NR φ (s>>=λv=>pure (Next.value v)) (a>>=λv=>pure (Next.value v)):=
 SR.bind h λc v v' _ b=>.pure (.value b)
def YX(d:cN P){b:Builtin}(e:match b with|.append|.len|.cap|.min|.max=>True|_=>False)(ts:Array SL)(t:SL){cs:Array Bool}(h:aB φ xs ys):
  SR P K NR φ (builtin b ts t cs xs) (builtin b ts t cs ys):=by
 cases b with
 |append=>exact SR.bind (ZR d ts t h) λc v v' _ a=>.pure (.value a)
 |len=>exact SR.bind (FZ ts t h) λc v v' _ a=>.pure (.value a)
 |cap=>exact SR.bind (aeb ts t h) λc v v' _ a=>.pure (.value a)
 |min=>exact SR.bind (aed ts t h) λc v v' _ a=>.pure (.value a)
 |max=>exact SR.bind (aec ts t h) λc v v' _ a=>.pure (.value a)
 |_=>exact e.elim
def Mh(name:String)(us:Array AS)(r:AS)(xs:Array AS):(invoke (.fn (.method name) us) (#[r]++xs))=callMethod r name xs:=by
 have one:(#[r]++xs)[0]?=an r/\(#[r]++xs).extract 1 (#[r]++xs).size=xs:=by
  refine⟨by rw[Array.getElem?_append_left au];rfl,?_⟩;apply zc;intro i;by_cases hi:i<xs.size
  ·simp_all
  ·simp_all
 unfold invoke;rw[one.1,one.2]
def Mi:fB P (invoke (.fn (.method "") #[]) (#[.nilIface]++xs)):=by rw[Mh];exact eG (P:=P) (α:=Next) .nilDeref
def ac1(w:cN P)(hF:dX P K){c:Call}(t:SL)(hc:F3 P s c)(he:ER φ s ρ ut):
  SR P K NR φ (resolve ρ c t>>=λd=>invoke d.target d.args) (resolve ut c t>>=λd=>invoke d.target d.args):=by
 obtain⟨z,a⟩:=hc;have e:=he.map z;unfold resolve;cases g:c.callee with
 |builtin b=>rw[g] at a;exact YX w a c.argTypes t e
 |invoke recv name=>rw[g] at a;obtain⟨A,hm⟩:=a;have inv:=Mh name #[];have j:=WH (φ:=φ) hF he.2.2.2 hm (he.1 recv A) e;rw[<-inv,<-inv] at j;exact j
 |value f=>
  rw[g] at a;rcases a with⟨n,rfl,i⟩|a
  ·dsimp only;rw[(he.2.2.1 n).1,(he.2.2.1 n).2];have:=hF.2.2 n i φ _ _ he.2.2.2 e;simpa[Deferred.ofValue,invoke] using this
  have k:=he.1 f a;dsimp only;generalize ρ f=u at k;generalize ut f=u' at k;cases k with
  |nilFunc=>exact .dead (eG (P:=P) (α:=Next) .nilDeref)
  |aX _ _=>exact .dead Mi
  |func m q r o p=>cases m with|func f i=>exact hF.2.2 f (hF.2.1 f i) φ _ _ he.2.2.2 ((aB.append ⟨q,r⟩ e).append ⟨o,p⟩)|yield h=>exact PF h (aB.append ⟨q,r⟩ e)
  |_=>exact .halt _ _
def Ef(t:SL){m:String}(hc:l8 P t u v)(a:u≠aX)(c:v≠aX)(hu:VR φ u u')(d:VR φ v v'):
  SR P K aZ φ (aiY Op.maxDepth t u v>>=λb=>if b=AT then unsupported (.noEntry m) else pure ()) (aiY Op.maxDepth t u' v'>>=λb=>if b=AT then unsupported (.noEntry m) else pure ()):=by
 refine SR.bind (XZ _ φ t hc hu d a c) λg b _ _ e=>?_;subst e;cases b
 ·exact .pure rfl
 ·exact .dead eX
def YZ(op:BinOp)(t:SL)(x y:aiD)(hc:op=.eql\/op=.neq->l8 P t u v)(c:u≠aX)(a:v≠aX)(hu:VR φ u u')(d:VR φ v v'):SR P K aZ φ (eqGuard op t x y u v) (eqGuard op t x y u' v'):=by
 have skip:SR P K aZ φ (Sem.pure ():Sem Unit) (Sem.pure ()):=.pure rfl
 have agg:∀{u u' v v':AS},l8 P t u v->u≠aX->v≠aX->VR φ u u'->VR φ v v'->SR P K aZ φ (program>>=λp=>program>>=λq=>if(!p.eqGuardType q.depth t)=AT then pure () else aiY Op.maxDepth t u v>>=λb=>if b=AT then unsupported (.noEntry "binop/eql: two nil values of an interface type with methods, in a part of a struct or an array") else pure ())
   (program>>=λp=>program>>=λq=>if(!p.eqGuardType q.depth t)=AT then pure () else aiY Op.maxDepth t u' v'>>=λb=>if b=AT then unsupported (.noEntry "binop/eql: two nil values of an interface type with methods, in a part of a struct or an array") else pure ()):=λhc c a hu d=>by
  refine SR.ask (SR.ask ?_ (by have e:P.two.depth=P.depth:=rfl;simp only[e])) (by simp only[Db]);split
  ·exact skip
  ·exact Ef t hc c a hu d
 cases op with
 |eql=>
  cases hu with
  |nilIface=>cases d with|aX=>exact absurd rfl a|nilIface=>cases x<;>(cases y<;>first|exact skip|exact Ef t (hc au) c a .nilIface .nilIface)|_=>exact skip
  |agg h1 g=>cases d with|aX=>exact absurd rfl a|agg h i=>exact agg (hc au) c a (.agg h1 g) (.agg h i)|_=>exact skip
  |aX=>exact absurd rfl c
  |_=>cases d<;>first|exact skip|exact absurd rfl a
 |neq=>
  cases hu with
  |nilIface=>cases d with|aX=>exact absurd rfl a|nilIface=>cases x<;>(cases y<;>first|exact skip|exact Ef t (hc au) c a .nilIface .nilIface)|_=>exact skip
  |agg h1 g=>cases d with|aX=>exact absurd rfl a|agg h i=>exact agg (hc au) c a (.agg h1 g) (.agg h i)|_=>exact skip
  |aX=>exact absurd rfl c
  |_=>cases d<;>first|exact skip|exact absurd rfl a
 |_=>exact skip
def WJ{op:BinOp}:Calm P (eqGuard op t x y aX v):=by cases op<;>exact kG
def WL{op:BinOp}:Calm P (eqGuard op t x y v aX):=by cases op<;>first|exact kG|(cases v<;>exact kG)
open Classical in
def F4(hG:K.G=P.globals.size)(op:BinOp)(t:TypeId)(x y:Operand)(hc:op=.eql\/op=.neq->nT P/\l8 P t u v)(hu:VR φ u u')(a:VR φ v v'):
  SR P K VR φ ((eqGuard op t x y u v).bind λ_=>binOp op t u v) ((eqGuard op t x y u' v').bind λ_=>binOp op t u' v'):=by
 by_cases b:u=aX
 ·subst b;exact .dead (fE (λ_=>Ow λh _ _ _=>(hc h).2.oK) WJ)
 by_cases c:v=aX
 ·subst c;exact .dead (fE (λ_=>sA λh _ _ _=>(hc h).2.oK) WL)
 exact SR.bind (S:=VR) (YZ op t x y (λh=>(hc h).2) b c hu a) λe _ _ d _=>abq hG hc (hu.mono d) (a.mono d)
def ZU(j:cN P)(hG:K.G=P.globals.size)(hF:dX P K){o:ajq}(g:GX P s o.op)(he:ER φ s ρ ut):SR P K NR φ (aie ρ o) (aie ut o):=by
 unfold aie;revert g;generalize o.op=p;intro g;cases p with
 |nilCheck x=>
  have h:=he.1 x g;dsimp only;generalize ρ x=v at h⊢;generalize ut x=v' at h⊢;have k:SR P K NR φ (pure (.value v)) (pure (.value v')):=.pure (.value h);cases h with
  |nilPtr|nilIface|nilFunc|aX=>exact .dead (eG (P:=P) (α:=Next) .nilDeref)
  |func a=>cases a<;>exact k
  |_=>first|exact k|exact .dead (eG (P:=P) (α:=Next) .nilDeref)
 |move x|assign x=>exact .pure (.value (he.1 x g))
 |pick c a b=>
  refine SR.bind (On (he.1 c g.1)) λr t _ q e=>?_;subst e;cases t
  ·exact .pure (.value ((he.1 b g.2.2).mono q))
  ·exact .pure (.value ((he.1 a g.2.1).mono q))
 |alloc t=>exact ic (abg j t)
 |box t x=>exact ic (aea t (he.1 x g))
 |build t w=>exact ic (abr j t (he.parts g))
 |buildSlice t n w=>exact ic (WE j t n (he.parts g))
 |load t x=>exact ic (vA t (he.1 x g))
 |store t a x=>exact SR.bind (YJ t (he.1 a g.1) (he.1 x g.2)) λr _ _ _ _=>.pure .skip
 |binOp op t x y B=>exact ic (F4 hG op t x y (λh=>⟨hF.1,(g.2.2 h).val he⟩) (he.1 x g.1) (he.1 y g.2.1))
 |unOp op t x=>exact ic (Px op (he.1 x g))
 |convert s d x=>exact ic (NA s d g.2 (he.1 x g.1))
 |makeInterface t x=>exact ic (V9 (he.1 x g.1) g.2)
 |makeFunc fn first m=>obtain⟨⟨f,rfl,z⟩,h1,A⟩:=g;exact ic (XU (.func f z) (he.map h1) (he.map A))
 |makeSlice t l c=>exact ic (Xm j t (he.1 l g.1) (he.1 c g.2))
 |slice t x C hi D=>exact ic (YN t (he.1 x g.1) (he.opt g.2.1) (he.opt g.2.2.1) (he.opt g.2.2.2))
 |fieldAddr s x f=>exact ic (YL s (he.1 x g) f)
 |field s x f=>exact ic (abh s (he.1 x g) f)
 |indexAddr t x i=>exact ic (Nv t (he.1 x g.1) (he.1 i g.2))
 |index t x i=>exact ic (abi t (he.1 x g.1) (he.1 i g.2))
 |typeAssert x t a ok=>exact ic (DG j t a ok (he.1 x g))
 |extract t i=>exact ic (YK i (he.1 t g))
 |call c=>exact ac1 j hF o.type g he
 |_=>exact g.elim
end
end
section
variable[ah]
def Gm(P:OF)(s:Nat->Prop)(a:Array ajq):Prop:=
 ∀(i:Nat) o,a[i]?=an o->GX P s o.op/\∀j b,o.guard=an (j,b)->∀c d,a[j]?=an c->c.dst=an d->s d
def eI(P:OF)(f:ajH):ajd->Prop
 |.skip|.exit _|.label _|.goto _|.ret|.refuse _=>True
 |.region _ d _=>Gm P (ah.lv f) d
 |.seq a b=>eI P f a/\eI P f b
 |.cond c x y=>ej (ah.lv f) c/\eI P f x/\eI P f y
 |.block _ b|.loop b|.scope b=>eI P f b
 |.rangeFunc g _ a b=>ej (ah.lv f) g/\eI P f a/\eI P f b/\ah.cd f a/\ah.cd f b
inductive ik(P:OF)(f:ajH)(s:Bool):ajd->ajd->Prop
 |same {c:ajd}:eI P f c->ik P f s c c
 |seq {a b a' b':ajd}:ik P f s a a'->ik P f s b b'->ik P f s (.seq a b) (.seq a' b')
 |dL {c c':ajd}:ah.dL c c'->f=ah.home->s=AT->ik P f s c c'
inductive kt(P:OF)(φ:Ren)(f:ajH)(s:Bool):Item->Item->Prop
 |code {c c':ajd}:ik P f s c c'->kt P φ f s (.code c) (.code c')
 |inBlock (id:Nat):kt P φ f s (.inBlock id) (.inBlock id)
 |inLoop {b:ajd}:eI P f b->kt P φ f s (.inLoop b) (.inLoop b)
 |inScope {b:ajd}:eI P f b->kt P φ f s (.inScope b) (.inScope b)
 |inRegion {ops:Array ajq} (todo:List Nat):Gm P (ah.lv f) ops->kt P φ f s (.inRegion ops todo) (.inRegion ops todo)
 |tc {l l':Nat}:φ l=an l'->kt P φ f s (.inRangeFunc l) (.inRangeFunc l')
 |sP {l l':Nat}:φ l=an l'->kt P φ f s (.endRangeFunc l) (.endRangeFunc l')
 |beginRound:kt P φ f s .beginRound .beginRound
inductive gS(P:OF)(φ:Ren)(f:ajH)(s:Bool):List Item->List Item->Prop
 |nil:gS P φ f s [] []
 |cons {x y:Item} {xs ys:List Item}:kt P φ f s x y->gS P φ f s xs ys->gS P φ f s (x::xs) (y::ys)
 |stop {why:String} {ys:List Item}:s=AT->gS P φ f s [.code (.refuse why)] ys
def vN(fr:ahY):Prop:=∃a,fr.todo=[.code (.refuse a)]
def kt.mono{P:OF}{φ a:Ren}{f:ajH}{s:Bool}{x y:Item}(h:kt P φ f s x y)(k:Ren.le φ a):kt P a f s x y:=by cases h with|code h=>exact .code h|inBlock id=>exact .inBlock id|inLoop h=>exact .inLoop h|inScope h=>exact .inScope h|inRegion t h=>exact .inRegion t h|tc h=>exact .tc (k _ _ h)|sP h=>exact .sP (k _ _ h)|beginRound=>exact .beginRound
def gS.mono{P:OF}{φ a:Ren}{f:ajH}{s:Bool}{xs ys:List Item}(h:gS P φ f s xs ys)(k:Ren.le φ a):gS P a f s xs ys:=by induction h with|nil=>exact .nil|cons h _ b=>exact .cons (h.mono k) b|stop e=>exact .stop e
inductive IJ:FrameMode->FrameMode->Prop
 |run:IJ .run .run
 |returning:IJ .returning .returning
structure eT(P:OF)(φ:Ren)(fr gt:ahY):Prop where
 fn:gt.fn=fr.fn
 tmps:cU φ (ah.lv fr.fn) fr.tmps gt.tmps
 todo:gS P φ fr.fn fr.roundOf.isNone fr.todo gt.todo
 defers:jr φ fr.defers gt.defers
 mode:IJ fr.mode gt.mode
 kind:fr.kind=.normal/\gt.kind=.normal
 round:rA φ fr.roundOf gt.roundOf
 jL:pd fr.fn
def rA.mono{φ a:Ren}{l l':Option Nat}(h:rA φ l l')(k:Ren.le φ a):rA a l l':=by cases h with|none=>exact .none|some h=>exact .some (k _ _ h)
def eT.mono{P:OF}{φ a:Ren}{fr gt:ahY}(h:eT P φ fr gt)(k:Ren.le φ a):eT P a fr gt:=⟨h.fn,h.tmps.mono k,h.todo.mono k,h.defers.mono k,h.mode,h.kind,h.round.mono k,h.jL⟩
inductive iC(P:OF)(φ:Ren):List ahY->List ahY->Prop
 |nil:iC P φ [] []
 |cons {x y:ahY} {xs ys:List ahY}:eT P φ x y->¬vN x->iC P φ xs ys->iC P φ (x::xs) (y::ys)
def iC.mono{P:OF}{φ a:Ren}{xs ys:List ahY}(h:iC P φ xs ys)(k:Ren.le φ a):iC P a xs ys:=by induction h with|nil=>exact .nil|cons h b _ c=>exact .cons (h.mono k) b c
section
variable{P:OF}{K:aI}{φ:Ren}
def z6:VR φ undef undef:=.tuple rfl λi x y a _=>by simp at a
def cU.getD{s:Nat->Prop}{xs ys:Array AS}(h:cU φ s xs ys)(i:Nat)(b:s i):VR φ (xs.getD i undef) (ys.getD i undef):=by
 rw[Array.getD_eq_getD_getElem?,Array.getD_eq_getD_getElem?];cases a:xs[i]? with
 |none=>
  have:ys[i]?=ns:=by rw[Array.getElem?_eq_none_iff] at a⊢;rw[<-h.size];exact a
  rw[this];exact z6
 |some x=>obtain⟨y,c,d⟩:=h.get b a;rw[c];exact d
def eT.eval{fr gt:ahY}(h:eT P φ fr gt)(b:gR φ):ER φ (ah.lv fr.fn) fr.eval gt.eval:=⟨λx a=>by
 cases x with
 |tmp t=>exact h.tmps.getD t a
 |const v=>exact a φ
 |global g=>exact .ptr ⟨b g a,rfl,rfl⟩
 |func f=>exact .func (.func f a) rfl (λi x y a _=>by simp at a) rfl (λi x y a _=>by simp at a),λ_=>rfl,λ_=>⟨rfl,rfl⟩,b⟩
def cU.yielded(h:cU φ s xs ys)(a:Array ajq)(j:Nat)(g:∀b d,a[j]?=an b->b.dst=an d->s d):yielded a ys j=yielded a xs j:=by
 unfold Go.yielded;cases i:a[j]? with
 |none=>rfl
 |some b=>
  simp only[Option.bind_some];cases hd:b.dst with
  |none=>rfl
  |some d=>
   have c:=g b d i hd;simp only[Option.bind_some];cases e:xs[d]? with
   |none=>
    have:ys[d]?=ns:=by rw[Array.getElem?_eq_none_iff] at e⊢;rw[<-h.size];exact e
    rw[this]
   |some x=>
    obtain⟨y,k,m⟩:=h.get c e;rw[k];cases m with
    |aX _ h=>cases y<;>first|rfl|exact absurd rfl (h.2.2 _)
    |_=>rfl
def cU.wanted(h:cU φ s xs ys){a:Array ajq}(hr:Gm P s a)(i:Nat):((a[i]?).map (Region.wanted · (Go.yielded a ys))).getD Ba=((a[i]?).map (Region.wanted · (Go.yielded a xs))).getD Ba:=by
 cases c:a[i]? with
 |none=>rfl
 |some o=>
  simp only[ajc,aii];unfold Region.wanted;cases d:o.guard with
  |none=>rfl
  |some p=>obtain⟨j,b⟩:=p;dsimp only;rw[h.yielded a j ((hr i o c).2 j b d)]
def eT.finish{fr gt:ahY}(h:eT P φ fr gt)(w:¬vN fr)(z:VR φ v v'):eT P φ (fr.finish v) (gt.finish v'):=by
 obtain⟨fn,tmps,todo,defers,mode,kind,round⟩:=fr;obtain⟨A,o,p,m,q,r,n⟩:=gt;obtain⟨h1,a,B,b,c,d,e,g⟩:=h;subst h1;unfold Frame.finish;cases B with
 |stop _=>exact absurd ⟨_,rfl⟩ w
 |nil=>exact⟨rfl,a,.nil,b,c,d,e,g⟩
 |@cons x y xs ys C j=>
  cases C with
  |inRegion todo k=>
   cases todo with
   |nil=>exact⟨rfl,a,.cons (.inRegion [] k) j,b,c,d,e,g⟩
   |cons i rest=>
    refine⟨rfl,?_,.cons (.inRegion rest k) j,b,c,d,e,g⟩;dsimp only;split
    ·exact a.set _ z
    ·exact a
  |tc D=>exact⟨rfl,a,.cons (.sP D) j,b,c,d,e,g⟩
  |beginRound=>exact⟨rfl,a,j,b,c,d,e,g⟩
  |code h=>exact⟨rfl,a,.cons (.code h) j,b,c,d,e,g⟩
  |inBlock id=>exact⟨rfl,a,.cons (.inBlock id) j,b,c,d,e,g⟩
  |inLoop h=>exact⟨rfl,a,.cons (.inLoop h) j,b,c,d,e,g⟩
  |inScope h=>exact⟨rfl,a,.cons (.inScope h) j,b,c,d,e,g⟩
  |sP h=>exact⟨rfl,a,.cons (.sP h) j,b,c,d,e,g⟩
end
end
section
variable[ah]
section
variable{P:OF}{K:aI}{φ:Ren}
def abt(id:Nat){s:Bool}{xs ys:List Item}(h:gS P φ f s xs ys):(exitTo id xs=ns/\(s=Ba->exitTo id ys=ns))\/∃a b,exitTo id xs=an a/\exitTo id ys=an b/\gS P φ f s a b:=by
 induction h with
 |stop e=>exact .inl ⟨rfl,λc=>by rw[e] at c;cases c⟩
 |nil=>exact .inl ⟨rfl,λ_=>rfl⟩
 |cons h i d=>
  cases h with
  |inBlock g=>
   unfold exitTo;split
   ·simp_all
   ·exact d
  |_=>exact d
def DV{f:ajH}(l:Nat):∀(c:ajd)(r:ajd),findLabel c l=an r->eI P f c->eI P f r
 |.seq a b,r,h,hc=>by
  unfold findLabel at h;cases d:findLabel a l with
  |none=>rw[d] at h;exact DV l b r h hc.2
  |some x=>rw[d] at h;cases h;exact⟨DV l a x d hc.1,hc.2⟩
 |.label l',r,h,_=>by
  unfold findLabel at h;split at h
  ·cases h;trivial
  ·cases h
 |.skip,r,h,_=>by cases h
 |.region _ _ _,r,h,_=>by cases h
 |.cond _ _ _,r,h,_=>by cases h
 |.block _ _,r,h,_=>by cases h
 |.loop _,r,h,_=>by cases h
 |.rangeFunc _ _ _ _,r,h,_=>by cases h
 |.exit _,r,h,_=>by cases h
 |.scope _,r,h,_=>by cases h
 |.goto _,r,h,_=>by cases h
 |.ret,r,h,_=>by cases h
 |.refuse _,r,h,_=>by cases h
def abu(l:Nat){s:Bool}{xs ys:List Item}(h:gS P φ f s xs ys):(gotoIn l xs=ns/\(s=Ba->gotoIn l ys=ns))\/∃a b,gotoIn l xs=an a/\gotoIn l ys=an b/\gS P φ f s a b:=by
 induction h with
 |stop e=>exact .inl ⟨rfl,λc=>by rw[e] at c;cases c⟩
 |nil=>exact .inl ⟨rfl,λ_=>rfl⟩
 |cons h i d=>
  cases h with
  |@inScope body g=>unfold gotoIn;cases j:findLabel body l with|none=>exact d|some r=>exact .inr ⟨_,_,rfl,rfl,.cons (.code (.same (DV l body r j g))) (.cons (.inScope g) i)⟩
  |_=>exact d
def qC(s:Nat->Prop):ResultVar->Prop
 |.tmp t=>s t
 |.cell a _=>s a
def dz(P:OF):Prop:=∀f,pd f->∃fn a,P.funcs[f]?=an fn/\P.two.funcs[f]?=an a/\a.results=fn.results/\a.ntmps=fn.ntmps/\(∀r∈fn.results,qC (ah.lv f) r)/\(∀i,ah.lv f i->i<fn.ntmps)/\
 ik P f AT (fn.body.getD (.refuse "unsupported: a function without a Go body is entered")) (a.body.getD (.refuse "unsupported: a function without a Go body is entered"))
def ef(P:OF):Prop:=∀f c,ah.cd f c->eI P f c
def vO(b:dz P){f:ajH}(d:ah.ok f){xs ys:Array AS}(h:aB φ xs ys):eT P φ (aid P f xs .normal) (aid P.two f ys .normal):=by
 obtain⟨fn,g,j,k,n,m,_,c,b⟩:=b f d;unfold aid;rw[j,k];refine⟨rfl,?_,.cons (.code b) .nil,.nil,.run,⟨rfl,rfl⟩,.none,d⟩;simp only[ajc,aii];rw[m,h.size];refine(h.append ⟨rfl,λi x y a e=>?_⟩).tmR λi hi=>by have:=c i hi;have:=h.size;simp;omega
 rw[a] at e;cases e;rw[Array.getElem?_replicate] at a;split at a
 ·cases a;exact z6
 ·cases a
def ac2(c:ef P)(d:φ l=an l')(h:cU φ (ah.lv f) xs ys){a b:ajd}(e:ah.cd f a)(g:ah.cd f b)(i:pd f):eT P φ (Frame.round l f xs a b .normal) (Frame.round l' f ys a b .normal):=
 ⟨rfl,h,.cons (.code (.same (c f a e))) (.cons .beginRound (.cons (.code (.same (c f b g))) .nil)),.nil,.run,⟨rfl,rfl⟩,.some d,i⟩
end
end
section
variable[ah]
open Go.Conc (G)
section
variable{P:OF}{K:aI}{φ:Ren}
def QJ{a:Ren}{p:ResultVar->Prop}{f f':ResultVar->Sem AS}(e:∀(φ:Ren),Ren.le a φ->∀r,p r->SR P K VR φ (f r) (f' r)):∀(l:List ResultVar)(φ:Ren),(∀r∈l,p r)->Ren.le a φ->SR P K ij φ (l.mapM f) (l.mapM f')
 |[],φ,_,_=>by simp only[List.mapM_nil];exact .pure .nil
 |r::l,φ,g,b=>by simp only[List.mapM_cons];refine SR.bind (e φ b r (g r au)) λh v v' c i=>?_;exact SR.bind (QJ e l h (λx j=>g x (by simp[j])) (Ren.le_trans b c)) λm vs k b d=>.pure (.cons (i.mono b) d)
def Eg(fn:Func)(c:∀r∈fn.results,qC s r)(h:cU φ s xs ys):SR P K VR φ (results fn xs) (results fn ys):=by
 unfold results;rw[akv,akv];refine SR.bind (R:=aB) (SR.bind (QJ (p:=qC s) (λg i r d=>?_) _ φ (λr d=>c r (jw.1 d)) (Ren.le_refl _)) λg j e _ b=>.pure b.toArray) λg j e _ b=>?_
 ·cases r with
  |tmp t=>exact .pure ((h.mono i).getD t d)
  |cell a t=>exact SR.bind (vB ((h.mono i).getD a d)) λk u u' _ hu=>vo t hu
 ·refine .pure ?_;have c:=b.size;split
  ·rename_i h1;rw[dif_pos (by rw[<-c];exact h1)];exact b.at_ 0 _ _ (eO aa) (eO aa)
  ·rename_i h1;rw[dif_neg (by rw[<-c];exact h1)];exact .tuple b.size b.at_
end
end
end Go.Proofs.Q0.aM
