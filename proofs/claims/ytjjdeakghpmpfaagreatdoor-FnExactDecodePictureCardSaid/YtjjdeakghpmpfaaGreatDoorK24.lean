import Derived.Test.YtjjdeakghpmpfaaGreatDoorK23
set_option maxRecDepth 100000
set_option maxHeartbeats 8000000
set_option linter.all false
open Go.Value renaming int->U,slice->Y,bool->a9,agg->a5,pointer->ci,tuple->dl,iface->em
open Go.IntKind renaming i64->O
open Go.Obj renaming cells->ac
open Go.Ending renaming returned->be
open Array renaming getElem?_eq_getElem->aiN,getElem?_push_lt->ajx,replicate->aiD
open Go renaming Addr->aiI,Frame->aiH,FuncId->akh,Goroutine->so,Program->Kx,TypeId->EV,Value->rl,World->ns,execOp->ait,run_underlying->alb,underlying->ajg
open Go.Conc renaming stepG_region_end->AT,stepG_skip->ajL
open Go.Frame renaming enter->aiy
open Go.Instr renaming field->ajR,loadAt->ajF,typeAssert->ajj
open Go.IntKind renaming i64->AS
open Go.Result renaming andThen->ajs
open Go.Sem renaming run_bind->aiC
open Go.World renaming cell?->aiW
open List renaming lookup->ajz
namespace Go.Proofs.Q0.Open
section
open Go.Conc (G stepG_seq stepG_region stepG_region_end stepG_cond stepG_skip stepG_block stepG_loop stepG_exit stepG_inLoop stepG_inBlock)
open aI
class aE extends ag where
 two:Gz.prog.two=Tryz.prog
 nx:∀f,¬ag.cd f SE
 fr:∀c c',ag.dH c c'<->c=iL/\c'=hZ
 hm:ag.home=40
 BR:∀d,ag.lv 40 d<->((kept d=true\/d=4)/\d<41)
variable[aE]
structure AtF(K:aF)(B:List aiH)(φ:Ren)(g:so)(wg:ns)(a:so)(w:ns) where
 b:aiH
 Z:Act
 Z':Act
 k:List Item
 k':List Item
 cs:List aiH
 cs':List aiH
 hg:g=G (b.at Z (.code iL::k)) (cs++[c0 Gz.prog])
 ha:a=G (b.at Z' (.code hZ::k')) (cs'++B)
 fn:b.fn=40
 kind:b.kind=.normal
 tm:cN φ (ag.lv 40) Z.tmps Z'.tmps
 todo:eK Gz.prog φ 40 true k k'
 defers:iZ φ Z.defers Z'.defers
 callers:dp Gz.prog φ cs cs'
 iU:ox 40
 heap:HR K φ wg.heap w.heap
 vars:ep φ
 bot:dv (b.at Z (.code iL::k)) cs
def Gr{P:Kx}{f:akh}:¬ee P f nA:=λh=>aE.nx f h.2.2.2.2.1
def acd{f:akh}{a:Code}{s:Bool}(h:gW Gz.prog f s iL a):a=hZ/\f=40/\s=true:=by
 cases h with
 |same h=>exact(Gr h.2.1.2.2).elim
 |seq _ b=>
  cases b with
  |same h=>exact(Gr h.1.2.2).elim
  |seq c _=>cases c with|same h=>exact(Gr h.2.2).elim|dH h=>have:=((aE.fr _ _).1 h).1;unfold iL at this;cases this
  |dH h=>have:=((aE.fr _ _).1 h).1;unfold iL at this;cases this
 |dH h d e=>exact⟨((aE.fr _ _).1 h).2,d.trans aE.hm,e⟩
def Qa{fr:aiH}(hm:fr.mode=.run)(hr:fr.roundOf=none):fr=fr.at ⟨fr.tmps,fr.defers⟩ fr.todo:=by obtain⟨⟩:=fr;subst hm;subst hr;rfl
theorem adS{K:aF}{B:List aiH}{φ:Ren}{g a:so}{wg w:ns}(t:dE Gz.prog K B φ g wg a w)(u:sI g):Nonempty (AtF K B φ g wg a w):=by
 obtain⟨fr,b,v,i,rfl,rfl,d,j,x,z,C⟩:=t;obtain⟨hm,c,D,k,e,l⟩:=u;have hm:fr.mode=.run:=hm;have e:fr.todo=.code c::k:=e;obtain⟨hc,rfl⟩:=(aE.fr _ _).1 l
 have n:b.mode=.run:=by have:=d.mode;rw[hm] at this;generalize b.mode=m at this;cases this;rfl
 have h1:=d.todo;rw[e] at h1;generalize E:b.todo=f at h1;generalize F:fr.roundOf.isNone=s at h1;cases h1 with
 |stop=>unfold iL at hc;cases hc
 |@cons _ y _ f o A=>
  cases o with
  |@code _ G o=>
   subst hc;obtain⟨rfl,h,rfl⟩:=acd o;have q:fr.roundOf=none:=eg
   have p:b.roundOf=none:=by have:=d.round;rw[q] at this;generalize b.roundOf=m at this;cases this;rfl
   have r:=Qa hm q;have H:=Qa n p;rw[e] at r
   have I:b.at ⟨b.tmps,b.defers⟩ (.code hZ::f)=fr.at ⟨b.tmps,b.defers⟩ (.code hZ::f):=by simp only[Frame.at];rw[d.fn,d.kind.1,d.kind.2]
   refine⟨⟨fr,⟨fr.tmps,fr.defers⟩,⟨b.tmps,b.defers⟩,k,f,v,i,?_,?_,h,d.kind.1,by rw[<-h];exact d.tmps,by rw[<-h];exact A,d.defers,j,by rw[<-h];exact d.iU,x,z,?_⟩⟩
   ·rw[<-r]
   ·grind
   ·grind
end
end Go.Proofs.Q0.Open
namespace Go.Proofs.Q0.aI
section
variable[ag]
section
variable{P:Kx}{K:aF}{φ:Ren}{w:ns}{h':Array Obj}{a a':aiI}
def Qb(c:HR K φ w.heap h')(d:AR φ a a'){v:rl}{b:ns}(hr:(load a).run P w=.ok v b):b=w/\w.cell? a=some v:=by
 cases hc:w.cell? a with
 |some u=>simp_all
 |none=>obtain⟨e,he⟩:=HR.Rs (P:=P) (w':={w with heap:=h'}) c d (Mode.plain==Mode.atomic);have:(load a).run P w=.halt e w:=eg;rw[this] at hr;cases hr
theorem XI(g:HR K φ w.heap h')(h:AR φ a a'):∀(n i:Nat)(acc xs:Array rl)(c:ns),(loadCellsFrom a i n acc).run P w=.ok xs c->c=w/\xs.size=acc.size+n/\(∀j,j<acc.size->xs[j]?=acc[j]?)/\∀j,j<n->w.cell? (a.add (i+j))=xs[acc.size+j]?:=by
 intro n
 induction n with
 |zero=>intro i acc xs c b;cases b;exact⟨rfl,rfl,λ_ _=>rfl,λj d=>absurd d (gG j)⟩
 |succ n k=>
  intro i acc xs c b;unfold loadCellsFrom at b;rw[aiC] at b;cases e:(load (a.add i)).run P w with
  |halt x l=>rw[e] at b;cases b
  |ok v l=>rw[e] at b;obtain⟨rfl,hc⟩:=Qb g (h.add i) e;obtain⟨h1,m,f,o⟩:=k (i+1) (acc.push v) xs c b;simp only[Array.size_push] at m f o;refine⟨h1,aa,λj d=>(f j aa).trans (by rw[ajx d,<-aiN d]),λj d=>?_⟩;cases j with|zero=>simp_all|succ j=>grind
def Mw(c:HR K φ w.heap h')(d:AR φ a a'){n:Nat}{xs:Array rl}{b:ns}(hr:(loadCells a n).run P w=.ok xs b):b=w/\xs.size=n/\∀j,j<n->w.cell? (a.add j)=xs[j]?:=by obtain⟨h1,e,_,f⟩:=XI c d n 0 #[] xs b hr;exact⟨h1,by simpa using e,λj g=>by have:=f j g;simpa using this⟩
def aaw{w:ns}{a:aiI}{v:rl}(h:w.cell? a=some v):a.spot=none:=by
 obtain⟨b,o,s⟩:=a;cases s with
 |none=>rfl
 |some x=>simp[aiW] at h;split at h<;>cases h
end
end
end Go.Proofs.Q0.aI
namespace Go.Proofs.Q0.Open
open Go.Proofs.Tryz
variable{w1 wg w:ns}{v x x':rl}{h':Array Obj}{t:EV}{P:Kx}
section
open Go.Conc (G stepG_seq stepG_region stepG_region_end stepG_cond stepG_skip stepG_block stepG_loop stepG_exit stepG_inLoop stepG_inBlock)
open aI
variable[aE]
section
variable{K:aF}{φ:Ren}{Q:so->Array Obj->Prop}{b:aiH}{Z Z':Act}{k:List Item}{cs:List aiH}{wg w:ns}
def aax(s:HR K φ wg.heap h'){v':rl}(u:VR φ v v')(hr:(ajF 33 v).run Gz.prog wg=.ok x w1):
  w1=wg/\∃f g x0 j l m n,v=.pointer (some f)/\v'=.pointer (some g)/\AR φ f g/\x=.agg #[x0,j,l,m,n]/\wg.cell? f=some x0/\wg.cell? (f.add 1)=some j/\wg.cell? (f.add 2)=some l/\wg.cell? (f.add 3)=some m/\wg.cell? (f.add 4)=some n:=by
 cases u with
 |@ptr f g q=>
  have e:(ajF 33 (.pointer (some f))).run Gz.prog wg=((loadCells f 5).run Gz.prog wg).andThen λxs w=>.ok (.agg xs) w:=by simp[go_sem,ajF,loadVar,Instr.sureAddr]
  rw[e] at hr;cases p:(loadCells f 5).run Gz.prog wg with
  |halt y z=>rw[p] at hr;cases hr
  |ok xs z=>
   rw[p] at hr;obtain⟨rfl,A,c⟩:=Mw s q p;cases hr;obtain⟨xs⟩:=xs
   match xs,A with
   |[x0,j,l,m,n],_=>refine⟨rfl,f,g,x0,j,l,m,n,rfl,rfl,q,rfl,?_,c 1 aa,c 2 aa,c 3 aa,c 4 aa⟩;have:=c 0 aa;simpa[Addr.add] using this
 |_=>exact absurd hr (λh=>by simp[ajF,Instr.sureAddr,go_sem] at h)
def sZ(op:BinOp)(t:EV)(x y:Operand)(a b:rl):Sem rl:=(eqGuard op t x y a b).bind λ_=>binOp op t a b
def FB{p:Operand}(g:VR φ x x')(hr:(sZ .quo 3 p (ei 8) x (U O 8)).run Gz.prog wg=.ok v w1):w1=wg/\∃W,x=U O W/\v=U O (AS.wrap (W.tdiv 8)):=by
 have e:(sZ .quo 3 p (ei 8) x (U O 8)).run Gz.prog wg=(binOp .quo 3 x (U O 8)).run Gz.prog wg:=aD;rw[e] at hr;cases g with
 |int c n=>
  by_cases f:c=.i64
  ·subst f;cases hr;exact⟨rfl,n,rfl,rfl⟩
  ·have:(binOp .quo 3 (.int c n) (U O 8)).run Gz.prog wg=.halt (.stuck "BinOp: operands of different kinds") wg:=by unfold binOp;simp[f,go_sem,stuck]
   rw[this] at hr;cases hr
 |_=>exact absurd hr (λh=>by cases h)
def adT(c:VR φ x x')(hr:(Op.unary .not x).run Gz.prog wg=.ok v w1):w1=wg/\∃I,x=.bool I:=by cases c with|bool t=>cases hr;exact⟨rfl,t,rfl⟩|_=>exact absurd hr (λh=>by cases h)
def Rb{e:EV}(f:Gz.prog.underlying t=some (.slice e))(g:VR φ x x'){ty:EV}(hr:(Builtin.len_ #[t] ty #[x]).run Gz.prog wg=.ok v w1):w1=wg/\∃p n c,x=.slice p n c/\v=U O n:=by have hu:∀w,(ajg t).run Gz.prog w=.ok (.slice e) w:=λw=>alb f w;unfold Builtin.len_ at hr;simp only[List.getElem?_toArray,List.getElem?_cons_zero] at hr;rw[aiC,hu] at hr;cases g with|dk n c=>cases hr;exact⟨rfl,none,n,c,rfl,rfl⟩|slice n c h=>cases hr;exact⟨rfl,_,n,c,rfl,rfl⟩|empty=>cases hr;exact⟨rfl,_,0,0,rfl,rfl⟩|_=>exact absurd hr (λh=>by cases h)
def aay {w:ns} : ∀ (l : List rl) (s s' : ByteArray) (w1 : ns), (forIn l s (fun c r => do
      let .int .u8 n := c | stuck "bytesToString: byte expected"
      pure (ForInStep.yield (r.push (UInt8.ofNat n.toNat)))) : Sem ByteArray).run P w = .ok s' w1 → w1 = w ∧ s'.size = s.size + l.length ∧ ∀ c ∈ l, ∃ n, c = .int .u8 n := by
  intro l
  induction l with
  | nil => intro s s' w1 h; simp only [List.forIn_nil] at h; cases h; exact ⟨rfl, rfl, by simp⟩
  | cons c l e =>
    intro s s' w1 h;rw [List.forIn_cons, aiC] at h;cases c with
    | int f n =>
      cases f with
      | u8 =>
        obtain ⟨h1, g, j⟩ := e (s.push (UInt8.ofNat n.toNat)) s' w1 h;refine ⟨h1, by rw [g, ByteArray.size_push, List.length_cons]; omega, fun c hc => ?_⟩;rcases kT.1 hc with rfl | hc
        ·simp
        ·simp_all
      | _ => cases h
    | _ => cases h
def ace(D:HR K φ wg.heap h'){p:Option aiI}{m c:Nat}(E:VR φ (.slice p m c) x')(hr:(convert 52 9 (.slice p m c)).run Gz.prog wg=.ok v w1):
  w1=wg/\∃s,v=.string s/\((p=none/\s.size=0)\/∃e,p=some e/\s.size=m/\∀j,j<m->∃n,wg.cell? (e.add j)=some (.int .u8 n)):=by
 have h:∀w,(ajg 52).run Gz.prog w=.ok (.slice 5) w:=λw=>(Gz.Ey _ _).trans (runUnderlying52 w);have l:∀w,(ajg 9).run Gz.prog w=.ok .string w:=λw=>(Gz.Ey _ _).trans (runUnderlying9 w);have f:∀w,(ajg 5).run Gz.prog w=.ok (.int .u8) w:=λw=>(Gz.Ey _ _).trans (runUnderlying5 w);unfold convert at hr;rw[aiC,h] at hr;simp only[ajs] at hr;rw[aiC,l] at hr;simp only[ajs] at hr;cases E with
 |dk n c=>rw[aiC,f] at hr;cases hr;exact⟨rfl,.empty,rfl,.inl ⟨rfl,rfl⟩⟩
 |@empty e u=>rw[aiC,f] at hr;cases hr;exact⟨rfl,.empty,rfl,.inr ⟨e,rfl,rfl,λj z=>absurd z (gG _)⟩⟩
 |@slice e u _ _ G=>
  rw[aiC,f] at hr;simp only[ajs] at hr;unfold Conv.bytesToString at hr;simp only at hr;rw[aiC] at hr;cases A:(loadCells e m).run Gz.prog wg with
  |halt y C=>rw[A] at hr;cases hr
  |ok xs C=>
   rw[A] at hr;obtain⟨rfl,H,g⟩:=Mw D G A;simp only[ajs] at hr;rw[aiC,<-Array.forIn_toList] at hr;generalize hq:(Sem.run Gz.prog (forIn xs.toList ByteArray.empty _) C)=q at hr;cases q with
   |halt y w3=>cases hr
   |ok s w3=>
    cases hr;obtain⟨h1,I,J⟩:=aay _ _ _ _ hq;refine⟨h1,s,rfl,.inr ⟨e,rfl,?_,λj z=>?_⟩⟩
    ·rw[I];simp[H]
    ·have B:j<xs.size:=by omega
     obtain⟨y,hm⟩:=J (xs[j]) aj;exact⟨y,by rw[g j z,aiN B,hm]⟩
end
end
section
open Go.Conc (G stepG_seq stepG_region stepG_region_end stepG_cond stepG_skip stepG_block stepG_loop stepG_exit stepG_inLoop stepG_inBlock stepG_value stepG_none)
open aI
variable[aE]
def aaz(x0 c e f g:rl)(w:ns):
  (ajR 33 (.agg #[x0,c,e,f,g]) 0).run Gz.prog w=.ok x0 w/\(ajR 33 (.agg #[x0,c,e,f,g]) 1).run Gz.prog w=.ok c w/\(ajR 33 (.agg #[x0,c,e,f,g]) 2).run Gz.prog w=.ok e w/\
  (ajR 33 (.agg #[x0,c,e,f,g]) 3).run Gz.prog w=.ok f w/\(ajR 33 (.agg #[x0,c,e,f,g]) 4).run Gz.prog w=.ok g w:=by
 refine⟨?_,?_,?_,?_,?_⟩<;>kernel_rfl
def Rc{φ:Ren}{y:rl}(h:VR φ x y):ax φ #[x] #[y]:=⟨rfl,λi a b c e=>by
 cases i with
 |zero=>simp at c e;subst c;subst e;exact h
 |succ i=>simp at c⟩
def aaA{K:aF}{φ:Ren}{Q:so->Array Obj->Prop}{b:aiH}{a:Act}{k:List Item}{cs:List aiH}(hG:K.G=Gz.prog.globals.size)(f:b.kind≠.early)(g:HR K φ wg.heap w.heap)(c:bE Gz.prog Q (G (b.at a (.code nA::k)) cs) wg):False:=by obtain⟨_,c⟩:=c.to (px λ_ e=>by cases e) stepG_seq;obtain⟨_,c⟩:=c.to (px λ_ e=>by cases e) stepG_region;obtain⟨v,w1,j,_⟩:=c.inv f (o:=aP (some 5) 3 (.binOp .add 3 (.const (.bool true)) (ei 0) 3)) (s:=sZ .add 3 (.const (.bool true)) (ei 0) (.bool true) (U O 0)) rfl rfl rfl (FX hG _ _ _ _ (λh=>by simp at h) (.bool true) (.int _ _)) g;cases j
def Et{K:aF}{φ:Ren}(c:∀w,(isAgg t).run Gz.prog w=.ok false w)(f:HR K φ wg.heap h'){p p':aiI}(g:AR φ p p')(hr:(ajF t (.pointer (some p))).run Gz.prog wg=.ok x w1):w1=wg/\wg.cell? p=some x:=by
 have e:(ajF t (.pointer (some p))).run Gz.prog wg=(load p).run Gz.prog wg:=by show(isAgg t>>=λq=>if q=true then _ else load p).run Gz.prog wg=_;rw[aiC,c];rfl
 rw[e] at hr;exact Qb f g hr
def Sa(w:ns):(isAgg 143).run Gz.prog w=.ok false w:=aj
def F2:Gz.prog.underlying 233=some (.pointer 259):=aj
def acf{d:TypeDesc}{α:Type}{f:TypeDesc->Sem α}(h:P.underlying t=some d):(ajg t>>=f).run P w=(f d).run P w:=by have e:(ajg t>>=f).run P w=((match P.underlying t with|some d=>pure d|none=>stuck "no such type" :Sem TypeDesc).bind f).run P w:=rfl;rw[e,h];rfl
def Yn{φ:Ren}(g:VR φ x x')(hr:(ajj x 143 233 false).run Gz.prog w=.ok v w1):w1=w/\x=.iface 233 v:=by
 have e:(ajj x 143 233 false).run Gz.prog w=(match TypeDesc.pointer 259,x with
   |.interface _,.nilIface=>(runtimePanic (.typeAssertion none none 233 ""):Sem rl)
   |.interface c,.iface t _=>typeInfo t>>=λj=>match Instr.missingMethod c j.methods with
    |none=>pure x
    |some m=>runtimePanic (.typeAssertion none (some t) 233 m)
   |_,.nilIface=>runtimePanic (.typeAssertion (some 143) none 233 "")
   |_,.iface t v=>if t=233 then pure v else runtimePanic (.typeAssertion (some 143) (some t) 233 "")
   |_,_=>stuck "TypeAssert: interface value expected").run Gz.prog w:=by
  exact acf F2
 rw[e] at hr
 have f:∀{u:RuntimeError},(runtimePanic u:Sem rl).run Gz.prog w=.ok v w1->False:=λ{u} h=>by obtain⟨_,_,l,_⟩:=dB (P:=Gz.prog) (α:=rl) u w;rw[l] at h;cases h
 cases g with
 |iface t h p=>
  by_cases n:t=233
  ·simp_all
  ·simp_all
 |nilIface=>exact(f hr).elim
 |_=>cases hr
structure EF(φ:Ren)(wg:ns)(g:Nat)(a:aiI):Prop where
 cell:wg.cell? ⟨g,0,none⟩=some (.iface 233 (.pointer (some a)))
 cl:ag.cl a.block
 j6:∃c,φ a.block=some c
def Ta{K:aF}{φ:Ren}{g:Nat}(e:nu Gz.prog)(f:VR φ x x')(hc:wg.cell? ⟨g,0,none⟩=some x)(hr:(ajj x 143 233 false).run Gz.prog w=.ok v w1):
  w1=w/\∃a,v=.pointer (some a)/\EF φ wg g a:=by
 obtain⟨j,rfl⟩:=Yn f hr;refine⟨j,?_⟩;cases f with
 |iface t h p=>
  rcases p with p|⟨a,rfl,p⟩|p
  ·obtain⟨n,c⟩:=e.1 _ p;cases n with|zero=>cases c|succ n=>unfold flat at c;rw[F2] at c;cases c
  ·cases h with|ptr h=>exact⟨a,rfl,hc,p,_,h.block⟩
  ·exact absurd F2 (e.2 _ p.1 _)
structure CF(K:aF)(φ:Ren)(wg w:ns)(ca z':aiI)(W H Qq:Int)(I:Bool)(sa:Option aiI)(n c:Nat):Prop where
 ar:AR φ ca z'
 cW:wg.cell? ca=some (U O W)
 cH:wg.cell? (ca.add 1)=some (U O H)
 cI:wg.cell? (ca.add 2)=some (.bool I)
 cQ:wg.cell? (ca.add 3)=some (U O Qq)
 cS:wg.cell? (ca.add 4)=some (.slice sa n c)
 rW:w.cell? z'=some (U O W)
 rH:w.cell? (z'.add 1)=some (U O H)
 rI:w.cell? (z'.add 2)=some (.bool I)
 rQ:w.cell? (z'.add 3)=some (U O Qq)
 rS:∃y,w.cell? (z'.add 4)=some y/\VR φ (.slice sa n c) y
def gl(W H e:Int)(I:Bool)(sa:Option aiI)(n c i:Nat):List (Nat×rl):=[(13,.agg #[U O W,U O H,.bool I,U O e,.slice sa n c]),(15,.slice sa n c),(16,U O n),(21,U O (AS.wrap (W.tdiv 8))),(24,.bool I),(22,U O i)]
section
variable{K:aF}{φ:Ren}{Q:so->Array Obj->Prop}{b:aiH}{Z Z' a:Act}{k it Vi:List Item}{cs:List aiH}{wg w:ns}{x0:so×ns}{F:List (Nat×rl)}{ops:Array Oper}{i d:Nat}{r:List Nat}{t:EV}{o:Op}{w1:ns}
structure At(Q:so->Array Obj->Prop)(b:aiH)(cs:List aiH)(x0:so×ns)(Z:Act)(F:List (Nat×rl))(it:List Item)(a:Act)(wg:ns):Prop where
 z:Sz Z a
 d:a.defers=Z.defers
 k:∀e,kept e=true->a.tmps[e]?=Z.tmps[e]?
 f:∀e v,F.lookup e=some v->a.tmps[e]?=some v
 w:bE Gz.prog Q (G (b.at a it) cs) wg
 n:fq Gz.prog (G (b.at a it) cs,wg) x0
def At.to{x:Item}{es:Array Event}(h:At Q b cs x0 Z F (x::it) a wg)(f:stepG Gz.prog true (G (b.at a (x::it)) cs) wg=.go (G (b.at a Vi) cs) w1 es)(g:∀c,x≠.code (.refuse c):=by intro _ e;cases e):At Q b cs x0 Z F Vi a w1:=
 have⟨n,w⟩:=h.w.to (px g) f
 {h with w:=w,n:=h.n.next n}
def At.rg(l:List Nat){n:Nat}(h:At Q b cs x0 Z F (.code (.region n ops false)::it) a wg)(c:List.range ops.size=l:=by kernel_rfl):At Q b cs x0 Z F (.inRegion ops l::it) a wg:=c▸h.to stepG_region
def At.sub(h:At Q b cs x0 Z F it a wg)(c:List (Nat×rl))(hF:∀p∈c,F.lookup p.1=some p.2:=by repeat(first|exact List.forall_mem_nil _|refine List.forall_mem_cons.2 ⟨rfl,?_⟩)):At Q b cs x0 Z c it a wg:=
 {h with f:=λe v g=>h.f e v (by
  induction c with
  |nil=>cases g
  |cons p c j=>
   rw[List.lookup_cons] at g;split at g
   ·simp_all
   ·exact j (λq hq=>hF q (.tail _ hq)) g)}
def At.tm(h:At Q b cs x0 Z F it a wg)(hi:(F.lookup i).isSome=true):a.tmps[i]?=F.lookup i:=by obtain⟨v,c⟩:=pe.1 hi;rw[h.f _ _ c,c]
def At.ev(h:At Q b cs x0 Z F it a wg)(hi:(F.lookup i).isSome=true):a.eval (.tmp i)=(F.lookup i).getD undef:=by exact Ld
def At.put{z:List Item}(h:At Q b cs x0 Z F z a wg)(hd:(!kept d&&decide (d<41))=true)(hw:bE Gz.prog Q (G (b.at (a.put (some d) v) it) cs) w1)(c:fq Gz.prog (G (b.at (a.put (some d) v) it) cs,w1) x0):∃a',At Q b cs x0 Z ((d,v)::F) it a' w1:=by
 simp only[Bool.and_eq_true,Bool.not_eq_true',decide_eq_true_eq] at hd;refine⟨a.put (some d) v,h.z.put,h.d,λe he=>(m7 λx=>?_).trans (h.k e he),λe u hu=>?_,hw,c⟩
 ·simp_all
 ·exact Lc
def At.j7(v:rl)(w1:ns)(h:At Q b cs x0 Z F (.inRegion ops (i::r)::it) a wg)(c:b.kind≠.early)(f:ops[i]?=some (aP (some d) t o):=by exact rfl)(hd:(!kept d&&decide (d<41))=true:=by decide)
  (hr:(ait a.eval (aP (some d) t o)).run Gz.prog wg=.ok (.value v) w1):∃a',At Q b cs x0 Z ((d,v)::F) (.inRegion ops r::it) a' w1:=
 have⟨n,w⟩:=h.w.to (px λ_ e=>by cases e) (stepG_value f rfl c hr)
 h.put hd w (h.n.next n)
def At.op(v:rl)(h:At Q b cs x0 Z F (.inRegion ops (i::r)::it) a wg)(c:b.kind≠.early)(e:ops[i]?=some (aP (some d) t o):=by exact rfl)(hd:(!kept d&&decide (d<41))=true:=by decide)
  (hr:(ait a.eval (aP (some d) t o)).run Gz.prog wg=.ok (.value v) wg:=by(simp only[execOp,aP];simp[go_sem,ei,h.tm,List.lookup,gl, *])):∃a',At Q b cs x0 Z ((d,v)::F) (.inRegion ops r::it) a' wg:=h.j7 v wg c e hd hr
def At.nil(w1:ns)(h:At Q b cs x0 Z F (.inRegion ops (i::r)::it) a wg)(c:b.kind≠.early)(e:ops[i]?=some (aP none t o):=by exact rfl)(hr:(ait a.eval (aP none t o)).run Gz.prog wg=.ok .skip w1):At Q b cs x0 Z F (.inRegion ops r::it) a w1:=
 h.to (stepG_none e rfl c hr)
def At.inv{s s':Sem rl}(h:At Q b cs x0 Z F (.inRegion ops (i::r)::it) a wg)(c:b.kind≠.early)(f:HR K φ wg.heap w.heap)(g:SR Gz.prog K VR φ s s')(he:ait a.eval (aP (some d) t o)=s.bind λv=>.pure (.value v))(j:ops[i]?=some (aP (some d) t o):=by exact rfl)
  (hd:(!kept d&&decide (d<41))=true:=by decide):∃v w1,s.run Gz.prog wg=.ok v w1/\(w1=wg->∃a',At Q b cs x0 Z ((d,v)::F) (.inRegion ops r::it) a' wg):=by
 obtain⟨v,w1,l,n,hw⟩:=h.w.inv c j rfl he g f;exact⟨v,w1,l,λe=>by subst e;exact h.put hd hw (h.n.next n)⟩
def At.inv1{s s':Sem rl}{u:rl}(x:Nat)(h:At Q b cs x0 Z F (.inRegion ops (i::r)::it) a wg)(c:b.kind≠.early)(g:HR K φ wg.heap w.heap)(j:SR Gz.prog K VR φ s s')(l:F.lookup x=some u:=by rfl)(m:ops[i]?=some (aP (some d) t o):=by exact rfl)
  (he:a.eval (.tmp x)=u->ait a.eval (aP (some d) t o)=s.bind λv=>.pure (.value v):=by(intro e;simp only[execOp,aP,e];rfl))(hd:(!kept d&&decide (d<41))=true:=by decide):
  ∃v w1,s.run Gz.prog wg=.ok v w1/\(w1=wg->∃a',At Q b cs x0 Z ((d,v)::F) (.inRegion ops r::it) a' wg):=h.inv c g j (he (lD (h.f _ _ l))) m hd
def At.oU(u:Bool){x y c:Code}(h:At Q b cs x0 Z F (.code (.seq (.cond (.tmp i) x y) c)::it) a wg)(e:F.lookup i=some (.bool u):=by rfl):At Q b cs x0 Z F ((if u=true then .code x else .code y)::.code c::it) a wg:=by have h:=(h.to stepG_seq).to (stepG_cond (t:=u) (lD (h.f _ _ e)));cases u<;>exact h
def At.yes{u:Bool}{c:Code}(h:At Q b cs x0 Z F (.code (.seq (.cond (.tmp i) .skip nA) c)::it) a wg)(hG:K.G=Gz.prog.globals.size)(e:b.kind≠.early)(f:HR K φ wg.heap w.heap)(g:F.lookup i=some (.bool u):=by rfl):u=true/\At Q b cs x0 Z F (.code c::it) a wg:=by have h:=h.oU u g;cases u with|false=>exact(aaA hG e f h.w).elim|true=>exact⟨rfl,h.to ajL⟩
def Sb{x:Nat}{d:Option Nat}(h:a.tmps[x]?=some v):ait a.eval (aP d 3 (.call {callee:=.builtin .len,args:=#[.tmp x],argTypes:=#[t]}))=(Builtin.len_ #[t] 3 #[v]).bind λv=>.pure (.value v):=by have e:=lD h;unfold ait;simp only[aP,resolve];simp[e,invoke];rfl
def adU(hG:K.G=Gz.prog.globals.size)(g:b.kind≠.early)(j:HR K φ wg.heap w.heap)(hz:Sz Z Z)(u:VR φ (Z.eval (.tmp 1)) (Z'.eval (.tmp 1)))(hv:ep φ)(L:ag.gl 0)(M:ag.gl 1)(z:bZ Gz.prog)(A:nu Gz.prog)(hW:bE Gz.prog Q (G (b.at Z (.code iL::k)) cs) wg):
  ∃E p W H J I sa n c a,Z.eval (.tmp 1)=.pointer (some E)/\Z'.eval (.tmp 1)=.pointer (some p)/\CF K φ wg w E p W H J I sa n c/\1<=n/\n<=4/\(∃a1 a2,EF φ wg 0 a1/\EF φ wg 1 a2)/\
   At Q b cs (G (b.at Z (.code iL::k)) cs,wg) Z (gl W H J I sa n c 0) (.code (.seq (.block 50 (.loop gB)) (.seq (.region 64 gM false) (.seq (.block 51 (.loop gD)) du)))::k) a wg:=by
 have h:At Q b cs (G (b.at Z (.code iL::k)) cs,wg) Z [] (.code iL::k) Z wg:=⟨hz,rfl,λ_ _=>rfl,λ_ _ h=>(by cases h),hW,.inl rfl⟩;replace h:=(h.to stepG_seq).rg [0,1,2,3,4,5,6,7,8,9,10,11,12,13,14,15,16,17];obtain⟨v,w1,l,h⟩:=h.inv g j (uL _ u) rfl;obtain⟨e,E,p,x0,N,R,S,x4,e1,e2,m,rfl,c0,c1,c2,c3,c4⟩:=aax j u l;obtain⟨a,h⟩:=h e;obtain⟨y0,q0,T,_⟩:=HR.cell (w:=wg) (w':=w) j m c0;obtain⟨y1,q1,V,_⟩:=HR.cell (w:=wg) (w':=w) j (m.add 1) c1;obtain⟨y2,q2,X,_⟩:=HR.cell (w:=wg) (w':=w) j (m.add 2) c2;obtain⟨y3,q3,r3,_⟩:=HR.cell (w:=wg) (w':=w) j (m.add 3) c3;obtain⟨y4,q4,r4,_⟩:=HR.cell (w:=wg) (w':=w) j (m.add 4) c4;obtain⟨f0,f1,f2,f3,f4⟩:=aaz x0 N R S x4 wg;have q:∀{x y:rl},VR φ x y->_:=λ{x y}(r:VR φ x y)=>FX (P:=Gz.prog) hG .quo 3 (.tmp 20) (ei 8) (λh=>by simp at h) r (.int .i64 8);obtain⟨a,h⟩:=h.op x4 g;obtain⟨a,h⟩:=h.op x0 g;obtain⟨v,w1,l,h⟩:=h.inv1 20 (s:=sZ .quo 3 (.tmp 20) (ei 8) x0 (.int .i64 8)) g j (q T);obtain⟨e,W,rfl,rfl⟩:=FB T l;obtain⟨a,h⟩:=h e;obtain⟨a,h⟩:=h.op N g;obtain⟨v,w1,l,h⟩:=h.inv1 20 (s:=sZ .quo 3 (.tmp 20) (ei 8) N (.int .i64 8)) g j (q V);obtain⟨e,H,rfl,rfl⟩:=FB V l;obtain⟨a,h⟩:=h e;obtain⟨a,h⟩:=h.op S g;obtain⟨v,w1,l,h⟩:=h.inv1 20 (s:=sZ .quo 3 (.tmp 20) (ei 8) S (.int .i64 8)) g j (q r3);obtain⟨e,J,rfl,rfl⟩:=FB r3 l;obtain⟨a,h⟩:=h e;obtain⟨a,h⟩:=h.op R g;obtain⟨v,w1,l,h⟩:=h.inv1 24 (s:=Op.unary .not R) g j (PU .not X);obtain⟨e,I,rfl⟩:=adT X l;obtain⟨a,h⟩:=h e;obtain⟨v,w1,l,h⟩:=h.inv g j (FU _ _ (Rc r4)) (Sb (h.f _ _ rfl));obtain⟨e,sa,n,c,rfl,rfl⟩:=Rb ((Gz.under _).trans underlying22) r4 l;obtain⟨a,h⟩:=h e;obtain⟨a,h⟩:=h.op (.bool (decide ((n:Int)<5))) g;obtain⟨a,h⟩:=h.op (.bool (decide (0<(n:Int)))) g;obtain⟨a,h⟩:=h.op (.int .i64 0) g;have l1:AR φ ⟨0,0,none⟩ ⟨0,0,none⟩:=⟨hv _ L,rfl,rfl⟩;have l2:AR φ ⟨1,0,none⟩ ⟨1,0,none⟩:=⟨hv _ M,rfl,rfl⟩;obtain⟨v1,w1,l,h⟩:=h.inv g j (uL 143 (.ptr l1)) rfl;obtain⟨e,B⟩:=Et Sa j l1 l;obtain⟨a,h⟩:=h e;obtain⟨_,_,C,_⟩:=HR.cell (w:=wg) (w':=w) j l1 B;obtain⟨v,w1,l,h⟩:=h.inv1 17 g j (Dt z 143 233 false C);obtain⟨e,a1,rfl,xf⟩:=Ta (K:=K) A C B l;obtain⟨a,h⟩:=h e;obtain⟨v2,w1,l,h⟩:=h.inv g j (uL 143 (.ptr l2)) rfl;obtain⟨e,D⟩:=Et Sa j l2 l;obtain⟨a,h⟩:=h e;obtain⟨_,_,C,_⟩:=HR.cell (w:=wg) (w':=w) j l2 D;obtain⟨v,w1,l,h⟩:=h.inv1 19 g j (Dt z 143 233 false C);obtain⟨e,a2,rfl,xg⟩:=Ta (K:=K) A C D l;obtain⟨a,h⟩:=h e;obtain⟨h5,h⟩:=(h.to AT).yes hG g j;obtain⟨h1,h⟩:=h.yes hG g j;have h5:=of_decide_eq_true h5;have h1:=of_decide_eq_true h1;exact⟨E,p,W,H,J,I,sa,n,c,a,e1,e2,⟨m,c0,c1,c2,c3,c4,by cases T;exact q0,by cases V;exact q1,by cases X;exact q2,by cases r3;exact q3,y4,q4,r4⟩,aa,aa,⟨_,_,xf,xg⟩,h.sub _⟩
end
end
section
open Go.Conc (G stepG_seq stepG_region stepG_region_end stepG_cond stepG_skip stepG_block stepG_loop stepG_exit stepG_inLoop stepG_inBlock stepG_value)
open aI
variable[aE]
def Wo{α:Type}(k:IntKind)(x y:Int)(c:BoundsCode):fh P (boundsPanic k x y c:Sem α):=by
 unfold boundsPanic;split
 ·exact eZ (λ_=>dB _) (mO yQ λ_=>jI)
 ·exact eZ (λ_=>dB _) jI
def ag1(wg:ns)(sa:aiI)(i:Nat):Prop:=∃p m c,wg.cell? (sa.add i)=some (.slice p m c)/\(m:Int)<9223372036854775808/\((p=none/\m=0)\/∃e,p=some e/\∀j,j<m->∃x,wg.cell? (e.add j)=some (.int .u8 x))/\m<=c/\(c:Int)<9223372036854775808
section
variable{K:aF}{φ:Ren}{Q:so->Array Obj->Prop}{b:aiH}{Z a:Act}{k:List Item}{cs:List aiH}{wg w:ns}
def adV{W H Qq:Int}{I:Bool}{sa:Option aiI}{n c:Nat}{R:Code}{y:rl}{x0:so×ns}(hG:K.G=Gz.prog.globals.size)(g:b.kind≠.early)(q:HR K φ wg.heap w.heap)(qK:n<=4)(hS:VR φ (.slice sa n c) y):
  ∀r i,i+r=n->∀a,At Q b cs x0 Z (gl W H Qq I sa n c i) (.code gB::.inLoop gB::.inBlock 50::.code R::k) a wg->
   (∀j,i<=j->j<n->∃l,sa=some l/\ag1 wg l j)/\∃a',At Q b cs x0 Z (gl W H Qq I sa n c n) (.code R::k) a' wg:=by
 intro r
 induction r with
 |zero=>intro i hi a h;obtain rfl:i=n:=aa;obtain⟨a,h⟩:=((h.to stepG_seq).rg [0]).op (.bool false) g;exact⟨λj h1 M=>absurd M (ph.2 h1),a,(((h.to AT).oU false).to (stepG_exit rfl)).sub _⟩
 |succ r ih=>
  intro i hi a h;have N:i<n:=aa;have D:(i:Int)<(n:Int):=aa;obtain⟨a,h⟩:=((h.to stepG_seq).rg [0]).op (.bool true) g;replace h:=((((h.to AT).oU true).to ajL).to stepG_seq).rg [0,1,2,3,4,5,6,7,8,9,10,11];cases sa with
  |none=>
   exfalso;obtain⟨v,S,hr,_⟩:=h.inv (s:=Instr.indexAt 22 (.slice none n c) (U O i)) g q (Nt _ hS (.int _ _)) (by simp only[ait,aP];rw[h.ev (i:=15) rfl,h.ev (i:=22) rfl];rfl) rfl
   have e:(Instr.indexAt 22 (.slice none n c) (U O i)).run Gz.prog wg=(boundsPanic .i64 (i:Int) 0 .index:Sem rl).run Gz.prog wg:=by have h0:(0:Int)<=(i:Int):=aa;simp[Instr.indexAt,asIntOf,go_sem,N,D,h0]
   obtain⟨x,w3,J,_⟩:=Wo (P:=Gz.prog) (α:=rl) .i64 (i:Int) 0 .index wg;rw[e,J] at hr;cases hr
  |some l=>
   obtain⟨a,h⟩:=h.op (.pointer (some (l.add i))) g;obtain⟨u,rfl,z⟩:∃u,y=.slice (some u) n c/\AR φ l u:=by cases hS with|slice _ _ h=>exact⟨_,rfl,h⟩|empty=>omega
   obtain⟨v,S,hr,h⟩:=h.inv1 26 g q (uL 52 (.ptr (z.add i)));obtain⟨e,J⟩:=Et (λw=>(Gz.Rt _ _).trans (isAgg52 w)) q (z.add i) hr;obtain⟨a,h⟩:=h e;obtain⟨yv,_,L,_⟩:=HR.cell (w:=wg) (w':=w) q (z.add i) J;obtain⟨v2,S,hr,h⟩:=h.inv g q (FU _ _ (Rc L)) (Sb (h.f _ _ rfl));obtain⟨e,p,m,C,rfl,rfl⟩:=Rb ((Gz.under _).trans underlying52) L hr;obtain⟨a,h⟩:=h e;obtain⟨v2,S,hr,h⟩:=h.inv1 27 g q (NX 52 9 ai L);obtain⟨e,st,rfl,T⟩:=ace q L hr;obtain⟨a,h⟩:=h e;obtain⟨a,h⟩:=h.op (U O st.size) g;obtain⟨a,h⟩:=h.op (.bool ((m:Int)==(st.size:Int))) g;obtain⟨a,h⟩:=h.op (U O (AS.wrap (m:Int))) g;obtain⟨a,h⟩:=h.op (.bool (AS.wrap (m:Int)==(m:Int))) g;obtain⟨a,h⟩:=h.j7 (U O C) wg g (hr:=by simp only[ait,aP];simp[go_sem,h.tm,ajz,Builtin.cap_,alb ((Gz.under _).trans underlying52),alb underlying52]);obtain⟨a,h⟩:=h.op (.bool (decide ((m:Int)<=(C:Int)))) g;obtain⟨a,h⟩:=h.op (U O (AS.wrap (C:Int))) g;obtain⟨a,h⟩:=h.op (.bool (AS.wrap (C:Int)==(C:Int))) g;obtain⟨hm,h⟩:=(h.to AT).yes hG g q;obtain⟨A,h⟩:=h.yes hG g q;obtain⟨E,h⟩:=h.yes hG g q;obtain⟨B,h⟩:=h.yes hG g q;have hm:=beq_iff_eq.1 hm;have A:=beq_iff_eq.1 A;have E:=of_decide_eq_true E;have B:=beq_iff_eq.1 B;rw[IntKind.wrap_i64] at A B;have hw:AS.wrap ((i:Int)+1)=(i:Int)+1:=xZ;obtain⟨a,h⟩:=(h.rg [0,1]).op (U O ((i:Int)+1)) g;obtain⟨a,h⟩:=h.op (U O ((i:Int)+1)) g;obtain⟨h1,M⟩:=ih (i+1) aa a (((h.to AT).to stepG_inLoop).sub _);refine⟨λj hj V=>?_,M⟩;by_cases e:j=i
   ·subst e;refine⟨l,rfl,p,m,C,J,aa,?_,aa,aa⟩;rcases T with⟨X,e2⟩|⟨pa,X,_,e2⟩
    ·exact .inl ⟨X,aa⟩
    ·exact .inr ⟨pa,X,e2⟩
   ·exact h1 j aa V
end
end
end Go.Proofs.Q0.Open
namespace Go.Proofs.Q0.aI
section
open Go.Conc (G)
theorem Pa(J:ag)(P:Kx):@Kx.two (ag.exact J P.funcs) P=P:=rfl
theorem HR.Sc[ag]{K:aF}{φ:Ren}{h g h':Array Obj}(H:HR K φ h h')(d:h.size<=g.size)(e:∀b c,φ b=some c->g[b]?=h[b]?):HR K φ g h':=
 ⟨H.inj,λb c a=>let⟨o,o',h1,f,i⟩:=H.obj b c a;⟨o,o',(e b c a).trans h1,f,i⟩,λb a=>⟨cG (H.below b a).1 d,(H.below b a).2⟩,H.low,aJ H.fJ.1 d,H.fJ.2⟩
theorem HR.link[ag]{K:aF}{φ:Ren}{h h':Array Obj}(H:HR K φ h h'){b c:Nat}{o o':Obj}(k:h[b]?=some o)(hc:h'[c]?=some o')(t:φ b=none)(hi:∀x,φ x≠some c)(hr:¬K.ro b)(l:¬K.tok b)(g:K.strict=true->Obj.loose o)(j:b<K.G<->c<K.G)
  (m:OR (φ.add b c) o o'):Ren.le φ (φ.add b c)/\HR K (φ.add b c) h h':=by
 have hle:Ren.le φ (φ.add b c):=λx y f=>by
  unfold Ren.add;split
  ·simp_all
  ·exact f
 have a:∀x y,φ.add b c x=some y->(x=b/\y=c)\/φ x=some y:=λx y f=>by
  unfold Ren.add at f;split at f
  ·simp_all
  ·simp_all
 refine⟨hle,λx y d f n=>?_,λx y f=>?_,H.below,λx y f=>?_,H.fJ⟩
 ·rcases a x d f with⟨rfl,rfl⟩|h1<;>rcases a y _ n with⟨rfl,e⟩|i
  ·omega
  ·simp_all
  ·simp_all
  ·exact H.inj _ _ _ h1 i
 ·rcases a x y f with⟨rfl,rfl⟩|h1
  ·exact⟨o,o',k,hc,.own hr l m g⟩
  ·obtain⟨p,q,i,r,s⟩:=H.obj _ _ h1;exact⟨p,q,i,r,s.mono hle⟩
 ·rcases a x y f with⟨rfl,rfl⟩|h1
  ·omega
  ·exact H.low _ _ h1
section
variable{I J:ag}{P:Kx}
structure Vj(J:ag)(P:Kx)(Kc:aF)(i7 φ:Ren)(f:akh)(args:Array rl)(wc:ns)(y:so×ns)(v vm:rl)(hM:Array Obj)(n1:Nat):Prop where
 old:∀b,b<wc.heap.size->Kc.ro b\/Kc.tok b
 new:∀b,wc.heap.size<=b->¬Kc.ro b/\¬Kc.tok b
 strict:Kc.strict=true
 Vk:∀b c,i7 b=some c->b<wc.heap.size
 nx:fq P y (G (aiy P f args .normal) [c0 P],wc)
 lv:Lv P y.1
 back:iV P (λu _=>u=v) y.1 y.2.heap
 ql:∃R,bE P R (G (aiy P f args .normal) [c0 P]) wc
 rel:@HR J Kc φ y.2.heap hM
 val:@VR J φ v vm
 le:Ren.le i7 φ
 fresh:∀b c,φ b=some c->i7 b=some c\/(wc.heap.size<=b/\n1<=c)
theorem Yo(t:ag.Le J I){K Kc:aF}(E:@cJ (ag.exact J P.funcs) P)(hC:@dc (ag.exact J P.funcs) P)(hz:@bZ (ag.exact J P.funcs) P)(hG:Kc.G=P.globals.size)(hF:@dn (ag.exact J P.funcs) P Kc)
  {i7 φ w:Ren}{f:akh}{args:Array rl}{wc j:ns}{y:so×ns}{v X:rl}{F:Array Obj}{n1:Nat}(hr:Vj J P Kc i7 φ f args wc y v X F n1)
  (H:Kc.G=K.G)(L:K.G<=wc.heap.size)(hf:J.ok f)(q:@ax (ag.exact J P.funcs) (Ren.fE i7) args args)(hH:@HR (ag.exact J P.funcs) Kc (Ren.fE i7) wc.heap j.heap)(hv:@ep (ag.exact J P.funcs) (Ren.fE i7))
  (M:@HR I K w j.heap F)(z:Ren.le i7 w)(cC:wc.heap.size<=j.heap.size)(A:∀b d,w b=some d->∀a,wc.heap.size<=a->φ a≠some d)(g0:∀b,wc.heap.size<=b->¬J.cl b){b0:aiH}{B0:List aiH}(tG:0<B0.length):
  ∃i u o,fp P (G (b0.finish u) B0,o) (G (aiy P f args .normal) (b0::B0),j)/\Ren.le w i/\@HR I K i o.heap F/\@VR I i u X/\j.heap.size<=o.heap.size/\(∀b,b<j.heap.size->o.heap[b]?=j.heap[b]?)/\
   ∀b c,i b=some c->w b=some c\/(j.heap.size<=b/\∃a,wc.heap.size<=a/\φ a=some c):=by
 obtain⟨R,hW⟩:=hr.ql
 have hD:@dE (ag.exact J P.funcs) P Kc (b0::B0) (Ren.fE i7) (G (aiy P f args .normal) [c0 P]) wc (G (aiy P f args .normal) (b0::B0)) j:=by have N:=@u7 (ag.exact J P.funcs) P (Ren.fE i7) E f hf args args q;exact⟨_,_,[],[],rfl,rfl,N,@dp.nil (ag.exact J P.funcs) P _,hH,hv,rfl⟩
 obtain⟨Q,r,s,h1,Z,h3,h4⟩:=@replay (ag.exact J P.funcs) P Kc R (Pa J P) (λ_ _ x=>x) E hC hz hG hF (b0::B0) aA y _ hr.nx _ _ _ hD hW;obtain⟨n,v0,u,o,d,h5,h6,h7,h8,S,_⟩:=@OS (ag.exact J P.funcs) P Kc E b0 B0 Q y.1 y.2 r s _ Z hr.lv hr.back true;subst h6;have S:=@eH.h (ag.exact J P.funcs) _ _ _ _ _ _ S;have k:=@hU.trans (ag.exact J P.funcs) _ _ _ _ _ _ _ _ _ h3 S h4
 have T:∀a b,Ren.fE i7 a=some b->a=b/\a<wc.heap.size:=λa b g=>by obtain⟨e,d,hd⟩:=Ren.sw g;exact⟨e.symm,hr.Vk _ _ hd⟩
 have l:∀b,b<j.heap.size->o.heap[b]?=j.heap[b]?:=λb hb=>k.apart b hb λa B=>hr.old a (T a b B).2
 have C:∀a b,wc.heap.size<=a->n a=some b->j.heap.size<=b:=λa b B g=>by
  rcases k.fresh a b g with h|h
  ·grind
  ·exact h.2
 have hold:∀a b,a<wc.heap.size->n a=some b->a=b/\∃d,i7 a=some d:=λa b B g=>by
  rcases k.fresh a b g with h|h
  ·obtain⟨e,d,hd⟩:=Ren.sw h;exact⟨e.symm,d,hd⟩
  ·grind
 have p:∀a b,n a=some b->J.cl a->J.cl b:=λa b g hc=>by grind
 obtain⟨i,k1,k2,k3,k4⟩:=HR.comp (n0:=wc.heap.size) t M hr.rel h8 p hr.new hr.strict H L (k.size) l (λa b c B g V=>by obtain⟨rfl,d,hd⟩:=hold a b B g;have:=hr.le _ _ hd;rw[V] at this;cases this;exact z _ _ hd) C A
 have W:=VR.inst t.toj4 (@VR.comp J P.funcs φ n i k3 p _ _ hr.val _ h7)
 have D:¬Lv P r:=by obtain⟨fr,bi,cs,cs',_,rfl,_⟩:=Z;exact R0 aA
 have m:Nx P (G (b0.finish u) B0,o) (r,s):=⟨D,s.tape,d,λ_ _ _=>rfl,by rw[World.adR];exact h5⟩;refine⟨i,u,o,?_,k1,k2,W,k.size,l,k4⟩;rcases h1 with e|h1
 ·cases e;exact .one m
 ·exact .more m h1
end
end
end Go.Proofs.Q0.aI
namespace Go.Proofs.Q0.Open
open Go.Proofs.Tryz
section
open Go.Conc Go.RowKit aI
variable[aE]
def adW{w:ns}{n:Nat}(c:n<=1000):(Instr.makeSlice 64 (U O n) (U O n)).run Gz.prog w=.ok (.slice (some ⟨w.heap.size,0,none⟩) n n) (w.alloc (.cells (aiD n (.slice none 0 0)) 53)):=by
 have h:=run_makeSlice (P:=Gz.prog) (w:=w) 64 53 Tryz.t53 (.slice none 0 0) ((Gz.under _).trans underlying64) ((Gz.info _).trans ai) ai .i64 .i64 n n aa aa (by
  have:Tryz.t53.size=1:=aD;rw[this];omega) (by
  have:Tryz.t53.bytes=24:=aD;rw[this];omega) aa
 exact Mg
def _root_.Go.Proofs.Q0.aI.fq.bj{P:Kx}{z y x:so×ns}(h:fq P y x)(k:Nx P z y):fp P z x:=by
 rcases h with rfl|h
 ·exact .one k
 ·exact .more k h
def lg(B:cV)(c i:Nat):List (Nat×rl):=[(4,.pointer (some ⟨c+1,0,none⟩)),(15,.slice (some B.sa) B.sn B.sc),(16,U O B.sn),(17,.slice (some ⟨c,0,none⟩) B.sn B.sn),(21,U O (AS.wrap (B.W.tdiv 8))),(24,.bool B.I),(22,U O i)]
structure LM(h0:Array Obj)(B:cV)(u:Nat->rl)(i:Nat)(h:Array Obj):Prop where
 size:h0.size+2<=h.size
 old:∀b,b<h0.size->h[b]?=h0[b]?
 row:∃vs:Array rl,vs.size=B.sn/\h[h0.size]?=some (.cells vs 53)/\∀j,j<B.sn->vs[j]?=some (if j<i then u j else .slice none 0 0)
 box:h[h0.size+1]?=some (.cells (B.full h0.size) 66)
section
variable{Q:so->Array Obj->Prop}{b:aiH}{Z a:Act}{k:List Item}{cs:List aiH}{wg:ns}{B:cV}{x0:so×ns}
def Zp(W H Q:Int)(I:Bool)(sa:aiI)(sn sc C n m:Nat)(w:ns):(Instr.build 66 #[(0,.agg #[U O W,U O H,.bool I,U O Q,.slice (some sa) sn sc]),(1,.slice (some ⟨C,0,none⟩) n m)]).run Gz.prog w=.ok (.agg #[U O W,U O H,.bool I,U O Q,.slice (some sa) sn sc,.slice (some ⟨C,0,none⟩) n m]) w:=ai
def Pb{w d:ns}{o:Obj}(h:d=w.alloc o):d.heap.size=w.heap.size+1/\(∀c,c<w.heap.size->d.heap[c]?=w.heap[c]?)/\d.heap[w.heap.size]?=some o:=by subst h;exact⟨aj,λc hc=>by show(w.heap.push _)[c]?=_;rw[ajx hc,<-aiN hc],by show(w.heap.push _)[_]?=_;simp⟩
def afN(d:b.kind≠.early)(s:B.sn<=4)(h:At Q b cs x0 Z (gl B.W B.H B.Q B.I (some B.sa) B.sn B.sc B.sn) (.code (.seq (.region 64 gM false) (.seq (.block 51 (.loop gD)) du))::k) a wg):
  ∃a' w',At Q b cs x0 Z (lg B wg.heap.size 0) (.code gD::.inLoop gD::.inBlock 51::.code du::k) a' w'/\LM wg.heap B (λ_=>undef) 0 w'.heap:=by
 obtain⟨a,h⟩:=((h.to stepG_seq).rg [0,1,2,3,4]).j7 (.slice (some ⟨wg.heap.size,0,none⟩) B.sn B.sn) _ d (hr:=by simp only[ait,aP];simp[go_sem,h.tm,ajz,gl,adW (show B.sn<=1000 by omega)];rfl);obtain⟨f,g⟩:∃f,f=wg.alloc (.cells (aiD B.sn (.slice none 0 0)) 53):=⟨_,rfl⟩;rw[<-g] at h;obtain⟨o,u,v⟩:=Pb g;obtain⟨a,h⟩:=h.j7 (.agg (B.full wg.heap.size)) f d (hr:=by simp only[ait,aP];simp[go_sem,h.tm,ajz,gl,Zp];rfl);obtain⟨a,h⟩:=h.j7 (.pointer (some ⟨f.heap.size,0,none⟩)) (f.alloc (.cells jr 66)) d (hr:=by simp only[ait,aP];simp[go_sem,ei,jr]);obtain⟨i,e⟩:∃i,i=f.alloc (.cells jr 66):=⟨_,rfl⟩;rw[<-e] at h;obtain⟨D,p,x⟩:=Pb e;clear e;obtain⟨w3,l,y,z,A,C,r,E,_,_,_⟩:=OZ (P:=Gz.prog) (B.full wg.heap.size).toList 0 jr i x (by simp[cV.full,jr]) (by simp[cV.full];simp[Value.oneCell'])
 have m:l=B.full wg.heap.size:=by
  apply Array.ext
  ·rw[A];simp[cV.full,jr]
  ·intro j h1 h2;have hj:=C j;have F:(B.full wg.heap.size).size=6:=by simp[cV.full]
   exact Li
 subst m;have n:(B.full wg.heap.size).size=6:=rfl;replace h:=h.nil w3 d (hr:=by simp only[ait,aP];simp[go_sem,h.tm,ajz,n,y]);obtain⟨a,h⟩:=h.op (U O 0) d;rw[o] at h;refine⟨a,w3,((((h.to AT).to stepG_seq).to stepG_block).to stepG_loop).sub _,aa,λc hc=>?_,⟨aiD B.sn (.slice none 0 0),aj,?_,λj hj=>by simp[hj]⟩,?_⟩
 ·rw[r c aa,p c aa,u c hc]
 ·rw[r _ aa,p _ aa,v]
 ·rw[<-o];exact z
end
end
section
open Go.Conc Go.ConcN Go.RowKit Go.Conc.Lib Go.ConcR.Gen Go.ConcN.Gen aI
open Go.ConcR (KK wgBlock WgAt stA smA rd wr mk Payload Aside2 DC0 ofEvent_cell)
open Wg (pI Ab yZ N9 vA sL lT iE RM DM)
def Gs:rl->rl
 |.tuple a=>a.getD 0 undef
 |v=>v
noncomputable def AX(Q:Kx)(n:Nat)(vg:Nat->rl)(wg:ns)(W:Int)(I:Bool)(R:Nat->rl->Array Obj->Prop):dw where
 ty:=104
 n:=n
 f:=64
 start:=λk=>(G (aiy Q 64 #[vg k,U O (AS.wrap (W.tdiv 8)),.bool I] .normal) [c0 Q],wg)
 R:=R
 pick:=Gs
 shape:=λv=>∃s l c t,v=.tuple #[.slice s l c,.bool t]
def I0(iD:Loc->Prop)(Wg:Nat)(l:Loc):Prop:=iD l\/∃a,l=.cell a/\a.block=Wg
section
variable[ag]{Q:Kx}{S:aI.Start}{gs:Array so}{w:ns}{sl:Option (Nat×Nat)}{t:Trace}{q:Nat->Nat}{iD:Loc->Prop}{B:cV}{jA vg:Nat->rl}{wg:ns}{R:Nat->rl->Array Obj->Prop}{b:aiH}{Z:Act}{k:List Item}{cs:List aiH}
structure After(Q:Kx)(S:aI.Start)(J:dw)(iD:Loc->Prop)(B:cV)(Z:Act)(C o Wg:Nat)(M:Nat->Prop)(D:Nat->WS)(a:Act)(w:ns):Prop where
 ds:a.defers=Z.defers
 cM:∀d,kept d=true->a.tmps[d]?=Z.tmps[d]?
 size:Sz Z a
 s4:a.tmps[4]?=some (.pointer (some ⟨o,0,none⟩))
 ne:o≠C/\o≠Wg/\C≠Wg
 main:M C/\M o/\M Wg
 full:w.heap[o]?=some (.cells (B.full C) 66)
 pay:PayAt C B.sn w
 mem:Mem S B.sn (fF D) (lA D) M w.heap
 done:∀i,i<B.sn->AB Q J i (D i)/\Has C i (J.pick (D i).val) w
 io:w.os=S.os/\w.output=S.out
def adX(v:rl):(#[v]++aiD 83 undef:Array rl)=#[v,undef,undef,undef,undef,undef,undef,undef,undef,undef,undef,undef,undef,undef,undef,undef,undef,undef,undef,undef,undef,undef,undef,undef,undef,undef,undef,undef,undef,undef,undef,undef,undef,undef,undef,undef,undef,undef,undef,undef,undef,undef,undef,undef,undef,undef,undef,undef,undef,undef,undef,undef,undef,undef,undef,undef,undef,undef,undef,undef,undef,undef,undef,undef,undef,undef,undef,undef,undef,undef,undef,undef,undef,undef,undef,undef,undef,undef,undef,undef,undef,undef,undef,undef]:=lU
def G5{φ:Ren}{x y z x' y' e:rl}(f:VR φ x x')(g:VR φ y y')(h:VR φ z e):ax φ #[x,y,z] #[x',y',e]:=⟨rfl,λi a b c d=>by
 match i,c,d with
 |0,c,d=>simp at c d;subst c;subst d;exact f
 |1,c,d=>simp at c d;subst c;subst d;exact g
 |2,c,d=>simp at c d;subst c;subst d;exact h
 |n+3,c,_=>simp at c⟩
def aeV(j:Q.two=Tryz.prog)(hS:pH S)(hF:dO Q.two iD gs w t q)(h1:S.h1=w.heap)(P:S.os=w.os/\S.out=w.output)(E:kF iD S.φ)
  (hB:cJ Q)(hC:dc Q)(rt:bZ Q)(hG:S.K.G=Q.globals.size)(hFn:dn Q S.K)(un:∀c c',¬ag.dH c c')
  (hc:pZ B w)(hn:B.sn<=1000)(hv:∀i,i<B.sn->w.cell? (B.sa.add i)=some (jA i))(I1:∀i,i<B.sn->VR S.φ (vg i) (jA i))
  (hcb:∃x,S.φ x=some B.cb)(xh:∃x,S.φ x=some B.sa.block)(hJ:jR Q S (AX Q B.sn vg wg B.W B.I R) B.sn)
  (oV:b.kind≠.early)(BN:b.fn=40)(hz:Sz Z Z)(s1:Z.tmps[1]?=some (.pointer (some ⟨B.cb,B.co,none⟩)))(ha:gs[0]?=some (G (b.at Z (.code hZ::k)) cs)):
  ∃N JT w' pu t' q' C o Wg M D a,runNT Q.two N (crowd gs w sl) t=(.next (crowd JT w' pu),t')/\JT[0]?=some (G (b.at a (.inRegion gq []::.code du::k)) cs)/\
   dO Q.two (I0 iD Wg) JT w' t' q'/\After Q S (AX Q B.sn vg wg B.W B.I R) iD B Z C o Wg M D a w':=by
 obtain⟨xb,qE⟩:=hcb;obtain⟨xs,Fk⟩:=xh;have r:B.cb<w.heap.size:=h1▸(hS.rel.lt qE).2;have V:B.sa.block<w.heap.size:=h1▸(hS.rel.lt Fk).2
 obtain⟨m,hgo⟩:=aav (k:=k) (cs:=cs) (Sh:=iD) oV BN hz s1 hc hn (E _ _ qE) (λl c hc hl hs=>by
  obtain⟨a,rfl,ha⟩:=hF.shl l hs;rcases hl with⟨a',e,rfl⟩|e
  ·cases e;omega
  ·cases e)
 rw[<-j] at hgo;obtain⟨N1,qQ,a1,w1,I2,t1,q1,r1,z1,f1,UV,⟨C,o,Wg,a,rfl,p⟩,TW,P'⟩:=Nn (by rintro g w⟨_,_,_,_,rfl,_⟩;rfl) _ _ gs _ w sl t q (au _) hgo hF ha λop ho=>uz aa (hF.low op ho);obtain⟨g1,g2,g3,g4,g5,g6,g7,g8,g9⟩:=p.Vh
 let A:Main:={o,cb:=B.cb,co:=B.co,Wg,C,n:=B.sn,W:=B.W,I:=B.I,sa:=B.sa,sn:=B.sn,sc:=B.sc,jA,oO:=.cells (B.full C) 66}
 let L:bY:={c0:=qQ.size,C,off:=0,Wg,iD}
 let J:=AX Q B.sn vg wg B.W B.I R
 let M0:Nat->Prop:=λc=>c=C\/c=o\/c=Wg
 let D0:Nat->WS:=λ_=>{stage:=7,e:=3,fuel:=0,deaf:=0,x:=J.start 0,φ:=S.φ,val:=undef,X:=λ_=>False}
 have TX:PayAt C B.sn w1:=⟨_,p.hC,aj⟩
 have ws:Com Q S L J 0 D0 M0 qQ w1 t1 q1 0:=by
  refine Com.begin (nw:=w.heap.size+2) UV rfl hS (by rw[h1];exact p.grow) (λb hb=>by rw[h1] at hb⊢;exact p.old b hb) (λc hc=>?_) (.inl rfl) (.inr (.inr rfl)) g6 (λl hl=>by rw[h1];exact hF.shl l hl) E (λk c x=>x.elim) P' (by have:=p.Vg;show _<=Wg;omega) TX ⟨TW.1.trans P.1.symm,TW.2.trans P.2.symm⟩;rw[h1];rcases hc with rfl|rfl|rfl
  ·exact⟨g1,g7⟩
  ·exact⟨g2,g8⟩
  ·exact⟨g3,g9⟩
 have Vl:MS A S.h1.size:=⟨by rw[h1];exact r,by rw[h1];exact V,au _,by show B.sn<_;omega,g4,g5,g6⟩
 have hMI:MI A S.h1.size M0:=⟨.inr (.inl rfl),.inl rfl,.inr (.inr rfl),λc hc=>by rw[h1];rcases hc with rfl|rfl|rfl<;>assumption⟩
 have cell:∀{c i:Nat}{sp:Option Nat},c<w.heap.size->w1.cell? ⟨c,i,sp⟩=w.cell? ⟨c,i,sp⟩:=λ{c i sp} hc=>by simp only[aiW,p.old c hc]
 have hK:MK A S.h1.size M0 w1:=by
  refine⟨λc hc=>?_,p.ho,?_,(cell r).trans hc.S,(cell r).trans hc.W,(cell r).trans hc.I,λi hi=>?_,⟨_,_,p.hW⟩,TX⟩
  ·rcases hc with rfl|rfl|rfl<;>assumption
  ·show w1.cell? ⟨o,5,none⟩=_;simp[aiW,p.ho,cV.full];exact⟨rfl,rfl⟩
  ·refine Eq.trans ?_ (hv i hi);show w1.cell? (B.sa.add i)=_;simp only[aiW];rw[rO,p.old _ V]
 let Post:(Nat->Prop)->so->ns->Prop:=λM g w=>∃a,g=G (b.at a (.inRegion gq []::.code du::k)) cs/\SF Z (xd A A.n) a/\MI A S.h1.size M/\MK A S.h1.size M w
 have TY:=aau (A:=A) (Z:=Z) (N0:=S.h1.size) (b:=b) (k:=k) (cs:=cs) (Child:=aI.Child Q S L J) (Fin:=R6 Q S L J Post) (M:=M0) (F:=λ_=>False) (a:=a) (w:=w1) oV BN Vl (λi y M u hi hI tH tF PB hW=>?_) (λM a u hI hS' hK'=>?_) hMI hK p.ds p.cM p.size p.s1 p.s4 p.s5
 ·rw[<-j] at TY;obtain⟨N2,xa,w2,xc,t2,D2,M2,a2,q2,q3,r2,f2,xj,⟨a',rfl,H,I4,eq⟩,_,ii,vK⟩:=aap (L:=L) (J:=J) (Post:=Post) (M:=M0) (F:=λ_=>False) hB hC rt hG hFn un hJ (by show B.sn<_;omega) TY ws f1 p.hW λc hc=>hc.elim;refine⟨N1+N2,xa,w2,xc,t2,q3,C,o,Wg,M2,D2,a',by rw[runNT_add,r1];exact r2,f2,ii,H.d,H.k,H.z,H.f 4 _ rfl,⟨g4,g5,g6⟩,⟨I4.C,I4.o,I4.Wg⟩,eq.oF,xj.pay,xj.mem,λi hi=>⟨(vK i hi).1,?_⟩,xj.io⟩;have:=(vK i hi).2;rwa[show L.off+i=i from Nat.zero_add i] at this
 ·
  have hSh:∀c,(c=(A.kH i y).o\/c=(A.kH i y).cb\/c=(A.kH i y).rb\/c=(A.kH i y).sa.block)->∀l,bG c l->¬L.Sh l:=λc hc l hl hs=>by
   replace hc:c=o\/c=B.cb\/c=y\/c=B.sa.block:=hc;have wt:=hI.ge y tH;rw[h1] at wt;replace PB:y≠Wg:=PB;rcases hs with hs|⟨ad,rfl,oX⟩
   ·obtain⟨ad,rfl,oX⟩:=hF.shl l hs;have ec:c=ad.block:=bG.inj hl (.inl ⟨_,rfl,rfl⟩);rcases hc with hc|hc|hc|hc
    ·omega
    ·exact E _ _ (hc▸qE) _ hl hs
    ·omega
    ·exact E _ _ (hc▸Fk) _ hl hs
   ·have ec:c=ad.block:=bG.inj hl (.inl ⟨_,rfl,rfl⟩);have hw:ad.block=Wg:=oX;rcases hc with hc|hc|hc|hc<;>omega
  obtain⟨m,hg⟩:=afL (A:=A.kH i y) (N0:=S.h1.size) (X:=λc=>c=A.o\/c=y) (Sh:=L.Sh) (w:=u) hSh hi g6 hW
  ·rw[<-j] at hg⊢;refine⟨λc=>c=A.o\/c=y,m,λc hc=>?_,pI (λ_ _ _ x=>x) (λg v Gt=>?_) (λ_ _ x=>x) hg⟩
   ·rcases hc with rfl|rfl
    ·exact⟨hI.o,g4,g5⟩
    ·exact⟨tH,tF,PB⟩
   ·obtain⟨sY,b',B',vD,afO⟩:=Gt;refine⟨sY,#[jA i,U O (AS.wrap (B.W.tdiv 8)),.bool B.I],b',B',?_,⟨#[vg i,U O (AS.wrap (B.W.tdiv 8)),.bool B.I],?_,rfl⟩,λv' w4 wT hr=>?_⟩
    ·rw[j];exact vD
    ·exact G5 (I1 i hi) (.int _ _) (.bool _)
    ·obtain⟨s,l,c,t,rfl⟩:=wT;obtain⟨m,hg⟩:=afO s l c t w4 hr;exact⟨m,by rw[<-j] at hg;exact hg⟩
 ·
  refine⟨rfl,vA Tryz.link Wg (b.at a (.inRegion gq [0]::.code du::k)) cs,sL (b.at (a.put ((gq[0]?).bind (·.dst)) (.tuple #[])) (.inRegion gq []::.code du::k)) cs,3,?_,?_,λg w d h=>h,λg v h=>?_,?_,λg v hr h=>?_⟩
  ·rintro g w⟨T,rfl,_⟩;rfl
  ·rintro g w rfl;rfl
  ·rw[j];exact N9 (ops₀:=gq) (i₀:=0) (rest₀:=[]) (k₀:=.code du::k) (a₀:=a) (b₀:=b) (cs:=cs) Tryz.vu g v h
  ·rw[j];have:=yZ (L:=Tryz.link) (Wg:=Wg) (ops₀:=gq) (i₀:=0) (rest₀:=[]) (k₀:=.code du::k) (a₀:=a) (b₀:=b) (cs:=cs) Tryz.vu u hK'.live;rw[adX];exact this
  ·have hd:(gq[0]?).bind (·.dst)=some 28:=by rfl
   rw[hd] at h;exact⟨_,h,(hS'.put aq).sub _,hI,hK'.rely Vl hI hr⟩
end
end
end Go.Proofs.Q0.Open
