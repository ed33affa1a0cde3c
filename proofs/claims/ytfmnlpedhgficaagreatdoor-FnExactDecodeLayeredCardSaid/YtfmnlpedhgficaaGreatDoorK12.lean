import Derived.Test.YtfmnlpedhgficaaGreatDoorK11
set_option maxRecDepth 100000
set_option maxHeartbeats 8000000
set_option linter.all false
open Go.Value renaming int->U,slice->Y,bool->a5,agg->a9,pointer->bi,tuple->ci,iface->em
open Go.IntKind renaming i64->O
open Go.Obj renaming cells->ac
open Go.Ending renaming returned->be
open Array renaming getElem?_eq_getElem->ajB,getElem?_push_lt->akb,getElem?_setIfInBounds_ne->ajp,getElem?_setIfInBounds_self_of_lt->ajN
open Bool renaming false->Bz,true->AT
open Go renaming Addr->ajF,Event->akh,Program->NO,TypeId->TO,Value->so,World->AS,byteOf->aly,underlying->ajV
open Go.Instr renaming field->akI,index->alY,loadAt->akB
open Go.Sem renaming bind->alz,run->akm,runT->akX,run_bind->ajy
open Go.World renaming cell?->ajQ,frozen?->aku,setCell->alZ
open Option renaming none->ns,some->an
namespace Go.Proofs
abbrev eQ:=@ajB
abbrev j7:=@Array.mem_append
def uX{p:Prop}(h:p:=by rw[<-h.size];assumption):p:=h
def uY{p:Prop}(h:p:=by simpa using hb):p:=h
def Ld{p:Prop}(h:p:=by simp only[hb,if_false];split<;>(split<;>first|exact .halt _ _|exact vq)):p:=h
end Go.Proofs
namespace Go.Proofs.Q0.aL
variable{v u v' u':so}{t:TO}{xs ys cs:Array so}{h':Array Obj}{w w':AS}{o o':Obj}{b r r':Nat}{γ α β:Type}{a a':ajF}
section
abbrev Ren:=Nat->Option Nat
def Ren.le(φ ψ:Ren):Prop:=∀b c,φ b=an c->ψ b=an c
def Ren.le_refl(φ:Ren):Ren.le φ φ:=λ_ _ h=>h
def Ren.le_trans{φ ψ d:Ren}(h:Ren.le φ ψ)(k:Ren.le ψ d):Ren.le φ d:=λb c x=>k b c (h b c x)
structure AR(φ:Ren)(a a':ajF):Prop where
 block:φ a.block=an a'.block
 off:a'.off=a.off
 spot:a'.spot=a.spot
def AR.mono{φ ψ:Ren}{a a':ajF}(h:AR φ a a')(k:Ren.le φ ψ):AR ψ a a':=⟨k _ _ h.block,h.off,h.spot⟩
variable[ag]
inductive fE(φ:Ren):Fn->Fn->Prop
 |func (f:FuncId):ag.fv f->fE φ (.func f) (.func f)
 |yield {l l':Nat}:φ l=an l'->fE φ (.yield l) (.yield l')
inductive Tk:so->Prop
 |ptr {a:ajF}:ag.cl a.block->Tk (.pointer (an a))
 |agg {xs:Array so}:(∀(i:Nat) x,xs[i]?=an x->Tk x)->Tk (.agg xs)
def Pl(t:TO)(v:so):Prop:=ag.np t\/(∃a,v=.pointer (an a)/\ag.cl a.block)\/ag.hd t/\Tk v
def Pl.or(h:Pl t v):ag.np t\/Tk v:=by
 rcases h with h|⟨a,rfl,h⟩|h
 ·simp_all
 ·exact .inr (.ptr h)
 ·simp_all
abbrev aW:so:=.func (.method "") #[.nilIface] #[]
def Lone(v:so):Prop:=(∀cs,v≠.agg cs)/\(∀cs,v≠.tuple cs)/\∀b,v≠.bool b
inductive VR(φ:Ren):so->so->Prop
 |aW {v':so}:ag.jk v'->Lone v'->VR φ aW v'
 |bool (b:Bool):VR φ (.bool b) (.bool b)
 |int (k:IntKind) (n:Int):VR φ (.int k n) (.int k n)
 |string (s:ByteArray):VR φ (.string s) (.string s)
 |nilFunc:VR φ .nilFunc .nilFunc
 |nilIface:VR φ .nilIface .nilIface
 |nilPtr:VR φ (.pointer ns) (.pointer ns)
 |ko:VR φ (.map ns) (.map ns)
 |kk:VR φ (.chan ns) (.chan ns)
 |ptr {a a':ajF}:AR φ a a'->VR φ (.pointer (an a)) (.pointer (an a'))
 |dV (n c:Nat):VR φ (.slice ns n c) (.slice ns n c)
 |slice {a a':ajF} (n c:Nat):AR φ a a'->VR φ (.slice (an a) n c) (.slice (an a') n c)
 |empty {a a':ajF}:VR φ (.slice (an a) 0 0) (.slice (an a') 0 0)
 |iface (t:TO) {v v':so}:VR φ v v'->Pl t v->VR φ (.iface t v) (.iface t v')
 |agg {xs ys:Array so}:xs.size=ys.size->(∀(i:Nat) x y,xs[i]?=an x->ys[i]?=an y->VR φ x y)->VR φ (.agg xs) (.agg ys)
 |tuple {xs ys:Array so}:xs.size=ys.size->(∀(i:Nat) x y,xs[i]?=an x->ys[i]?=an y->VR φ x y)->VR φ (.tuple xs) (.tuple ys)
 |func {fn VF:Fn} {xs ys us vs:Array so}:fE φ fn VF->xs.size=ys.size->(∀(i:Nat) x y,xs[i]?=an x->ys[i]?=an y->VR φ x y)->
   us.size=vs.size->(∀(i:Nat) x y,us[i]?=an x->vs[i]?=an y->VR φ x y)->VR φ (.func fn xs us) (.func VF ys vs)
structure aw(φ:Ren)(xs ys:Array so):Prop where
 size:xs.size=ys.size
 at_:∀(i:Nat) x y,xs[i]?=an x->ys[i]?=an y->VR φ x y
def fE.mono{φ ψ:Ren}{f f':Fn}(h:fE φ f f')(k:Ren.le φ ψ):fE ψ f f':=by cases h with|func f h=>exact .func f h|yield h=>exact .yield (k _ _ h)
def VR.mono{φ ψ:Ren}{v v':so}(h:VR φ v v')(k:Ren.le φ ψ):VR ψ v v':=by induction h with|bool b=>exact .bool b|int a n=>exact .int a n|string s=>exact .string s|nilFunc=>exact .nilFunc|nilIface=>exact .nilIface|nilPtr=>exact .nilPtr|ko=>exact .ko|kk=>exact .kk|ptr h=>exact .ptr (h.mono k)|dV n c=>exact .dV n c|slice n c h=>exact .slice n c (h.mono k)|empty=>exact .empty|iface t _ p d=>exact .iface t d p|aW h1 i=>exact .aW h1 i|agg e _ d=>exact .agg e d|tuple e _ d=>exact .tuple e d|func j e _ l _ d g=>exact .func (j.mono k) e d l g
def aw.mono{φ ψ:Ren}{xs ys:Array so}(h:aw φ xs ys)(k:Ren.le φ ψ):aw ψ xs ys:=⟨h.size,λi x y c d=>(h.at_ i x y c d).mono k⟩
def aw.get{φ:Ren}{xs ys:Array so}(h:aw φ xs ys){i:Nat}{x:so}(c:xs[i]?=an x):∃y,ys[i]?=an y/\VR φ x y:=by
 have hi:i<ys.size:=by rw[<-h.size];exact(bE.1 c).1
 exact⟨ys[i],eQ hi,h.at_ i x _ c (eQ hi)⟩
theorem aw.set{φ:Ren}(h:aw φ xs ys)(k:Nat)(hu:VR φ u v):aw φ (xs.setIfInBounds k u) (ys.setIfInBounds k v):=by
 refine⟨by simp[h.size],λi x y c d=>?_⟩;by_cases e:k=i
 ·grind
 ·rw[ajp e] at c d;exact h.at_ i x y c d
def Jump(j:Option Code):Prop:=j=ns\/j=an .ret\/(∃i,j=an (.exit i))\/∃i,j=an (.goto i)
def pv(f:FuncId):Prop:=ag.ok f
structure cT(φ:Ren)(s:Nat->Prop)(xs ys:Array so):Prop where
 size:xs.size=ys.size
 at_:∀(i:Nat) x y,s i->xs[i]?=an x->ys[i]?=an y->VR φ x y
 uw:∀i,s i->i<xs.size
def cT.mono{φ ψ:Ren}{s:Nat->Prop}{xs ys:Array so}(h:cT φ s xs ys)(k:Ren.le φ ψ):cT ψ s xs ys:=⟨h.size,λi x y c d e=>(h.at_ i x y c d e).mono k,h.uw⟩
def aw.tmR{φ:Ren}{s:Nat->Prop}(h:aw φ xs ys)(c:∀i,s i->i<xs.size):cT φ s xs ys:=⟨h.size,λi x y _ d e=>h.at_ i x y d e,c⟩
def cT.get{φ:Ren}{s:Nat->Prop}{xs ys:Array so}(h:cT φ s xs ys){i:Nat}(d:s i){x:so}(c:xs[i]?=an x):∃y,ys[i]?=an y/\VR φ x y:=by
 have hi:i<ys.size:=by rw[<-h.size];exact(bE.1 c).1
 exact⟨ys[i],eQ hi,h.at_ i x _ d c (eQ hi)⟩
theorem cT.set{φ:Ren}{s:Nat->Prop}(h:cT φ s xs ys)(k:Nat)(hu:VR φ u v):cT φ s (xs.setIfInBounds k u) (ys.setIfInBounds k v):=by
 refine⟨by simp[h.size],λi x y g c d=>?_,λi hi=>by simpa using h.uw i hi⟩;by_cases e:k=i
 ·grind
 ·rw[ajp e] at c d;exact h.at_ i x y g c d
structure cL(φ:Ren)(l l':Loop):Prop where
 state:l'.state=l.state
 pending:l'.pending=l.pending
 fn:l'.fn=l.fn
 tmps:cT φ (ag.lv l.fn) l.tmps l'.tmps
 params:l'.params=l.params
 assign:l'.assign=l.assign
 body:l'.body=l.body
 defers:φ l.defers=an l'.defers
 rD:ag.cd l.fn l.assign
 okB:ag.cd l.fn l.body
 jc:Jump l.pending
 okF:pv l.fn
inductive OR(φ:Ren):Obj->Obj->Prop
 |cells {cs cs':Array so} (t:TO) (f:Nat×Nat):aw φ cs cs'->OR φ (.cells cs t f) (.cells cs' t f)
 |loop {l l':Loop}:cL φ l l'->OR φ (.loop l) (.loop l')
 |deferred:OR φ (.deferred (an [])) (.deferred (an []))
 |taken:OR φ (.deferred ns) (.deferred ns)
 |number {a a':ajF} (l:Bool):AR φ a a'->OR φ (.number a l) (.number a' l)
def cL.mono{φ ψ:Ren}{l l':Loop}(h:cL φ l l')(k:Ren.le φ ψ):cL ψ l l':=⟨h.state,h.pending,h.fn,h.tmps.mono k,h.params,h.assign,h.body,k _ _ h.defers,h.rD,h.okB,h.jc,h.okF⟩
def OR.mono{φ ψ:Ren}{o o':Obj}(h:OR φ o o')(k:Ren.le φ ψ):OR ψ o o':=by cases h with|cells t f h=>exact .cells t f (h.mono k)|loop h=>exact .loop (h.mono k)|deferred=>exact .deferred|taken=>exact .taken|number l h=>exact .number l (h.mono k)
structure aH where
 ro:Nat->Prop
 tok:Nat->Prop
 G:Nat
def Obj.loose:Obj->Prop
 |.cells _ _ f=>f=(0,0)
 |_=>True
def Obj.blank:Obj->Prop
 |.loop _|.deferred _|.stringIter _ _=>True
 |_=>False
inductive HO(K:aH)(φ:Ren)(b:Nat):Obj->Obj->Prop
 |own {o o':Obj}:¬K.ro b->¬K.tok b->OR φ o o'->Obj.loose o->HO K φ b o o'
 |shut {cs cs':Array so} (t:TO) {f':Nat×Nat}:K.ro b->¬K.tok b->aw φ cs cs'->HO K φ b (.cells cs t (0,cs.size)) (.cells cs' t f')
 |token (s:ByteArray) (p:Nat) (cs':Array so) (t:TO) {f':Nat×Nat}:K.tok b->0<cs'.size->(ag.cl b->f'=(0,0))->HO K φ b (.stringIter s p) (.cells cs' t f')
 |blank (s:ByteArray) (p:Nat) {o':Obj}:K.tok b->Obj.blank o'->HO K φ b (.stringIter s p) o'
 |num {a a':ajF} (l:Bool):K.tok b->AR φ a a'->HO K φ b (.number a l) (.number a' l)
def HO.mono{K:aH}{φ ψ:Ren}{b:Nat}{o o':Obj}(h:HO K φ b o o')(k:Ren.le φ ψ):HO K ψ b o o':=by cases h with|own h1 c d e=>exact .own h1 c (d.mono k) e|shut t h1 c e=>exact .shut t h1 c (e.mono k)|token s p cs' t h1 c d=>exact .token s p cs' t h1 c d|blank s p h1 c=>exact .blank s p h1 c|num l h1 c=>exact .num l h1 (c.mono k)
def aH.ahC(K:aH)(b c:Nat):Prop:=(K.ro b\/K.tok b)/\(K.ro c\/K.tok c)/\¬(ag.cl b/\ag.cl c)/\K.G<=b
structure HR(K:aH)(φ:Ren)(h h':Array Obj):Prop where
 inj:∀b c d,φ b=an d->φ c=an d->b=c\/K.ahC b c
 obj:∀b c,φ b=an c->∃o o',h[b]?=an o/\h'[c]?=an o'/\HO K φ b o o'
 below:∀b,K.ro b\/K.tok b->b<h.size
 low:∀b c,φ b=an c->(b<K.G<->c<K.G)
 fZ:K.G<=h.size/\K.G<=h'.size
 cl:∀b,ag.cl b->b<h.size/\∀c,φ b=an c->K.tok b
structure WR(K:aH)(φ:Ren)(w w':AS):Prop where
 heap:HR K φ w.heap w'.heap
 tape:∀i q,w.tape (w.drawn+i) q=w'.tape (w'.drawn+i) q
def HR.lt{K:aH}{φ:Ren}{h h':Array Obj}(H:HR K φ h h'){b c:Nat}(x:φ b=an c):b<h.size/\c<h'.size:=by have⟨o,o',h1,d,_⟩:=H.obj b c x;exact⟨(bE.1 h1).1,(bE.1 d).1⟩
def ky(w c:AS):Prop:=w.heap.size<=c.heap.size/\∀b,b<w.heap.size->c.heap[b]?=w.heap[b]?
def ky.refl(w:AS):ky w w:=⟨av _,λ_ _=>rfl⟩
def ky.trans{a b c:AS}(h:ky a b)(k:ky b c):ky a c:=⟨aI h.1 k.1,λx d=>(k.2 x (bH d h.1)).trans (h.2 x d)⟩
def HR.keep{K:aH}{φ:Ren}{e:AS}(H:HR K φ w.heap h')(k:ky w e):HR K φ e.heap h':=by refine⟨H.inj,λb c d=>?_,λb d=>bH (H.below b d) k.1,H.low,⟨aI H.fZ.1 k.1,H.fZ.2⟩,λb d=>⟨bH (H.cl b d).1 k.1,(H.cl b d).2⟩⟩;obtain⟨o,o',h1,g,h⟩:=H.obj b c d;exact⟨o,o',by rw[k.2 b (H.lt d).1];exact h1,g,h⟩
def Ren.add(φ:Ren)(b c:Nat):Ren:=λx=>if x=b then an c else φ x
def Ren.add_same(φ:Ren)(b c:Nat):Ren.add φ b c b=an c:=by simp[Ren.add]
def HR.push{K:aH}{φ:Ren}{h:Array Obj}(H:HR K φ h h')(n:OR φ o o')(j:Obj.loose o):
  Ren.le φ (Ren.add φ h.size h'.size)/\HR K (Ren.add φ h.size h'.size) (h.push o) (h'.push o'):=by
 have le:Ren.le φ (Ren.add φ h.size h'.size):=λb c x=>by have:=(H.lt x).1;simp only[Ren.add];rw[if_neg aa];exact x
 refine⟨le,λb c d g hc=>?_,λb c g=>?_,λb g=>?_,λb c g=>?_,by have:=H.fZ;simp;omega,λb g=>have l:=(H.cl b g).1;⟨by simp;omega,λc e=>(H.cl b g).2 c (by simpa[Ren.add,Nat.ne_of_lt l] using e)⟩⟩
 ·simp only[Ren.add] at g hc;split at g<;>split at hc
  ·exact .inl aa
  ·have:=(H.lt hc).2;cases g;omega
  ·have:=(H.lt g).2;cases hc;omega
  ·exact H.inj b c d g hc
 ·by_cases e:b=h.size
  ·subst e;rw[Ren.add_same] at g;cases g;exact⟨o,o',aj,aj,.own (λm=>by have:=H.below _ (.inl m);omega) (λm=>by have:=H.below _ (.inr m);omega) (n.mono le) j⟩
  ·have i:φ b=an c:=by simpa[Ren.add,e] using g
   obtain⟨x,p,h1,q,y⟩:=H.obj b c i;have l:=H.lt i;exact⟨x,p,by rw[akb l.1];simpa[ajB l.1] using h1,by rw[akb l.2];simpa[ajB l.2] using q,y.mono le⟩
 ·have:=H.below b g;simp;omega
 ·by_cases e:b=h.size
  ·subst e;rw[Ren.add_same] at g;cases g;have:=H.fZ;omega
  ·exact H.low b c (by simpa[Ren.add,e] using g)
def HR.put{K:aH}{φ:Ren}{h:Array Obj}(H:HR K φ h h'){c:Nat}(d:φ b=an c)(z:OR φ o o')(q:¬K.ro b)(i:¬K.tok b)(j:Obj.loose o):
  HR K φ (h.setIfInBounds b o) (h'.setIfInBounds c o'):=by
 have l:=H.lt d;refine⟨H.inj,λx y g=>?_,λx g=>by simpa using H.below x g,H.low,by simpa using H.fZ,λb d=>⟨by simpa using(H.cl b d).1,(H.cl b d).2⟩⟩;by_cases e:b=x
 ·subst e;rw[d] at g;cases g;exact⟨o,o',ajN l.1,ajN l.2,.own q i z j⟩
 ·have n:c≠y:=λn=>(H.inj b x c d (n▸g)).elim e λm=>m.1.elim q i;obtain⟨p,A,h1,B,C⟩:=H.obj x y g;exact⟨p,A,by rw[ajp e];exact h1,by rw[ajp n];exact B,C⟩
def Quiet(m:Mark):Prop:=m=.noRoom\/∃f,m=.extern f
def gJ(K:aH)(ψ:Ren)(e:akh):Prop:=
 (∃a b,e.loc=.cell a/\e.sync=Bz/\ψ b=an a.block/\¬K.tok b/\(e.write=AT->¬K.ro b))\/
 (∃r b,e.loc=.obj r/\e.sync=Bz/\ψ b=an r/\(e.write=AT->¬K.tok b/\¬K.ro b))\/∃m,e.loc=.mark m/\Quiet m
def gJ.mono{K:aH}{φ ψ:Ren}{e:akh}(h:gJ K φ e)(k:Ren.le φ ψ):gJ K ψ e:=by
 rcases h with⟨a,b,h1,c,d,g⟩|⟨r,b,h1,c,d,g⟩|h
 ·exact .inl ⟨a,b,h1,c,k _ _ d,g⟩
 ·exact .inr (.inl ⟨r,b,h1,c,k _ _ d,g⟩)
 ·exact .inr (.inr h)
structure lu(w w1:AS):Prop where
 tape:w1.tape=w.tape
 os:w1.os=w.os
 out:w1.output=w.output
 drawn:w.drawn<=w1.drawn
 size:w.heap.size<=w1.heap.size
def lu.refl(w:AS):lu w w:=⟨rfl,rfl,rfl,av _,av _⟩
def lu.trans{a b c:AS}(h:lu a b)(k:lu b c):lu a c:=⟨k.tape.trans h.tape,k.os.trans h.os,k.out.trans h.out,aI h.drawn k.drawn,aI h.size k.size⟩
structure ik(K:aH)(φ ψ:Ren)(n:Nat)(w w1:AS):Prop where
 left:lu w w1
 le:Ren.le φ ψ
 fresh:∀b c,ψ b=an c->φ b=an c\/(n<=b/\w.heap.size<=c)
 apart:∀c,c<w.heap.size->(∀b,φ b=an c->K.ro b\/K.tok b)->w1.heap[c]?=w.heap[c]?
def ik.refl(K:aH)(φ:Ren)(n:Nat)(w:AS):ik K φ φ n w w:=⟨.refl w,Ren.le_refl φ,λ_ _ h=>.inl h,λ_ _ _=>rfl⟩
def ik.trans{K:aH}{φ ψ e:Ren}{n m:Nat}{a b c:AS}(h:ik K φ ψ n a b)(k:ik K ψ e m b c)(i:n<=m):ik K φ e n a c:=by
 refine⟨h.left.trans k.left,Ren.le_trans h.le k.le,λx y d=>?_,λx d j=>?_⟩
 ·rcases k.fresh x y d with h1|⟨h1,g⟩
  ·exact h.fresh x y h1
  ·exact .inr ⟨aa,aI h.left.size g⟩
 ·rw[k.apart x (Nat.lt_of_lt_of_le d h.left.size) λy l=>?_,h.apart x d j];rcases h.fresh y x l with h1|⟨_,g⟩
  ·simp_all
  ·omega
def fD(P:NO){α:Type}(s:Sem α):Prop:=∀w,∃h c,s.run P w=.halt h c/\lh h/\ky w c
def Calm(P:NO){α:Type}(s:Sem α):Prop:=∀w,(∀h c,s.run P w=.halt h c->lh h/\ky w c)/\∀a c,s.run P w=.ok a c->ky w c
def agm(P:NO)(K:aH){α:Type}(φ:Ren)(s:Sem α):Prop:=∀w w',WR K φ w w'->∀h c,s.run P w=.halt h c->lh h/\∃ψ h',Ren.le φ ψ/\HR K ψ c.heap h'
def _root_.Go.World.on(w:AS)(T:Tape)(n:Nat):AS:={w with tape:=T,drawn:=n}
def ahD(P:NO)(K:aH){α:Type}(φ:Ren)(s:Sem α):Prop:=∀w w',WR K φ w w'->∀a c,s.run P w=.ok a c->
 ∃k,c.drawn=w.drawn+k/\c.tape=w.tape/\∀(T:Tape) n,(∀j,j<k->∀q,T (n+j) q=w.tape (w.drawn+j) q)->s.run P (w.on T n)=.ok a (c.on T (n+k))
def eB(P:NO){α:Type}(s:Sem α)(w:AS)(c:α)(E:akh->Prop):Prop:=∃d:Array akh,(∀es,s.runT P w es=(.ok c w,es++d))/\∀e∈d,E e
section
omit [ag]
variable{P:NO}{α β:Type}{s:Sem α}{f:α->Sem β}{w:AS}{a:α}{b:β}{E F:akh->Prop}
def eB.mono(h:eB P s w a E)(k:∀e,E e->F e):eB P s w a F:=let⟨d,h1,c⟩:=h;⟨d,h1,λe he=>k e (c e he)⟩
def eB.nil(h:∀es,s.runT P w es=(.ok a w,es)):eB P s w a E:=⟨#[],λes=>by rw[h,Array.append_empty],aj⟩
def eB.bind(h:eB P s w a E)(k:eB P (f a) w b E):eB P (s>>=f) w b E:=by obtain⟨d,h1,g⟩:=h;obtain⟨c,i,j⟩:=k;exact⟨d++c,λes=>by have e:=oK P s f w es;rw[h1] at e;exact e.trans ((i _).trans (by rw[Array.append_assoc])),λe he=>(j7.1 he).elim (g e) (j e)⟩
end
def Does(P:NO)(K:aH){α β:Type}(R:Ren->α->β->Prop)(φ:Ren)(s:Sem α)(s':Sem β):Prop:=
 ∀{w w':AS}{a:α}{g:AS}(es:Array akh),WR K φ w w'->s.run P w=.ok a g->
  ∃ψ b c d,s'.runT P.two w' es=(.ok b c,es++d)/\R ψ a b/\WR K ψ g c/\lu w g/\ik K φ ψ w.heap.size w' c/\∀e∈d,gJ K ψ e
def At(P:NO)(K:aH){α β:Type}(R:Ren->α->β->Prop)(φ:Ren)(s:Sem α)(s':Sem β)(w w':AS)(es:Array akh):Prop:=
 (∀a c,s.run P w=.ok a c->(∃ψ b g d,s'.runT P.two w' es=(.ok b g,es++d)/\R ψ a b/\WR K ψ c g/\lu w c/\ik K φ ψ w.heap.size w' g/\∀e∈d,gJ K ψ e)/\
  ∃k,c.drawn=w.drawn+k/\c.tape=w.tape/\∀(T:Tape) n,(∀j,j<k->∀q,T (n+j) q=w.tape (w.drawn+j) q)->s.run P (w.on T n)=.ok a (c.on T (n+k)))/\
 ∀x c,s.run P w=.halt x c->lh x/\∃ψ h',Ren.le φ ψ/\HR K ψ c.heap h'
def SR(P:NO)(K:aH){α β:Type}(R:Ren->α->β->Prop)(φ:Ren)(s:Sem α)(s':Sem β):Prop:=∀w w' es,WR K φ w w'->At P K R φ s s' w w' es
section
variable{P:NO}{K:aH}{α β:Type}{R:Ren->α->β->Prop}{φ ψ:Ren}{s k:Sem α}{s' k':Sem β}{w w2 w' DP:AS}{es d0:Array akh}
def SR.run(h:SR P K R φ s s'):Does P K R φ s s':=λes hw c=>((h _ _ es hw).1 _ _ c).1
def SR.wO(h:SR P K R φ s s'):agm P K φ s:=λw w' hw=>(h w w' #[] hw).2
def SR.ahE(h:SR P K R φ s s'):ahD P K φ s:=λw w' hw a c e=>((h w w' #[] hw).1 a c e).2
def At.halt{x:Halt}{d:AS}(e:s.run P w=.halt x d)(g:lh x)(h:∃ψ h',Ren.le φ ψ/\HR K ψ d.heap h'):At P K R φ s s' w w' es:=
 ⟨λ_ _ c=>(by rw[e] at c;cases c),λ_ _ c=>(by rw[e] at c;cases c;exact⟨g,h⟩)⟩
def At.step(j:Nat)(h:SR P K R ψ k k')(hw:WR K ψ w2 DP)(c:lu w w2)(hd:w2.drawn=w.drawn+j)(y:ik K φ ψ w.heap.size w' DP)(he:∀e∈d0,gJ K ψ e)
  (z:∀(T:Tape) n,(∀i,i<j->∀q,T (n+i) q=w.tape (w.drawn+i) q)->s.run P (w.on T n)=k.run P (w2.on T (n+j)))
  (D:s'.runT P.two w' es=k'.runT P.two DP (es++d0)):At P K R φ s s' w w' es:=by
 have A:s.run P w=k.run P w2:=by have:=z w.tape w.drawn λ_ _ _=>rfl;rw[<-hd] at this;exact this.trans (by rw[<-c.tape];rfl)
 constructor
 ·intro a l g;rw[A] at g;have⟨⟨m,b,p,d,h1,G,H,I,B,J⟩,L,W,M,N⟩:=(h w2 DP (es++d0) hw).1 a l g;refine⟨⟨m,b,p,d0++d,by rw[D,h1];simp,G,H,c.trans I,y.trans B c.size,λe h=>(j7.1 h).elim (λh=>(he e h).mono B.le) (J e)⟩,j+L,aa,M.trans c.tape,λT n C=>?_⟩;rw[z T n λi hi=>C i aa,N T (n+j) (λi hi q=>by rw[Nat.add_assoc,C (j+i) aa,c.tape,hd,Nat.add_assoc]),Nat.add_assoc]
 ·intro x l g;rw[A] at g;have⟨Q,m,h',S,V⟩:=(h w2 DP (es++d0) hw).2 x l g;exact⟨Q,m,h',Ren.le_trans y.le S,V⟩
def SR.xL(h:∀w w',WR K φ w w'->∃c i,(∀g:AS,g.heap=w.heap->eB P s g c λ_=>True)/\eB P.two s' w' i (gJ K φ)/\R φ c i):SR P K R φ s s':=λw w' es hw=>by
 obtain⟨c,i,h1,⟨d,j,l⟩,m⟩:=h w w' hw
 have h0:∀g:AS,g.heap=w.heap->s.run P g=.ok c g:=λg e=>by obtain⟨d,e,_⟩:=h1 g e;rw[<-Sem.runT_fst P s g #[],e]
 exact⟨λa p e=>(by rw[h0 w rfl] at e;cases e;exact⟨⟨φ,i,w',d,j es,m,hw,.refl _,.refl _ _ _ _,l⟩,0,rfl,rfl,λT n _=>h0 _ rfl⟩),λx p e=>by rw[h0 w rfl] at e;cases e⟩
def SR.pure{a:α}{b:β}(h:R φ a b):SR P K R φ (.pure a) (.pure b):=λw w' es hw=>⟨λ_ _ c=>(by cases c;exact⟨⟨φ,b,w',#[],by simp[akX],h,hw,.refl _,.refl _ _ _ _,by simp⟩,0,rfl,rfl,λ_ _ _=>rfl⟩),λ_ _ c=>nomatch c⟩
def SR.dead(h:fD P s):SR P K R φ s s':=λw w' es hw=>by have⟨x,g,e,c,d⟩:=h w;exact .halt e c ⟨φ,w'.heap,Ren.le_refl _,hw.heap.keep d⟩
def SR.halt(h:Halt)(s':Sem β)(c:lh h:=by trivial):SR P K R φ (.halt h:Sem α) s':=.dead λw=>⟨h,w,rfl,c,.refl w⟩
def SR.mono{g:Ren->α->β->Prop}(i:∀φ a b,R φ a b->g φ a b)(h:SR P K R φ s s'):SR P K g φ s s':=λw w' es hw=>⟨λa j e=>let⟨⟨ψ,b,c,d,h1,m,n⟩,l⟩:=(h w w' es hw).1 a j e;⟨⟨ψ,b,c,d,h1,i _ _ _ m,n⟩,l⟩,(h w w' es hw).2⟩
def SR.program{k:NO->Sem α}{k':NO->Sem β}(h:SR P K R φ (k P) (k' P.two)):SR P K R φ (.program k) (.program k'):=h
def SR.bind{j:Type}{S:Ren->γ->j->Prop}{f:α->Sem γ}{f':β->Sem j}(h:SR P K R φ s s')(m:∀ψ a b,Ren.le φ ψ->R ψ a b->SR P K S ψ (f a) (f' b)):SR P K S φ (s.bind f) (s'.bind f'):=λw w' es hw=>by
 cases g:s.run P w with
 |halt x w2=>have⟨h1,i⟩:=(h w w' es hw).2 x w2 g;exact .halt (by show(s>>=f).run P w=_;rw[ajy,g];rfl) h1 i
 |ok c w2=>have⟨⟨ψ,b,DP,d,h1,i,p,q,l,y⟩,z,A,D,B⟩:=(h w w' es hw).1 c w2 g;exact .step z (m ψ c b l.le i) p q A l y (λT n C=>by show(s>>=f).run P _=_;rw[ajy,B T n C];rfl) (by have e:=oK P.two s' f' w' es;rw[h1] at e;exact e)
def XJ{f:α->Sem γ}(h:fD P s):fD P (s.bind f):=λw=>by have⟨x,c,e,d⟩:=h w;exact⟨x,c,by show(s>>=f).run P w=_;rw[ajy,e];rfl,d⟩
end
end
section
variable[ag]
section
variable{P:NO}{K:aH}
def DZ{f:Nat×Nat}(h:w.heap[b]?=an (.cells cs t f))(off:Nat)(c:Option Nat):
  w.cell? ⟨b,off,c⟩=if c.isSome then ns else cs[off]?:=by simp[ajQ,h]
def Pd(h:w.heap[a.block]?=an o)(c:∀cs t f,o≠.cells cs t f):w.cell? a=ns:=by unfold ajQ;rw[h];cases o<;>first|rfl|exact absurd rfl (c _ _ _)
def HO.cells{φ:Ren}{b:Nat}{cs:Array so}{t:TO}{f:Nat×Nat}{o':Obj}(h:HO K φ b (.cells cs t f) o'):∃cs' f',o'=.cells cs' t f'/\aw φ cs cs'/\¬K.tok b/\((¬K.ro b/\f'=f/\f=(0,0))\/(K.ro b/\∃n,f=(0,n)/\cs.size<=n)):=by
 cases h with
 |own h1 c e d=>cases e with|cells t f h=>exact⟨_,_,rfl,h,c,.inl ⟨h1,rfl,d⟩⟩
 |shut t h1 c d=>exact⟨_,_,rfl,d,c,.inr ⟨h1,_,rfl,av _⟩⟩
def HO.noView{φ:Ren}(h:HO K φ b o o'):(∀x y,o≠.view x y)/\(∀x y,o'≠.view x y)/\o'.isChan=Bz:=by cases h with|blank s p _ h=>exact⟨λ_ _ e=>cB,λ_ _ e=>(by subst e;exact h),by cases o'<;>first|rfl|exact h.elim⟩|own c d h _=>cases h<;>exact⟨λ_ _ e=>cB,λ_ _ e=>cB,rfl⟩|_=>exact⟨λ_ _ e=>cB,λ_ _ e=>cB,rfl⟩
def Al{φ:Ren}(h:φ r=an r')(g:HO K φ r o o'):gJ K φ ⟨.obj r',Bz,o'.isChan⟩:=.inr (.inl ⟨r',r,rfl,g.noView.2.2,h,λe=>by cases e⟩)
theorem isCells(o:Obj):(∃cs t f,o=.cells cs t f)\/∀cs t f,o≠.cells cs t f:=fu
def HR.cell{φ:Ren}{w w':AS}(H:HR K φ w.heap w'.heap){a a':ajF}(d:AR φ a a'){v:so}(c:w.cell? a=an v):∃v',w'.cell? a'=an v'/\VR φ v v'/\¬K.tok a.block:=by
 obtain⟨o,o',h1,e,g⟩:=H.obj _ _ d.block;rcases isCells o with⟨cs,t,f,rfl⟩|h
 ·obtain⟨i,p,rfl,hc,j,_⟩:=g.cells;rw[show a=⟨a.block,a.off,a.spot⟩ from rfl,DZ h1] at c;split at c
  ·cases c
  ·rename_i l;obtain⟨y,m,n⟩:=hc.get c;refine⟨y,?_,n,j⟩;rw[show a'=⟨a'.block,a'.off,a'.spot⟩ from rfl,DZ e,d.spot,if_neg l,d.off];exact m
 ·rw[Pd h1 h] at c;cases c
def HR.aee{φ:Ren}(H:HR K φ w.heap w'.heap)(h:φ r=an r'):w'.shape? r'=w.shape? r\/w.shape? r=ns:=by
 obtain⟨o,o',h1,c,d⟩:=H.obj _ _ h;rcases isCells o with⟨cs,t,f,rfl⟩|e
 ·obtain⟨g,i,rfl,hc,_⟩:=d.cells;exact .inl (by simp[World.shape?,h1,c,hc.size])
 ·refine .inr ?_;unfold World.shape?;rw[h1];cases o<;>first|rfl|exact absurd rfl (e _ _ _)
def Eb{f:Nat×Nat}(h:w.heap[a.block]?=an (.cells cs t f))(d:a.spot=ns):
  (w.setCell a v).heap=w.heap.setIfInBounds a.block (.cells (cs.setIfInBounds a.off v) t f):=by
 apply zo;intro i;have c:=(bE.1 h).1;by_cases e:a.block=i
 ·subst e;rw[ajN c];simp[alZ,Array.getElem?_modify,h,d]
 ·rw[ajp e];simp[alZ,Array.getElem?_modify,e]
omit [ag] in
def Ru(w:AS)(T:Tape)(n:Nat)(a:ajF):(w.on T n).cell? a=w.cell? a:=rfl
def HR.noCell{φ:Ren}(H:HR K φ w.heap w'.heap)(d:AR φ a a')(c:String):lh (w.noCell a c):=by obtain⟨o,o',h1,g,e⟩:=H.obj _ _ d.block;unfold World.noCell;rw[h1];cases e with|shut=>trivial|token=>trivial|blank=>trivial|num=>trivial|own _ _ h _=>cases h<;>trivial
def HR.farLoad{φ:Ren}(H:HR K φ w.heap w'.heap)(c:AR φ a a')(m:Bool):w.farLoad P a m=.error (w.noCell a "load: no such cell"):=by obtain⟨o,o',h1,g,d⟩:=H.obj _ _ c.block;have e:=d.noView.1;unfold World.farLoad;rw[h1];cases o<;>first|rfl|exact absurd rfl (e _ _)
def HR.farStore{φ:Ren}(H:HR K φ w.heap w'.heap)(c:AR φ a a')(v:so)(m:Bool):w.farStore P a v m=.error (w.noCell a "store: no such cell"):=by obtain⟨o,o',h1,g,d⟩:=H.obj _ _ c.block;have e:=d.noView.1;unfold World.farStore;rw[h1];cases o<;>first|rfl|exact absurd rfl (e _ _)
section
variable{α β:Type}{R:Ren->α->β->Prop}{φ:Ren}
def SR.load{k:so->Sem α}{k':so->Sem β}(c:AR φ a a')(h:∀v v',VR φ v v'->SR P K R φ (k v) (k' v')):SR P K R φ (.load .plain a k) (.load .plain a' k'):=λw w' es hw=>by
 cases hc:w.cell? a with
 |none=>exact .halt (by simp only[akm,hc,hw.heap.farLoad c];rfl) (hw.heap.noCell c _) ⟨φ,w'.heap,Ren.le_refl _,hw.heap⟩
 |some v=>
  obtain⟨v',d,g,i⟩:=hw.heap.cell c hc
  exact .step 0 (h v v' g) hw (.refl w) rfl (.refl _ _ _ _) (d0:=#[⟨.cell a',Bz,Bz⟩]) (λe he=>by simp at he;subst he;exact .inl ⟨a',a.block,rfl,rfl,c.block,i,λe=>by cases e⟩) (λT n _=>by simp only[akm,Ru,hc];rfl) (by simp only[akX,d];rfl)
def SR.store{k:Sem α}{k':Sem β}(i:AR φ a a')(I:VR φ v v')(h:SR P K R φ k k'):SR P K R φ (.store .plain a v k) (.store .plain a' v' k'):=λw w' es hw=>by
 have d:∃ψ h',Ren.le φ ψ/\HR K ψ w.heap h':=⟨φ,w'.heap,Ren.le_refl _,hw.heap⟩;by_cases m:(∃xs,v=.agg xs)\/∃xs,v=.tuple xs
 ·rcases m with⟨xs,rfl⟩|⟨xs,rfl⟩<;>exact .halt rfl trivial d
 have J:∀xs,v≠.agg xs:=λxs e=>m (.inl ⟨xs,e⟩);have A:∀xs,v≠.tuple xs:=λxs e=>m (.inr ⟨xs,e⟩)
 have B:∀w:AS,(Sem.store Mode.plain a v k).run P w=match w.cell? a with
   |some _=>if w.frozen? a then .halt (.unsupported (.unsafePointer "a write to bytes that a string shares")) w else k.run P (w.setCell a v)
   |none=>match w.farStore P a v (Mode.plain==Mode.atomic) with
    |.ok (w,_)=>k.run P w
    |.error h=>.halt h w:=by
  intro w;cases v<;>first|rfl|exact absurd rfl (J _)|exact absurd rfl (A _)
 cases hc:w.cell? a with
 |none=>exact .halt (by rw[B,hc];simp only[hw.heap.farStore i];rfl) (hw.heap.noCell i _) d
 |some u=>
  by_cases j:w.frozen? a=AT
  ·refine .halt ((B w).trans (by rw[hc];exact if_pos j)) ?_ d;trivial
  obtain⟨u',q,_,C⟩:=hw.heap.cell i hc;obtain⟨o,o',x,L,M⟩:=hw.heap.obj _ _ i.block;rcases isCells o with⟨cs,t,f,rfl⟩|D;case inr=>rw[Pd x D] at hc;cases hc
  obtain⟨N,S,rfl,G,_,p⟩:=M.cells
  obtain⟨y,Q⟩:a.spot=ns/\a.off<cs.size:=by rw[show a=⟨a.block,a.off,a.spot⟩ from rfl,DZ x] at hc;cases hq:a.spot with|none=>rw[hq] at hc;exact⟨rfl,(bE.1 hc).1⟩|some z=>simp[hq] at hc
  rcases p with⟨g,rfl,H⟩|⟨_,n,rfl,A⟩;case inr=>exact absurd (by simp[aku,x];omega) j
  have s1:=Eb (v:=v) x y;have s2:=Eb (v:=v') L (i.spot.trans y);refine .step 0 h (w2:=w.setCell a v) (DP:=w'.setCell a' v') ⟨?_,hw.tape⟩ ⟨rfl,rfl,rfl,av _,by rw[s1];simp⟩ rfl ⟨⟨rfl,rfl,rfl,av _,by rw[s2];simp⟩,Ren.le_refl _,λ_ _ h=>.inl h,λc hc D=>?_⟩ (d0:=#[⟨.cell a',AT,Bz⟩]) (λe he=>?_) (λT n _=>?_) ?_
  ·rw[s1,s2,i.off];exact hw.heap.put i.block (.cells t _ (G.set _ I)) g C H
  ·rw[s2,ajp λe:a'.block=c=>(D _ (e▸i.block)).elim g C]
  ·simp at he;subst he;exact .inl ⟨a',a.block,rfl,rfl,i.block,C,λ_=>g⟩
  ·rw[B,Ru,hc];exact if_neg j
  ·have l:w'.frozen? a'=Bz:=by rw[<-Bool.not_eq_true,show w'.frozen? a'=w.frozen? a by simp[aku,x,L,i.off]];exact j
   cases I with
   |agg=>exact absurd rfl (J _)
   |tuple=>exact absurd rfl (A _)
   |aW _ h=>cases v'<;>first|(simp only[akX,q,l];rfl)|exact absurd rfl (h.1 _)|exact absurd rfl (h.2.1 _)
   |_=>simp only[akX,q,l];rfl
def SR.new{o o':Obj}{k:Nat->Sem α}{k':Nat->Sem β}(i:OR φ o o')(d:Obj.loose o)(h:∀ψ r r',Ren.le φ ψ->ψ r=an r'->SR P K R ψ (k r) (k' r')):SR P K R φ (.new o k) (.new o' k'):=λw w' es hw=>by
 obtain⟨le,H⟩:=hw.heap.push i d
 exact .step 0 (h _ _ _ le (Ren.add_same _ _ _)) (w2:={w with heap:=w.heap.push o}) (DP:={w' with heap:=w'.heap.push o'}) ⟨H,hw.tape⟩ ⟨rfl,rfl,rfl,av _,aj⟩ rfl ⟨⟨rfl,rfl,rfl,av _,aj⟩,le,λb c g=>by
   by_cases e:b=w.heap.size
   ·subst e;rw[Ren.add_same] at g;cases g;exact .inr ⟨av _,av _⟩
   ·exact .inl (by simpa[Ren.add,e] using g),λc hc _=>by
   show(w'.heap.push o')[c]?=_;rw[akb hc];simp[ajB hc]⟩ (d0:=#[]) (λe he=>by simp at he) (λ_ _ _=>rfl) (by simp[akX])
def SR.shape{k:Option (TO×Nat)->Sem α}{k':Option (TO×Nat)->Sem β}(hr:φ r=an r')(h:∀s,SR P K R φ (k s) (k' s))(h0:∀s,SR P K R φ (k ns) (k' s)):SR P K R φ (.shape r k) (.shape r' k'):=λw w' es hw=>by
 have c:SR P K R φ (k (w.shape? r)) (k' (w'.shape? r')):=by
  rcases hw.heap.aee hr with he|he
  ·rw[he];exact h _
  ·rw[he];exact h0 _
 exact c w w' es hw
def SR.getObj{k:Obj->Sem α}{k':Obj->Sem β}(hr:φ r=an r')(h:∀o o',OR φ o o'->¬K.ro r->¬K.tok r->SR P K R φ (k o) (k' o'))(hd:∀s p,fD P (k (.stringIter s p)))(g:∀a l,fD P (k (.number a l))):SR P K R φ (.getObj r k) (.getObj r' k'):=λw w' es hw=>by
 obtain⟨o,o',i,A,B⟩:=hw.heap.obj _ _ hr;have c:∃ψ h',Ren.le φ ψ/\HR K ψ w.heap h':=⟨φ,w'.heap,Ren.le_refl _,hw.heap⟩;rcases isCells o with⟨cs,t,f,rfl⟩|j
 ·exact .halt (x:=.stuck _) (by simp only[akm,i];rfl) trivial c
 have q:∀d:AS,d.heap[r]?=an o->(Sem.getObj r k).run P d=(k o).run P d:=by intro d h0;cases o<;>first|(simp only[akm,h0];done)|exact absurd rfl (j _ _ _)
 have dd:fD P (k o)->At P K R φ (.getObj r k) (.getObj r' k') w w' es:=λh=>by obtain⟨x,w2,e,C,D⟩:=h w;exact .halt ((q w i).trans e) C ⟨φ,w'.heap,Ren.le_refl _,hw.heap.keep D⟩
 cases B with
 |shut=>exact absurd rfl (j _ _ _)
 |token s p=>exact dd (hd s p)
 |blank s p=>exact dd (hd s p)
 |num l=>exact dd (g _ l)
 |own y z m _=>
  exact .step 0 (h o o' m y z) hw (.refl w) rfl (.refl _ _ _ _) (d0:=#[⟨.obj r',Bz,Bz⟩]) (λe he=>by
   simp at he;subst he;exact .inr (.inl ⟨r',r,rfl,rfl,hr,λ_=>⟨z,y⟩⟩)) (λT n _=>q (w.on T n) i) (by
   have G:o'.isChan=Bz:=by cases m<;>rfl
   cases m with
   |cells t f h=>exact absurd rfl (j _ _ _)
   |_=>simp only[akX,A];rfl)
def SR.setObj{k:Sem α}{k':Sem β}(hr:φ r=an r')(i:¬K.ro r)(d:¬K.tok r)(q:OR φ o o')(j:Obj.loose o)(h:SR P K R φ k k'):SR P K R φ (.setObj r o k) (.setObj r' o' k'):=λw w' es hw=>by
 obtain⟨p,C,y,z,A⟩:=hw.heap.obj _ _ hr;rcases isCells p with⟨cs,t,f,rfl⟩|g
 ·exact .halt (x:=.stuck _) (by simp only[akm,y];rfl) trivial ⟨φ,w'.heap,Ren.le_refl _,hw.heap⟩
 cases A with
 |shut=>exact absurd rfl (g _ _ _)
 |token _ _ _ _ h _=>exact absurd h d
 |blank _ _ h _=>exact absurd h d
 |num _ h _=>exact absurd h d
 |own _ _ B _=>
  refine .step 0 h (w2:={w with heap:=w.heap.setIfInBounds r o}) (DP:={w' with heap:=w'.heap.setIfInBounds r' o'}) ⟨hw.heap.put hr q i d j,hw.tape⟩ ⟨rfl,rfl,rfl,av _,aj⟩ rfl ⟨⟨rfl,rfl,rfl,av _,aj⟩,Ren.le_refl _,λ_ _ h=>.inl h,λc hc g=>ajp λe:r'=c=>(g _ (e▸hr)).elim i d⟩ (d0:=#[⟨.obj r',AT,Bz⟩]) (λe he=>?_) (λT n _=>?_) ?_
  ·simp at he;subst he;exact .inr (.inl ⟨r',r,rfl,rfl,hr,λ_=>⟨d,i⟩⟩)
  ·have l:(w.on T n).heap[r]?=an p:=y;cases p<;>first|(simp only[akm,l];rfl)|exact absurd rfl (g _ _ _)
  ·have m:o'.isChan=Bz:=by cases q<;>rfl
   cases B with|cells t f h=>exact absurd rfl (g _ _ _)|_=>simp only[akX,z,m];rfl
def SR.choose{q:Question}{k:Nat->Sem α}{k':Nat->Sem β}(h:∀n,SR P K R φ (k n) (k' n)):SR P K R φ (.choose q k) (.choose q k'):=λw w' es hw=>by
 by_cases hq:q.forced=AT
 ·exact .step 0 (h 0) hw (.refl w) rfl (.refl _ _ _ _) (d0:=#[]) (λe he=>by simp at he) (λT n _=>by simp only[akm,if_pos hq];rfl) (by simp[akX,if_pos hq])
 ·have c:=hw.tape 0 q;refine .step 1 (h (q.cut (w.tape w.drawn q))) (w2:={w with drawn:=w.drawn+1}) (DP:={w' with drawn:=w'.drawn+1}) ⟨hw.heap,λi q=>?_⟩ ⟨rfl,rfl,rfl,aj,av _⟩ rfl ⟨⟨rfl,rfl,rfl,aj,av _⟩,Ren.le_refl _,λ_ _ h=>.inl h,λ_ _ _=>rfl⟩ (d0:=#[]) (λe he=>by simp at he) (λT n d=>?_) ?_
  ·have:=hw.tape (1+i) q;simpa[Nat.add_assoc] using this
  ·simp only[akm,if_neg hq];rw[show w.tape w.drawn q=_ from(d 0 aa q).symm];rfl
  ·simp only[Nat.add_zero] at c;simp only[akX,if_neg hq,Array.append_empty];rw[c]
def SR.quiet{m:Mark}{k:Sem α}{k':Sem β}(hq:Quiet m)(h:SR P K R φ k k'):SR P K R φ (.mark m k) (.mark m k'):=λw w' es hw=>
 .step 0 h hw (.refl w) rfl (.refl _ _ _ _) (d0:=#[⟨.mark m,Bz,AT⟩]) (λe he=>by simp at he;subst he;exact .inr (.inr ⟨m,rfl,hq⟩)) (λ_ _ _=>rfl) (by simp[akX])
end
end
end
section
variable[ag]
abbrev aZ{α:Type}:Ren->α->α->Prop:=λ_ a b=>a=b
section
variable{P:NO}{K:aH}{φ:Ren}
def SR.of_run{R:Ren->α->β->Prop}{s:Sem α}{s':Sem β}{a:α}{b:β}(h:∀w es,s.runT P w es=(.ok a w,es))(h':∀w es,s'.runT P.two w es=(.ok b w,es))(hr:R φ a b):SR P K R φ s s':=
 .xL λw w' _=>⟨a,b,λc _=>.nil (h c),.nil (h' w'),hr⟩
def Looks.calm{s:Sem α}(h:Looks P s):Calm P s:=λw=>by
 have c:=pM P s w #[];rcases h with⟨a,h⟩|⟨y,g,h⟩
 ·rw[(h _ _).1] at c;rw[<-c];exact⟨λx d e=>cB,λb d e=>(by cases e;exact .refl w)⟩
 ·rw[(h _ _).1] at c;rw[<-c];exact⟨λx d e=>(by cases e;exact⟨g,.refl w⟩),λb d e=>cB⟩
def Looks.sr'{R:Ren->α->α->Prop}{s:Sem α}(h:Looks P s)(hr:∀a,(∀w es,s.runT P w es=(.ok a w,es))->R φ a a):SR P K R φ s s:=by
 rcases h with⟨a,h⟩|⟨x,c,h⟩
 ·exact .of_run (λw es=>(h w es).1) (λw es=>(h w es).2) (hr a λw es=>(h w es).1)
 ·exact .dead λw=>⟨x,w,by rw[<-Sem.runT_fst P s w #[],(h _ _).1],c,.refl w⟩
def Looks.sr{s:Sem α}(h:Looks P s):SR P K aZ φ s s:=h.sr' λ_ _=>rfl
def ew(t:TO):SR P K aZ φ (ajV t) (ajV t):=(rZ t).sr
def mR(t:TO):SR P K aZ φ (typeInfo t) (typeInfo t):=(se t).sr
def fJ(t:TO):SR P K aZ φ (sizeOf t) (sizeOf t):=(zx t).sr
def FF(t:TO):SR P K aZ φ (isAgg t) (isAgg t):=(Nw t).sr
def cO(P:NO):Prop:=∀t i v,P.info? t=an i->i.zero=an v->∀φ,VR φ v v
def Nl(t:TO):SR P K (λ_ a b=>a=b/\P.info? t=an a) φ (typeInfo t) (typeInfo t):=by refine SR.program ?_;show SR P K _ φ (match P.info? t with|some i=>(pure i:Sem TypeInfo)|none=>stuck "no such type") (match P.info? t with|some i=>(pure i:Sem TypeInfo)|none=>stuck "no such type");cases P.info? t with|none=>exact .halt _ _|some i=>exact .pure ⟨rfl,rfl⟩
def pT(c:cO P)(t:TO):SR P K VR φ (zeroValue t) (zeroValue t):=by refine SR.bind (Nl t) ?_;rintro ψ i _ _⟨rfl,hi⟩;cases h:i.zero with|none=>exact .halt _ _|some v=>exact .pure (c t i v hi h _)
def VR.cells{v v':so}(h:VR φ v v'):aw φ v.cells v'.cells:=by
 have one:∀x y,VR φ x y->aw φ #[x] #[y]:=λx y g=>⟨rfl,λi a b j l=>by
  cases i with
  |zero=>simp at j l;subst j;subst l;exact g
  |succ i=>simp at j⟩
 cases h with
 |agg q z=>exact⟨q,z⟩
 |bool b=>exact one _ _ (.bool b)
 |int k n=>exact one _ _ (.int k n)
 |string s=>exact one _ _ (.string s)
 |nilFunc=>exact one _ _ .nilFunc
 |nilIface=>exact one _ _ .nilIface
 |nilPtr=>exact one _ _ .nilPtr
 |ko=>exact one _ _ .ko
 |kk=>exact one _ _ .kk
 |ptr h=>exact one _ _ (.ptr h)
 |dV n c=>exact one _ _ (.dV n c)
 |slice n c h=>exact one _ _ (.slice n c h)
 |empty=>exact one _ _ .empty
 |iface t h p=>exact one _ _ (.iface t h p)
 |@aW v' A m=>
  have e:v'.cells=#[v']:=by cases v'<;>first|rfl|exact absurd rfl (m.1 _)
  rw[e];exact one _ _ (.aW A m)
 |tuple h k=>exact one _ _ (.tuple h k)
 |func a b c d e=>exact one _ _ (.func a b c d e)
def AR.add{a a':ajF}(h:AR φ a a')(n:Nat):AR φ (a.add n) (a'.add n):=by
 unfold Addr.add;split
 ·exact h
 ·exact⟨h.block,by simp[h.off],rfl⟩
def aw.push(h:aw φ xs ys){x y:so}(e:VR φ x y):aw φ (xs.push x) (ys.push y):=by
 refine⟨by simp[h.size],λi a b d c=>?_⟩;rw[Array.getElem?_push] at d c;split at d
 ·rw[if_pos uX] at c;cases d;cases c;exact e
 ·rw[if_neg uX] at c;exact h.at_ i a b d c
def aw.empty:aw φ #[] #[]:=⟨rfl,λi x y c _=>by simp at c⟩
def Rv(h:AR φ a a'):SR P K VR φ (load a) (load a'):=.load h λv v' c=>.pure c
def aco(h:AR φ a a')(c:VR φ v v'):SR P K aZ φ (store a v) (store a' v'):=.store h c (.pure rfl)
def W9(n:Nat):∀(φ:Ren)(i:Nat)(acc c:Array so),AR φ a a'->aw φ acc c->SR P K aw φ (loadCellsFrom a i n acc) (loadCellsFrom a' i n c):=by
 induction n with
 |zero=>exactλφ i acc c _ h=>.pure h
 |succ n g=>intro φ i acc c d h;refine SR.bind (Rv (d.add i)) λψ v v' e j=>?_;exact g ψ (i+1) _ _ (d.mono e) ((h.mono e).push j)
def Ec(h:AR φ a a')(n:Nat):SR P K aw φ (loadCells a n) (loadCells a' n):=W9 n φ 0 #[] #[] h .empty
inductive iy(φ:Ren):List so->List so->Prop
 |nil:iy φ [] []
 |cons {x y:so} {xs ys:List so}:VR φ x y->iy φ xs ys->iy φ (x::xs) (y::ys)
def iy.mono{ψ:Ren}{xs ys:List so}(h:iy φ xs ys)(k:Ren.le φ ψ):iy ψ xs ys:=by induction h with|nil=>exact .nil|cons h _ c=>exact .cons (h.mono k) c
def iy.of:∀{xs ys:List so},xs.length=ys.length->(∀(i:Nat) x y,xs[i]?=an x->ys[i]?=an y->VR φ x y)->iy φ xs ys
 |[],[],_,_=>.nil
 |[],_::_,h,_=>by simp at h
 |_::_,[],h,_=>by simp at h
 |x::xs,y::ys,h,k=>.cons (k 0 x y rfl rfl) (iy.of kU λi a b c hb=>k (i+1) a b (by simpa using c) uY)
def aw.toList(h:aw φ xs ys):iy φ xs.toList ys.toList:=iy.of (by simpa using h.size) λi x y c d=>h.at_ i x y (by simpa using c) (by simpa using d)
theorem iy.toArray{xs ys:List so}(h:iy φ xs ys):aw φ xs.toArray ys.toArray:=by
 have e:xs.length=ys.length:=by induction h with
  |nil=>rfl
  |cons _ _ c=>simp[c]
 refine⟨by simpa using e,λi x y d g=>?_⟩;simp only[List.getElem?_toArray] at d g
 induction h generalizing i with|nil=>simp at d|cons h _ c=>grind
def D4:∀{vs c:List so}(φ:Ren){a a':ajF}(i:Nat),iy φ vs c->AR φ a a'->SR P K aZ φ (storeCells a vs i) (storeCells a' c i)
 |[],[],_,_,_,_,_,_=>.pure rfl
 |_::_,_::_,φ,_,_,i,.cons h hr,d=>SR.bind (aco (d.add i) h) λψ _ _ e _=>D4 ψ (i+1) (hr.mono e) (d.mono e)
def vJ(t:TO)(d:AR φ a a'):SR P K VR φ (loadVar t a) (loadVar t a'):=by
 refine SR.bind (FF t) λψ b _ g e=>?_;subst e;cases b with
 |true=>refine SR.bind (fJ t) λi n _ c e=>?_;subst e;refine SR.bind (Ec ((d.mono g).mono c) n) λj xs ys _ h=>.pure (.agg h.size h.at_)
 |false=>exact Rv (d.mono g)
def YR(t:TO)(d:AR φ a a')(g:VR φ v v'):SR P K aZ φ (storeVar t a v) (storeVar t a' v'):=by
 refine SR.bind (fJ t) λψ n _ c e=>?_;subst e;have hc:=g.cells.mono c;by_cases h:v.cells.size=n
 ·have h':v'.cells.size=n:=by rw[<-hc.size];exact h
  simp only[h,h',ne_eq,not_true_eq_false,if_false];exact D4 ψ 0 hc.toList (d.mono c)
 ·simp only[h,ne_eq,not_false_eq_true,if_true];exact .halt _ _
def zR(t:TO){cs':Array so}(h:aw φ cs cs'):SR P K AR φ (newRow t cs) (newRow t cs'):=
 SR.new (.cells t (0,0) h) rfl λψ r r' _ c=>.pure ⟨c,rfl,rfl⟩
def Pe(t:TO)(h:VR φ v v'):SR P K AR φ (newVar t v) (newVar t v'):=zR t h.cells
def vH(h:VR φ v v'):SR P K AR φ (Instr.sureAddr v) (Instr.sureAddr v'):=by cases h with|ptr h=>exact .pure h|_=>exact .halt _ _
def zI(h:VR φ v v'):SR P K aZ φ (asIntOf v) (asIntOf v'):=by cases h with|int k n=>exact .pure rfl|_=>exact .halt _ _
def vX(h:VR φ v v'):SR P K aZ φ (asInt v) (asInt v'):=
 SR.bind (zI h) λψ x _ _ e=>by subst e;exact .pure rfl
def Pf(h:VR φ v v'):SR P K aZ φ (asBool v) (asBool v'):=by cases h with|bool b=>exact .pure rfl|_=>exact .halt _ _
def acp(h:VR φ v v'):SR P K aw φ (asAgg v) (asAgg v'):=by cases h with|agg h k=>exact .pure ⟨h,k⟩|_=>exact .halt _ _
def fz{s:Sem α}{f:α->Sem γ}(h:fD P s):fD P (s>>=f):=XJ h
end
end
section
variable[ag]
section
variable{P:NO}{K:aH}{φ:Ren}
def SR.ask{R:Ren->α->β->Prop}{f:NO->Sem α}{f':NO->Sem β}(h:SR P K R φ (f P) (f' P))(e:f' P.two=f' P:=by rfl):SR P K R φ (Go.program>>=f) (Go.program>>=f'):=.program (show SR P K R φ (f P) (f' P.two) by rw[e];exact h)
def Ed:fD P (goPanic v:Sem α):=λw=>⟨.panic v,w,rfl,trivial,.refl w⟩
def eZ{u:Unsupported}(hu:lh (.unsupported u):=by trivial):fD P (unsupported u:Sem α):=λw=>⟨.unsupported u,w,rfl,hu,.refl w⟩
def iC{c:String}:fD P (stuck c:Sem α):=λw=>⟨.stuck c,w,rfl,trivial,.refl w⟩
def qi{s:Sem α}(h:∀w,∃a c,s.run P w=.ok a c/\ky w c):Calm P s:=λw=>by obtain⟨a,w2,d,g⟩:=h w;rw[d];exact⟨λx c e=>cB,λb c e=>(by cases e;exact g)⟩
def Yl:Calm P program:=qi λw=>⟨_,_,rfl,.refl w⟩
def Em{q:Question}:Calm P (choose q):=qi λw=>by show∃a c,(Sem.choose q .pure).run P w=.ok a c/\ky w c;simp only[akm];split<;>exact⟨_,_,rfl,.refl w⟩
def ZL(w:AS):ky w {w with heap:=w.heap.push o}:=⟨aj,λb c=>by show(w.heap.push o)[b]?=_;rw[akb c,ajB c]⟩
def YS:Calm P (newVar t v):=qi λw=>⟨_,_,rfl,ZL w⟩
def sJ{s:Sem α}{f:α->Sem β}(h:Calm P s)(d:∀a,Calm P (f a)):Calm P (s>>=f):=λw=>by
 rw[ajy];cases g:s.run P w with
 |ok a w2=>have k:=(h w).2 _ _ g;exact⟨λx c e=>⟨((d a w2).1 x c e).1,k.trans ((d a w2).1 x c e).2⟩,λb c e=>k.trans ((d a w2).2 b c e)⟩
 |halt y w2=>exact⟨λx c e=>(by cases e;exact(h w).1 _ _ g),λb c e=>cB⟩
def lU{a:α}:Calm P (pure a:Sem α):=qi λw=>⟨_,_,rfl,.refl w⟩
def Ym:Looks P (elemOf t):=(rZ t).bind λd=>by cases d<;>first|exact .ret _|exact .stuck _
def fI{s:Sem α}{f:α->Sem γ}(h:∀a,fD P (f a))(d:Calm P s:=by first|exact Yl|exact Em|exact YS|exact(se _).calm|exact(rZ _).calm|exact(Ym).calm|exact(zx _).calm):fD P (s>>=f):=by
 intro w;cases e:s.run P w with
 |ok a c=>obtain⟨x,w2,g,i,j⟩:=h a c;exact⟨x,w2,by rw[ajy,e];exact g,i,((d w).2 a c e).trans j⟩
 |halt x c=>exact⟨x,c,by rw[ajy,e];rfl,((d w).1 x c e).1,((d w).1 x c e).2⟩
def eE(e:RuntimeError):fD P (runtimePanic e:Sem α):=by
 refine fI λp=>?_;cases e with
 |typeAssertion i c a m=>exact fI λ_=>fI λ_=>Ed
 |panicNil=>exact fI λ_=>fI λ_=>Ed
 |_=>exact Ed
def acr(c:cO P)(t:TO):SR P K VR φ (Instr.alloc t AT (.tuple #[])) (Instr.alloc t AT (.tuple #[])):=
 SR.bind (pT c t) λψ z e _ h=>SR.bind (Pe t h) λg a a' _ d=>.pure (.ptr d)
def afu(t:TO)(h:VR φ v v'):SR P K VR φ (Instr.box t v) (Instr.box t v'):=
 SR.bind (Pe t h) λd a a' _ c=>.pure (.ptr c)
def vR(t:TO)(h:VR φ v v'):SR P K VR φ (akB t v) (akB t v'):=
 SR.bind (vH h) λψ a a' _ c=>vJ t c
def ZM(t:TO)(h:VR φ v v')(hu:VR φ u u'):SR P K aZ φ (Instr.storeAt t v u) (Instr.storeAt t v' u'):=
 SR.bind (vH h) λψ a a' c d=>YR t d (hu.mono c)
def ZN(i:Nat)(h:VR φ v v'):SR P K VR φ (Instr.extract v i) (Instr.extract v' i):=by
 cases h with
 |@tuple xs ys c d=>
  unfold Instr.extract;dsimp only;cases hi:xs[i]? with
  |none=>exact .halt _ _
  |some x=>obtain⟨y,e,g⟩:=(aw.mk c d).get hi;rw[e];exact .pure g
 |_=>exact .halt _ _
def aw.extract(h:aw φ xs ys)(a b:Nat):aw φ (xs.extract a b) (ys.extract a b):=by
 refine⟨by simp[h.size],λi x y c d=>?_⟩;rw[Array.getElem?_extract] at c d;split at c
 ·rw[if_pos uX] at d;exact h.at_ _ x y c d
 ·cases c
def lX(t:TO)(h:aw φ xs ys)(off:Nat):SR P K VR φ (part t xs off) (part t ys off):=by
 refine SR.bind (FF t) λψ b _ d e=>?_;subst e;cases b with
 |true=>refine SR.bind (fJ t) λj n _ c e=>?_;subst e;have:=((h.mono d).mono c).extract off (off+n);exact .pure (.agg this.size this.at_)
 |false=>
  cases hi:xs[off]? with
  |none=>exact .halt _ _
  |some x=>obtain⟨y,g,i⟩:=h.get hi;rw[g];exact .pure (i.mono d)
def acs(t:TO)(h:VR φ v v')(i:Nat):SR P K VR φ (akI t v i) (akI t v' i):=by
 refine SR.bind (ew t) λψ d _ g e=>?_;subst e;cases d with
 |struct c=>
  dsimp only;cases c[i]? with
  |none=>exact .halt _ _
  |some f=>exact SR.bind (acp (h.mono g)) λl xs ys _ j=>lX f.type j f.offset
 |_=>exact .halt _ _
def vq{R:Ren->α->β->Prop}{k:IntKind}{x y:Int}{c:BoundsCode}{s':Sem β}:SR P K R φ (boundsPanic k x y c) s':=by
 unfold boundsPanic;split
 ·exact .dead (fI (λ_=>eE _) (sJ Em λ_=>lU))
 ·exact .dead (fI (λ_=>eE _) lU)
def acu(t:TO)(h:VR φ v v')(hu:VR φ u u'):SR P K VR φ (alY t v u) (alY t v' u'):=by
 refine SR.bind (zI hu) λψ x _ l e=>?_;subst e;obtain⟨k,i⟩:=x;refine SR.bind (ew t) λq d _ g e=>?_;subst e;cases h with
 |@agg xs ys m p=>
  cases d with
  |array len elem=>
   by_cases j:0<=i/\i<len
   ·simp only[j,and_self,if_true];refine SR.bind (fJ elem) λy n _ c e=>?_;subst e;exact lX elem ((((aw.mk m p).mono l).mono g).mono c) _
   ·simp only[j,if_false];exact vq
  |_=>exact .halt _ _
 |string s=>
  cases d with
  |string=>
   dsimp only;split
   ·exact .pure (.int _ _)
   ·exact vq
  |_=>exact .halt _ _
 |_=>cases d<;>exact .halt _ _
def Xa(h:VR φ v v')(c:ag.np t):SR P K VR φ (Instr.makeInterface t v) (Instr.makeInterface t v'):=by refine SR.bind (ew t) λψ d _ g e=>?_;subst e;cases d with|interface _=>exact .halt _ _|_=>exact .pure (.iface t (h.mono g) (.inl c))
def YT{f:Fn}(c:fE φ f f){us vs:Array so}(h:aw φ xs ys)(k:aw φ us vs):SR P K VR φ (Instr.makeFunc f xs us) (Instr.makeFunc f ys vs):=
 .pure (.func c h.size h.at_ k.size k.at_)
def acv(h:φ r=an r'){k k':Option (TO×Nat)->Sem β}{R:Ren->β->β->Prop}(h1:∀s,SR P K R φ (k s) (k' s))(c:∀s,SR P K R φ (k ns) (k' s)):
  SR P K R φ (shape r>>=k) (shape r'>>=k'):=.shape h h1 c
omit [ag] in
def zF{P:NO}(h:w.heap[r]?=an o)(c:∀x y,o≠.view x y):eB P (viewAt r) w ns (· =⟨.obj r,Bz,o.isChan⟩):=by
 cases o<;>first|exact absurd rfl (c _ _)|exact⟨#[],λes=>by unfold viewAt shape;simp only[bind,alz,akX,World.shape?,h,Option.isSome_some,if_true,Array.append_empty];rfl,aj⟩|
  exact⟨#[_],λes=>by unfold viewAt shape getObj;simp only[bind,alz,akX,World.shape?,h,Option.isSome_none,Bool.false_eq_true,if_false];rfl,λe he=>by simpa using he⟩
def Pg(h:φ r=an r'):SR P K (λ_ a b=>a=ns/\b=ns) φ (viewAt r) (viewAt r'):=.xL λw w' hw=>by obtain⟨o,o',d,g,c⟩:=hw.heap.obj _ _ h;exact⟨ns,ns,λi e=>(zF (e▸d) c.noView.1).mono λ_ _=>trivial,(zF g c.noView.2.1).mono λ_ e=>e▸Al h c,rfl,rfl⟩
def aaU(c:AR φ a a'):SR P K aZ φ (noView a) (noView a'):=by refine SR.bind (Pg c.block) λψ x y _ h=>?_;obtain⟨rfl,rfl⟩:=h;exact .pure rfl
def DV(P:NO):∀(d:Nat)(t:TO)(o:Nat),byteOfCell P.two d t o=byteOfCell P d t o
 |0,_,_=>rfl
 |d+1,t,o=>by unfold byteOfCell;have c:byteOfCell P.two d=byteOfCell P d:=funext λt=>funext λo=>DV P d t o;rw[c];rfl
def pV(c:AR φ a a'):SR P K aZ φ (aly a) (aly a'):=by
 unfold aly;rw[c.spot];cases a.spot with
 |some s=>exact .pure rfl
 |none=>
  refine SR.ask ?_ (by simp only[DV];rfl);refine SR.bind (S:=aZ) (aaU c) λψ _ _ d _=>?_;refine SR.shape (d _ _ c.block) (λs=>?_) λs=>.halt _ _;cases s with
  |none=>exact .halt _ _
  |some x=>
   obtain⟨e,n⟩:=x;rw[c.off];show SR P K aZ ψ (if P.cellsOf e=0 then(pure 0:Sem Nat) else _) (if P.cellsOf e=0 then(pure 0:Sem Nat) else _);by_cases h:P.cellsOf e=0
   ·simp only[h,if_true];exact .pure rfl
   ·simp only[h,if_false];cases byteOfCell P P.depth e (a.off%P.cellsOf e) with|none=>exact .halt _ _|some b=>exact .pure rfl
def D5(i:AR φ a a')(f:Field):SR P K AR φ (fieldPlace a f) (fieldPlace a' f):=by
 refine SR.bind (fJ _) λψ n _ j e=>?_;subst e;by_cases h:n=0
 ·simp only[h,if_true];refine SR.bind (pV (i.mono j)) λp b _ l e=>?_;subst e;have d:=(i.mono j).mono l;have m:AR p {block:=a.block,off:=a.off+f.offset} {block:=a'.block,off:=a'.off+f.offset}:=⟨d.block,by simp[d.off],rfl⟩;refine SR.bind (pV m) λq c _ g e=>?_;subst e;refine .pure ?_;split
  ·exact m.mono g
  ·exact⟨g _ _ d.block,by simp[d.off],rfl⟩
 ·simp only[h,if_false];exact .pure ((i.mono j).add _)
def ZO(t:TO)(h:VR φ v v')(i:Nat):SR P K VR φ (Instr.fieldAt t v i) (Instr.fieldAt t v' i):=by
 refine SR.bind (ew t) λψ d _ g e=>?_;subst e;cases d with
 |struct c=>
  dsimp only;cases c[i]? with
  |none=>exact .halt _ _
  |some f=>exact SR.bind (vH (h.mono g)) λm a a' _ j=>SR.bind (D5 j f) λn b p _ l=>.pure (.ptr l)
 |_=>exact .halt _ _
def tg(t:TO)(k:IntKind)(i:Int)(base:Option ajF)(len:Nat)(elem:TO):Sem so:=do
 let d<-ajV t
 let c:=len<=1&&(match d with|.array .. =>AT|_=>Bz)
 match base with
 |some a=>
  if 0<=i/\i<len then pure (.pointer (an (a.add (i.toNat*(<-sizeOf elem)))))
  else if c then unsupported (.noEntry "op/indexAddr.an index out of range at an array of length 0 or 1 (ledger 616)")
  else boundsPanic k i len .index
 |none=>boundsPanic k i 0 .index
def On(t:TO)(k:IntKind)(i:Int)(len:Nat)(elem:TO)(g:AR φ a a'):SR P K VR φ (tg t k i (an a) len elem) (tg t k i (an a') len elem):=by
 refine SR.bind (ew t) λψ d _ h e=>?_;by_cases hb:0<=i/\i<len
 ·simp only[hb,and_self,if_true];refine SR.bind (fJ elem) λj n _ c e=>?_;subst e;exact .pure (.ptr (((g.mono h).mono c).add _))
 ·exact Ld
def ZP(t:TO)(k:IntKind)(i:Int)(len:Nat)(elem:TO):SR P K VR φ (tg t k i ns len elem) (tg t k i ns len elem):=by refine SR.bind (ew t) λψ d _ c e=>?_;exact vq
def YU(t:TO)(k:IntKind)(i:Int)(elem:TO):SR P K VR φ (tg t k i (an a) 0 elem) (tg t k i (an a') 0 elem):=by refine SR.bind (ew t) λψ d _ c e=>?_;have hb:¬(0<=i/\i<((0:Nat):Int)):=aa;exact Ld
def Oo(t:TO)(h:VR φ v v')(hu:VR φ u u'):SR P K VR φ (Instr.indexAt t v u) (Instr.indexAt t v' u'):=by
 refine SR.bind (zI hu) λψ x _ l e=>?_;subst e;obtain⟨k,i⟩:=x;refine SR.bind (ew t) λm d _ g e=>?_;subst e;cases d with
 |array len elem=>exact SR.bind (vH ((h.mono l).mono g)) λp a a' _ j=>On t k i len elem j
 |slice elem=>cases h with|dV n c=>exact ZP t k i n elem|slice n c j=>exact On t k i n elem ((j.mono l).mono g)|empty=>exact YU t k i elem|_=>exact .halt _ _
 |_=>exact .halt _ _
end
end
end Go.Proofs.Q0.aL
