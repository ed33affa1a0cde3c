import Derived.Test.YtjjdeakghpmpfaaGreatDoorRows
import Derived.KernelRfl
import Derived.ProofKit
import Derived.OpenShut
import Derived.ChangeOld
import Derived.LaidMore
import Derived.LaidSub
import Derived.OpenVars
import Derived.Stop.Joined
import Derived.Lib.SmallJoins
import Derived.Lib.LaidTab
import Derived.Deep.Slices
import Derived.Stop.LaidErr
import Derived.MakeChecks
import Derived.Test.YtjjdeakghpmpfaaGreatDoorProg
import Derived.Calls
import Derived.Laws.Sem
import Derived.RunT
import Derived.Room.Entries
set_option maxRecDepth 100000
set_option maxHeartbeats 8000000
set_option linter.all false
open Go.Proofs.YtjjdeakghpmpfaaGreatDoor
open Array renaming getElem?_eq_getElem->aiN,getElem?_push->akd,getElem?_push_lt->ajx,getElem?_setIfInBounds_ne->ahM,getElem?_setIfInBounds_self_of_lt->aiT,range->ako
open Go renaming Addr->aiI,Code->ajP,FuncId->akh,Oper->aku,Program->Kx,TypeId->EV,Value->rl,World->ns
namespace Go.Proofs
def eO{p:Prop}(h:p:=by grind):p:=h
def xy{p:Prop}(h:p:=by simp only[Array.size_push];omega):p:=h
abbrev au:=@Nat.le_refl
def lU{p:Prop}(h:p:=by simp):p:=h
abbrev jD:=@Option.map_eq_some_iff
def ai{p:Prop}(h:p:=by kernel_rfl):p:=h
abbrev yK:=@List.mem_of_getElem?
def eg{p:Prop}(h:p:=by simp_all):p:=h
def aq{p:Prop}(h:p:=by decide):p:=h
def aC{p:Prop}(h:p:=by rfl):p:=h
abbrev aL:=@Option.some.inj
abbrev bF:=@Array.getElem?_eq_some_iff
abbrev dC:=@Nat.zero_le
abbrev eE:=@aiN
abbrev aJ:=@Nat.le_trans
abbrev cG:=@Nat.lt_of_lt_of_le
def aa{p:Prop}(h:p:=by omega):p:=h
def aj{p:Prop}(h:p:=by simp):p:=h
def JM{p:Prop}(h:p:=by
  induction s with
  |pure a=>rfl
  |load m a k ih=>simp only[Sem.bind,ih]
  |store m a v k ih=>simp only[Sem.bind,ih]
  |new o k ih=>simp only[Sem.bind,ih]
  |shape r k ih=>simp only[Sem.bind,ih]
  |freeze a n k ih=>simp only[Sem.bind,ih]
  |frozen a k ih=>simp only[Sem.bind,ih]
  |getObj r k ih=>simp only[Sem.bind,ih]
  |setObj r o k ih=>simp only[Sem.bind,ih]
  |choose q k ih=>simp only[Sem.bind,ih]
  |sys c k ih=>simp only[Sem.bind,ih]
  |program k ih=>simp only[Sem.bind,ih]
  |mark m k ih=>simp only[Sem.bind,ih]
  |halt h=>rfl):p:=h
end Go.Proofs
namespace Go.Proofs.Q0
open Go.Proofs.Tryz
variable{w W:ns}
section
open Go.ChangeShapes Go.WideShapes Go.ChangeAt Go.RowKit Go.Joins
def cells_of_cell{a:aiI}{v:rl}(h:w.cell? a=some v):∃cs t f,w.heap[a.block]?=some (.cells cs t f)/\a.spot=none/\cs[a.off]?=some v:=by
 unfold World.cell? at h;cases b:w.heap[a.block]? with
 |none=>rw[b] at h;cases h
 |some o=>rw[b] at h;cases o with|cells cs t f=>simp_all|_=>simp at h
def acG(P:Kx)(tape:Nat->Question->Nat)(os:Os):(begin P tape os).world.heap[P.globals.size]?=some (.cells ((ako P.types.size).map λt=>.int .u64 (Int.ofNat t)) 0):=by unfold begin;dsimp only;generalize b:Array.mapIdx (α:=Global) (β:=Obj) _ P.globals=M;have a:M.size=P.globals.size:=eO;rw[<-a];rw[akd,if_neg xy,akd,if_neg xy,akd,if_neg xy,akd,if_neg xy,akd,if_pos rfl]
def Yx(P:Kx)(tape:Nat->Question->Nat)(os:Os):P.globals.size+5=(begin P tape os).world.heap.size:=by unfold begin;simp
def Yy{P:Kx}(h:w.ShapedOpen P):w.heap[P.globals.size]?=some (.cells ((ako P.types.size).map λt=>.int .u64 (Int.ofNat t)) 0):=by
 obtain⟨o,c,h1,a,b⟩:=h.2 P.globals.size (au _) (by have:=Yx P (λ_ _=>0) default;omega);rw[acG] at a;cases a;have:World.looseAt (P.globals.size-P.globals.size)=false:=by rw[Nat.sub_self];rfl
 simp only[this,Bool.false_eq_true,if_false] at b;rw[h1,b]
def Ao:Tryz.prog.globals.size=3:=lU
def FI(h:w.ShapedOpen Tryz.prog){g n:Nat}{t:EV}(a:g<3)(b:(((begin Tryz.prog (λ_ _=>0) default).world.heap[g]?).bind Obj.row?).map (λx=>(x.1.size,x.2))=some (n,t)):
  ∃cs,w.heap[g]?=some (.cells cs t)/\cs.size=n/\(Tryz.prog.buildable t=true->Row.ok Tryz.prog w .any 0 t cs):=by
 obtain⟨⟨zero,c⟩,h1,d⟩:=jD.1 b;obtain⟨rfl,rfl⟩:=d;exact h.1 g zero c (by rw[Ao];exact a) h1
def afp:(((begin Tryz.prog (λ_ _=>0) default).world.heap[2]?).bind Obj.row?).map (λx=>(x.1.size,x.2))=some (16,82):=ai
def afq:(((begin Tryz.prog (λ_ _=>0) default).world.heap[0]?).bind Obj.row?).map (λx=>(x.1.size,x.2))=some (1,143):=ai
def afr:(((begin Tryz.prog (λ_ _=>0) default).world.heap[1]?).bind Obj.row?).map (λx=>(x.1.size,x.2))=some (1,143):=ai
def aem{t:EV}{cs:Array rl}{ts:List EV}(h:Row.ok Tryz.prog w .any 0 t cs)(b:Tryz.prog.cellTypes Tryz.prog.depth t=some ts)(hi:∀u∈ts,∃k,Tryz.prog.underlying u=some (.int k)){i:Nat}{s:ByteArray}(hc:cs[i]?=some (.string s)):False:=by obtain⟨c,e,_,d⟩:=h;rw[b] at e;cases e;obtain⟨u,hu,a⟩:=d i _ hc;obtain⟨k,f⟩:=hi u (yK hu);simp[Cell.ok,f] at a
def acH{n:Nat}{e:EV}{k:IntKind}(h:Tryz.prog.underlying e=some (.int k)):∀u∈List.replicate n e,∃k,Tryz.prog.underlying u=some (.int k):=eg
def Po: "*" ++ "errors.errorString" = "*errors.errorString" :=lU
def aaX{u:EV}(h:Tryz.prog.typeName? 3 u=some "*errors.errorString"):u=233:=
 typeName_ptr_named (nm:= "errors.errorString") (by rw[Po];kernel_rfl) ai aq u (by rw[Po];exact h)
def Rq{name:String}{g:Nat}{cs:Array rl}{fuel:Nat}{p:List MemPlace}{s:List UInt8}(h:Tryz.prog.globalNamed name=some g)(d:W.var? Tryz.prog name=some cs)
  (hd:DataW.trod (λ_=>()) Tryz.prog W 0 (λ_=>true) false fuel 143 cs.toList=some (.iface "*errors.errorString" (.ptr (.agg [.lit (.string s)])),p))
  (f:∀b off,MemPlace.cell b off∈MemPlace.row ⟨g,0,none⟩ cs.size++p->(∃c t,W.heap[b]?=some (.cells c t (0,0)))/\∀u v,W.cell? ⟨b,off,none⟩=some (.iface u v)->Value.okWide Tryz.prog W .any 0 u v):
  ∃a,W.cell? ⟨g,0,none⟩=some (.iface 233 (.pointer (some a)))/\∃c t s',W.heap[a.block]?=some (.cells c t (0,0))/\W.cell? a=some (.string s'):=by
 obtain⟨l⟩:=cs
 obtain⟨a,s',h1,i,_,_,j⟩:=errorString_of_trod underlying143 (λ_=>aaX) underlying233 underlying259 rfl rfl underlying9 ai ai hd
  (λu v e=>by subst e;exact(f g 0 (by simp[MemPlace.row])).2 u v (by simpa using World.var?_cell h d 0))
 subst h1;subst j;obtain⟨c,t,k⟩:=(f a.block a.off (List.mem_append_right _ (by simp[MemPlace.row]))).1;exact⟨a,by simpa using World.var?_cell h d 0,c,t,s',k,i⟩
structure St(W:ns)(a1 a2:aiI):Prop where
 hG:W.heap[3]?=some (.cells ((ako Tryz.prog.types.size).map λt=>.int .u64 (Int.ofNat t)) 0)
 we:∀g,g<3->∃cs t,W.heap[g]?=some (.cells cs t (0,0))
 e1:W.cell? ⟨0,0,none⟩=some (.iface 233 (.pointer (some a1)))
 e2:W.cell? ⟨1,0,none⟩=some (.iface 233 (.pointer (some a2)))
 r1:3<a1.block/\∃cs t,W.heap[a1.block]?=some (.cells cs t (0,0))/\0<cs.size
 r2:3<a2.block/\∃cs t,W.heap[a2.block]?=some (.cells cs t (0,0))/\0<cs.size
abbrev mM:String:= "loop.example/videocodec/impl.quantSteps"
abbrev zO:String:= "loop.example/videocodec/impl.errNumber"
abbrev uU:String:= "loop.example/videocodec/impl.errRuns"
def Rr:Tryz.prog.globalNamed mM=some 2:=aC
def aen:(Tryz.prog.globals[2]?).map (·.type)=some 82:=aC
def agp:Tryz.prog.globalNamed zO=some 0:=aC
def agq:(Tryz.prog.globals[0]?).map (·.type)=some 143:=aC
def afs:Tryz.prog.globalNamed uU=some 1:=aC
def afu:(Tryz.prog.globals[1]?).map (·.type)=some 143:=aC
def sM:List (String×DataW Unit):=[(zO,Rows.laid_loop_example_videocodec_impl_errNumber),(uU,Rows.laid_loop_example_videocodec_impl_errRuns),(mM,Rows.laid_loop_example_videocodec_impl_quantSteps)]
def afv(k:W.ShapedOpen Tryz.prog)(h:laidMetH Tryz.prog sM W):∃m o,St W m o:=by
 rw[MakeChecks.laidMetH_plain _ _ _ ai] at h;have p:=Yy k;rw[Ao] at p;obtain⟨c0,v,n0,q⟩:=FI k aq afp;obtain⟨c1,x,G,_⟩:=FI k aq afq;obtain⟨c2,y,H,_⟩:=FI k aq afr;replace q:=q ai;obtain⟨ps,⟨d,t1,I,f1,p1,q1,i1,J,K,L,⟨A,t2,M,f2,p2,q2,i2,N,P,Q,_,rfl⟩,rfl⟩,_,i⟩:=h;obtain rfl:=aL (agp.symm.trans i1);obtain rfl:=aL (agq.symm.trans J);obtain rfl:=aL (afs.symm.trans i2);obtain rfl:=aL (afu.symm.trans N);obtain⟨m,B,R,S,s1,C,v1⟩:=Rq i1 K L λb off hm=>i b off (List.mem_append_left _ hm);obtain⟨o,D,T,V,s2,E,v2⟩:=Rq i2 P Q λb off hm=>i b off (List.mem_append_right _ (List.mem_append_left _ hm))
 have j:∀{a:aiI}{s:ByteArray},W.cell? a=some (.string s)->3<a.block:=λ{a s} r=>by
  refine Nat.lt_of_not_le λhle=>?_;obtain⟨l,t,f,d,A,e⟩:=cells_of_cell r;have i64:=acH (n:=16) underlying3
  have one:∀{g:Nat}{c:Array rl}{u:EV}{z:aiI},a.block=g->W.heap[g]?=some (.cells c u)->c.size=1->W.cell? ⟨g,0,none⟩=some (.iface 233 (.pointer (some z)))->False:=λ{g c u z} X hc hn Z=>by
   rw[X,hc] at d;cases d;have ho:a.off=0:=by have:=(bF.1 e).1;omega
   obtain⟨_,_,_,F,_,w3⟩:=cells_of_cell Z;rw[hc] at F;cases F;rw[ho] at e;rw[e] at w3;cases w3
  obtain⟨ab,ao,Ue⟩:=a;simp only at hle d e one
  match ab,hle with
  |2,_=>rw[v] at d;cases d;exact aem q ai i64 e
  |0,_=>exact one rfl x G B
  |1,_=>exact one rfl y H D
  |3,_=>rw[p] at d;cases d;rw[Array.getElem?_map] at e;obtain⟨_,_,e⟩:=jD.1 e;cases e
 have pos:∀{a:aiI}{s:ByteArray}{l:Array rl}{t:EV},W.cell? a=some (.string s)->W.heap[a.block]?=some (.cells l t (0,0))->0<l.size:=λ{a s l t} r hh=>by obtain⟨cs',u,f,d,A,e⟩:=cells_of_cell r;rw[hh] at d;cases d;exact Nat.lt_of_le_of_lt (dC _) (bF.1 e).1
 refine⟨m,o,p,λg hg=>?_,B,D,⟨j v1,R,S,C,pos v1 C⟩,j v2,T,V,E,pos v2 E⟩
 match g,hg with
 |2,_=>exact⟨_,_,v⟩
 |0,_=>exact⟨_,_,x⟩
 |1,_=>exact⟨_,_,y⟩
def aaY(h:laidMetH Tryz.prog sM W):Lib.TabIs Tryz.prog W mM .i64 [1,2,4,8,12,16,24,32,48,64,96,128,192,256,384,512]:=by exact Lib.tabIs_of_head Rr aen underlying82 underlying3 ai ai h.tail.tail
end
end Go.Proofs.Q0
namespace Go.Proofs.Q0.Open
def _root_.Go.Code.sl:ajP->ajP|.seq a _=>a|c=>c
def _root_.Go.Code.sr:ajP->ajP|.seq _ b=>b|c=>c
def _root_.Go.Code.sin:ajP->ajP|.block _ b=>b|.loop b=>b|c=>c
def _root_.Go.Code.ni:ajP->Array aku|.region _ a _=>a|_=>#[]
noncomputable def ld:ajP:=Tryz.f40.body.getD .skip
noncomputable def hZ:ajP:=ld.sr.sr
noncomputable def eT:Array aku:=hZ.sl.ni
noncomputable def GM:Array aku:=hZ.sr.sl.ni
noncomputable def sN:ajP:=hZ.sr.sr.sl
noncomputable def gq:Array aku:=hZ.sr.sr.sr.sl.ni
noncomputable def du:ajP:=hZ.sr.sr.sr.sr
noncomputable def GN:Array aku:=sN.sl.ni
noncomputable def jh:ajP:=sN.sr.sin.sin
noncomputable def AH:Array aku:=jh.sl.ni
noncomputable def sR:Array aku:=jh.sr.sr.sl.sin.sl.ni
noncomputable def qe:Array aku:=jh.sr.sr.sl.sin.sr.sl.ni
noncomputable def ow:Array aku:=jh.sr.sr.sl.sin.sr.sr.ni
noncomputable def pQ:Array aku:=jh.sr.sr.sr.ni
end Go.Proofs.Q0.Open
namespace Go.Proofs.Q0.aI
variable{v:rl}{xs ys:Array rl}{h':Array Obj}{α γ:Type}
section
abbrev Ren:=Nat->Option Nat
def Ren.le(φ a:Ren):Prop:=∀b c,φ b=some c->a b=some c
def Ren.le_refl(φ:Ren):Ren.le φ φ:=λ_ _ h=>h
def Ren.le_trans{φ a d:Ren}(h:Ren.le φ a)(k:Ren.le a d):Ren.le φ d:=λb c x=>k b c (h b c x)
structure AR(φ:Ren)(a a':aiI):Prop where
 block:φ a.block=some a'.block
 off:a'.off=a.off
 spot:a'.spot=a.spot
def AR.mono{φ b:Ren}{a a':aiI}(h:AR φ a a')(k:Ren.le φ b):AR b a a':=⟨k _ _ h.block,h.off,h.spot⟩
class ag where
 ok:akh->Prop
 fv:akh->Prop
 gl:Nat->Prop
 cd:akh->ajP->Prop
 fs:Array Func
 lv:akh->Nat->Prop
 dH:ajP->ajP->Prop
 home:akh
 cl:Nat->Prop
 np:EV->Prop
 hd:EV->Prop
 jk:rl->Prop
variable[ag]
def _root_.Go.Program.two(P:Kx):Kx:={P with funcs:=ag.fs}
inductive fe(φ:Ren):Fn->Fn->Prop
 |func (f:akh):ag.fv f->fe φ (.func f) (.func f)
 |yield {l l':Nat}:φ l=some l'->fe φ (.yield l) (.yield l')
inductive Tk:rl->Prop
 |ptr {a:aiI}:ag.cl a.block->Tk (.pointer (some a))
 |agg {xs:Array rl}:(∀(i:Nat) x,xs[i]?=some x->Tk x)->Tk (.agg xs)
def Pl(t:EV)(v:rl):Prop:=ag.np t\/(∃a,v=.pointer (some a)/\ag.cl a.block)\/ag.hd t/\Tk v
def Pl.or{t:EV}(h:Pl t v):ag.np t\/Tk v:=by
 rcases h with h|⟨a,rfl,h⟩|h
 ·simp_all
 ·exact .inr (.ptr h)
 ·simp_all
abbrev aX:rl:=.func (.method "") #[.nilIface] #[]
def Lone(v:rl):Prop:=(∀cs,v≠.agg cs)/\(∀cs,v≠.tuple cs)/\∀b,v≠.bool b
inductive VR(φ:Ren):rl->rl->Prop
 |aX {v':rl}:ag.jk v'->Lone v'->VR φ aX v'
 |bool (b:Bool):VR φ (.bool b) (.bool b)
 |int (k:IntKind) (n:Int):VR φ (.int k n) (.int k n)
 |string (s:ByteArray):VR φ (.string s) (.string s)
 |nilFunc:VR φ .nilFunc .nilFunc
 |nilIface:VR φ .nilIface .nilIface
 |nilPtr:VR φ (.pointer none) (.pointer none)
 |hQ:VR φ (.map none) (.map none)
 |gZ:VR φ (.chan none) (.chan none)
 |ptr {a a':aiI}:AR φ a a'->VR φ (.pointer (some a)) (.pointer (some a'))
 |dk (n c:Nat):VR φ (.slice none n c) (.slice none n c)
 |slice {a a':aiI} (n c:Nat):AR φ a a'->VR φ (.slice (some a) n c) (.slice (some a') n c)
 |empty {a a':aiI}:VR φ (.slice (some a) 0 0) (.slice (some a') 0 0)
 |iface (t:EV) {v v':rl}:VR φ v v'->Pl t v->VR φ (.iface t v) (.iface t v')
 |agg {xs ys:Array rl}:xs.size=ys.size->(∀(i:Nat) x y,xs[i]?=some x->ys[i]?=some y->VR φ x y)->VR φ (.agg xs) (.agg ys)
 |tuple {xs ys:Array rl}:xs.size=ys.size->(∀(i:Nat) x y,xs[i]?=some x->ys[i]?=some y->VR φ x y)->VR φ (.tuple xs) (.tuple ys)
 |func {fn Uf:Fn} {xs ys us vs:Array rl}:fe φ fn Uf->xs.size=ys.size->(∀(i:Nat) x y,xs[i]?=some x->ys[i]?=some y->VR φ x y)->
   us.size=vs.size->(∀(i:Nat) x y,us[i]?=some x->vs[i]?=some y->VR φ x y)->VR φ (.func fn xs us) (.func Uf ys vs)
structure ax(φ:Ren)(xs ys:Array rl):Prop where
 size:xs.size=ys.size
 at_:∀(i:Nat) x y,xs[i]?=some x->ys[i]?=some y->VR φ x y
def fe.mono{φ a:Ren}{f f':Fn}(h:fe φ f f')(k:Ren.le φ a):fe a f f':=by cases h with|func f h=>exact .func f h|yield h=>exact .yield (k _ _ h)
def VR.mono{φ g:Ren}{v v':rl}(h:VR φ v v')(k:Ren.le φ g):VR g v v':=by induction h with|bool b=>exact .bool b|int a n=>exact .int a n|string s=>exact .string s|nilFunc=>exact .nilFunc|nilIface=>exact .nilIface|nilPtr=>exact .nilPtr|hQ=>exact .hQ|gZ=>exact .gZ|ptr h=>exact .ptr (h.mono k)|dk n c=>exact .dk n c|slice n c h=>exact .slice n c (h.mono k)|empty=>exact .empty|iface t _ p d=>exact .iface t d p|aX h1 i=>exact .aX h1 i|agg e _ d=>exact .agg e d|tuple e _ d=>exact .tuple e d|func j e _ l _ d f=>exact .func (j.mono k) e d l f
def ax.mono{φ a:Ren}{xs ys:Array rl}(h:ax φ xs ys)(k:Ren.le φ a):ax a xs ys:=⟨h.size,λi x y b c=>(h.at_ i x y b c).mono k⟩
def ax.get{φ:Ren}{xs ys:Array rl}(h:ax φ xs ys){i:Nat}{x:rl}(a:xs[i]?=some x):∃y,ys[i]?=some y/\VR φ x y:=by
 have hi:i<ys.size:=by rw[<-h.size];exact(bF.1 a).1
 exact⟨ys[i],eE hi,h.at_ i x _ a (eE hi)⟩
def ax.set{φ:Ren}(h:ax φ xs ys)(k:Nat){u:rl}(hu:VR φ u v):ax φ (xs.setIfInBounds k u) (ys.setIfInBounds k v):=by
 refine⟨by simp[h.size],λi x y a b=>?_⟩;by_cases e:k=i
 ·grind
 ·rw[ahM e] at a b;exact h.at_ i x y a b
def Jump(j:Option ajP):Prop:=j=none\/j=some .ret\/(∃i,j=some (.exit i))\/∃i,j=some (.goto i)
def ox(f:akh):Prop:=ag.ok f
structure cN(φ:Ren)(s:Nat->Prop)(xs ys:Array rl):Prop where
 size:xs.size=ys.size
 at_:∀(i:Nat) x y,s i->xs[i]?=some x->ys[i]?=some y->VR φ x y
 tl:∀i,s i->i<xs.size
def cN.mono{φ a:Ren}{s:Nat->Prop}{xs ys:Array rl}(h:cN φ s xs ys)(k:Ren.le φ a):cN a s xs ys:=⟨h.size,λi x y b c d=>(h.at_ i x y b c d).mono k,h.tl⟩
def ax.tmR{φ:Ren}{s:Nat->Prop}(h:ax φ xs ys)(a:∀i,s i->i<xs.size):cN φ s xs ys:=⟨h.size,λi x y _ b c=>h.at_ i x y b c,a⟩
def cN.get{φ:Ren}{s:Nat->Prop}{xs ys:Array rl}(h:cN φ s xs ys){i:Nat}(b:s i){x:rl}(a:xs[i]?=some x):∃y,ys[i]?=some y/\VR φ x y:=by
 have hi:i<ys.size:=by rw[<-h.size];exact(bF.1 a).1
 exact⟨ys[i],eE hi,h.at_ i x _ b a (eE hi)⟩
def cN.set{φ:Ren}{s:Nat->Prop}(h:cN φ s xs ys)(k:Nat){u:rl}(hu:VR φ u v):cN φ s (xs.setIfInBounds k u) (ys.setIfInBounds k v):=by
 refine⟨by simp[h.size],λi x y c a b=>?_,λi hi=>by simpa using h.tl i hi⟩;by_cases e:k=i
 ·grind
 ·rw[ahM e] at a b;exact h.at_ i x y c a b
structure cB(φ:Ren)(l l':Loop):Prop where
 state:l'.state=l.state
 pending:l'.pending=l.pending
 fn:l'.fn=l.fn
 tmps:cN φ (ag.lv l.fn) l.tmps l'.tmps
 params:l'.params=l.params
 assign:l'.assign=l.assign
 body:l'.body=l.body
 defers:φ l.defers=some l'.defers
 qv:ag.cd l.fn l.assign
 okB:ag.cd l.fn l.body
 tn:Jump l.pending
 okF:ox l.fn
inductive OR(φ:Ren):Obj->Obj->Prop
 |cells {cs cs':Array rl} (t:EV) (f:Nat×Nat):ax φ cs cs'->OR φ (.cells cs t f) (.cells cs' t f)
 |loop {l l':Loop}:cB φ l l'->OR φ (.loop l) (.loop l')
 |deferred:OR φ (.deferred (some [])) (.deferred (some []))
 |taken:OR φ (.deferred none) (.deferred none)
 |number {a a':aiI} (l:Bool):AR φ a a'->OR φ (.number a l) (.number a' l)
def cB.mono{φ a:Ren}{l l':Loop}(h:cB φ l l')(k:Ren.le φ a):cB a l l':=⟨h.state,h.pending,h.fn,h.tmps.mono k,h.params,h.assign,h.body,k _ _ h.defers,h.qv,h.okB,h.tn,h.okF⟩
def OR.mono{φ a:Ren}{o b:Obj}(h:OR φ o b)(k:Ren.le φ a):OR a o b:=by cases h with|cells t f h=>exact .cells t f (h.mono k)|loop h=>exact .loop (h.mono k)|deferred=>exact .deferred|taken=>exact .taken|number l h=>exact .number l (h.mono k)
structure aF where
 ro:Nat->Prop
 tok:Nat->Prop
 strict:Bool
 G:Nat
def Obj.loose:Obj->Prop
 |.cells _ _ f=>f=(0,0)
 |_=>True
def Obj.blank:Obj->Prop
 |.loop _|.deferred _|.stringIter _ _=>True
 |_=>False
inductive HO(K:aF)(φ:Ren)(b:Nat):Obj->Obj->Prop
 |own {o o':Obj}:¬K.ro b->¬K.tok b->OR φ o o'->(K.strict=true->Obj.loose o)->HO K φ b o o'
 |shut {cs cs':Array rl} (t:EV) {f':Nat×Nat}:K.ro b->¬K.tok b->ax φ cs cs'->(ag.cl b->f'=(0,0))->HO K φ b (.cells cs t (0,cs.size)) (.cells cs' t f')
 |token (s:ByteArray) (p:Nat) (cs':Array rl) (t:EV) {f':Nat×Nat}:K.tok b->0<cs'.size->(ag.cl b->f'=(0,0))->HO K φ b (.stringIter s p) (.cells cs' t f')
 |blank (s:ByteArray) (p:Nat) {o':Obj}:K.tok b->Obj.blank o'->HO K φ b (.stringIter s p) o'
 |num {a a':aiI} (l:Bool):K.tok b->AR φ a a'->HO K φ b (.number a l) (.number a' l)
def HO.mono{K:aF}{φ e:Ren}{b:Nat}{o o':Obj}(h:HO K φ b o o')(k:Ren.le φ e):HO K e b o o':=by cases h with|own h1 a c d=>exact .own h1 a (c.mono k) d|shut t h1 a d f=>exact .shut t h1 a (d.mono k) f|token s p cs' t h1 a c=>exact .token s p cs' t h1 a c|blank s p h1 a=>exact .blank s p h1 a|num l h1 a=>exact .num l h1 (a.mono k)
def aF.agr(K:aF)(b c:Nat):Prop:=(K.ro b\/K.tok b)/\(K.ro c\/K.tok c)/\¬(ag.cl b/\ag.cl c)/\K.G<=b
structure HR(K:aF)(φ:Ren)(h h':Array Obj):Prop where
 inj:∀b c d,φ b=some d->φ c=some d->b=c\/K.agr b c
 obj:∀b c,φ b=some c->∃o o',h[b]?=some o/\h'[c]?=some o'/\HO K φ b o o'
 below:∀b,K.ro b\/K.tok b->b<h.size/\K.strict=true
 low:∀b c,φ b=some c->(b<K.G<->c<K.G)
 fJ:K.G<=h.size/\K.G<=h'.size
structure WR(K:aF)(φ:Ren)(w w':ns):Prop where
 heap:HR K φ w.heap w'.heap
 tape:∀i q,w.tape (w.drawn+i) q=w'.tape (w'.drawn+i) q
def HR.lt{K:aF}{φ:Ren}{h h':Array Obj}(H:HR K φ h h'){b c:Nat}(x:φ b=some c):b<h.size/\c<h'.size:=by obtain⟨o,o',h1,a,_⟩:=H.obj b c x;exact⟨(bF.1 h1).1,(bF.1 a).1⟩
def jO(w a:ns):Prop:=w.heap.size<=a.heap.size/\∀b,b<w.heap.size->a.heap[b]?=w.heap[b]?
def jO.refl(w:ns):jO w w:=⟨au _,λ_ _=>rfl⟩
def jO.trans{a b c:ns}(h:jO a b)(k:jO b c):jO a c:=⟨aJ h.1 k.1,λx d=>(k.2 x (cG d h.1)).trans (h.2 x d)⟩
def HR.cM{K:aF}{φ:Ren}{w d:ns}(H:HR K φ w.heap h')(k:jO w d):HR K φ d.heap h':=by refine⟨H.inj,λb c a=>?_,λb a=>⟨cG (H.below b a).1 k.1,(H.below b a).2⟩,H.low,aJ H.fJ.1 k.1,H.fJ.2⟩;obtain⟨o,o',h1,e,f⟩:=H.obj b c a;exact⟨o,o',by rw[k.2 b (H.lt a).1];exact h1,e,f⟩
def Ren.add(φ:Ren)(b c:Nat):Ren:=λx=>if x=b then some c else φ x
def Ren.add_same(φ:Ren)(b c:Nat):Ren.add φ b c b=some c:=by simp[Ren.add]
def HR.push{K:aF}{φ:Ren}{h:Array Obj}(H:HR K φ h h'){o o':Obj}(j:OR φ o o')(g:K.strict=true->Obj.loose o):
  Ren.le φ (Ren.add φ h.size h'.size)/\HR K (Ren.add φ h.size h'.size) (h.push o) (h'.push o'):=by
 have le:Ren.le φ (Ren.add φ h.size h'.size):=λb c x=>by have:=(H.lt x).1;simp only[Ren.add];rw[if_neg aa];exact x
 refine⟨le,λb c d a hc=>?_,λb c a=>?_,λb a=>?_,λb c a=>?_,by have:=H.fJ;simp;omega⟩
 ·simp only[Ren.add] at a hc;split at a<;>split at hc
  ·omega
  ·have:=(H.lt hc).2;cases a;omega
  ·have:=(H.lt a).2;cases hc;omega
  ·exact H.inj b c d a hc
 ·by_cases e:b=h.size
  ·subst e;rw[Ren.add_same] at a;cases a;exact⟨o,o',aj,aj,.own (λi=>by have:=H.below _ (.inl i);omega) (λi=>by have:=H.below _ (.inr i);omega) (j.mono le) g⟩
  ·have f:φ b=some c:=by simpa[Ren.add,e] using a
   obtain⟨x,k,h1,m,n⟩:=H.obj b c f;have l:=H.lt f;exact⟨x,k,by rw[ajx l.1];simpa[aiN l.1] using h1,by rw[ajx l.2];simpa[aiN l.2] using m,n.mono le⟩
 ·have:=H.below b a;exact⟨by simp;omega,this.2⟩
 ·by_cases e:b=h.size
  ·subst e;rw[Ren.add_same] at a;cases a;have:=H.fJ;omega
  ·exact H.low b c (by simpa[Ren.add,e] using a)
def HR.put{K:aF}{φ:Ren}{h:Array Obj}(H:HR K φ h h'){b c:Nat}(f:φ b=some c){o o':Obj}(k:OR φ o o')(j:¬K.ro b)(d:¬K.tok b)(g:K.strict=true->Obj.loose o):
  HR K φ (h.setIfInBounds b o) (h'.setIfInBounds c o'):=by
 have l:=H.lt f;refine⟨H.inj,λx y a=>?_,λx a=>by simpa using H.below x a,H.low,by simpa using H.fJ⟩;by_cases e:b=x
 ·subst e;rw[f] at a;cases a;exact⟨o,o',aiT l.1,aiT l.2,.own j d k g⟩
 ·have i:c≠y:=λi=>(H.inj b x c f (i▸a)).elim e λm=>m.1.elim j d;obtain⟨p,n,h1,q,r⟩:=H.obj x y a;exact⟨p,n,by rw[ahM e];exact h1,by rw[ahM i];exact q,r⟩
def Quiet(m:Mark):Prop:=m=.noRoom\/∃f,m=.extern f
def ey(K:aF)(c:Ren)(e:Event):Prop:=
 (∃a b,e.loc=.cell a/\e.sync=false/\c b=some a.block/\¬K.tok b/\(e.write=true->¬K.ro b))\/
 (∃r b,e.loc=.obj r/\e.sync=false/\c b=some r/\(e.write=true->¬K.tok b/\¬K.ro b))\/∃m,e.loc=.mark m/\Quiet m
def ey.mono{K:aF}{φ g:Ren}{e:Event}(h:ey K φ e)(k:Ren.le φ g):ey K g e:=by
 rcases h with⟨a,b,h1,c,d,f⟩|⟨r,b,h1,c,d,f⟩|h
 ·exact .inl ⟨a,b,h1,c,k _ _ d,f⟩
 ·exact .inr (.inl ⟨r,b,h1,c,k _ _ d,f⟩)
 ·exact .inr (.inr h)
structure iv(w w1:ns):Prop where
 tape:w1.tape=w.tape
 os:w1.os=w.os
 out:w1.output=w.output
 drawn:w.drawn<=w1.drawn
 size:w.heap.size<=w1.heap.size
def iv.refl(w:ns):iv w w:=⟨rfl,rfl,rfl,au _,au _⟩
def iv.trans{a b c:ns}(h:iv a b)(k:iv b c):iv a c:=⟨k.tape.trans h.tape,k.os.trans h.os,k.out.trans h.out,aJ h.drawn k.drawn,aJ h.size k.size⟩
structure eH(K:aF)(φ ψ:Ren)(n:Nat)(w w1:ns):Prop where
 left:iv w w1
 le:Ren.le φ ψ
 fresh:∀b c,ψ b=some c->φ b=some c\/(n<=b/\w.heap.size<=c)
 apart:∀c,c<w.heap.size->(∀b,φ b=some c->K.ro b\/K.tok b)->w1.heap[c]?=w.heap[c]?
def eH.refl(K:aF)(φ:Ren)(n:Nat)(w:ns):eH K φ φ n w w:=⟨.refl w,Ren.le_refl φ,λ_ _ h=>.inl h,λ_ _ _=>rfl⟩
def eH.trans{K:aF}{φ ψ e:Ren}{n m:Nat}{a b c:ns}(h:eH K φ ψ n a b)(k:eH K ψ e m b c)(g:n<=m):eH K φ e n a c:=by
 refine⟨h.left.trans k.left,Ren.le_trans h.le k.le,λx y d=>?_,λx d i=>?_⟩
 ·rcases k.fresh x y d with h1|⟨h1,f⟩
  ·exact h.fresh x y h1
  ·exact .inr ⟨aa,aJ h.left.size f⟩
 ·rw[k.apart x (Nat.lt_of_lt_of_le d h.left.size) λy j=>?_,h.apart x d i];rcases h.fresh y x j with h1|⟨_,f⟩
  ·simp_all
  ·omega
def lf:Halt->Prop
 |.panic _|.stuck _=>True
 |.unsupported (.initOrder _)=>False
 |.unsupported _=>True
 |_=>False
def fh(P:Kx){α:Type}(s:Sem α):Prop:=∀w,∃h a,s.run P w=.halt h a/\lf h/\jO w a
def Calm(P:Kx){α:Type}(s:Sem α):Prop:=∀w,(∀h b,s.run P w=.halt h b->lf h/\jO w b)/\∀a b,s.run P w=.ok a b->jO w b
def Gc(P:Kx)(K:aF){α:Type}(φ:Ren)(s:Sem α):Prop:=∀w w',WR K φ w w'->∀h a,s.run P w=.halt h a->lf h/\∃b h',Ren.le φ b/\HR K b a.heap h'
def _root_.Go.World.on(w:ns)(T:Tape)(n:Nat):ns:={w with tape:=T,drawn:=n}
def GO(P:Kx)(K:aF){α:Type}(φ:Ren)(s:Sem α):Prop:=∀w w',WR K φ w w'->∀a b,s.run P w=.ok a b->
 ∃k,b.drawn=w.drawn+k/\b.tape=w.tape/\∀(T:Tape) n,(∀j,j<k->∀q,T (n+j) q=w.tape (w.drawn+j) q)->s.run P (w.on T n)=.ok a (b.on T (n+k))
def Does(P:Kx)(K:aF){α β:Type}(R:Ren->α->β->Prop)(φ:Ren)(s:Sem α)(s':Sem β):Prop:=
 ∀{w w':ns}{a:α}{g:ns}(es:Array Event),WR K φ w w'->s.run P w=.ok a g->
  ∃f b c d,s'.runT P.two w' es=(.ok b c,es++d)/\R f a b/\WR K f g c/\iv w g/\eH K φ f w.heap.size w' c/\∀e∈d,ey K f e
section
variable(P:Kx)(K:aF)
inductive SR{α β:Type}(R:Ren->α->β->Prop):Ren->Sem α->Sem β->Prop
 |pure {φ:Ren} {a:α} {b:β}:R φ a b->SR R φ (.pure a) (.pure b)
 |load {φ:Ren} {a a':aiI} {k:rl->Sem α} {k':rl->Sem β}:AR φ a a'->(∀v v',VR φ v v'->SR R φ (k v) (k' v'))->SR R φ (.load .plain a k) (.load .plain a' k')
 |store {φ:Ren} {a a':aiI} {v v':rl} {k:Sem α} {k':Sem β}:AR φ a a'->VR φ v v'->SR R φ k k'->SR R φ (.store .plain a v k) (.store .plain a' v' k')
 |new {φ:Ren} {o o':Obj} {k:Nat->Sem α} {k':Nat->Sem β}:OR φ o o'->Obj.loose o->(∀ψ r r',Ren.le φ ψ->ψ r=some r'->SR R ψ (k r) (k' r'))->SR R φ (.new o k) (.new o' k')
 |shape {φ:Ren} {r r':Nat} {k:Option (EV×Nat)->Sem α} {k':Option (EV×Nat)->Sem β}:φ r=some r'->(∀s,SR R φ (k s) (k' s))->(∀s,SR R φ (k none) (k' s))->SR R φ (.shape r k) (.shape r' k')
 |getObj {φ:Ren} {r r':Nat} {k:Obj->Sem α} {k':Obj->Sem β}:φ r=some r'->(∀o o',OR φ o o'->¬K.ro r->¬K.tok r->SR R φ (k o) (k' o'))->(∀s p,fh P (k (.stringIter s p)))->(∀a l,fh P (k (.number a l)))->SR R φ (.getObj r k) (.getObj r' k')
 |setObj {φ:Ren} {r r':Nat} {o o':Obj} {k:Sem α} {k':Sem β}:φ r=some r'->¬K.ro r->¬K.tok r->OR φ o o'->Obj.loose o->SR R φ k k'->SR R φ (.setObj r o k) (.setObj r' o' k')
 |choose {φ:Ren} {q:Question} {k:Nat->Sem α} {k':Nat->Sem β}:(∀n,SR R φ (k n) (k' n))->SR R φ (.choose q k) (.choose q k')
 |program {φ:Ren} {k:Kx->Sem α} {k':Kx->Sem β}:SR R φ (k P) (k' P.two)->SR R φ (.program k) (.program k')
 |quiet {φ:Ren} {m:Mark} {k:Sem α} {k':Sem β}:Quiet m->SR R φ k k'->SR R φ (.mark m k) (.mark m k')
 |oE {φ:Ren} {γ δ:Type} {vI:Ren->γ->δ->Prop} {s:Sem γ} {s':Sem δ} {k:γ->Sem α} {k':δ->Sem β}:Does P K vI φ s s'->Gc P K φ s->GO P K φ s->(∀ψ a b,Ren.le φ ψ->vI ψ a b->SR R ψ (k a) (k' b))->SR R φ (s.bind k) (s'.bind k')
 |dead {φ:Ren} {s:Sem α} {s':Sem β}:fh P s->SR R φ s s'
end
section
variable{P:Kx}{K:aF}
def SR.halt{β:Type}{R:Ren->α->β->Prop}{φ:Ren}(h:Halt)(s':Sem β)(a:lf h:=by trivial):SR P K R φ (.halt h:Sem α) s':=.dead λw=>⟨h,w,rfl,a,.refl w⟩
def SR.mono{α β:Type}{R i:Ren->α->β->Prop}(j:∀φ a b,R φ a b->i φ a b){φ:Ren}{s:Sem α}{s':Sem β}(h:SR P K R φ s s'):SR P K i φ s s':=by induction h with|pure h=>exact .pure (j _ _ _ h)|load h _ c=>exact .load h c|store h1 e _ c=>exact .store h1 e c|new h d _ c=>exact .new h d c|shape h _ _ c f=>exact .shape h c f|oE h k d _ c=>exact .oE h k d c|getObj h _ hd g c=>exact .getObj h c hd g|setObj h1 l m e d _ c=>exact .setObj h1 l m e d c|choose _ c=>exact .choose c|program _ c=>exact .program c|quiet hq _ c=>exact .quiet hq c|dead h=>exact .dead h
def bind_assoc'{a:Type}(s:Sem α)(f:α->Sem γ)(g:γ->Sem a):(s.bind f).bind g=s.bind λx=>(f x).bind g:=by exact JM
def yu{s:Sem α}{f:α->Sem γ}(h:fh P s):fh P (s.bind f):=by intro w;obtain⟨x,a,e,b⟩:=h w;refine⟨x,a,?_,b⟩;show(s>>=f).run P w=_;rw[Sem.run_bind,e];rfl
def SR.bind{β δ:Type}{R:Ren->α->β->Prop}{S:Ren->γ->δ->Prop}{φ:Ren}{s:Sem α}{s':Sem β}{f:α->Sem γ}{f':β->Sem δ}(h:SR P K R φ s s')
  (g:∀ψ a b,Ren.le φ ψ->R ψ a b->SR P K S ψ (f a) (f' b)):SR P K S φ (s.bind f) (s'.bind f'):=by
 induction h with
 |pure h=>exact g _ _ _ (Ren.le_refl _) h
 |load h _ e=>exact .load h λv v' z=>e v v' z g
 |store h1 j _ e=>exact .store h1 j (e g)
 |new h k _ e=>exact .new h k λψ r r' i m=>e ψ r r' i m λq a b hc=>g q a b (Ren.le_trans i hc)
 |shape h _ _ e t=>exact .shape h (λs=>e s g) (λs=>t s g)
 |oE h A u _ e=>rw[bind_assoc',bind_assoc'];exact .oE h A u λψ a b i m=>e ψ a b i m λq c d hc=>g q c d (Ren.le_trans i hc)
 |getObj h _ hd w e=>exact .getObj h (λo o' B x y=>e o o' B x y g) (λs p=>yu (hd s p)) (λa l=>yu (w a l))
 |setObj h1 x y j i _ e=>exact .setObj h1 x y j i (e g)
 |choose _ e=>exact .choose λn=>e n g
 |program _ e=>exact .program (e g)
 |quiet hq _ e=>exact .quiet hq (e g)
 |dead h=>exact .dead (yu h)
end
end
end Go.Proofs.Q0.aI
