import Derived.Test.YtjjdeakghpmpfaaGreatDoorK32
import Derived.Conc.LeavingOf
import Derived.ChangeMade
set_option maxRecDepth 100000
set_option maxHeartbeats 8000000
set_option linter.all false
open Go.Value renaming int->U,slice->Y,bool->a9,agg->a5,pointer->ci,tuple->dl,iface->em
open Go.IntKind renaming i64->O
open Go.Obj renaming cells->ac
open Go.Ending renaming returned->be
open Array renaming getElem?_eq_getElem->aiN
open Bool renaming and_eq_true->OF,false_eq_true->aiP,or_eq_true->akR
open Go renaming Code->ajP,FuncId->akh,Operand->ajd,Program->Kx,TypeId->EV,TypeInfo->akq,Value->rl,World->ns,handleType->akr
open Go.Frame renaming enter->aiy
open List renaming all_eq_true->aiE,getElem?_eq_getElem->aiX
open Option renaming bind_eq_some_iff->aft
namespace Go.Proofs
def LB{p:Prop}(h:p:=by
  simp only[Sem.bind,e];split
  ·exact .dead eP
  ·exact .pure rfl):p:=h
def LC{p:Prop}(h:p:=by intro v hv;simp only[Option.map_eq_some_iff] at hv;obtain⟨zs,e,rfl⟩:=hv;exact F6 (key zs e)):p:=h
end Go.Proofs
namespace Go.Proofs.Q0.aI
variable{b:Nat}
section
variable[ag]
theorem GC(gc:∀v,ag.jk v)(φ:Ren):∀v:rl,∃x,VR φ x v
 |.bool b=>⟨_,.bool b⟩
 |.agg xs=>by
  have h:∀i:Nat,∃x,∀y,xs[i]?=some y->VR φ x y:=λi=>by
   by_cases hi:i<xs.size
   ·obtain⟨x,g⟩:=GC gc φ xs[i];exact⟨x,λy d=>by rw[aiN hi] at d;cases d;exact g⟩
   ·exact⟨undef,λy d=>by rw[Array.getElem?_eq_none aa] at d;cases d⟩
  refine⟨.agg (Array.ofFn λi:Fin xs.size=>(h i).choose),.agg aj λi x y g d=>?_⟩;have hi:i<xs.size:=(bF.1 d).1;rw[Array.getElem?_ofFn,dif_pos hi] at g;cases g;exact(h i).choose_spec y d
 |.tuple xs=>by
  have h:∀i:Nat,∃x,∀y,xs[i]?=some y->VR φ x y:=λi=>by
   by_cases hi:i<xs.size
   ·obtain⟨x,g⟩:=GC gc φ xs[i];exact⟨x,λy d=>by rw[aiN hi] at d;cases d;exact g⟩
   ·exact⟨undef,λy d=>by rw[Array.getElem?_eq_none aa] at d;cases d⟩
  refine⟨.tuple (Array.ofFn λi:Fin xs.size=>(h i).choose),.tuple aj λi x y g d=>?_⟩;have hi:i<xs.size:=(bF.1 d).1;rw[Array.getElem?_ofFn,dif_pos hi] at g;cases g;exact(h i).choose_spec y d
 |.int k n=>⟨_,.int k n⟩
 |.float k b=>⟨_,.aX (gc _) ⟨λ_ e=>bw,λ_ e=>bw,λ_ e=>bw⟩⟩
 |.complex k a b=>⟨_,.aX (gc _) ⟨λ_ e=>bw,λ_ e=>bw,λ_ e=>bw⟩⟩
 |.string s=>⟨_,.string s⟩
 |.pointer a=>⟨_,.aX (gc _) ⟨λ_ e=>bw,λ_ e=>bw,λ_ e=>bw⟩⟩
 |.slice a n c=>⟨_,.aX (gc _) ⟨λ_ e=>bw,λ_ e=>bw,λ_ e=>bw⟩⟩
 |.map r=>⟨_,.aX (gc _) ⟨λ_ e=>bw,λ_ e=>bw,λ_ e=>bw⟩⟩
 |.chan r=>⟨_,.aX (gc _) ⟨λ_ e=>bw,λ_ e=>bw,λ_ e=>bw⟩⟩
 |.func f a b=>⟨_,.aX (gc _) ⟨λ_ e=>bw,λ_ e=>bw,λ_ e=>bw⟩⟩
 |.nilFunc=>⟨_,.nilFunc⟩
 |.iface t v=>⟨_,.aX (gc _) ⟨λ_ e=>bw,λ_ e=>bw,λ_ e=>bw⟩⟩
 |.nilIface=>⟨_,.nilIface⟩
termination_by v=>SizeOf.sizeOf v
decreasing_by
 all_goals
  have:=Array.sizeOf_getElem xs i hi;simp;omega
def mv(n:Nat)(ts:List Nat):rl->rl
 |.iface u (.pointer (some a))=>if a.block∈ts then .iface u (.pointer (some {a with block:=n+ts.idxOf a.block})) else .iface u (.pointer (some a))
 |v=>v
open Classical in
noncomputable def te(gc:∀v,ag.jk v)(φ:Ren)(m:Value->Value)(v:Value):Value:=if VR φ (m v) v then m v else(GC gc φ v).choose
theorem afc(gc:∀v,ag.jk v)(φ:Ren)(m:rl->rl)(v:rl):VR φ (te gc φ m v) v:=by
 unfold te;split
 ·omega
 ·grind
theorem aaN(gc:∀v,ag.jk v){φ:Ren}{m:rl->rl}{v:rl}(h:VR φ (m v) v):te gc φ m v=m v:=if_pos h
def rowsOf(h:Array Obj):Ren:=λb=>match h[b]? with|some (.cells ..)=>some b|_=>none
theorem DL{h:Array Obj}{b c:Nat}(e:rowsOf h b=some c):c=b/\∃cs t f,h[b]?=some (.cells cs t f):=by
 unfold rowsOf at e;split at e
 ·grind
 ·cases e
theorem Ob{h:Array Obj}{b:Nat}{cs:Array rl}{t:EV}{f:Nat×Nat}(e:h[b]?=some (.cells cs t f)):rowsOf h b=some b:=by unfold rowsOf;rw[e]
def fA(ts:List Nat)(h:Array Obj):Ren:=λb=>if b<h.size then rowsOf h b else ts[b-h.size]?
noncomputable def mS(gc:∀v,ag.jk v)(ts:List Nat)(h:Array Obj)(tok:Bool):Obj->Obj
 |.cells cs t _=>if tok then .stringIter default 0 else .cells (cs.map (te gc (fA ts h) (mv h.size ts))) t (0,cs.size)
 |_=>.stringIter default 0
noncomputable def startHeap(gc:∀v,ag.jk v)(G:Nat)(ts:List Nat)(h:Array Obj):Array Obj:=(h.mapIdx λb o=>mS gc ts h (b==G) o)++(ts.map λ_=>Obj.stringIter default 0).toArray
def pP(ts:List Nat)(h:Array Obj)(G:Nat):aF where
 ro b:=b<h.size/\(rowsOf h b).isSome=true/\b≠G
 tok b:=b=G\/(h.size<=b/\b<h.size+ts.length)
 strict:=true
 G:=G
variable{ts:List Nat}{h:Array Obj}{G:Nat}(gc:∀v,ag.jk v)
theorem DN(a:b<h.size):fA ts h b=rowsOf h b:=if_pos a
theorem yV(a:h.size<=b):fA ts h b=ts[b-h.size]?:=if_neg (ph.2 a)
theorem DH{b:Nat}{cs:Array rl}{t:EV}{f:Nat×Nat}(e:h[b]?=some (.cells cs t f)):fA ts h b=some b:=by rw[DN (Array.getElem?_eq_some_iff.1 e).1,Ob e]
theorem XN{b:Nat}(a:b∈ts):fA ts h (h.size+ts.idxOf b)=some b:=by rw[yV aa,Nat.add_sub_cancel_left];rw[aiX (List.idxOf_lt_length_of_mem a),List.getElem_idxOf]
theorem DI(hb:b<h.size):(startHeap gc G ts h)[b]?=(h[b]?).map (mS gc ts h (b==G)):=by unfold startHeap;rw[Array.getElem?_append_left tV];simp
theorem DJ{b:Nat}(hb:h.size<=b)(a:b<h.size+ts.length):(startHeap gc G ts h)[b]?=some (.stringIter default 0):=by unfold startHeap;rw[Array.getElem?_append_right tV];rw[Array.size_mapIdx,List.getElem?_toArray,List.getElem?_map,aiX aa];rfl
theorem yt:(startHeap gc G ts h).size=h.size+ts.length:=by simp[startHeap]
theorem Xg(a:h.size+ts.length<=b):(startHeap gc G ts h)[b]?=none:=Array.getElem?_eq_none (by rw[yt];exact a)
theorem uF{c:Nat}(a:h.size<=b)(e:fA ts h b=some c):c∈ts/\b<h.size+ts.length:=by rw[yV a] at e;have:=(pd.1 e).1;exact⟨yK e,aa⟩
theorem rz{c:Nat}(a:b<h.size)(e:fA ts h b=some c):c=b/\(rowsOf h b).isSome=true:=by rw[DN a] at e;exact⟨(DL e).1,by rw[e];rfl⟩
theorem uK(b c:Nat)(e:fA ts h b=some c):(pP ts h G).ro b\/(pP ts h G).tok b:=by
 rcases de b h.size with hb|hb
 ·by_cases a:b=G
  ·exact .inr (.inl a)
  ·exact .inl ⟨hb,(rz hb e).2,a⟩
 ·exact .inr (.inr ⟨hb,(uF hb e).2⟩)
theorem aed(hG:∃cs t,h[G]?=some (.cells cs t (0,0))/\0<cs.size)(j:∀b,ag.cl b<->(pP ts h G).tok b)(q:ts.Nodup)(p:∀b,b∈ts->G<b/\∃cs t,h[b]?=some (.cells cs t (0,0))/\0<cs.size):HR (pP ts h G) (fA ts h) (startHeap gc G ts h) h:=by
 obtain⟨r,A,m,s⟩:=hG;have B:=(bF.1 m).1;refine⟨λb c d hb hc=>?_,λb c hb=>?_,λb hb=>⟨?_,rfl⟩,λb c hb=>?_,by rw[yt];show G<=_/\G<=_;omega⟩
 ·rcases de b h.size with a|a<;>rcases de c h.size with g|g
  ·have h1:=(rz a hb).1;have k:=(rz g hc).1;exact .inl aa
  ·have h1:=(rz a hb).1;have k:=(p _ (uF g hc).1).1;refine .inr ⟨uK _ _ hb,uK _ _ hc,λn=>?_,by show G<=_;omega⟩;rcases(j b).1 n.1 with l|l
   ·omega
   ·omega
  ·have h1:=(rz g hc).1;have k:=(p _ (uF a hb).1).1;refine .inr ⟨uK _ _ hb,uK _ _ hc,λn=>?_,by show G<=_;omega⟩;rcases(j c).1 n.2 with l|l
   ·omega
   ·omega
  ·rw[yV a] at hb;rw[yV g] at hc;obtain⟨h1,k⟩:=pd.1 hb;obtain⟨l,u⟩:=pd.1 hc;have:=(List.getElem_inj q).1 (k.trans u.symm);exact .inl aa
 ·rcases de b h.size with a|a
  ·rw[DN a] at hb;obtain⟨rfl,cs,t,f,h1⟩:=DL hb;refine⟨mS gc ts h (c==G) (.cells cs t f),_,by rw[DI gc a,h1];rfl,h1,?_⟩;by_cases e:c=G
   ·subst e;rw[m] at h1;cases h1;have w:mS gc ts h (c==c) (.cells r A (0,0))=.stringIter default 0:=by simp[mS]
    rw[w];exact .token _ _ _ _ (.inl rfl) s λ_=>rfl
   ·have C:(c==G)=false:=by simpa using e
    have w:mS gc ts h (c==G) (.cells cs t f)=.cells (cs.map (te gc (fA ts h) (mv h.size ts))) t (0,(cs.map (te gc (fA ts h) (mv h.size ts))).size):=by simp[mS,C]
    rw[w];have o:¬(pP ts h G).tok c:=λx=>x.elim e λy=>by omega
    exact .shut t ⟨a,by rw[hb];rfl,e⟩ o ⟨aj,λi x y z D=>by rw[Array.getElem?_map,D] at z;cases z;exact afc gc _ _ _⟩ λx=>absurd ((j c).1 x) o
  ·obtain⟨h1,k⟩:=uF a hb;obtain⟨_,cs,t,l,u⟩:=p c h1;exact⟨_,_,DJ gc a k,l,.token _ _ _ _ (.inr ⟨a,k⟩) u λ_=>rfl⟩
 ·rw[yt];rcases hb with hb|hb|hb
  ·have:=hb.1;omega
  ·omega
  ·omega
 ·show b<G<->c<G;rcases de b h.size with a|a
  ·rw[(rz a hb).1]
  ·have:=(p _ (uF a hb).1).1;omega
theorem D7{w wg:ns}(hw:w.heap=h)(d:wg.heap=startHeap gc G ts h){a:Addr}{v:rl}(hc:w.cell? a=some v)(k:a.block≠G)(i:VR (fA ts h) (mv h.size ts v) v):wg.cell? a=some (mv h.size ts v):=by
 unfold World.cell? at hc⊢;rw[hw] at hc;rw[d];cases c:h[a.block]? with
 |none=>rw[c] at hc;cases hc
 |some o=>
  rw[c] at hc;have e:=(bF.1 c).1;cases o with
  |cells l t f=>
   have j:(a.block==G)=false:=eg;rw[DI gc e,c];simp only[Option.map_some,mS,j] at hc⊢;cases g:a.spot with
   |some s=>rw[g] at hc;simp at hc
   |none=>rw[g] at hc;simp only[Option.isSome_none,aiP,if_false] at hc⊢;rw[Array.getElem?_map,hc];simp[aaN gc i]
  |_=>simp at hc
end
theorem ZF[ag](gc:∀v,ag.jk v)(G:Nat)(ts:List Nat)(h:Array Obj):kj (λ_=>false) (startHeap gc G ts h)=startHeap gc G ts h:=by
 apply yw;intro b;rw[uE];rcases de b h.size with hb|hb
 ·rw[DI gc hb];cases h[b]? with
  |none=>rfl
  |some o=>cases o with|cells d t f=>cases c:(b==G)<;>simp[mS,gh]|_=>rfl
 ·rcases de b (h.size+ts.length) with a|a
  ·rw[DJ gc hb a];rfl
  ·rw[Xg gc a];rfl
end Go.Proofs.Q0.aI
namespace Go.Proofs.Q0.Open
section
open Go.Conc Go.ConcN aI
variable[aE]
def Ae(W:ns)(v:rl)(a:ns):Prop:=v=.bool true/\iK W a/\W.heap.size<=a.heap.size/\∀c,c<W.heap.size->a.heap[c]?=W.heap[c]?
def acv(E:Env){m:ag}(q:ag.j4 aE.toag m)(w:∀g,m.gl g->aE.toag.gl g)(y:∀f,aE.toag.ok f->m.ok f)(z:vE)(l:∀v,aE.toag.jk v)(P:@cJ aE.toag Gz.prog)(hC:@dc aE.toag Gz.prog)(hF:∀K:aF,K.G=Gz.prog.globals.size->@dn aE.toag Gz.prog K)
  (Q:@cJ (ag.exact m Gz.prog.funcs) Gz.prog)(R:@dc (ag.exact m Gz.prog.funcs) Gz.prog)(S:@bZ (ag.exact m Gz.prog.funcs) Gz.prog)(V:∀K:aF,K.G=Gz.prog.globals.size->@dn (ag.exact m Gz.prog.funcs) Gz.prog K)
  {W:ns}{ts:List Nat}(hG:∃cs t,W.heap[Gz.prog.globals.size]?=some (.cells cs t (0,0))/\0<cs.size)(A:∀b,aE.toag.cl b<->(pP ts W.heap Gz.prog.globals.size).tok b)(X:ts.Nodup)(ht:∀b,b∈ts->Gz.prog.globals.size<b/\∃cs t,W.heap[b]?=some (.cells cs t (0,0))/\0<cs.size)
  (Z:∀g,aE.toag.gl g->fA ts W.heap g=some g){f:akh}{fn:Func}(WF:Gz.prog.funcs[f]?=some fn)(B:∀r∈fn.results,∃t,r=.tmp t)(C:Gz.prog.inits.idxOf? f=none)(D:aE.toag.ok f){args a:Array rl}(i:@ax aE.toag (fA ts W.heap) a args)
  (F:∀wg:ns,wg.heap=@aI.startHeap aE.toag l Gz.prog.globals.size ts W.heap->Calls Gz.prog f a wg λ|be v,_=>v=.bool true|_,_=>False):
  ∃M last o w' N,runNT Tryz.prog (M+1) (solo (G (aiy Tryz.prog f args .normal) []) W) #[]=(.ended o w',N)/\runN Tryz.prog M (solo (G (aiy Tryz.prog f args .normal) []) W)=.next last/\
   Go.step Tryz.prog last=.ended o w'/\Conc.Good Tryz.prog (Ae W) last o w' N:=by
 let K:=pP ts W.heap Gz.prog.globals.size
 have n:=A
 let wg:ns:={W with heap:=@aI.startHeap aE.toag l Gz.prog.globals.size ts W.heap}
 have hH:=@aed aE.toag ts W.heap Gz.prog.globals.size l hG A X ht;have wT:=@uK aE.toag ts W.heap Gz.prog.globals.size;have hv:=Z;have j:=HR.RZ (hG:=wg.heap) (λ_=>false) Gz.prog.funcs q hH rfl (λb hb=>(n b).1 ((q.cl b).2 hb)) (au _) λb _=>rfl;rw[show kj (λ_=>false) wg.heap=wg.heap from@ZF aE.toag l Gz.prog.globals.size ts W.heap] at j
 have k:bE Gz.prog (iV Gz.prog λv _=>v=.bool true) (G (aiy Gz.prog f a .normal) [c0 Gz.prog]) wg:=
  @Mu (ag.exact m Gz.prog.funcs) Gz.prog _ Q R S rfl (V _ rfl) (λ_ _ x=>x) f fn WF B C (y f D) a a wg _ _ (ax.id (ax.inst q i)) j (λg hg=>Ren.zo (hv g (w g hg))) _ λT _=>(F (wg.on T wg.drawn) rfl).mono λe w' he=>by cases e<;>exact he
 have ii:@bV aE.toag Gz.prog (fA ts W.heap) (aiy Gz.prog f a .normal) (aiy Tryz.prog f args .normal):=by have h:=@u7 aE.toag Gz.prog (fA ts W.heap) P f D a args i;rwa[aE.two] at h
 have hD:@dE aE.toag Gz.prog K [] (fA ts W.heap) (G (aiy Gz.prog f a .normal) [c0 Gz.prog]) wg (G (aiy Tryz.prog f args .normal) []) W:=
  ⟨_,_,[],[],rfl,rfl,ii,@dp.nil aE.toag _ _,hH,hv,rfl⟩
 obtain⟨N1,qQ,a1,w1,H,t1,q1,ψ,g1,I,Sh1,r1,e1,f1,IQ,J,BH,s⟩:=agf E z (K:=K) rfl rfl (λb=>(E.le.cl b).trans (n b)) P hC (hF K rfl) (x:=(G (aiy Gz.prog f a .normal) [c0 Gz.prog],wg)) (adD k.acc)
  #[G (aiy Tryz.prog f args .normal) []] (G (aiy Tryz.prog f args .normal) []) W none #[] (λ_=>0) (fA ts W.heap) (λ_=>False) k hD aec rfl (λ_ _ _ _ _ x=>x)
 have qr:iV Gz.prog (λv _=>v=.bool true) g1 I.heap:=by cases IQ with|lv _ h=>exact h|step h _ _=>exact absurd J h
 obtain⟨χ,v,v',hR,_,I1,L,p⟩:=@afb aE.toag Gz.prog K P ψ g1 I a1 w1 _ BH J qr;subst hR
 have oT:v'=.bool true:=by cases I1;rfl
 subst oT;rw[aE.two] at p;have u:∀c,c<W.heap.size->w1.heap[c]?=W.heap[c]?:=λc hc=>s.apart c hc λb hb=>wT b c hb;obtain⟨N2,last,o,w',N,x1,x2,x3,x4⟩:=Yt (Post:=Ae W) (sl:=H) (t:=t1) e1 f1 L λd=>⟨_,p d,rfl,s.io,s.size,u⟩;have hc:(solo (G (aiy Tryz.prog f args .normal) []) W)=crowd #[G (aiy Tryz.prog f args .normal) []] W none:=rfl;refine⟨N1+N2,last,o,w',N,?_,?_,x3,x4⟩
 ·rw[hc,Nat.add_assoc,runNT_add,r1];exact x1
 ·rw[hc,runN_add];have h1:runN Tryz.prog N1 (crowd #[G (aiy Tryz.prog f args .normal) []] W none)=.next (crowd qQ w1 H):=by rw[<-runNT_fst _ _ _ #[],r1]
  rw[h1];exact x2
end
end Go.Proofs.Q0.Open
namespace Go.Proofs.Q0.aI
def tf:Nat->rl->Bool
 |0,_=>false
 |n+1,v=>match v with
  |.bool _|.int _ _|.string _|.nilFunc|.nilIface|.pointer none|.map none|.chan none|.slice none _ _=>true
  |.agg xs=>xs.toList.all (tf n)
  |.tuple xs=>xs.toList.all (tf n)
  |_=>false
structure gX where
 ok:Nat
 fv:Nat
 gl:Nat
 np:List Nat
 nz:List String
 own:Bool
def eN(c:gX)(s:Nat->Bool):ajd->Bool
 |.tmp t=>s t
 |.const v=>tf 6 v
 |.global g=>c.gl.testBit g
 |.func f=>c.fv.testBit f
def vG(c:gX)(s:Nat->Bool)(xs:Array ajd):Bool:=xs.toList.all (eN c s)
def Bb(c:gX)(s:Nat->Bool):Option ajd->Bool
 |none=>true
 |some x=>eN c s x
def GD(c:gX)(s:Nat->Bool)(k:Call):Bool:=
 vG c s k.args&&match k.callee with
  |.value f=>(match f with|.func n=>c.ok.testBit n|_=>eN c s f)
  |.invoke r name=>eN c s r&&c.nz.contains name
  |.builtin b=>match b with|.append|.len|.cap|.copy|.min|.max=>true|_=>false
def Hj:ajd->Bool
 |.const (.pointer none)=>true
 |_=>false
def Hk(P:Kx)(t:EV)(x y:ajd):Bool:=
 flat P 8 t||match P.underlying t with
  |some (.interface _)=>true
  |some (.pointer _)=>Hj x||Hj y
  |_=>false
def kR(P:Kx)(c:gX)(s:Nat->Bool):Op->Bool
 |.makeInterface t x=>eN c s x&&c.np.contains t
 |.move x|.assign x|.box _ x|.load _ x|.nilCheck x|.unOp _ _ x|.fieldAddr _ x _|.field _ x _|.typeAssert x _ _ _|.extract x _|.panic x=>eN c s x
 |.pick k a b=>eN c s k&&eN c s a&&eN c s b
 |.alloc _=>true
 |.build _ e|.buildSlice _ _ e=>e.toList.all λp=>eN c s p.2
 |.store _ a x=>eN c s a&&eN c s x
 |.binOp op t x y _=>eN c s x&&eN c s y&&(match op with|.eql|.neq=>Hk P t x y|_=>true)
 |.convert src dst x=>eN c s x&&Aj P src dst
 |.makeFunc fn first d=>(match fn with|.func f=>c.fv.testBit f|_=>false)&&vG c s first&&vG c s d
 |.makeSlice _ l k=>eN c s l&&eN c s k
 |.slice _ x g hi h=>eN c s x&&Bb c s g&&Bb c s hi&&Bb c s h
 |.indexAddr _ x i|.index _ x i=>eN c s x&&eN c s i
 |.call k=>GD c s k
 |_=>false
def Ub(s:Nat->Bool)(o:Oper):Bool:=match o.dst with|none=>true|some d=>s d
def Tl(P:Kx)(c:gX)(s:Nat->Bool)(a:Array Oper)(o:Oper):Bool:=
 kR P c s o.op&&match o.guard with
  |none=>true
  |some (j,_)=>match a[j]? with|none=>true|some b=>Ub s b
def vH(c:gX)(x:ajP):Bool:=c.own||match x with|.block n _=>!(n==987654)|_=>true
def gO(P:Kx)(c:gX)(s:Nat->Bool):ajP->Bool
 |.skip|.exit _|.label _|.goto _|.ret|.refuse _=>true
 |.region _ d _=>d.toList.all (Tl P c s d)
 |.seq a b=>gO P c s a&&gO P c s b
 |.cond x a b=>eN c s x&&gO P c s a&&gO P c s b
 |.block _ b|.loop b|.scope b=>gO P c s b
 |.rangeFunc g _ a b=>(eN c s g&&gO P c s a&&gO P c s b)&&(vH c a&&vH c b)
inductive RB(x:ajP):ajP->Prop
 |Hm {a b:ajP}:RB x a->RB x (.seq a b)
 |Ho {a b:ajP}:RB x b->RB x (.seq a b)
 |GF {k:ajd} {a b:ajP}:RB x a->RB x (.cond k a b)
 |GH {k:ajd} {a b:ajP}:RB x b->RB x (.cond k a b)
 |block {i:Nat} {b:ajP}:RB x b->RB x (.block i b)
 |loop {b:ajP}:RB x b->RB x (.loop b)
 |scope {b:ajP}:RB x b->RB x (.scope b)
 |GI {g:ajd} {ps:Array Tmp} {b:ajP}:RB x (.rangeFunc g ps x b)
 |GJ {g:ajd} {ps:Array Tmp} {a:ajP}:RB x (.rangeFunc g ps a x)
 |JE {g:ajd} {ps:Array Tmp} {a b:ajP}:RB x a->RB x (.rangeFunc g ps a b)
 |JF {g:ajd} {ps:Array Tmp} {a b:ajP}:RB x b->RB x (.rangeFunc g ps a b)
def Hp(s:Nat->Bool):ResultVar->Bool
 |.tmp t=>s t
 |.cell t _=>s t
def xx(fn:Func)(i:Nat):Bool:=Nat.blt i fn.ntmps
def jN(fn:Func):ajP:=fn.body.getD (.refuse "unsupported: a function without a Go body is entered")
def JG(P:Kx)(c:gX)(fn:Func):Bool:=gO P c (xx fn) (jN fn)&&fn.results.toList.all (Hp (xx fn))
def tg(P:Kx)(c:gX)(fs:Array Func)(a n:Nat)(skip:Nat):Bool:=(List.range' a n).all λf=>!c.ok.testBit f||f==skip||match fs[f]? with|some fn=>JG P c fn|none=>false
section
variable[ag]{P:Kx}{c:gX}{s:Nat->Bool}{f:akh}
def FF:∀(n:Nat)(v:rl),tf n v=true->∀φ,VR φ v v
 |0,_,h,_=>by cases h
 |n+1,v,h,φ=>by
  have d:∀xs:Array rl,xs.toList.all (tf n)=true->∀(i:Nat) x y,xs[i]?=some x->xs[i]?=some y->VR φ x y:=λxs h i x y e g=>by rw[e] at g;cases g;rw[aiE] at h;exact FF n x (h x (j9.2 (lZ e))) φ
  cases v with
  |bool b=>exact .bool b
  |int k n=>exact .int k n
  |string s=>exact .string s
  |nilFunc=>exact .nilFunc
  |nilIface=>exact .nilIface
  |pointer a=>cases a with|none=>exact .nilPtr|some a=>cases h
  |map a=>cases a with|none=>exact .hQ|some a=>cases h
  |chan a=>cases a with|none=>exact .gZ|some a=>cases h
  |slice a n c=>cases a with|none=>exact .dk n c|some a=>cases h
  |agg xs=>exact .agg rfl (d xs h)
  |tuple xs=>exact .tuple rfl (d xs h)
  |_=>cases h
structure ou(P:Kx)(c:gX):Prop where
 ok:∀f,c.ok.testBit f=true->ag.ok f
 fv:∀f,c.fv.testBit f=true->ag.fv f
 gl:∀g,c.gl.testBit g=true->ag.gl g
 np:∀t,c.np.contains t=true->ag.np t
 nz:∀m,c.nz.contains m=true->sG P m
variable(H:ou P c)(hs:∀i,s i=true->ag.lv f i)
include H hs
def pM{x:ajd}(h:eN c s x=true):dV (ag.lv f) x:=by cases x with|tmp t=>exact hs _ h|const v=>exact FF _ _ h|global g=>exact H.gl _ h|func f=>exact H.fv _ h
def Fc{xs:Array ajd}(h:vG c s xs=true):vP (ag.lv f) xs:=λi x a=>by unfold vG at h;rw[aiE] at h;exact pM H hs (h x (j9.2 (lZ a)))
def FG{x:Option ajd}(h:Bb c s x=true):wR (ag.lv f) x:=by cases x with|none=>trivial|some x=>exact pM H hs h
theorem acw{k:Call}(h:GD c s k=true):FW P (ag.lv f) k:=by
 unfold GD at h;rw[OF] at h;refine⟨Fc H hs h.1,?_⟩;have a:=h.2;cases hc:k.callee with
 |value g=>rw[hc] at a;cases g with|func n=>exact .inl ⟨n,rfl,H.ok _ a⟩|_=>exact .inr (pM H hs a)
 |invoke r name=>rw[hc] at a;rw[OF] at a;exact⟨pM H hs a.1,H.nz _ a.2⟩
 |builtin b=>grind
omit H hs [ag] in
def aee{t:EV}{x y:ajd}(h:Hk P t x y=true):AQ P t x y:=by
 unfold Hk at h;rw[akR] at h;rcases h with h|h
 ·exact .inl ⟨8,h⟩
 ·cases hu:P.underlying t with
  |none=>rw[hu] at h;cases h
  |some d=>
   rw[hu] at h;cases d with
   |interface g=>exact .inr (.inl ⟨g,hu⟩)
   |pointer e=>
    have nil:∀z:ajd,Hj z=true->z=.const (.pointer none):=λz b=>by
     cases z with
     |const v=>cases v with
      |pointer a=>cases a with|none=>rfl|some a=>cases b
      |_=>cases b
     |_=>cases b
    rw[akR] at h;exact .inr (.inr ⟨⟨e,hu⟩,h.imp (nil x) (nil y)⟩)
   |_=>cases h
theorem afd{o:Op}(h:kR P c s o=true):GV P (ag.lv f) o:=by
 have one:∀{x:ajd},eN c s x=true->dV (ag.lv f) x:=λh=>pM H hs h;have d:∀{d:Array (Nat×ajd)},(d.toList.all λp=>eN c s p.2)=true->∀(i:Nat) p,d[i]?=some p->dV (ag.lv f) p.2:=λ{d} h i p j=>by grind
 cases o with
 |makeInterface t x=>simp only[kR,OF] at h;exact⟨one h.1,H.np _ h.2⟩
 |move x=>exact one h
 |assign x=>exact one h
 |box t x=>exact one h
 |load t x=>exact one h
 |nilCheck x=>exact one h
 |unOp _ _ x=>exact one h
 |fieldAddr _ x _=>exact one h
 |field _ x _=>exact one h
 |typeAssert x _ _ _=>exact one h
 |extract x _=>exact one h
 |panic x=>exact one h
 |pick k a b=>simp only[kR,OF] at h;exact⟨one h.1.1,one h.1.2,one h.2⟩
 |alloc _=>trivial
 |build _ p=>exact d h
 |buildSlice _ _ p=>exact d h
 |store _ a x=>simp only[kR,OF] at h;exact⟨one h.1,one h.2⟩
 |binOp op t x y u=>simp only[kR,OF] at h;refine⟨one h.1.1,one h.1.2,λe=>?_⟩;have g:=h.2;rcases e with rfl|rfl<;>exact aee g
 |convert src dst x=>simp only[kR,OF] at h;exact⟨one h.1,h.2⟩
 |makeFunc fn a b=>simp only[kR,OF] at h;refine⟨?_,Fc H hs h.1.2,Fc H hs h.2⟩;cases fn with|func f=>exact⟨f,rfl,H.fv _ h.1.1⟩|_=>exact absurd h.1.1 aj
 |makeSlice _ l k=>simp only[kR,OF] at h;exact⟨one h.1,one h.2⟩
 |slice _ x m hi n=>simp only[kR,OF] at h;exact⟨one h.1.1.1,FG H hs h.1.1.2,FG H hs h.1.2,FG H hs h.2⟩
 |indexAddr _ x i=>simp only[kR,OF] at h;exact⟨one h.1,one h.2⟩
 |index _ x i=>simp only[kR,OF] at h;exact⟨one h.1,one h.2⟩
 |call k=>exact acw H hs h
 |_=>cases h
def kk:∀(k:ajP),gO P c s k=true->(∀x,RB x k->vH c x=true->ag.cd f x)->ee P f k/\∀x,RB x k->ee P f x
 |.skip,_,_=>⟨trivial,λx h=>by cases h⟩
 |.exit _,_,_=>⟨trivial,λx h=>by cases h⟩
 |.label _,_,_=>⟨trivial,λx h=>by cases h⟩
 |.goto _,_,_=>⟨trivial,λx h=>by cases h⟩
 |.ret,_,_=>⟨trivial,λx h=>by cases h⟩
 |.refuse _,_,_=>⟨trivial,λx h=>by cases h⟩
 |.region id t d,h,_=>⟨λi o u=>by simp only[gO,aiE] at h;have:=h o (j9.2 (lZ u));unfold Tl at this;rw[OF] at this;refine⟨afd H hs this.1,λj r v y d w hd=>?_⟩;have n:=this.2;rw[v] at n;dsimp only at n;rw[w] at n;unfold Ub at n;dsimp only at n;rw[hd] at n;exact hs _ n,λx h=>by cases h⟩
 |.seq a b,h,hc=>by simp only[gO,OF] at h;obtain⟨p,q⟩:=kk a h.1 λx e=>hc x (.Hm e);obtain⟨l,m⟩:=kk b h.2 λx e=>hc x (.Ho e);exact⟨⟨p,l⟩,λx e=>by cases e with|Hm e=>exact q x e|Ho e=>exact m x e⟩
 |.cond k a b,h,hc=>by simp only[gO,OF] at h;obtain⟨p,q⟩:=kk a h.1.2 λx e=>hc x (.GF e);obtain⟨l,m⟩:=kk b h.2 λx e=>hc x (.GH e);exact⟨⟨pM H hs h.1.1,p,l⟩,λx e=>by cases e with|GF e=>exact q x e|GH e=>exact m x e⟩
 |.block i b,h,hc=>by obtain⟨l,m⟩:=kk b h λx e=>hc x (.block e);exact⟨l,λx e=>by cases e with|block e=>exact m x e⟩
 |.loop b,h,hc=>by obtain⟨l,m⟩:=kk b h λx e=>hc x (.loop e);exact⟨l,λx e=>by cases e with|loop e=>exact m x e⟩
 |.scope b,h,hc=>by obtain⟨l,m⟩:=kk b h λx e=>hc x (.scope e);exact⟨l,λx e=>by cases e with|scope e=>exact m x e⟩
 |.rangeFunc g z a b,h,hc=>by simp only[gO,OF] at h;obtain⟨p,q⟩:=kk a h.1.1.2 λx e=>hc x (.JE e);obtain⟨l,m⟩:=kk b h.1.2 λx e=>hc x (.JF e);exact⟨⟨pM H hs h.1.1.1,p,l,hc a .GI h.2.1,hc b .GJ h.2.2⟩,λx e=>by cases e with|GI=>exact p|GJ=>exact l|JE e=>exact q x e|JF e=>exact m x e⟩
end
section
open Go.Extern
section
variable[ag]{P:Kx}{K:aF}{φ:Ren}
def Mx{f:akh}{fn a:Func}{e:Array rl->Sem rl}(m:P.funcs[f]?=some fn)(b:P.two.funcs[f]?=some a)(n:(fn.name== "runtime.NumGoroutine")=false)(d:(a.name== "runtime.NumGoroutine")=false)
  (o:fn.body.isNone=true)(g:a.body.isNone=true)(p:Extern.findNext fn=none)(j:Extern.findNext a=none)(he:Extern.find fn=some e)(k:Extern.find a=some e)
  {xs l:Array rl}(h:SR P K VR φ (e xs) (e l)):SR P K NR φ (callFunc f xs) (callFunc f l):=by
 refine SR.program ?_;simp only[Sem.bind,m,b,n,d,o,g,p,j,he,k,aiP,if_false,if_true];refine .quiet (.inr ⟨f,rfl⟩) ?_;show SR P K NR φ (e xs>>=λv=>pure (Next.value v)) (e l>>=λv=>pure (Next.value v));exact SR.bind h λr v t _ q=>.pure (.value q)
def aaO(o:φ P.globals.size=some P.globals.size)(j:ag.cl P.globals.size){g:EV}(b:P.cutTypes.find? (·.1== "internal/reflectlite.rtype")=some ("internal/reflectlite.rtype",g))(k:ag.hd g)
  {xs d:Array rl}(h:ax φ xs d):SR P K VR φ (ReflectliteType.typeOf xs) (ReflectliteType.typeOf d):=by
 have hs:=h.size;have p:=h.at_;obtain⟨xs⟩:=xs;obtain⟨d⟩:=d
 match xs,d with
 |[],_=>exact .halt _ _
 |x::y::l,_=>cases x<;>exact .halt _ _
 |[x],[]=>simp at hs
 |[x],y::z::l=>simp at hs
 |[x],[y]=>
  have m:=p 0 x y rfl rfl;cases m with
  |nilIface=>exact .pure .nilIface
  |@iface t v u q w=>
   have e:P.two.cutTypes.find? (·.1== "internal/reflectlite.rtype")=some ("internal/reflectlite.rtype",g):=b;refine SR.program ?_;simp only[Sem.bind,b,e];refine SR.program ?_;have r:VR φ (typeHandle P t) (typeHandle P.two t):=.ptr ⟨o,rfl,rfl⟩
   exact .pure (.iface g (.agg rfl λi x y a n=>by
    match i with
    |0=>simp at a n;subst a;subst n;exact r
    |i+1=>simp at a) (.inr (.inr ⟨k,.agg λi x a=>by
    match i with
    |0=>simp at a;subst a;exact .ptr j
    |i+1=>simp at a⟩)))
  |_=>exact .halt _ _
def Yu(j:φ P.globals.size=some P.globals.size){x y:rl}(h:VR φ x y):SR P K aY φ (Rtype.ofHandle x) (Rtype.ofHandle y):=by
 refine SR.program ?_;cases h with
 |@ptr a b h=>
  by_cases d:a.block=P.globals.size
  ·have e:b.block=P.globals.size:=by have:=h.block;rw[d,j] at this;exact(aL this).symm
   have g:akr P (.pointer (some a))=some a.off:=by simp[akr,d]
   have k:akr P.two (.pointer (some b))=some a.off:=by show(if b.block==P.globals.size then some b.off else none)=_;simp[e,h.off]
   show SR P K aY φ (match akr P (.pointer (some a)) with|some t=>pure t|none=>stuck "a type descriptor expected") (match akr P.two (.pointer (some b)) with|some t=>pure t|none=>stuck "a type descriptor expected");rw[g,k];exact .pure rfl
  ·have g:akr P (.pointer (some a))=none:=by simp[akr,d]
   show SR P K aY φ (match akr P (.pointer (some a)) with|some t=>pure t|none=>stuck "a type descriptor expected") (match akr P.two (.pointer (some b)) with|some t=>pure t|none=>stuck "a type descriptor expected");rw[g];exact .halt _ _
 |_=>exact .halt _ _
def Oc(t:EV):P.two.packed t=P.packed t:=by
 have:P.two.packedAs t=P.packedAs t:=by unfold Program.packedAs;exact LG
 unfold Program.packed;rw[this]
def LD:∀(d:Nat)(t:EV),P.two.holdsPacked d t=P.holdsPacked d t
 |0,_=>rfl
 |d+1,t=>by unfold Program.holdsPacked;have a:P.two.holdsPacked d=P.holdsPacked d:=funext λt=>LD d t;rw[a,Oc];rfl
def aaP{what:String}(t:EV):SR P K aY φ (Rtype.noPack what t) (Rtype.noPack what t):=by refine SR.program ?_;have e:P.two.packed t=P.packed t:=Oc t;exact LB
def Xh{what:String}(t:EV):SR P K aY φ (Rtype.noPackHeld what t) (Rtype.noPackHeld what t):=by refine SR.program ?_;refine SR.program ?_;have e:P.two.holdsPacked P.two.depth t=P.holdsPacked P.depth t:=LD _ t;exact LB
def ZG(b:φ P.globals.size=some P.globals.size){x y:rl}(h:VR φ x y):SR P K aY φ (ReflectliteType.ofRtype x) (ReflectliteType.ofRtype y):=by
 cases h with
 |@agg xs a hs d=>
  obtain⟨xs⟩:=xs;obtain⟨a⟩:=a
  match xs,a with
  |[],_=>exact .halt _ _
  |x::y::l,_=>exact .halt _ _
  |[x],[]=>simp at hs
  |[x],y::z::l=>simp at hs
  |[x],[y]=>refine SR.bind (Yu b (d 0 x y rfl rfl)) λg t j _ e=>?_;subst e;exact SR.bind (aaP t) λk _ _ _ _=>.pure rfl
 |_=>exact .halt _ _
def Xi(b:φ P.globals.size=some P.globals.size){xs a:Array rl}(h:ax φ xs a):
  SR P K VR φ (ReflectliteType.method (λt=>do Rtype.noPackHeld "Comparable" t;pure (.bool (<-typeInfo t).comparable)) xs) (ReflectliteType.method (λt=>do Rtype.noPackHeld "Comparable" t;pure (.bool (<-typeInfo t).comparable)) a):=by
 have hs:=h.size;have d:=h.at_;obtain⟨xs⟩:=xs;obtain⟨a⟩:=a
 match xs,a with
 |[],_=>exact .halt _ _
 |x::y::l,_=>exact .halt _ _
 |[x],[]=>simp at hs
 |[x],y::z::l=>simp at hs
 |[x],[y]=>refine SR.bind (ZG b (d 0 x y rfl rfl)) λg t j _ e=>?_;subst e;refine SR.bind (Xh t) λk _ _ _ _=>?_;refine SR.bind (l6 t) λm i n _ e=>?_;subst e;exact .pure (.bool _)
end
end
end Go.Proofs.Q0.aI
namespace Go.Proofs.Q0.Open
section
open Go.Conc Go.ConcN aI
def iB:Nat:=844298104742665279615285612489731240493345240174559557001249030136
def okW:Nat:=844298104325658314577646697837706116865732517205892859220893630464
def ef:gX:={ok:=iB,fv:=3088188035719493807834422939965495933691940075334533120,gl:=7,np:=[185,186,219],nz:=["loop.example/videocodec/impl.fits", "Comparable", "Is", "Unwrap"],own:=false}
def vV:gX:={ef with ok:=okW}
def vX:gX:={ef with own:=true}
@[reducible]
noncomputable def bU(T:Nat->Prop):ag where
 ok f:=iB.testBit f=true
 fv f:=ef.fv.testBit f=true
 gl g:=ef.gl.testBit g=true\/g=Gz.prog.globals.size
 cd f x:=iB.testBit f=true/\f≠40/\vH ef x=true/\∃fn,Tryz.prog.funcs[f]?=some fn/\aI.RB x (jN fn)
 fs:=Tryz.prog.funcs
 lv f i:=if f=40 then((kept i=true\/i=4)/\i<41) else∃fn,Tryz.prog.funcs[f]?=some fn/\i<fn.ntmps
 dH c c':=c=iL/\c'=hZ
 home:=40
 cl:=T
 np t:=ef.np.contains t=true
 hd t:=t=202
 jk _:=True
noncomputable abbrev iY(T:Nat->Prop):ag:={bU T with ok:=λf=>okW.testBit f=true,cd:=λf x=>okW.testBit f=true/\(bU T).cd f x,dH:=λ_ _=>False}
noncomputable def vY(f i:Nat):Prop:=if f=40 then i<41 else∃fn,Tryz.prog.funcs[f]?=some fn/\i<fn.ntmps
def Hq(f:Nat)(x:ajP):Prop:=(iB.testBit f=true/\f≠40/\∃fn,Tryz.prog.funcs[f]?=some fn/\aI.RB x (jN fn))\/(f=40/\aI.RB x lh)
noncomputable abbrev iW(T:Nat->Prop):ag:={bU T with cd:=Hq,lv:=vY,dH:=λ_ _=>False}
def afe:tg Gz.prog ef Tryz.prog.funcs 0 230 40=true:=ai
def Sv:tg Gz.prog vV Tryz.prog.funcs 0 230 40=true:=ai
def aff:tg Gz.prog vX Tryz.prog.funcs 0 230 40=true:=ai
end
end Go.Proofs.Q0.Open
namespace Go.Proofs.Q0.aI
section
variable[ag]
def Ev(v:rl):Prop:=∀φ,VR φ v v
def Ev.cells{v:rl}(h:Ev v){x:rl}(a:x∈v.cells):Ev x:=by
 have one:∀u:rl,Ev u->x∈(#[u]:Array rl)->Ev x:=λu hu a=>by simp_all
 cases v with
 |agg xs=>intro φ;have b:x∈xs:=a;obtain⟨i,hi,e⟩:=yP.1 b;have h1:xs[i]?=some x:=eg;cases h φ with|agg d c=>exact c i x x h1 h1
 |_=>exact one _ h a
def F6{xs:Array rl}(h:∀x,x∈xs->Ev x):Ev (.agg xs):=λφ=>.agg rfl λi x y a b=>by rw[a] at b;cases b;exact h x (lZ a) φ
omit [ag] in
def Pm{α c:Type}(I:c->Prop)(f:α->c->Option (ForInStep c))(h:∀a s r,I s->f a s=some r->I r.value):∀(l:List α)(s s':c),I s->forIn l s f=some s'->I s'
 |[],s,s',d,e=>by simp only[List.forIn_nil] at e;cases e;exact d
 |a::l,s,s',d,e=>by simp only[List.forIn_cons,bind,aft] at e;obtain⟨r,hr,e⟩:=e;have:=h a s r d hr;cases r with|done b=>cases e;exact this|yield b=>exact Pm I f h l b s' this e
def qd(i:akq):Prop:=∀v,i.zero=some v->Ev v
def aaQ{d:EV->Option akq}(hi:∀t i,d t=some i->qd i){fs:Array Field}{i:akq}(h:Made.reckonStruct d fs=some i):qd i:=by
 unfold Made.reckonStruct at h;simp only[bind,aft,pure] at h;obtain⟨a,h1,h⟩:=h;rw[<-Array.forIn_toList] at h1;have key:=Pm (λs=>∀g:Array rl,s.2.2.2.2.2.2.2.1=some g->∀x,x∈g->Ev x) _ (λf s r m c=>?_) _ _ _ (λg e x l=>by cases e;simp at l) h1
 ·split at h
  ·cases h;exact LC
  ·cases h;exact LC
 ·clear h1;simp only[aft] at c;obtain⟨j,n,c⟩:=c
  have k:∀g:Array rl,(if s.2.1+j.size>Made.mostCells then none else s.2.2.2.2.2.2.2.1.bind λa=>j.zero.bind λb=>some (a++b.cells))=some g->∀x,x∈g->Ev x:=λg e x l=>by
   split at e
   ·cases e
   ·simp only[aft] at e;obtain⟨o,p,q,u,v⟩:=e;cases v;rcases jc.1 l with h|h
    ·exact m o p x h
    ·exact(hi _ _ n q u).cells h
  repeat' first
   |exact k
   |(obtain⟨_,_,c⟩:=c)
   |(cases c;done)
   |(cases c;exact k)
   |(simp only[aft] at c)
   |(split at c)
def aaR{b:EV->Option akq}(hi:∀t i,b t=some i->qd i){d:TypeDesc}{i:akq}(h:Made.reckon b d=some i):qd i:=by
 unfold Made.reckon at h;split at h
 ·simp only[bind,aft,pure] at h
  repeat' first
   |(obtain⟨_,_,h⟩:=h)
   |(cases h;done)
   |(intro v a;cases a;exactλ_=>.nilPtr)
   |(cases h;intro v a;cases a;exactλ_=>.nilPtr)
   |(split at h)
   |(simp only[aft] at h)
 ·simp only[bind,aft,pure] at h
  repeat' first
   |(obtain⟨_,_,h⟩:=h)
   |(intro v a;cases a;exactλ_=>.dk 0 0)
   |(cases h;intro v a;cases a;exactλ_=>.dk 0 0)
   |(simp only[aft] at h)
 ·simp only[bind,aft,pure] at h
  repeat' first
   |(obtain⟨_,_,h⟩:=h)
   |(intro v a;cases a;exactλ_=>.hQ)
   |(cases h;intro v a;cases a;exactλ_=>.hQ)
   |(simp only[aft] at h)
 ·simp only[bind,aft,pure] at h
  repeat' first
   |(obtain⟨_,_,h⟩:=h)
   |(intro v a;cases a;exactλ_=>.gZ)
   |(cases h;intro v a;cases a;exactλ_=>.gZ)
   |(simp only[aft] at h)
 ·simp only[bind,aft,pure] at h
  repeat' first
   |(obtain⟨_,_,h⟩:=h)
   |(intro v a;cases a;exactλ_=>.nilFunc)
   |(cases h;intro v a;cases a;exactλ_=>.nilFunc)
   |(simp only[aft] at h)
 ·simp only[bind,aft,pure] at h;obtain⟨j,e,s,_,h⟩:=h;cases h;intro v a;split at a
  ·cases a
  ·split at a
   ·cases a;exact F6 λx c=>by simp at c
   ·simp only[Option.map_eq_some_iff] at a;obtain⟨z,f,rfl⟩:=a;refine F6 λx c=>?_;obtain⟨xs,h1,g⟩:=Array.mem_flatten.1 c;rw[Array.mem_replicate] at h1;exact(hi _ _ e z f).cells (h1.2▸g)
 ·exact aaQ hi h
 ·cases h
def Pn{T:Tables}(a:∀(t:Nat)(i:akq),T.types[t]?=some i->qd i):∀(n:Nat)(t:EV)(i:akq),Made.infoAt T n t=some i->qd i
 |0,_,_,h=>by cases h
 |n+1,t,i,h=>by
  unfold Made.infoAt at h;split at h
  ·exact a t i h
  ·simp only[aft] at h;obtain⟨d,_,h⟩:=h;exact aaR (Pn a n) h
def acx{P:Kx}(a:∀(t:Nat)(i:akq),P.types[t]?=some i->qd i):bZ P:=λt i v hi b φ=>by
 have h:=hi;unfold Tables.info? at h;split at h
 ·exact a t i h v b φ
 ·exact Pn a _ t i h v b φ
def Yv{b:EV->Option akq}{d:TypeDesc}{i:akq}(h:Made.reckon b d=some i):i.methods=#[]:=by
 unfold Made.reckon at h;split at h;all_goals try simp only[bind,aft,pure] at h
 all_goals repeat' first
  |(obtain⟨_,_,h⟩:=h)
  |(split at h)
 all_goals first
  |rfl
  |(simp only[aft] at h;obtain⟨_,_,h⟩:=h;cases h;rfl)
  |skip
 unfold Made.reckonStruct at h;simp only[bind,aft,pure] at h;obtain⟨a,_,h⟩:=h;split at h<;>(cases h;rfl)
theorem acy{P:Kx}{name:String}(a:∀(t:Nat)(i:akq) m f b,P.types[t]?=some i->i.methods.find? (·.name==name)=some m->m.func=some (f,b)->ag.ok f):sG P name:=λt i m f b hi hm c=>by
 have h:=hi;unfold Tables.info? at h;split at h
 ·grind
 ·unfold Made.depth at h;unfold Made.infoAt at h;split at h
  ·simp_all
  ·simp only[aft] at h;obtain⟨d,_,h⟩:=h;rw[Yv h] at hm;simp at hm
end
end Go.Proofs.Q0.aI
namespace Go.Proofs.Q0.Open
open Go.Proofs.Tryz
variable{f:Nat}
section
open Go.Conc Go.ConcN aI
def Tm(P:Kx):Bool:=P.types.toList.all λi=>match i.zero with|none=>true|some v=>tf 6 v
def Tn(P:Kx)(ok:Nat)(name:String):Bool:=P.types.toList.all λi=>i.methods.toList.all λm=>!(m.name==name)||match m.func with|some (f,_)=>ok.testBit f|none=>true
def Uc(fs:Array Func)(ok a n:Nat):Bool:=(List.range' a n).all λf=>!ok.testBit f||f==134||f==210||match fs[f]? with|some fn=>fn.body.isSome&&!(fn.name== "runtime.NumGoroutine")|none=>false
def agh:Tm Gz.prog=true:=aC
def agi:(ef.nz.all (Tn Gz.prog okW))=true:=aC
def aht:Uc Tryz.prog.funcs iB 0 230=true:=ai
def nd:okW&&&iB=okW:=aC
def agj:ef.fv&&&okW=ef.fv:=aC
def afg:iB>>>230=0:=aC
theorem mh{a b:Nat}(h:a&&&b=a)(k:a.testBit f=true):b.testBit f=true:=eO
def uT(h:iB.testBit f=true):f<230:=by apply Nat.lt_of_not_le;intro a;have:=Nat.testBit_shiftRight (i:=230) (j:=f-230) iB;rw[afg,Nat.zero_testBit,Nat.add_sub_cancel' a,h] at this;cases this
def mem_range(h:f<230):f∈List.range' 0 230:=eg
def acz{c:gX}(h:tg Gz.prog c Tryz.prog.funcs 0 230 40=true)(e:f<230)(a:c.ok.testBit f=true)(b:f≠40):∃fn,Tryz.prog.funcs[f]?=some fn/\JG Gz.prog c fn=true:=by unfold tg at h;rw[aiE] at h;have:=h f (mem_range e);simp only[a,Bool.not_true,Bool.false_or,akR,beq_iff_eq,b,false_or] at this;cases d:Tryz.prog.funcs[f]? with|none=>rw[d] at this;cases this|some fn=>rw[d] at this;exact⟨fn,rfl,this⟩
def acA(a:iB.testBit f=true)(h1:f≠134)(b:f≠210):∃fn,Tryz.prog.funcs[f]?=some fn/\fn.body.isSome=true/\(fn.name== "runtime.NumGoroutine")=false:=by have h:=aht;unfold Uc at h;rw[aiE] at h;have:=h f (mem_range (uT a));simp only[a,Bool.not_true,Bool.false_or,akR,beq_iff_eq,h1,b,false_or] at this;cases c:Tryz.prog.funcs[f]? with|none=>rw[c] at this;cases this|some fn=>simp_all
theorem Qs{P:Kx}{t:EV}{i:akq}(h:P.types[t]?=some i):i∈P.types.toList:=eO
section
variable[X:ag]
def Af:bZ Gz.prog:=acx λt i hi v a φ=>by have h:=agh;unfold Tm at h;rw[aiE] at h;have:=h i (Qs hi);rw[a] at this;exact FF 6 v this φ
def aef(a:∀f,okW.testBit f=true->ag.ok f)(m:String)(hm:ef.nz.contains m=true):sG Gz.prog m:=acy λt i g f b hi c j=>by have h:=agi;rw[aiE] at h;have h1:=h m (by simpa using hm);unfold Tn at h1;rw[aiE] at h1;have d:=h1 i (Qs hi);rw[aiE] at d;have e:=d g (j9.2 (Array.mem_of_find?_eq_some c));have k:=Array.find?_some (p:=λx:Method=>x.name==m) c;rw[k,j] at e;exact a f (by simpa using e)
end
def npC:(ef.np.all λt=>flat Gz.prog 8 t)=true:=ai
def hdC:(match Gz.prog.underlying 202 with|some (.pointer _)=>false|_=>true)=true:=lU
def rtC:Gz.prog.cutTypes.find? (·.1== "internal/reflectlite.rtype")=some ("internal/reflectlite.rtype",202):=aC
structure Sets(X:ag):Prop where
 ok1:∀f,X.ok f->iB.testBit f=true
 okW:∀f,okW.testBit f=true->X.ok f
 fv:∀f,X.fv f<->ef.fv.testBit f=true
 gl:∀g,ef.gl.testBit g=true->X.gl g
 glG:X.gl Gz.prog.globals.size
 np:∀t,X.np t<->ef.np.contains t=true
 hd:∀t,X.hd t<->t=202
 clG:X.cl Gz.prog.globals.size
 two:∀f fn,f≠40->Tryz.prog.funcs[f]?=some fn->X.fs[f]?=some fn
 agk:∃fn,X.fs[40]?=some fn/\fn.body.isSome=true/\(fn.name== "runtime.NumGoroutine")=false
def Sets.To{X:ag}(S:Sets X):@nu X Gz.prog:=⟨λt a=>⟨8,by
 have h:=npC;rw[aiE] at h;exact h t (by simpa using(S.np t).1 a)⟩,λt a e he=>by
 rw[(S.hd t).1 a] at he;have h:=hdC;rw[he] at h;cases h⟩
def Am:Gz.f40.body.isSome=true/\(Gz.f40.name== "runtime.NumGoroutine")=false:=⟨rfl,ai⟩
def Sets.An{X:ag}(S:Sets X)(K:aF):@dn X Gz.prog K:=by
 refine⟨S.To,λf k=>S.okW f (mh agj ((S.fv f).1 k)),λf b φ xs n l h=>?_⟩;have i:=l _ S.glG;have c:=S.ok1 f b;by_cases a:f=40
 ·subst a;obtain⟨m,d,e,g⟩:=S.agk;exact@Ng X Gz.prog K φ _ _ _ Gz.func40 Am.1 Am.2 d e g b _ _ h
 by_cases h1:f=134
 ·subst h1
  exact@Mx X Gz.prog K φ _ _ _ Extern.ReflectliteType.typeOf (Gz.l8 func134 a) (S.two _ _ a func134) ai ai ai ai ai ai ai ai _ _
   (@aaO X Gz.prog K φ i S.clG _ rtC ((S.hd _).2 rfl) _ _ h)
 by_cases j:f=210
 ·subst j
  exact@Mx X Gz.prog K φ _ _ _ (Extern.ReflectliteType.method λt=>do Extern.Rtype.noPackHeld "Comparable" t;pure (.bool (<-typeInfo t).comparable)) (Gz.l8 func210 a) (S.two _ _ a func210) ai ai ai ai ai ai ai ai _ _
   (@Xi X Gz.prog K φ i _ _ h)
 obtain⟨fn,d,e,g⟩:=acA c h1 j;exact@Ng X Gz.prog K φ _ _ _ (Gz.l8 d a) e g (S.two _ _ a d) e g b _ _ h
def Sets.tp{X:ag}(S:Sets X){c:gX}(ok:∀f,c.ok.testBit f=true->X.ok f)(h1:c.fv=ef.fv)(a:c.gl=ef.gl)(b:c.np=ef.np)(d:c.nz=ef.nz):@ou X Gz.prog c:=
 @ou.mk X Gz.prog c ok (λf h=>(S.fv f).2 (h1▸h)) (λg h=>S.gl g (a▸h)) (λt h=>(S.np t).2 (b▸h)) (λm h=>@aef X S.okW m (d▸h))
def zN{X:ag}{c:gX}(H:@ou X Gz.prog c)(d:∀f fn i,f≠40->Tryz.prog.funcs[f]?=some fn->(X.lv f i<->i<fn.ntmps))
  (hc:tg Gz.prog c Tryz.prog.funcs 0 230 40=true){f:Nat}(k:f<230)(e:c.ok.testBit f=true)(a:f≠40)(g:∀fn x,Tryz.prog.funcs[f]?=some fn->aI.RB x (jN fn)->vH c x=true->X.cd f x):
  ∃fn,Tryz.prog.funcs[f]?=some fn/\@ee X Gz.prog f (jN fn)/\(∀x,aI.RB x (jN fn)->@ee X Gz.prog f x)/\∀r∈fn.results,@pW (X.lv f) r:=by
 obtain⟨fn,h1,b⟩:=acz hc k e a;unfold JG at b;rw[OF] at b;have h:∀i,xx fn i=true->X.lv f i:=λi hi=>(d f fn i a h1).2 (by unfold xx at hi;rwa[Nat.blt_eq] at hi);obtain⟨l,m⟩:=@kk X Gz.prog c (xx fn) f H h (jN fn) b.1 λx=>g fn x h1;refine⟨fn,h1,l,m,λr n=>?_⟩;have j:=b.2;rw[aiE] at j;have:=j r (j9.2 n);cases r with|tmp t=>exact h t this|cell t _=>exact h t this
end
end Go.Proofs.Q0.Open
