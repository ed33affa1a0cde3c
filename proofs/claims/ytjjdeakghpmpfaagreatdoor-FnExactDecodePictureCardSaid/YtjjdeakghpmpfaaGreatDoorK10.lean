import Derived.Test.YtjjdeakghpmpfaaGreatDoorK9
import Derived.Deep.LoopGhost
import Derived.OrdersIn
set_option maxRecDepth 100000
set_option maxHeartbeats 8000000
set_option linter.all false
open Go.Value renaming int->U,slice->Y,bool->a9,agg->a5,pointer->ci,tuple->dl,iface->em
open Go.IntKind renaming i64->O
open Go.Obj renaming cells->ac
open Go.Ending renaming returned->be
open Go renaming Calls->UL,Program->Kx,TypeId->EV,Value->rl,World->ns,run_underlying->alb
open Go.Fence renaming wide->akU
open Go.Instr renaming index->akG
open List renaming all_cons->akM,range_succ->aju,replicate->an
namespace Go.Proofs
def Km{p:Prop}(h:p:=by
  refine this.mono λe W' h=>⟨h.1,?_⟩;rcases h.2 with⟨ys,rfl,ys',e',h⟩|⟨pre,hp,i8,e',h⟩
  ·grind
  ·grind):p:=h
def LV{p:Prop}(h:p:=by rw[decide_eq_false λh=>aa,Bool.false_and] at f9;have jn:=af f9;go_wp2;go_ret;exact⟨by rw[hr.out,jn.out];rfl,q0⟩):p:=h
def Dj{p:Prop}(h:p:=by go_enter Gz.gf func140,ntmps140;go_wp2_with((with_reducible refine eQ (n:=71) rfl _ _ rfl _ rfl _ aG _ (Gz.gu underlying85) rfl fY ?_));go_ret;exact⟨rfl,q0⟩):p:=h
end Go.Proofs
namespace Go.Proofs.Q0
open Go.Proofs.Tryz
variable{W w W':ns}{lo s B n k:Nat}{xs m:List Int}{v:rl}{t:EV}{a:Act}{Q':Exit->Act->ns->Prop}{P:Kx}
section
open Go.RowKit Go.WideShapes Go.ChangeShapes Go.Shelf
def eB(lo:Nat)(W:ns):List Deferred->Prop
 |[]=>True
 |d::b=>∃D,d={target:=.collected D,args:=#[]}/\lo<=D/\W.heap[D]?=some (.deferred (some []))/\(∀c∈b,c.target≠.collected D)/\eB lo W b
def eB.kept{lo:Nat}{W W':ns}:∀{b:List Deferred},eB lo W b->(∀D d,d∈b->d.target=.collected D->lo<=D->W.heap[D]?=some (.deferred (some []))->W'.heap[D]?=some (.deferred (some [])))->eB lo W' b
 |[],_,_=>trivial
 |d::b,⟨D,h1,c,e,f,g⟩,k=>⟨D,h1,c,k D d (mI ..) (by rw[h1]) c e,f,g.kept λE h hd=>k E h (pf _ hd)⟩
def eB.lt{lo:Nat}{W:ns}:∀{b:List Deferred},eB lo W b->∀d∈b,∃D,d.target=.collected D/\D<W.heap.size
 |[],_,d,h=>by cases h
 |d::b,⟨D,h1,_,c,_,e⟩,f,h=>by
  rcases kT.1 h with rfl|h
  ·exact⟨D,by rw[h1],(bF.1 c).1⟩
  ·exact e.lt f h
def eB.more{D:Nat}{b:List Deferred}(h:eB lo W b)(c:∀d∈b,d.target≠.collected D)(e:lo<=D)(f:W.heap[D]?=some (.deferred (some []))):eB lo W ({target:=.collected D,args:=#[]}::b):=⟨D,rfl,e,f,c,h⟩
structure KD(lo:Nat)(W W':ns):Prop where
 os:W'.os=W.os
 tape:W'.tape=W.tape
 output:W'.output=W.output
 size:W'.heap.size=W.heap.size
 block:∀k,W'.heap[k]?=W.heap[k]?\/(lo<=k/\∃o,W.heap[k]?=some o/\o.isCells=false)
section
variable{lo:Nat}{W W' W'':ns}
def KD.refl(lo:Nat)(W:ns):KD lo W W:=⟨rfl,rfl,rfl,rfl,λ_=>.inl rfl⟩
def KD.cells(h:KD lo W W'){k:Nat}{cs:Array rl}{t:EV}{f:Nat×Nat}(b:W.heap[k]?=some (ac cs t f)):W'.heap[k]?=some (ac cs t f):=by
 rcases h.block k with e|⟨_,o,c,hc⟩
 ·rw[e,b]
 ·rw[b] at c;cases c;cases hc
def KD.put(h:KD lo W W'){D:Nat}{x:Option (List Deferred)}(b:lo<=D)(c:W.heap[D]?=some (.deferred (some [])))(d:W'.heap[D]?=some (.deferred (some []))):KD lo W (W'.putObj D (.deferred x)):=
 ⟨h.os,h.tape,h.output,by rw[World.putObj_size,h.size],λk=>by
  by_cases e:k=D
  ·subst e;exact .inr ⟨b,_,c,rfl⟩
  ·rw[World.putObj_heap_other e];exact h.block k⟩
def KD.toQ(h:KD lo W W')(q:Q w W)(c:w.heap.size<=lo):Q w W':=
 ⟨h.os.trans q.os,h.tape.trans q.tape,h.output.trans q.output,by rw[h.size];exact q.size,λk b=>by
  rcases h.block k with e|⟨h1,_⟩
  ·rw[e];exact q.block k b
  ·omega⟩
def bC.kd{v u:rl}{w:ns}(h:bC v w u W)(k:KD lo W W')(c:w.heap.size<=lo):bC v w u W':=
 ⟨⟨k.os.trans h.bK.os,k.tape.trans h.bK.tape,k.output.trans h.bK.output,by rw[k.size];exact h.bK.size,λi hi b=>by
  rcases k.block i with e|⟨h1,_⟩
  ·rw[e];exact h.bK.block i hi b
  ·omega⟩,h.own⟩
def az.Ft(h:az t s W B v n xs)(k:∀g cs d f,W.heap[g]?=some (ac cs d f)->v.ownBlock=some g->W'.heap[g]?=some (ac cs d f)):az t s W' B v n xs:=by
 obtain⟨h0,h1,e⟩:=h;refine⟨h0,h1,?_⟩;rcases e with e|⟨g,b,c,i,j,l,r⟩
 ·simp_all
 ·exact .inr ⟨g,b,c,i,j,k g _ _ _ l (by rw[i];rfl),r⟩
def MD{F:Fence}{n:Nat}{P:Kx}{fn:Func}{tmps:Array rl}{R:Ending->ns->Prop}(c:ns):∀(b:List Deferred)(W:ns),eB lo W b->KD lo c W->(∀D d,d∈b->d.target=.collected D->c.heap[D]?=some (.deferred (some [])))->
  (∀W',KD lo c W'->LeavesIn F n P fn tmps R [] .returning W')->LeavesInM F n P fn tmps R b .returning W
 |[],W,_,k,_,h=>h W k
 |d::b,W,⟨D,h1,j,i,l,o⟩,k,h0,h=>by refine⟨aj,.inl ⟨D,_,by rw[h1],run_takeDeferred i,?_⟩⟩;refine MD c b _ (o.kept λE f hd he _ p=>?_) (k.put j (h0 D d (mI ..) (by rw[h1])) i) (λE f hd he=>h0 E f (pf _ hd) he) h;have g:E≠D:=λe=>l f hd (by rw[he,e]);rw[World.putObj_heap_other g];exact p
def eB.all{b:List Deferred}(h:eB lo W b):∀D d,d∈b->d.target=.collected D->W.heap[D]?=some (.deferred (some [])):=by
 induction b with
 |nil=>intro D d hd;cases hd
 |cons d b c=>
  obtain⟨E,h1,e,f,g,i⟩:=h;intro D j hd he;rcases kT.1 hd with rfl|hd
  ·simp_all
  ·grind
def Z1{c:Code}(N:Nat)(T:Nat->(Nat->rl)->Array rl)(R:Nat->List Deferred->ns->Prop)(f:a.tmps=T 0 λi=>a.tmps.getD i undef)(h0:R 0 a.defers w)
  (round:∀k y d w,R k d w->∀K:Act->ns->Prop,(∀a' w',a'.tmps=T (k+1) (λi=>a'.tmps.getD i undef)->R (k+1) a'.defers w'->k<N->K a' w')->c.wp P (Exit.then K Q') {tmps:=T k y,defers:=d} w):(Code.loop c).wp P Q' a w:=by
 refine wp_loop_ghost (λn a w=>∃k,a.tmps=T k (λi=>a.tmps.getD i undef)/\R k a.defers w/\N-k=n) (N-0) ⟨0,f,h0,rfl⟩ ?_;rintro n a w⟨k,g,b,hm⟩;have e:a={tmps:=T k λi=>a.tmps.getD i undef,defers:=a.defers}:=by rw[<-g]
 rw[e];exact round k _ _ w b _ λa' w' h1 h j=>⟨_,by rw[<-hm];omega,k+1,h1,h,rfl⟩
end
def Z4(P:Kx)(fn:Func)(R:Ending->ns->Prop):Exit->Act->ns->Prop
 |.normal,a,w|.ret,a,w=>LeavesInM akU 3 P fn a.tmps R a.defers .returning w
 |_,_,_=>False
def JI{f:FuncId}{fn:Func}{c:Code}{args:Array rl}{R:Ending->ns->Prop}(b:P.funcs[f]?=some fn)(d:fn.body=some c)
  (h:c.wp P (Z4 P fn R) {tmps:=args++Array.replicate (fn.ntmps-args.size) undef,defers:=[]} w):UL P f args w R:=
 (callsIn_wide (n:=3)).1 (callsIn_of_wp_marks b d trivial (wpIn_wide.2 (wp_mono h λe a w hq=>by cases e<;>first|exact hq|exact hq.elim)) rfl)
end
section
open Go.RowKit Go.WideShapes Go.ChangeShapes Go.Shelf
abbrev RR:={r:Int×Int//0<=r.1/\r.1<=15/\ -4080<=r.2/\r.2<=4080/\r.2≠0}
def jX(l:List RR):List (Int×Int):=l.map (·.1)
def Ei(l:List RR)(x:RR):jX (l++[x])=jX l++[x.1]:=by simp[jX]
def X4(n:Nat)(o:1<=n){b:Nat}(f:Nb 82 16 w b xs)(p:aS xs 4080=true):
  SeqStopsK akU n Gz.prog 181 #[ci (some ⟨b,0,none⟩)] (λr:RR=>qi r.1) (Kb b) (λq=>jX q=dm xs) (λpre=>jX pre<+:dm xs) (dm xs).length w:=λl J u W y z _ D h0=>by
 have g:=EP f.len p
 have:=SY o l b xs (λpre W=>∃c,jX c=pre/\J c W) (λpre W=>∃c,jX c=pre/\u c W) W (λs A C row⟨i,e,h⟩ E F=>⟨i,e,z i A C row h E F⟩)
  (λpre x G⟨c,e,H⟩ j=>by
   have hm:x∈dm xs:=j.subset aj
   have I:c.length<(dm xs).length:=by
    have h1:=j.length_le;have d:c.length=pre.length:=by rw[<-e];simp[jX]
    rw[List.length_append,List.length_singleton] at h1;omega
   obtain⟨fn,tmps,assign,body,K,L⟩:=D c ⟨x,g x hm⟩ G H I;refine⟨fn,tmps,assign,body,K,L.mono λN W' h=>?_⟩;rcases h with⟨h1,d,M⟩|⟨h1,d⟩
   ·exact .inl ⟨h1,⟨_,by rw[Ei,e],d⟩,M⟩
   ·exact .inr ⟨h1,_,by rw[Ei,e],d⟩) (f.below y f.lt) ⟨[],rfl,h0⟩
 exact Km
def Nb.own{t:EV}{n g:Nat}{w w':ns}{xs:List Int}{row:Option Nat}(h:Nb t n w g xs)(b:w.grownBy w' row)(hr:∀r,row=some r->∃o:Obj,w.heap[r]?=some o/\o.isCells=false):Nb t n w' g xs:=⟨h.blk.own b hr,h.len⟩
def az.owned{w':ns}{row:Option Nat}(h:az t s w B v n xs)(d:w.grownBy w' row)(hr:∀r,row=some r->∃o:Obj,w.heap[r]?=some o/\o.isCells=false):az t s w' B v n xs:=
 h.Ft λg i j f hc _=>(d.block g (bF.1 hc).1 λe=>by obtain⟨o,c,b⟩:=hr g e.symm;rw[hc] at c;cases c;cases b).trans hc
def az.As(h:az t s w B v n xs)(k:Nat)(b:v.ownBlock=some k):k<w.heap.size:=by
 rcases h.dD with⟨e,_⟩|⟨g,_,e,_,c,_⟩
 ·rw[e] at b;cases b
 ·rw[e] at b;have:g=k:=aL b;omega
def bC.row{u:rl}{row:Option Nat}(h:bC v w u W)(b:W.grownBy W' row)(hr:∀r,row=some r->w.heap.size<=r):bC v w u W':=
 ⟨⟨b.os.trans h.bK.os,b.tape.trans h.bK.tape,b.output.trans h.bK.output,aJ h.bK.size b.size,λi hi c=>(b.block i (cG hi h.bK.size) λe=>by have:=hr i e.symm;omega).trans (h.bK.block i hi c)⟩,h.own⟩
def eB.row{b:List Deferred}{row:Option Nat}(h:eB lo W b)(g:∀d∈b,∃D,d.target=.collected D/\D<B)(i:W.grownBy W' row)(hr:∀r,row=some r->B<=r):eB lo W' b:=
 h.kept λD d hd he _ f=>by obtain⟨E,c,j⟩:=g d hd;rw[he] at c;injection c with c;exact(i.block D (bF.1 f).1 λe=>by have:=hr D e.symm;omega).trans f
def eB.q{b:List Deferred}(h:eB lo W b)(q:Q W W'):eB lo W' b:=h.kept λD _ _ _ _ c=>(q.block D (bF.1 c).1).trans c
def az.PO(h:az t s w B v n xs)(b:v.ownBlock=some k){o:Obj}(c:w.heap[k]?=some o):o.isCells=true:=by
 obtain⟨_,_,d⟩:=h;rcases d with⟨e,_⟩|⟨g,f,i,j,_,l,_⟩
 ·rw[e] at b;cases b
 ·rw[j] at b;have:g=k:=aL b;subst this;rw[l] at c;cases c;rfl
def eB.ez{c:List Deferred}{v':rl}(h:eB lo W c)(o:az t s W B v n xs)(g:bC v W v' W'):eB lo W' c:=h.kept λD _ _ _ _ b=>(g.bK.block D (bF.1 b).1 λe=>by have:=o.PO e.symm b;cases this).trans b
def eB.set{c:List Deferred}{p:Nat}{cs:Array rl}(h:eB lo W c)(d:ak W p t cs)(v:rl):eB lo (W.setCell ⟨p,0,none⟩ v) c:=h.kept λD _ _ _ _ b=>(iI W ⟨p,0,none⟩ v D λe=>by rw[e] at b;rw[show W.heap[p]?=_ from d] at b;cases b).trans b
def KeepsOthers.RO{v':rl}(o:az t s W B v n xs)(g:bC v W v' W'):KeepsOthers W W':=KeepsOthers.of_grownBy g.bK λ_ _ e b=>o.PO e b
def az.FR{f:EV}{g:Nat}{cs:Array rl}(h:az t s w B v n xs)(j:ak w g f cs)(d:t≠f):v.ownBlock≠some g:=λb=>by
 obtain⟨_,_,l⟩:=h;rcases l with⟨e,_⟩|⟨i,o,p,q,_,c,_⟩
 ·rw[e] at b;cases b
 ·rw[q] at b;have:i=g:=aL b;subst this;rw[show w.heap[i]?=_ from j] at c;injection c with c;injection c with _ e;exact d e.symm
def YP(b:List (Int×Int))(r:Int×Int):ix (b++[r])=ix b++c7 r.1 23++c7 (bu r.2-1) 30:=by simp[ix]
def Wm{o:Oper}{K:Act->ns->Prop}{l:Nat}(hd:∀c,o.op≠.defer c)(h:o.wp P a w K Q'):o.wpIn (akU.inRound l) n P a w K Q':=by
 refine⟨λ_ _=>trivial,?_⟩;show o.uponIn _ n P a K Q' ((o.semAt (some l) a.eval).run P w);rw[Oper.semAt_some l _ o hd];unfold Oper.wp at h;generalize(execOp a.eval o).run P w=r at h⊢;cases r with
 |ok x d=>
  cases x with
  |enter f args=>exact⟨λe=>bw,CallsIn.inRound l (callsIn_wide.2 h)⟩
  |row row args=>exact⟨λe=>bw,λc g _=>by obtain⟨v,b,i,j⟩:=h c g;exact⟨v,b,i,stepsIn_wide.2 j⟩⟩
  |value _=>exact h
  |skip=>exact h
  |defer _=>exact h
  |_=>exact h.elim
 |halt x d=>cases x with|panic _=>exact h|_=>exact h.elim
def yB{P:Kx}{d:Array Oper}{Q':Exit->Act->ns->Prop}{g:Region.Mode}{l n:Nat}(hd:∀(j:Nat)(o:Oper),d[j]?=some o->∀c,o.op≠.defer c)(e:¬LetsOut Q'):∀(fuel:Nat)(listed:Array Bool)(a:Act)(w:ns),wpAny P g d Q' fuel listed a w->wpAnyIn (akU.inRound l) n P g d Q' fuel listed a w
 |0,_,_,_,h=>h
 |fuel+1,listed,a,w,h=>⟨h.1,λi hi=>by
  have b:=h.2 i hi;unfold wpOp at b;unfold wpOpIn;cases f:d[i]? with
  |none=>rw[f] at b;exact yB hd e fuel _ _ _ b
  |some o=>
   rw[f] at b;dsimp only at b⊢;split
   ·rename_i hw;rw[if_pos hw] at b;rcases b with b|b
    ·exact Wm (hd i o f) (Oper.wp_mono (λa w h=>yB hd e fuel _ a w h) b)
    ·exact absurd b.2 e
   ·rename_i hw;rw[if_neg hw] at b;exact⟨λ_ _=>trivial,yB hd e fuel _ _ _ b⟩⟩
def Ds{b:List Oper}{id l:Nat}(S:ns->Prop)(X:Nat->Bool)(hm:P.follows .mixedOrders=true)(hd:(b.all λo=>match o.op with|.defer _=>false|_=>true)=true)(f:¬LetsOut Q')(hS:S w.drew)
  (h:S w.drew->fQ P .any b.toArray Q' S X b.toArray.size (Array.replicate b.toArray.size false) a w.drew):(Code.region id b.toArray true).wpIn (akU.inRound l) n P Q' a w:=
 wpIn_region_any hm (yB (λj o g c e=>by have d:o∈b:=eO;have:=gY.1 hd o d;rw[e] at this;cases this) f _ _ _ _ (DQ _ _ _ _ (h hS)))
def adf{p d:Tmp}{assign body:Code}{g:Operand}{b:Nat}(j:a.eval g=.func (.func 181) #[] #[ci (some ⟨b,0,none⟩)])(u:b<w.heap.size)(F:Nb 82 16 w b xs)(G:aS xs 4080=true)
  (I:List RR->ns->Prop)(y:OwnFrom w.heap.size I)(o:∀pre W,I pre W->w.heap.size<=W.heap.size)(h0:I [] w)
  (c:∀(l:Nat)(x:RR)(W:ns)(K:Act->ns->Prop),K {tmps:=(a.tmps.setIfInBounds p (a5 #[U O x.1.1,U O x.1.2])).setIfInBounds d (ci (some ⟨W.heap.size,0,none⟩)),defers:=[]} (W.alloc (ac #[U O x.1.1,U O x.1.2] 116))->
   assign.wpIn (akU.inRound l) 1 Gz.prog (Exit.then K λ_ _ _=>False) {tmps:=a.tmps.setIfInBounds p (a5 #[U O x.1.1,U O x.1.2]),defers:=[]} W)
  (q:∀(l:Nat)(pre:List RR)(x:RR)(W:ns)(f:Nat),I pre W->w.heap.size<=f->ak W f 116 #[U O x.1.1,U O x.1.2]->pre.length<(dm xs).length->
   body.wpIn (akU.inRound l) 1 Gz.prog (ownPostG w.heap.size (Kb b) I (λ_ _ _=>False) (pre++[x]) W) {tmps:=(a.tmps.setIfInBounds p (a5 #[U O x.1.1,U O x.1.2])).setIfInBounds d (ci (some ⟨f,0,none⟩)),defers:=[]} W)
  (i:∀(D:Nat)(z:List RR)(W:ns),w.heap.size<=D->jX z=dm xs->I z W->W.heap[D]?=some (.deferred (some []))->Q' .normal {a with defers:={target:=.collected D,args:=#[]}::a.defers} W):
  (Code.rangeFunc g #[p] assign body).wp Gz.prog Q' a w:=by
 refine wpIn_wide.1 (wpIn_rangeFunc_ownH (n:=3) rfl aq (gf:=181) (lb:=#[ci (some ⟨b,0,none⟩)]) j trivial (Gz.cl 181)
  (X4 2 aq F G) Kb.t (Kb.b u) (Below.refl _ _) (λ_=>rfl) I (λ_ _ _=>False) y (λ_ _ _ _ _ o _ _=>o) h0
  (λx E W=>∃f,w.heap.size<=f/\ak W f 116 #[U O x.1.1,U O x.1.2]/\E={tmps:=(a.tmps.setIfInBounds p (a5 #[U O x.1.1,U O x.1.2])).setIfInBounds d (ci (some ⟨f,0,none⟩)),defers:=[]})
  (λx E s A C row⟨f,h1,H,J⟩ j L=>⟨f,h1,H.own j λr e=>(L r e).2,J⟩) ?_ ?_ i λ_ _ _ _ _ _ h _=>h.elim)
 ·intro l pre x W K hi hK;have e:(#[p].zip (qi x.1)).foldl (λt(p,v)=>t.setIfInBounds p v) a.tmps=a.tmps.setIfInBounds p (a5 #[U O x.1.1,U O x.1.2]):=by simp[qi]
  rw[e];refine c l x W K (hK _ _ ((KeepsOthers.alloc W _).from _) ?_ (y.alloc _ hi) ⟨W.heap.size,?_,ak.new W _ _,rfl⟩)
  ·exact Below.heap_alloc W _ b (cG u (o _ _ hi))
  ·grind
 ·simp_all
end
section
open Go.RowKit Go.WideShapes Go.ChangeShapes
def agH(x:rl)(w:ns):(method 370 185 x "loop.example/videocodec/impl.fits").run Gz.prog w=.ok (205,x) w:=aC
def inv1(x:rl)(w:ns):(method 370 186 x "loop.example/videocodec/impl.fits").run Gz.prog w=.ok (206,x) w:=aC
def inv2(x:rl)(w:ns):(method 370 219 x "loop.example/videocodec/impl.fits").run Gz.prog w=.ok (219,x) w:=aC
def Dk(e:xs.length=64)(f:k<4)(w:ns):(akG 83 (a5 (arr xs)) (U O (k:Int))).run Gz.prog w=.ok (a5 (arr (sub xs (k*16) 16))) w:=by have h1:(0<=(k:Int)/\(k:Int)<((4:Nat):Int)):=aa;have b:¬4<=k:=aa;have c:=zY (t:=82) cL w;have d:=RI (Gz.gu underlying82) rfl w;simp[akG,alb (Gz.gu underlying83),asIntOf,h1,go_sem,part,b,c,d,Qy]
def M4(d:xs.length=4)(e:k<4)(w:ns):(akG 81 (a5 (arr xs)) (U O (k:Int))).run Gz.prog w=.ok (U O (xs[k]?.getD 0)) w:=by have h1:(0<=(k:Int)/\(k:Int)<((4:Nat):Int)):=aa;have b:=mZ xs k aa;have c:¬4<=k:=aa;simp[akG,alb (Gz.gu underlying81),asIntOf,h1,go_sem,part,b,c]
def oM(m:List Int)(k:Nat):Bool:=(List.range k).all λj=>aS (lvl m j) 4080
def aby(m:List Int)(k:Nat):oM m (k+1)=(oM m k&&aS (lvl m k) 4080):=by unfold oM;rw[aju,List.all_append];simp
def aeC(b:k<4)(h:aS (lvl m k) 4080=false):oM m 4=false:=by
 cases c:oM m 4 with
 |false=>rfl
 |true=>have:=gY.1 c k (fz.2 b);rw[h] at this;cases this
def aeD(b:m.length=71):oM m 4=aS (sub m 7 64) 4080:=by
 have h1:sub m 7 64=lvl m 0++(lvl m 1++(lvl m 2++lvl m 3)):=by exact Kh
 rw[h1,mW,mW,mW];unfold oM;simp only[aju,List.range_zero,List.nil_append,List.cons_append,akM,List.all_nil,Bool.and_true]
def z7(m:List Int)(b:k<4):sub (sub m 7 64) (k*16) 16=lvl m k:=by unfold lvl sub;rw[List.drop_take,List.take_take,List.drop_drop,Nat.mul_comm k 16];congr 1;omega
def wE(m:List Int)(k:Nat):Bool:=((sub m 3 4).drop k).all λx=>decide (0<=x/\x<=4)
def abz(c:m.length=71)(b:k<4):wE m k=(decide (0<=al m (3+k)/\al m (3+k)<=4)&&wE m (k+1)):=by
 have d:(sub m 3 4).length=4:=bP aa;unfold wE;rw[List.drop_eq_getElem_cons (show k<(sub m 3 4).length by omega),akM]
 have e:(sub m 3 4)[k]'aa=al m (3+k):=by have:=fP m 3 4 k b;unfold al;rw[<-this];simp[show k<(sub m 3 4).length by omega]
 rw[e]
def afA(w:ns)(f:m.length=71):UL Gz.prog 206 #[a5 (arr m)] w λe w'=>e=be (a9 (js m))/\Q w w':=by have g:=Nb.new 186 71 w m f;have h:Q w (w.alloc (ac (arr m) 186)):=(Q.refl _).alloc _;have i:=zZ f;obtain⟨j,c⟩:∃b,(sub m 3 4==[0,0,0,0])=b:=⟨_,rfl⟩;rw[i,c];have d:=af c;go_enter Gz.gf func206,ntmps206;go_wp2_with(first|((with_reducible refine dY (ty:=81) _ 3 ?_ ?_ _ g 4 ?_ _ (Gz.gu underlying81) ?_ mX ?_);exact rfl;exact rfl;omega;exact rfl)|((with_reducible refine mL (t:=81) ?_ (sub m 3 4) [0,0,0,0] ?_ ?_ ?_ pT ?_);exact rfl;exact rfl;exact rfl;exact qH (bP aa) rfl;rw[d.out]));go_ret;exact⟨rfl,h⟩
def afB(w:ns)(h:m.length=71):UL Gz.prog 205 #[a5 (arr m)] w λe w'=>e=be (a9 (kC m&&js m&&qf m))/\Q w w':=by
 have s1:=bO m;rw[h] at s1;have g:=Nb.new 185 71 w m h;have j:Q w (w.alloc (ac (arr m) 185)):=(Q.refl _).alloc _;have l:sub m 1 2=[al m 1,al m 2]:=kW m 1 aa;rw[Fq h,zZ h,QP h];obtain⟨p,c⟩:∃b,([al m 1,al m 2]==[0,0])=b:=⟨_,rfl⟩;obtain⟨q,d⟩:∃b,(sub m 3 4==[0,0,0,0])=b:=⟨_,rfl⟩;obtain⟨le,hle⟩:∃b,(sub m 7 64==an 64 0)=b:=⟨_,rfl⟩;rw[c,d,hle];have f:=af c;have i:=af d;have o:=af hle;clear c d hle;go_enter Gz.gf func205,ntmps205;cases p with
 |false=>go_wp2_with(first|((with_reducible refine dY (ty:=80) _ 1 ?_ ?_ _ g 2 ?_ _ (Gz.gu underlying80) ?_ jo ?_);exact rfl;exact rfl;omega;exact rfl;rw[l])|((with_reducible refine mL (t:=80) ?_ [al m 1,al m 2] [0,0] ?_ ?_ ?_ nt ?_);exact rfl;exact rfl;exact rfl;exact nC;rw[f.out]));go_ret;exact⟨rfl,j⟩
 |true=>cases q with|false=>go_wp2_with(first|((with_reducible refine dY (ty:=80) _ 1 ?_ ?_ _ g 2 ?_ _ (Gz.gu underlying80) ?_ jo ?_);exact rfl;exact rfl;omega;exact rfl;rw[l])|((with_reducible refine mL (t:=80) ?_ [al m 1,al m 2] [0,0] ?_ ?_ ?_ nt ?_);exact rfl;exact rfl;exact rfl;exact nC;rw[f.out])|((with_reducible refine dY (ty:=81) _ 3 ?_ ?_ _ g 4 ?_ _ (Gz.gu underlying81) ?_ mX ?_);exact rfl;exact rfl;omega;exact rfl)|((with_reducible refine mL (t:=81) ?_ (sub m 3 4) [0,0,0,0] ?_ ?_ ?_ pT ?_);exact rfl;exact rfl;exact rfl;exact qH (bP aa) rfl;rw[i.out]));go_ret;exact⟨rfl,j⟩|true=>go_wp2_with(first|((with_reducible refine dY (ty:=80) _ 1 ?_ ?_ _ g 2 ?_ _ (Gz.gu underlying80) ?_ jo ?_);exact rfl;exact rfl;omega;exact rfl;rw[l])|((with_reducible refine mL (t:=80) ?_ [al m 1,al m 2] [0,0] ?_ ?_ ?_ nt ?_);exact rfl;exact rfl;exact rfl;exact nC;rw[f.out])|((with_reducible refine dY (ty:=81) _ 3 ?_ ?_ _ g 4 ?_ _ (Gz.gu underlying81) ?_ mX ?_);exact rfl;exact rfl;omega;exact rfl)|((with_reducible refine mL (t:=81) ?_ (sub m 3 4) [0,0,0,0] ?_ ?_ ?_ pT ?_);exact rfl;exact rfl;exact rfl;exact qH (bP aa) rfl;rw[i.out])|((with_reducible refine dY (ty:=83) _ 7 ?_ ?_ _ g 64 ?_ _ (Gz.gu underlying83) ?_ uW ?_);exact rfl;exact rfl;omega;exact rfl)|((with_reducible refine mL (t:=83) ?_ (sub m 7 64) (an 64 0) ?_ ?_ ?_ RJ ?_);exact rfl;exact rfl;exact rfl;exact TB (bP aa) rfl;rw[o.out]));go_ret;exact⟨aj,j⟩
def afC(w:ns)(f:m.length=71):UL Gz.prog 219 #[a5 (arr m)] w λe w'=>e=be (a9 (lI m&&kC m))/\Q w w':=by
 have s1:=bO m;rw[f] at s1;have l:=Nb.new 219 71 w m f;have q0:Q w (w.alloc (ac (arr m) 219)):=(Q.refl _).alloc _;have o:sub m 1 2=[al m 1,al m 2]:=kW m 1 aa;have p:(sub m 3 4).length=4:=bP aa;rw[Fq f];obtain⟨x,c⟩:∃b,([al m 1,al m 2]==[0,0])=b:=⟨_,rfl⟩;rw[c];have g:=af c;clear c;go_enter Gz.gf func219,ntmps219;go_wp2_with((with_reducible refine dY (ty:=81) _ 3 ?_ ?_ _ l 4 ?_ _ (Gz.gu underlying81) ?_ mX ?_);exact rfl;exact rfl;omega;exact rfl);go_loop[7] (λi=>∃k:Nat,k<=4/\i=U O k/\Hid (lI m=wE m k)) (λi=>4-(intOf i).toNat)
 case atStart=>exact⟨0,aa,rfl,rfl⟩
 case round=>
  obtain⟨k,z,rfl,hr⟩:=hrel;by_cases d:k<4
  ·have q:(k:Int)<4:=by omega
   have he:=λw=>M4 p d w;rw[fP m 3 4 k d] at he;have f9:=abz f d;unfold al at f9;generalize m[3+k]?.getD 0=y at he f9;by_cases r:y<0
   ·exact LV
   ·by_cases u:4<y
    ·exact LV
    ·rw[decide_eq_true aa,Bool.true_and] at f9;have jn:=af f9;exact CR
  ·have h:k=4:=by omega
   subst h
   have j:Hid (lI m=true):=by rw[Hid,hr.out];unfold wE;rw[List.drop_of_length_le aa];rfl
   go_wp2_with(first|((with_reducible refine dY (ty:=80) _ 1 ?_ ?_ _ l 2 ?_ _ (Gz.gu underlying80) ?_ jo ?_);exact rfl;exact rfl;omega;exact rfl;rw[o])|((with_reducible refine mL (t:=80) ?_ [al m 1,al m 2] [0,0] ?_ ?_ ?_ nt ?_);exact rfl;exact rfl;exact rfl;exact nC;rw[g.out]));go_ret;exact⟨by rw[j.out];rfl,q0⟩
def kx(m:List Int):rl:=if al m 0=0 then em 185 (a5 (arr m)) else if al m 0=1 then em 186 (a5 (arr m)) else if al m 0=2 then em 219 (a5 (arr m)) else .nilIface
def kindOf(m:List Int)(w:ns)(f:m.length=71):UL Gz.prog 140 #[a5 (arr m)] w λe w'=>e=be (kx m)/\Q w w':=by
 have s1:=bO m;rw[f] at s1;have g:=Nb.new 85 71 w m f;have q0:Q w (w.alloc (ac (arr m) 85)):=(Q.refl _).alloc _;have h:sub m 1 2=[al m 1,al m 2]:=kW m 1 aa;have c0:=g.at 0 aa;rw[sub_one] at c0;unfold kx;obtain⟨b,d⟩:∃z,al m 0=z:=⟨_,rfl⟩;rw[d] at c0⊢;by_cases h0:b=0
 ·rw[if_pos h0];subst h0;exact Dj
 ·have i:(b==0)=false:=by simp[h0]
  rw[if_neg h0];by_cases h1:b=1
  ·rw[if_pos h1];subst h1;exact Dj
  ·have j:(b==1)=false:=by simp[h1]
   rw[if_neg h1];by_cases c:b=2
   ·rw[if_pos c];subst c;exact Dj
   ·have l:(b==2)=false:=by simp[c]
    rw[if_neg c];go_enter Gz.gf func140,ntmps140;go_wp2;go_ret;exact⟨rfl,q0⟩
def Xt(x y:Int)(w:ns):UL Gz.prog 158 #[a5 #[U O x,U O y]] w λe w'=>e=be (a9 (decide (-16<=x/\x<=16)&&decide (-16<=y/\y<=16)))/\Q w w':=by
 have e:(decide (-16<=x/\x<=16)&&decide (-16<=y/\y<=16))=(decide (-16<=x)&&(decide (x<=16)&&(decide (-16<=y)&&decide (y<=16)))):=by rw[Bool.decide_and,Bool.decide_and,Bool.and_assoc]
 rw[e];obtain⟨a,f⟩:∃b,decide (-16<=x)=b:=⟨_,rfl⟩;obtain⟨b,g⟩:∃b,decide (x<=16)=b:=⟨_,rfl⟩;obtain⟨c,hc⟩:∃b,decide (-16<=y)=b:=⟨_,rfl⟩;obtain⟨d,hd⟩:∃b,decide (y<=16)=b:=⟨_,rfl⟩;rw[f,g,hc,hd];go_enter Gz.gf func158,ntmps158;cases a with
 |false=>go_wp2;go_ret;exact⟨rfl,aR⟩
 |true=>
  cases b with
  |false=>go_wp2;go_ret;exact⟨rfl,aR⟩
  |true=>cases c with|false=>go_wp2;go_ret;exact⟨rfl,aR⟩|true=>go_wp2;go_ret;exact⟨by simp[*],aR⟩
end
section
open Go.RowKit Go.WideShapes Go.ChangeShapes
def Dx(y:m.length=71){T:EV}{z:FuncId}(E:Bool)(F:kx m=em T (a5 (arr m)))(hm:df m=(E&&kD m&&aS (sub m 7 64) 4080))
  (hi:∀(x:rl)(w:ns),(method 370 T x "loop.example/videocodec/impl.fits").run Gz.prog w=.ok (z,x) w)(hc:∀(args:Array rl)(w:ns),(callFunc z args).run Gz.prog w=.ok (.enter z args) w)
  (N:∀w,UL Gz.prog z #[a5 (arr m)] w λe w'=>e=be (a9 E)/\Q w w'):
  UL Gz.prog 136 #[a5 (arr m)] w λe w'=>e=be (a9 (df m))/\Q w w':=by
 have s1:=bO m;rw[y] at s1;have R:=Nb.new 85 71 w m y;have S:Q w (w.alloc (ac (arr m) 85)):=(Q.refl _).alloc _;have V:sub m 1 2=[al m 1,al m 2]:=kW m 1 aa;have f:=af (kindOf m (w.alloc (ac (arr m) 85)) y);rw[F] at f;obtain⟨vb,g⟩:∃b,kD m=b:=⟨_,rfl⟩;have c:=g;unfold kD at c;have A:=af (Xt (al m 1) (al m 2));rw[c] at A;rw[<-aeD y,g] at hm;have C:=af hm;have X:=af N;clear N hm g c F;go_enter Gz.gf func136,ntmps136;go_wp2_with((with_reducible refine eQ (n:=71) rfl _ _ rfl _ rfl _ aG _ (Gz.gu underlying85) rfl fY ?_));refine f.out.mono ?_;rintro e Z⟨rfl,q1⟩;have h:=R.q q1;have G:=S.trans q1;clear R S q1 f;cases vb with
 |false=>go_wp2_with((with_reducible refine dY (ty:=80) _ 1 ?_ ?_ _ h 2 ?_ _ (Gz.gu underlying80) ?_ jo ?_);exact rfl;exact rfl;omega;exact rfl;rw[V]);refine(A.out Z).mono ?_;rintro e w3⟨rfl,p⟩;go_wp2;go_ret;exact⟨by rw[C.out];simp,G.trans p⟩
 |true=>
  go_wp2_with((with_reducible refine dY (ty:=80) _ 1 ?_ ?_ _ h 2 ?_ _ (Gz.gu underlying80) ?_ jo ?_);exact rfl;exact rfl;omega;exact rfl;rw[V]);refine(A.out Z).mono ?_;rintro e w3⟨rfl,p⟩;go_wp2;refine(X.out _).mono ?_;rintro e w4⟨rfl,H⟩;have b4:=(h.q p).q H;have I:=(G.trans p).trans H;clear h G p H A X;have h:=b4;clear b4;cases E with
  |false=>go_wp2;go_ret;exact⟨by rw[C.out];simp,I⟩
  |true=>
   have Q5:=af I;clear I;go_wp2_with((with_reducible refine dY (ty:=83) _ 7 ?_ ?_ _ h 64 ?_ _ (Gz.gu underlying83) ?_ uW ?_);exact rfl;exact rfl;omega;exact rfl);have J:(sub m 7 64).length=64:=bP aa;clear h;go_loopw[23] (λi wr=>∃k:Nat,k<=4/\i=U O k/\Hid (oM m k=true/\Q w wr)) (λi _=>4-(intOf i).toNat)
   case atStart=>exact⟨0,aa,rfl,rfl,Q5.out⟩
   case round=>
    obtain⟨k,F,rfl,hK⟩:=hrel;obtain⟨D,K⟩:=hK.out;clear hK Q5;by_cases l:k<4
    ·have ka:(k:Int)<4:=by omega
     have he:=λw=>Dk J l w;rw[z7 m l] at he;have r:(lvl m k).length=16:=by unfold lvl;exact bP (by omega)
     have d:=aby m k;rw[D,Bool.true_and] at d;obtain⟨bL,o⟩:∃b,aS (lvl m k) 4080=b:=⟨_,rfl⟩;rw[o] at d;have u:=af o;have L:=af d;have Y2:=af K;clear o d D K;go_wp2_with(first|((refine di (n:=16) rfl _ _ _ rfl _ rfl _ _ aD (Nb.new 82 16 _ (an 16 0) rfl) r cL ?_;intro w9 bl g9 s9;rw[World.size_alloc] at s9))|((with_reducible refine eQ (n:=16) rfl _ _ rfl _ rfl _ bl _ (Gz.gu underlying82) rfl cL ?_)));have q9:=(Y2.out.alloc (ac (arr (an 16 0)) 82)).grown g9 (λj e=>by have:=aL e;have:=Y2.out.size;omega);refine(yR r aq aq u).mono ?_;rintro e w5⟨rfl,q6⟩;cases bL with
     |false=>go_wp2;go_ret;exact⟨by rw[C.out,aeC l u.out];simp,q9.trans q6⟩
     |true=>
      go_wp2;go_roundw;case rel=>exact⟨k+1,aa,aH,by rw[L.out],q9.trans q6⟩
      case measure=>exact bg
    ·have M:k=4:=by omega
     subst M;have Y0:=af D;clear D;go_wp2;go_ret;exact⟨by rw[C.out,Y0.out];simp,K⟩
def X7(w:ns)(b:m.length=71):UL Gz.prog 136 #[a5 (arr m)] w λe w'=>e=be (a9 (df m))/\Q w w':=by
 by_cases h0:al m 0=0
 ·exact Dx b (kC m&&js m&&qf m) (by unfold kx;rw[if_pos h0]) (by unfold df jP;rw[if_pos h0]) agH (Gz.cl 205) (λw=>afB w b)
 ·by_cases h1:al m 0=1
  ·exact Dx b (js m) (by unfold kx;rw[if_neg h0,if_pos h1]) (by unfold df jP;rw[if_neg h0,if_pos h1]) inv1 (Gz.cl 206) (λw=>afA w b)
  ·by_cases c:al m 0=2
   ·exact Dx b (lI m&&kC m) (by unfold kx;rw[if_neg h0,if_neg h1,if_pos c]) (by unfold df jP;rw[if_neg h0,if_neg h1,if_pos c]) inv2 (Gz.cl 219) (λw=>afC w b)
   ·have d:Hid (df m=false):=OE aa;have f:=af (kindOf m (w.alloc (ac (arr m) 85)) b);have h:kx m=.nilIface:=by unfold kx;rw[if_neg h0,if_neg h1,if_neg c]
    have i:=Nb.new 85 71 w m b;have g:Q w (w.alloc (ac (arr m) 85)):=(Q.refl _).alloc _;go_enter Gz.gf func136,ntmps136;go_wp2_with((with_reducible refine eQ (n:=71) rfl _ _ rfl _ rfl _ aG _ (Gz.gu underlying85) rfl fY ?_));refine f.out.mono ?_;rintro e j⟨rfl,q1⟩;go_wp2;go_ret;exact⟨by rw[d.out];rfl,g.trans q1⟩
end
end Go.Proofs.Q0
