import Derived.Test.YtnbpokndlaebbaaGreatDoorK7
import Derived.Deep.LoopGhost
import Derived.OrdersIn
set_option maxRecDepth 100000
set_option maxHeartbeats 8000000
set_option linter.all false
open Go.Value renaming int->U,slice->Y,bool->ci,agg->bi,pointer->d9,tuple->em,iface->gc
open Go.IntKind renaming i64->O
open Go.Obj renaming cells->ap
open Go.Ending renaming returned->dl
open Bool renaming false->Ba,true->AT,true_and->akq
open Go renaming Calls->ahR,Program->OF,TypeId->SL,Value->AS,World->rl,run_underlying->aky
open Go.Fence renaming wide->akr
open Go.Instr renaming index->akH
open List renaming range_succ->aiU,replicate->so
open Option renaming none->ns,some->an
namespace Go.Proofs
def Kf{p:Prop}(h:p:=by
  refine this.mono λe W' h=>⟨h.1,?_⟩;rcases h.2 with⟨ys,rfl,ys',e',h⟩|⟨pre,hp,jp,e',h⟩
  ·grind
  ·grind):p:=h
def bG{p:Prop}(h:p:=by cases e):p:=h
def LH{p:Prop}(h:p:=by rw[decide_eq_false λh=>aa,Bool.false_and] at ii;have kc:=ag ii;go_wp2;go_ret;exact⟨by rw[hr.out,kc.out];rfl,q0⟩):p:=h
def Dk{p:Prop}(h:p:=by go_enter Gz.gf func121,ntmps121;go_wp2_with((with_reducible refine ew (n:=71) rfl _ _ rfl _ rfl _ aE _ (Gz.gu underlying100) rfl e8 ?_));go_ret;exact⟨rfl,q0⟩):p:=h
end Go.Proofs
namespace Go.Proofs.Q0
open Go.Proofs.Tryz
variable{W w W':rl}{lo s B n k:Nat}{xs m:List Int}{v:AS}{t:SL}{a:Act}{Q':Exit->Act->rl->Prop}{P:OF}
section
open Go.RowKit Go.WideShapes Go.ChangeShapes Go.Shelf
def eM(lo:Nat)(W:rl):List Deferred->Prop
 |[]=>True
 |d::b=>∃D,d={target:=.collected D,args:=#[]}/\lo<=D/\W.heap[D]?=an (.deferred (an []))/\(∀c∈b,c.target≠.collected D)/\eM lo W b
def eM.kept{lo:Nat}{W W':rl}:∀{b:List Deferred},eM lo W b->(∀D d,d∈b->d.target=.collected D->lo<=D->W.heap[D]?=an (.deferred (an []))->W'.heap[D]?=an (.deferred (an [])))->eM lo W' b
 |[],_,_=>trivial
 |d::b,⟨D,h1,c,e,f,g⟩,k=>⟨D,h1,c,k D d (nd ..) (by rw[h1]) c e,f,g.kept λE h hd=>k E h (oy _ hd)⟩
def eM.lt{lo:Nat}{W:rl}:∀{b:List Deferred},eM lo W b->∀d∈b,∃D,d.target=.collected D/\D<W.heap.size
 |[],_,d,h=>by cases h
 |d::b,⟨D,h1,_,c,_,e⟩,f,h=>by
  rcases mA.1 h with rfl|h
  ·exact⟨D,by rw[h1],(bU.1 c).1⟩
  ·exact e.lt f h
def eM.more{D:Nat}{b:List Deferred}(h:eM lo W b)(c:∀d∈b,d.target≠.collected D)(e:lo<=D)(f:W.heap[D]?=an (.deferred (an []))):eM lo W ({target:=.collected D,args:=#[]}::b):=⟨D,rfl,e,f,c,h⟩
structure KD(lo:Nat)(W W':rl):Prop where
 os:W'.os=W.os
 tape:W'.tape=W.tape
 output:W'.output=W.output
 size:W'.heap.size=W.heap.size
 block:∀k,W'.heap[k]?=W.heap[k]?\/(lo<=k/\∃o,W.heap[k]?=an o/\o.isCells=Ba)
section
variable{lo:Nat}{W W' W'':rl}
def KD.refl(lo:Nat)(W:rl):KD lo W W:=⟨rfl,rfl,rfl,rfl,λ_=>.inl rfl⟩
def KD.cells(h:KD lo W W'){k:Nat}{cs:Array AS}{t:SL}{f:Nat×Nat}(b:W.heap[k]?=an (ap cs t f)):W'.heap[k]?=an (ap cs t f):=by
 rcases h.block k with e|⟨_,o,c,hc⟩
 ·rw[e,b]
 ·rw[b] at c;cases c;cases hc
def KD.put(h:KD lo W W'){D:Nat}{x:Option (List Deferred)}(b:lo<=D)(c:W.heap[D]?=an (.deferred (an [])))(d:W'.heap[D]?=an (.deferred (an []))):KD lo W (W'.putObj D (.deferred x)):=
 ⟨h.os,h.tape,h.output,by rw[World.putObj_size,h.size],λk=>by
  by_cases e:k=D
  ·subst e;exact .inr ⟨b,_,c,rfl⟩
  ·rw[World.putObj_heap_other e];exact h.block k⟩
def KD.toQ(h:KD lo W W')(q:Q w W)(c:w.heap.size<=lo):Q w W':=
 ⟨h.os.trans q.os,h.tape.trans q.tape,h.output.trans q.output,by rw[h.size];exact q.size,λk b=>by
  rcases h.block k with e|⟨h1,_⟩
  ·rw[e];exact q.block k b
  ·omega⟩
def bH.kd{v u:AS}{w:rl}(h:bH v w u W)(k:KD lo W W')(c:w.heap.size<=lo):bH v w u W':=
 ⟨⟨k.os.trans h.bI.os,k.tape.trans h.bI.tape,k.output.trans h.bI.output,by rw[k.size];exact h.bI.size,λi hi b=>by
  rcases k.block i with e|⟨h1,_⟩
  ·rw[e];exact h.bI.block i hi b
  ·omega⟩,h.own⟩
def az.Fz(h:az t s W B v n xs)(k:∀g cs d f,W.heap[g]?=an (ap cs d f)->v.ownBlock=an g->W'.heap[g]?=an (ap cs d f)):az t s W' B v n xs:=by
 obtain⟨h0,h1,e⟩:=h;refine⟨h0,h1,?_⟩;rcases e with e|⟨g,b,c,i,j,l,r⟩
 ·simp_all
 ·exact .inr ⟨g,b,c,i,j,k g _ _ _ l (by rw[i];rfl),r⟩
def Mr{F:Fence}{n:Nat}{P:OF}{fn:Func}{tmps:Array AS}{R:Ending->rl->Prop}(c:rl):∀(b:List Deferred)(W:rl),eM lo W b->KD lo c W->(∀D d,d∈b->d.target=.collected D->c.heap[D]?=an (.deferred (an [])))->
  (∀W',KD lo c W'->LeavesIn F n P fn tmps R [] .returning W')->LeavesInM F n P fn tmps R b .returning W
 |[],W,_,k,_,h=>h W k
 |d::b,W,⟨D,h1,j,i,l,o⟩,k,h0,h=>by refine⟨au,.inl ⟨D,_,by rw[h1],run_takeDeferred i,?_⟩⟩;refine Mr c b _ (o.kept λE f hd he _ p=>?_) (k.put j (h0 D d (nd ..) (by rw[h1])) i) (λE f hd he=>h0 E f (oy _ hd) he) h;have g:E≠D:=λe=>l f hd (by rw[he,e]);rw[World.putObj_heap_other g];exact p
theorem eM.all{b:List Deferred}(h:eM lo W b):∀D d,d∈b->d.target=.collected D->W.heap[D]?=an (.deferred (an [])):=by
 induction b with
 |nil=>intro D d hd;cases hd
 |cons d b c=>
  obtain⟨E,h1,e,f,g,i⟩:=h;intro D j hd he;rcases mA.1 hd with rfl|hd
  ·simp_all
  ·grind
def ZI{c:Code}(N:Nat)(T:Nat->(Nat->AS)->Array AS)(R:Nat->List Deferred->rl->Prop)(f:a.tmps=T 0 λi=>a.tmps.getD i undef)(h0:R 0 a.defers w)
  (round:∀k y d w,R k d w->∀K:Act->rl->Prop,(∀a' w',a'.tmps=T (k+1) (λi=>a'.tmps.getD i undef)->R (k+1) a'.defers w'->k<N->K a' w')->c.wp P (Exit.then K Q') {tmps:=T k y,defers:=d} w):(Code.loop c).wp P Q' a w:=by
 refine wp_loop_ghost (λn a w=>∃k,a.tmps=T k (λi=>a.tmps.getD i undef)/\R k a.defers w/\N-k=n) (N-0) ⟨0,f,h0,rfl⟩ ?_;rintro n a w⟨k,g,b,hm⟩;have e:a={tmps:=T k λi=>a.tmps.getD i undef,defers:=a.defers}:=by rw[<-g]
 rw[e];exact round k _ _ w b _ λa' w' h1 h j=>⟨_,by rw[<-hm];omega,k+1,h1,h,rfl⟩
end
def ZJ(P:OF)(fn:Func)(R:Ending->rl->Prop):Exit->Act->rl->Prop
 |.normal,a,w|.ret,a,w=>LeavesInM akr 3 P fn a.tmps R a.defers .returning w
 |_,_,_=>False
def JH{f:FuncId}{fn:Func}{c:Code}{args:Array AS}{R:Ending->rl->Prop}(b:P.funcs[f]?=an fn)(d:fn.body=an c)
  (h:c.wp P (ZJ P fn R) {tmps:=args++Array.replicate (fn.ntmps-args.size) undef,defers:=[]} w):ahR P f args w R:=
 (callsIn_wide (n:=3)).1 (callsIn_of_wp_marks b d trivial (wpIn_wide.2 (wp_mono h λe a w hq=>by cases e<;>first|exact hq|exact hq.elim)) rfl)
end
section
open Go.RowKit Go.WideShapes Go.ChangeShapes Go.Shelf
abbrev RR:={r:Int×Int//0<=r.1/\r.1<=15/\ -4080<=r.2/\r.2<=4080/\r.2≠0}
def kj(l:List RR):List (Int×Int):=l.map (·.1)
def Ew(l:List RR)(x:RR):kj (l++[x])=kj l++[x.1]:=by simp[kj]
theorem XL(n:Nat)(o:1<=n){b:Nat}(f:Nb 97 16 w b xs)(p:aW xs 4080=AT):
  SeqStopsK akr n Gz.prog 177 #[d9 (an ⟨b,0,ns⟩)] (λr:RR=>qL r.1) (Kb b) (λq=>kj q=dw xs) (λpre=>kj pre<+:dw xs) (dw xs).length w:=λl J u W y z _ D h0=>by
 have g:=E6 f.len p
 have:=SK o l b xs (λpre W=>∃c,kj c=pre/\J c W) (λpre W=>∃c,kj c=pre/\u c W) W (λs A C row⟨i,e,h⟩ E F=>⟨i,e,z i A C row h E F⟩)
  (λpre x G⟨c,e,H⟩ j=>by
   have hm:x∈dw xs:=j.subset au
   have I:c.length<(dw xs).length:=by
    have h1:=j.length_le;have d:c.length=pre.length:=by rw[<-e];simp[kj]
    rw[List.length_append,List.length_singleton] at h1;omega
   obtain⟨fn,tmps,assign,body,K,L⟩:=D c ⟨x,g x hm⟩ G H I;refine⟨fn,tmps,assign,body,K,L.mono λN W' h=>?_⟩;rcases h with⟨h1,d,M⟩|⟨h1,d⟩
   ·exact .inl ⟨h1,⟨_,by rw[Ew,e],d⟩,M⟩
   ·exact .inr ⟨h1,_,by rw[Ew,e],d⟩) (f.below y f.lt) ⟨[],rfl,h0⟩
 exact Kf
def Nb.own{t:SL}{n g:Nat}{w w':rl}{xs:List Int}{row:Option Nat}(h:Nb t n w g xs)(b:w.grownBy w' row)(hr:∀r,row=an r->∃o:Obj,w.heap[r]?=an o/\o.isCells=Ba):Nb t n w' g xs:=⟨h.blk.own b hr,h.len⟩
def az.owned{w':rl}{row:Option Nat}(h:az t s w B v n xs)(d:w.grownBy w' row)(hr:∀r,row=an r->∃o:Obj,w.heap[r]?=an o/\o.isCells=Ba):az t s w' B v n xs:=
 h.Fz λg i j f hc _=>(d.block g (bU.1 hc).1 λe=>by obtain⟨o,c,b⟩:=hr g e.symm;rw[hc] at c;cases c;cases b).trans hc
def az.AX(h:az t s w B v n xs)(k:Nat)(b:v.ownBlock=an k):k<w.heap.size:=by
 rcases h.dC with⟨e,_⟩|⟨g,_,e,_,c,_⟩
 ·rw[e] at b;cases b
 ·rw[e] at b;have:g=k:=aH b;omega
def bH.row{u:AS}{row:Option Nat}(h:bH v w u W)(b:W.grownBy W' row)(hr:∀r,row=an r->w.heap.size<=r):bH v w u W':=
 ⟨⟨b.os.trans h.bI.os,b.tape.trans h.bI.tape,b.output.trans h.bI.output,aQ h.bI.size b.size,λi hi c=>(b.block i (cC hi h.bI.size) λe=>by have:=hr i e.symm;omega).trans (h.bI.block i hi c)⟩,h.own⟩
def eM.row{b:List Deferred}{row:Option Nat}(h:eM lo W b)(g:∀d∈b,∃D,d.target=.collected D/\D<B)(i:W.grownBy W' row)(hr:∀r,row=an r->B<=r):eM lo W' b:=
 h.kept λD d hd he _ f=>by obtain⟨E,c,j⟩:=g d hd;rw[he] at c;injection c with c;exact(i.block D (bU.1 f).1 λe=>by have:=hr D e.symm;omega).trans f
def eM.q{b:List Deferred}(h:eM lo W b)(q:Q W W'):eM lo W' b:=h.kept λD _ _ _ _ c=>(q.block D (bU.1 c).1).trans c
def az.Pv(h:az t s w B v n xs)(b:v.ownBlock=an k){o:Obj}(c:w.heap[k]?=an o):o.isCells=AT:=by
 obtain⟨_,_,d⟩:=h;rcases d with⟨e,_⟩|⟨g,f,i,j,_,l,_⟩
 ·rw[e] at b;cases b
 ·rw[j] at b;have:g=k:=aH b;subst this;rw[l] at c;cases c;rfl
def eM.eK{c:List Deferred}{v':AS}(h:eM lo W c)(o:az t s W B v n xs)(g:bH v W v' W'):eM lo W' c:=h.kept λD _ _ _ _ b=>(g.bI.block D (bU.1 b).1 λe=>by have:=o.Pv e.symm b;cases this).trans b
def eM.set{c:List Deferred}{p:Nat}{cs:Array AS}(h:eM lo W c)(d:ak W p t cs)(v:AS):eM lo (W.setCell ⟨p,0,ns⟩ v) c:=h.kept λD _ _ _ _ b=>(im W ⟨p,0,ns⟩ v D λe=>by rw[e] at b;rw[show W.heap[p]?=_ from d] at b;cases b).trans b
def KeepsOthers.Rt{v':AS}(o:az t s W B v n xs)(g:bH v W v' W'):KeepsOthers W W':=KeepsOthers.of_grownBy g.bI λ_ _ e b=>o.Pv e b
def az.FX{f:SL}{g:Nat}{cs:Array AS}(h:az t s w B v n xs)(j:ak w g f cs)(d:t≠f):v.ownBlock≠an g:=λb=>by
 obtain⟨_,_,l⟩:=h;rcases l with⟨e,_⟩|⟨i,o,p,q,_,c,_⟩
 ·rw[e] at b;cases b
 ·rw[q] at b;have:i=g:=aH b;subst this;rw[show w.heap[i]?=_ from j] at c;injection c with c;injection c with _ e;exact d e.symm
def Yw(rs:List (Int×Int))(r:Int×Int):iN (rs++[r])=iN rs++dm r.1 23++dm (bE r.2-1) 30:=by simp[iN]
def V7{o:Oper}{K:Act->rl->Prop}{l:Nat}(hd:∀c,o.op≠.defer c)(h:o.wp P a w K Q'):o.wpIn (akr.inRound l) n P a w K Q':=by
 refine⟨λ_ _=>trivial,?_⟩;show o.uponIn _ n P a K Q' ((o.semAt (an l) a.eval).run P w);rw[Oper.semAt_some l _ o hd];unfold Oper.wp at h;generalize(execOp a.eval o).run P w=r at h⊢;cases r with
 |ok x d=>
  cases x with
  |enter f args=>exact⟨λe=>bG,CallsIn.inRound l (callsIn_wide.2 h)⟩
  |row row args=>exact⟨λe=>bG,λc g _=>by obtain⟨v,b,i,j⟩:=h c g;exact⟨v,b,i,stepsIn_wide.2 j⟩⟩
  |value _=>exact h
  |skip=>exact h
  |defer _=>exact h
  |_=>exact h.elim
 |halt x d=>cases x with|panic _=>exact h|_=>exact h.elim
def zd{P:OF}{d:Array Oper}{Q':Exit->Act->rl->Prop}{g:Region.Mode}{l n:Nat}(hd:∀(j:Nat)(o:Oper),d[j]?=an o->∀c,o.op≠.defer c)(e:¬LetsOut Q'):∀(fuel:Nat)(listed:Array Bool)(a:Act)(w:rl),wpAny P g d Q' fuel listed a w->wpAnyIn (akr.inRound l) n P g d Q' fuel listed a w
 |0,_,_,_,h=>h
 |fuel+1,listed,a,w,h=>⟨h.1,λi hi=>by
  have b:=h.2 i hi;unfold wpOp at b;unfold wpOpIn;cases f:d[i]? with
  |none=>rw[f] at b;exact zd hd e fuel _ _ _ b
  |some o=>
   rw[f] at b;dsimp only at b⊢;split
   ·rename_i hw;rw[if_pos hw] at b;rcases b with b|b
    ·exact V7 (hd i o f) (Oper.wp_mono (λa w h=>zd hd e fuel _ a w h) b)
    ·exact absurd b.2 e
   ·rename_i hw;rw[if_neg hw] at b;exact⟨λ_ _=>trivial,zd hd e fuel _ _ _ b⟩⟩
theorem Dz{b:List Oper}{id l:Nat}(S:rl->Prop)(X:Nat->Bool)(hm:P.follows .mixedOrders=AT)(hd:(b.all λo=>match o.op with|.defer _=>Ba|_=>AT)=AT)(f:¬LetsOut Q')(hS:S w.drew)
  (h:S w.drew->gq P .any b.toArray Q' S X b.toArray.size (Array.replicate b.toArray.size Ba) a w.drew):(Code.region id b.toArray AT).wpIn (akr.inRound l) n P Q' a w:=
 wpIn_region_any hm (zd (λj o g c e=>by have d:o∈b:=eW;have:=gW.1 hd o d;rw[e] at this;cases this) f _ _ _ _ (D7 _ _ _ _ (h hS)))
theorem acO{p d:Tmp}{assign body:Code}{g:Operand}{b:Nat}(j:a.eval g=.func (.func 177) #[] #[d9 (an ⟨b,0,ns⟩)])(u:b<w.heap.size)(F:Nb 97 16 w b xs)(G:aW xs 4080=AT)
  (I:List RR->rl->Prop)(y:OwnFrom w.heap.size I)(o:∀pre W,I pre W->w.heap.size<=W.heap.size)(h0:I [] w)
  (c:∀(l:Nat)(x:RR)(W:rl)(K:Act->rl->Prop),K {tmps:=(a.tmps.setIfInBounds p (bi #[U O x.1.1,U O x.1.2])).setIfInBounds d (d9 (an ⟨W.heap.size,0,ns⟩)),defers:=[]} (W.alloc (ap #[U O x.1.1,U O x.1.2] 140))->
   assign.wpIn (akr.inRound l) 1 Gz.prog (Exit.then K λ_ _ _=>False) {tmps:=a.tmps.setIfInBounds p (bi #[U O x.1.1,U O x.1.2]),defers:=[]} W)
  (q:∀(l:Nat)(pre:List RR)(x:RR)(W:rl)(f:Nat),I pre W->w.heap.size<=f->ak W f 140 #[U O x.1.1,U O x.1.2]->pre.length<(dw xs).length->
   body.wpIn (akr.inRound l) 1 Gz.prog (ownPostG w.heap.size (Kb b) I (λ_ _ _=>False) (pre++[x]) W) {tmps:=(a.tmps.setIfInBounds p (bi #[U O x.1.1,U O x.1.2])).setIfInBounds d (d9 (an ⟨f,0,ns⟩)),defers:=[]} W)
  (i:∀(D:Nat)(z:List RR)(W:rl),w.heap.size<=D->kj z=dw xs->I z W->W.heap[D]?=an (.deferred (an []))->Q' .normal {a with defers:={target:=.collected D,args:=#[]}::a.defers} W):
  (Code.rangeFunc g #[p] assign body).wp Gz.prog Q' a w:=by
 refine wpIn_wide.1 (wpIn_rangeFunc_ownH (n:=3) rfl aw (gf:=177) (lb:=#[d9 (an ⟨b,0,ns⟩)]) j trivial (Gz.cl 177)
  (XL 2 aw F G) Kb.t (Kb.b u) (Below.refl _ _) (λ_=>rfl) I (λ_ _ _=>False) y (λ_ _ _ _ _ o _ _=>o) h0
  (λx E W=>∃f,w.heap.size<=f/\ak W f 140 #[U O x.1.1,U O x.1.2]/\E={tmps:=(a.tmps.setIfInBounds p (bi #[U O x.1.1,U O x.1.2])).setIfInBounds d (d9 (an ⟨f,0,ns⟩)),defers:=[]})
  (λx E s A C row⟨f,h1,H,J⟩ j L=>⟨f,h1,H.own j λr e=>(L r e).2,J⟩) ?_ ?_ i λ_ _ _ _ _ _ h _=>h.elim)
 ·intro l pre x W K hi hK;have e:(#[p].zip (qL x.1)).foldl (λt(p,v)=>t.setIfInBounds p v) a.tmps=a.tmps.setIfInBounds p (bi #[U O x.1.1,U O x.1.2]):=by simp[qL]
  rw[e];refine c l x W K (hK _ _ ((KeepsOthers.alloc W _).from _) ?_ (y.alloc _ hi) ⟨W.heap.size,?_,ak.new W _ _,rfl⟩)
  ·exact Below.heap_alloc W _ b (cC u (o _ _ hi))
  ·grind
 ·simp_all
end
section
open Go.RowKit Go.WideShapes Go.ChangeShapes
def af0(x:AS)(w:rl):(method 371 169 x "loop.example/videocodec/impl.fits").run Gz.prog w=.ok (202,x) w:=aF
def inv1(x:AS)(w:rl):(method 371 170 x "loop.example/videocodec/impl.fits").run Gz.prog w=.ok (203,x) w:=aF
def inv2(x:AS)(w:rl):(method 371 219 x "loop.example/videocodec/impl.fits").run Gz.prog w=.ok (216,x) w:=aF
def Dw(e:xs.length=64)(f:k<4)(w:rl):(akH 98 (bi (arr xs)) (U O (k:Int))).run Gz.prog w=.ok (bi (arr (sub xs (k*16) 16))) w:=by have h1:(0<=(k:Int)/\(k:Int)<((4:Nat):Int)):=aa;have b:¬4<=k:=aa;have c:=Aw (t:=97) cM w;have d:=Ro (Gz.gu underlying97) rfl w;simp[akH,aky (Gz.gu underlying98),asIntOf,h1,go_sem,part,b,c,d,Qh]
def MN(d:xs.length=4)(e:k<4)(w:rl):(akH 96 (bi (arr xs)) (U O (k:Int))).run Gz.prog w=.ok (U O (xs[k]?.getD 0)) w:=by have h1:(0<=(k:Int)/\(k:Int)<((4:Nat):Int)):=aa;have b:=nE xs k aa;have c:¬4<=k:=aa;simp[akH,aky (Gz.gu underlying96),asIntOf,h1,go_sem,part,b,c]
def px(m:List Int)(k:Nat):Bool:=(List.range k).all λj=>aW (lvl m j) 4080
def aa2(m:List Int)(k:Nat):px m (k+1)=(px m k&&aW (lvl m k) 4080):=by unfold px;rw[aiU,List.all_append];simp
def ad5(b:k<4)(h:aW (lvl m k) 4080=Ba):px m 4=Ba:=by
 cases c:px m 4 with
 |false=>rfl
 |true=>have:=gW.1 c k (fM.2 b);rw[h] at this;cases this
def ad6(b:m.length=71):px m 4=aW (sub m 7 64) 4080:=by
 have h1:sub m 7 64=lvl m 0++(lvl m 1++(lvl m 2++lvl m 3)):=by exact Ka
 rw[h1,nB,nB,nB];unfold px;simp only[aiU,List.range_zero,List.nil_append,List.cons_append,List.all_cons,List.all_nil,Bool.and_true]
def AB(m:List Int)(b:k<4):sub (sub m 7 64) (k*16) 16=lvl m k:=by unfold lvl sub;rw[List.drop_take,List.take_take,List.drop_drop,Nat.mul_comm k 16];congr 1;omega
def xf(m:List Int)(k:Nat):Bool:=((sub m 3 4).drop k).all λx=>decide (0<=x/\x<=4)
def aa3(c:m.length=71)(b:k<4):xf m k=(decide (0<=ax m (3+k)/\ax m (3+k)<=4)&&xf m (k+1)):=by
 have d:(sub m 3 4).length=4:=bZ aa;unfold xf;rw[List.drop_eq_getElem_cons (show k<(sub m 3 4).length by omega),List.all_cons]
 have e:(sub m 3 4)[k]'aa=ax m (3+k):=by have:=gj m 3 4 k b;unfold ax;rw[<-this];simp[show k<(sub m 3 4).length by omega]
 rw[e]
def aeT(w:rl)(f:m.length=71):ahR Gz.prog 203 #[bi (arr m)] w λe w'=>e=dl (ci (jI m))/\Q w w':=by have g:=Nb.new 170 71 w m f;have h:Q w (w.alloc (ap (arr m) 170)):=(Q.refl _).alloc _;have i:=Ax f;obtain⟨j,c⟩:∃b,(sub m 3 4==[0,0,0,0])=b:=⟨_,rfl⟩;rw[i,c];have d:=ag c;go_enter Gz.gf func203,ntmps203;go_wp2_with(first|((with_reducible refine ep (ty:=96) _ 3 ?_ ?_ _ g 4 ?_ _ (Gz.gu underlying96) ?_ nC ?_);exact rfl;exact rfl;omega;exact rfl)|((with_reducible refine nh (t:=96) ?_ (sub m 3 4) [0,0,0,0] ?_ ?_ ?_ qx ?_);exact rfl;exact rfl;exact rfl;exact rj (bZ aa) rfl;rw[d.out]));go_ret;exact⟨rfl,h⟩
def aeU(w:rl)(h:m.length=71):ahR Gz.prog 202 #[bi (arr m)] w λe w'=>e=dl (ci (kU m&&jI m&&qI m))/\Q w w':=by
 have s1:=bP m;rw[h] at s1;have g:=Nb.new 169 71 w m h;have j:Q w (w.alloc (ap (arr m) 169)):=(Q.refl _).alloc _;have l:sub m 1 2=[ax m 1,ax m 2]:=lE m 1 aa;rw[Fx h,Ax h,Qz h];obtain⟨p,c⟩:∃b,([ax m 1,ax m 2]==[0,0])=b:=⟨_,rfl⟩;obtain⟨q,d⟩:∃b,(sub m 3 4==[0,0,0,0])=b:=⟨_,rfl⟩;obtain⟨le,hle⟩:∃b,(sub m 7 64==so 64 0)=b:=⟨_,rfl⟩;rw[c,d,hle];have f:=ag c;have i:=ag d;have o:=ag hle;clear c d hle;go_enter Gz.gf func202,ntmps202;cases p with
 |false=>go_wp2_with(first|((with_reducible refine ep (ty:=95) _ 1 ?_ ?_ _ g 2 ?_ _ (Gz.gu underlying95) ?_ jE ?_);exact rfl;exact rfl;omega;exact rfl;rw[l])|((with_reducible refine nh (t:=95) ?_ [ax m 1,ax m 2] [0,0] ?_ ?_ ?_ nS ?_);exact rfl;exact rfl;exact rfl;exact nZ;rw[f.out]));go_ret;exact⟨rfl,j⟩
 |true=>cases q with|false=>go_wp2_with(first|((with_reducible refine ep (ty:=95) _ 1 ?_ ?_ _ g 2 ?_ _ (Gz.gu underlying95) ?_ jE ?_);exact rfl;exact rfl;omega;exact rfl;rw[l])|((with_reducible refine nh (t:=95) ?_ [ax m 1,ax m 2] [0,0] ?_ ?_ ?_ nS ?_);exact rfl;exact rfl;exact rfl;exact nZ;rw[f.out])|((with_reducible refine ep (ty:=96) _ 3 ?_ ?_ _ g 4 ?_ _ (Gz.gu underlying96) ?_ nC ?_);exact rfl;exact rfl;omega;exact rfl)|((with_reducible refine nh (t:=96) ?_ (sub m 3 4) [0,0,0,0] ?_ ?_ ?_ qx ?_);exact rfl;exact rfl;exact rfl;exact rj (bZ aa) rfl;rw[i.out]));go_ret;exact⟨rfl,j⟩|true=>go_wp2_with(first|((with_reducible refine ep (ty:=95) _ 1 ?_ ?_ _ g 2 ?_ _ (Gz.gu underlying95) ?_ jE ?_);exact rfl;exact rfl;omega;exact rfl;rw[l])|((with_reducible refine nh (t:=95) ?_ [ax m 1,ax m 2] [0,0] ?_ ?_ ?_ nS ?_);exact rfl;exact rfl;exact rfl;exact nZ;rw[f.out])|((with_reducible refine ep (ty:=96) _ 3 ?_ ?_ _ g 4 ?_ _ (Gz.gu underlying96) ?_ nC ?_);exact rfl;exact rfl;omega;exact rfl)|((with_reducible refine nh (t:=96) ?_ (sub m 3 4) [0,0,0,0] ?_ ?_ ?_ qx ?_);exact rfl;exact rfl;exact rfl;exact rj (bZ aa) rfl;rw[i.out])|((with_reducible refine ep (ty:=98) _ 7 ?_ ?_ _ g 64 ?_ _ (Gz.gu underlying98) ?_ vD ?_);exact rfl;exact rfl;omega;exact rfl)|((with_reducible refine nh (t:=98) ?_ (sub m 7 64) (so 64 0) ?_ ?_ ?_ Rp ?_);exact rfl;exact rfl;exact rfl;exact To (bZ aa) rfl;rw[o.out]));go_ret;exact⟨au,j⟩
def aeV(w:rl)(f:m.length=71):ahR Gz.prog 216 #[bi (arr m)] w λe w'=>e=dl (ci (lZ m&&kU m))/\Q w w':=by
 have s1:=bP m;rw[f] at s1;have l:=Nb.new 219 71 w m f;have q0:Q w (w.alloc (ap (arr m) 219)):=(Q.refl _).alloc _;have o:sub m 1 2=[ax m 1,ax m 2]:=lE m 1 aa;have p:(sub m 3 4).length=4:=bZ aa;rw[Fx f];obtain⟨x,c⟩:∃b,([ax m 1,ax m 2]==[0,0])=b:=⟨_,rfl⟩;rw[c];have g:=ag c;clear c;go_enter Gz.gf func216,ntmps216;go_wp2_with((with_reducible refine ep (ty:=96) _ 3 ?_ ?_ _ l 4 ?_ _ (Gz.gu underlying96) ?_ nC ?_);exact rfl;exact rfl;omega;exact rfl);go_loop[7] (λi=>∃k:Nat,k<=4/\i=U O k/\Hid (lZ m=xf m k)) (λi=>4-(intOf i).toNat)
 case atStart=>exact⟨0,aa,rfl,rfl⟩
 case round=>
  obtain⟨k,z,rfl,hr⟩:=hrel;by_cases d:k<4
  ·have q:(k:Int)<4:=by omega
   have he:=λw=>MN p d w;rw[gj m 3 4 k d] at he;have ii:=aa3 f d;unfold ax at ii;generalize m[3+k]?.getD 0=y at he ii;by_cases r:y<0
   ·exact LH
   ·by_cases u:4<y
    ·exact LH
    ·rw[decide_eq_true aa,akq] at ii;have kc:=ag ii;exact C9
  ·have h:k=4:=by omega
   subst h
   have j:Hid (lZ m=AT):=by rw[Hid,hr.out];unfold xf;rw[List.drop_of_length_le aa];rfl
   go_wp2_with(first|((with_reducible refine ep (ty:=95) _ 1 ?_ ?_ _ l 2 ?_ _ (Gz.gu underlying95) ?_ jE ?_);exact rfl;exact rfl;omega;exact rfl;rw[o])|((with_reducible refine nh (t:=95) ?_ [ax m 1,ax m 2] [0,0] ?_ ?_ ?_ nS ?_);exact rfl;exact rfl;exact rfl;exact nZ;rw[g.out]));go_ret;exact⟨by rw[j.out];rfl,q0⟩
def kS(m:List Int):AS:=if ax m 0=0 then gc 169 (bi (arr m)) else if ax m 0=1 then gc 170 (bi (arr m)) else if ax m 0=2 then gc 219 (bi (arr m)) else .nilIface
def kindOf(m:List Int)(w:rl)(f:m.length=71):ahR Gz.prog 121 #[bi (arr m)] w λe w'=>e=dl (kS m)/\Q w w':=by
 have s1:=bP m;rw[f] at s1;have g:=Nb.new 100 71 w m f;have q0:Q w (w.alloc (ap (arr m) 100)):=(Q.refl _).alloc _;have h:sub m 1 2=[ax m 1,ax m 2]:=lE m 1 aa;have c0:=g.at 0 aa;rw[sub_one] at c0;unfold kS;obtain⟨b,d⟩:∃z,ax m 0=z:=⟨_,rfl⟩;rw[d] at c0⊢;by_cases h0:b=0
 ·rw[if_pos h0];subst h0;exact Dk
 ·have i:(b==0)=Ba:=by simp[h0]
  rw[if_neg h0];by_cases h1:b=1
  ·rw[if_pos h1];subst h1;exact Dk
  ·have j:(b==1)=Ba:=by simp[h1]
   rw[if_neg h1];by_cases c:b=2
   ·rw[if_pos c];subst c;exact Dk
   ·have l:(b==2)=Ba:=by simp[c]
    rw[if_neg c];go_enter Gz.gf func121,ntmps121;go_wp2;go_ret;exact⟨rfl,q0⟩
def Xb(x y:Int)(w:rl):ahR Gz.prog 151 #[bi #[U O x,U O y]] w λe w'=>e=dl (ci (decide (-16<=x/\x<=16)&&decide (-16<=y/\y<=16)))/\Q w w':=by
 have e:(decide (-16<=x/\x<=16)&&decide (-16<=y/\y<=16))=(decide (-16<=x)&&(decide (x<=16)&&(decide (-16<=y)&&decide (y<=16)))):=by rw[Bool.decide_and,Bool.decide_and,Bool.and_assoc]
 rw[e];obtain⟨a,f⟩:∃b,decide (-16<=x)=b:=⟨_,rfl⟩;obtain⟨b,g⟩:∃b,decide (x<=16)=b:=⟨_,rfl⟩;obtain⟨c,hc⟩:∃b,decide (-16<=y)=b:=⟨_,rfl⟩;obtain⟨d,hd⟩:∃b,decide (y<=16)=b:=⟨_,rfl⟩;rw[f,g,hc,hd];go_enter Gz.gf func151,ntmps151;cases a with
 |false=>go_wp2;go_ret;exact⟨rfl,aU⟩
 |true=>
  cases b with
  |false=>go_wp2;go_ret;exact⟨rfl,aU⟩
  |true=>cases c with|false=>go_wp2;go_ret;exact⟨rfl,aU⟩|true=>go_wp2;go_ret;exact⟨by simp[*],aU⟩
end
section
open Go.RowKit Go.WideShapes Go.ChangeShapes
def DI(y:m.length=71){T:SL}{z:FuncId}(E:Bool)(F:kS m=gc T (bi (arr m)))(hm:dt m=(E&&kV m&&aW (sub m 7 64) 4080))
  (hi:∀(x:AS)(w:rl),(method 371 T x "loop.example/videocodec/impl.fits").run Gz.prog w=.ok (z,x) w)(hc:∀(args:Array AS)(w:rl),(callFunc z args).run Gz.prog w=.ok (.enter z args) w)
  (N:∀w,ahR Gz.prog z #[bi (arr m)] w λe w'=>e=dl (ci E)/\Q w w'):
  ahR Gz.prog 117 #[bi (arr m)] w λe w'=>e=dl (ci (dt m))/\Q w w':=by
 have s1:=bP m;rw[y] at s1;have R:=Nb.new 100 71 w m y;have S:Q w (w.alloc (ap (arr m) 100)):=(Q.refl _).alloc _;have V:sub m 1 2=[ax m 1,ax m 2]:=lE m 1 aa;have f:=ag (kindOf m (w.alloc (ap (arr m) 100)) y);rw[F] at f;obtain⟨vb,g⟩:∃b,kV m=b:=⟨_,rfl⟩;have c:=g;unfold kV at c;have A:=ag (Xb (ax m 1) (ax m 2));rw[c] at A;rw[<-ad6 y,g] at hm;have C:=ag hm;have X:=ag N;clear N hm g c F;go_enter Gz.gf func117,ntmps117;go_wp2_with((with_reducible refine ew (n:=71) rfl _ _ rfl _ rfl _ aE _ (Gz.gu underlying100) rfl e8 ?_));refine f.out.mono ?_;rintro e Z⟨rfl,q1⟩;have h:=R.q q1;have G:=S.trans q1;clear R S q1 f;cases vb with
 |false=>go_wp2_with((with_reducible refine ep (ty:=95) _ 1 ?_ ?_ _ h 2 ?_ _ (Gz.gu underlying95) ?_ jE ?_);exact rfl;exact rfl;omega;exact rfl;rw[V]);refine(A.out Z).mono ?_;rintro e w3⟨rfl,p⟩;go_wp2;go_ret;exact⟨by rw[C.out];simp,G.trans p⟩
 |true=>
  go_wp2_with((with_reducible refine ep (ty:=95) _ 1 ?_ ?_ _ h 2 ?_ _ (Gz.gu underlying95) ?_ jE ?_);exact rfl;exact rfl;omega;exact rfl;rw[V]);refine(A.out Z).mono ?_;rintro e w3⟨rfl,p⟩;go_wp2;refine(X.out _).mono ?_;rintro e w4⟨rfl,H⟩;have b4:=(h.q p).q H;have I:=(G.trans p).trans H;clear h G p H A X;have h:=b4;clear b4;cases E with
  |false=>go_wp2;go_ret;exact⟨by rw[C.out];simp,I⟩
  |true=>
   have Q5:=ag I;clear I;go_wp2_with((with_reducible refine ep (ty:=98) _ 7 ?_ ?_ _ h 64 ?_ _ (Gz.gu underlying98) ?_ vD ?_);exact rfl;exact rfl;omega;exact rfl);have J:(sub m 7 64).length=64:=bZ aa;clear h;go_loopw[23] (λi wr=>∃k:Nat,k<=4/\i=U O k/\Hid (px m k=AT/\Q w wr)) (λi _=>4-(intOf i).toNat)
   case atStart=>exact⟨0,aa,rfl,rfl,Q5.out⟩
   case round=>
    obtain⟨k,F,rfl,hK⟩:=hrel;obtain⟨D,K⟩:=hK.out;clear hK Q5;by_cases l:k<4
    ·have mp:(k:Int)<4:=by omega
     have he:=λw=>Dw J l w;rw[AB m l] at he;have r:(lvl m k).length=16:=by unfold lvl;exact bZ (by omega)
     have d:=aa2 m k;rw[D,akq] at d;obtain⟨bL,o⟩:∃b,aW (lvl m k) 4080=b:=⟨_,rfl⟩;rw[o] at d;have u:=ag o;have L:=ag d;have Y2:=ag K;clear o d D K;go_wp2_with(first|((refine cP (n:=16) rfl _ _ _ rfl _ rfl _ _ aC (Nb.new 97 16 _ (so 16 0) rfl) r cM ?_;intro w9 bl g9 s9;rw[World.size_alloc] at s9))|((with_reducible refine ew (n:=16) rfl _ _ rfl _ rfl _ bl _ (Gz.gu underlying97) rfl cM ?_)));have q9:=(Y2.out.alloc (ap (arr (so 16 0)) 97)).grown g9 (λj e=>by have:=aH e;have:=Y2.out.size;omega);refine(zr r aw aw u).mono ?_;rintro e w5⟨rfl,q6⟩;cases bL with
     |false=>go_wp2;go_ret;exact⟨by rw[C.out,ad5 l u.out];simp,q9.trans q6⟩
     |true=>
      go_wp2;go_roundw;case rel=>exact⟨k+1,aa,aJ,by rw[L.out],q9.trans q6⟩
      case measure=>exact bj
    ·have M:k=4:=by omega
     subst M;have Y0:=ag D;clear D;go_wp2;go_ret;exact⟨by rw[C.out,Y0.out];simp,K⟩
def XM(w:rl)(b:m.length=71):ahR Gz.prog 117 #[bi (arr m)] w λe w'=>e=dl (ci (dt m))/\Q w w':=by
 by_cases h0:ax m 0=0
 ·exact DI b (kU m&&jI m&&qI m) (by unfold kS;rw[if_pos h0]) (by unfold dt j5;rw[if_pos h0]) af0 (Gz.cl 202) (λw=>aeU w b)
 ·by_cases h1:ax m 0=1
  ·exact DI b (jI m) (by unfold kS;rw[if_neg h0,if_pos h1]) (by unfold dt j5;rw[if_neg h0,if_pos h1]) inv1 (Gz.cl 203) (λw=>aeT w b)
  ·by_cases c:ax m 0=2
   ·exact DI b (lZ m&&kU m) (by unfold kS;rw[if_neg h0,if_neg h1,if_pos c]) (by unfold dt j5;rw[if_neg h0,if_neg h1,if_pos c]) inv2 (Gz.cl 216) (λw=>aeV w b)
   ·have d:Hid (dt m=Ba):=Og aa;have f:=ag (kindOf m (w.alloc (ap (arr m) 100)) b);have h:kS m=.nilIface:=by unfold kS;rw[if_neg h0,if_neg h1,if_neg c]
    have i:=Nb.new 100 71 w m b;have g:Q w (w.alloc (ap (arr m) 100)):=(Q.refl _).alloc _;go_enter Gz.gf func117,ntmps117;go_wp2_with((with_reducible refine ew (n:=71) rfl _ _ rfl _ rfl _ aE _ (Gz.gu underlying100) rfl e8 ?_));refine f.out.mono ?_;rintro e j⟨rfl,q1⟩;go_wp2;go_ret;exact⟨by rw[d.out];rfl,g.trans q1⟩
end
end Go.Proofs.Q0
