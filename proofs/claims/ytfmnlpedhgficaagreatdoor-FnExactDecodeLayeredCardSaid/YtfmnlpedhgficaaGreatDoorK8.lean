import Derived.Test.YtfmnlpedhgficaaGreatDoorK7
import Derived.Deep.LoopGhost
import Derived.OrdersIn
set_option maxRecDepth 100000
set_option maxHeartbeats 8000000
set_option linter.all false
open Go.Value renaming int->U,slice->Y,bool->a5,agg->a9,pointer->bi,tuple->ci,iface->em
open Go.IntKind renaming i64->O
open Go.Obj renaming cells->ac
open Go.Ending renaming returned->be
open Bool renaming false->Bz,true->AT,true_and->alH
open Go renaming Calls->aiK,Program->NO,TypeId->TO,Value->so,World->AS,run_underlying->alP
open Go.Fence renaming wide->alI
open Go.Instr renaming index->alY
open List renaming range_succ->akq,replicate->rl
open Option renaming none->ns,some->an
namespace Go.Proofs
def KT{p:Prop}(h:p:=by
  refine this.mono λe W' h=>⟨h.1,?_⟩;rcases h.2 with⟨ys,rfl,ys',e',h⟩|⟨pre,hp,i8,e',h⟩
  ·grind
  ·grind):p:=h
def cB{p:Prop}(h:p:=by cases e):p:=h
def Mr{p:Prop}(h:p:=by rw[decide_eq_false λh=>aa,Bool.false_and] at f9;have jt:=af f9;go_wp2;go_ret;exact⟨by rw[hr.out,jt.out];rfl,q0⟩):p:=h
def Dz{p:Prop}(h:p:=by go_enter Gz.gf func151,ntmps151;go_wp2_with((with_reducible refine e8 (n:=71) rfl _ _ rfl _ rfl _ aG _ (Gz.gu underlying97) rfl gN ?_));go_ret;exact⟨rfl,q0⟩):p:=h
end Go.Proofs
namespace Go.Proofs.Q0
open Go.Proofs.Tryz
variable{W w W':AS}{lo s B n k:Nat}{xs m:List Int}{v:so}{t:TO}{a:Act}{Q':Exit->Act->AS->Prop}{P:NO}
section
open Go.RowKit Go.WideShapes Go.ChangeShapes Go.Shelf
def eK(lo:Nat)(W:AS):List Deferred->Prop
 |[]=>True
 |d::b=>∃D,d={target:=.collected D,args:=#[]}/\lo<=D/\W.heap[D]?=an (.deferred (an []))/\(∀c∈b,c.target≠.collected D)/\eK lo W b
def eK.kept{lo:Nat}{W W':AS}:∀{b:List Deferred},eK lo W b->(∀D d,d∈b->d.target=.collected D->lo<=D->W.heap[D]?=an (.deferred (an []))->W'.heap[D]?=an (.deferred (an [])))->eK lo W' b
 |[],_,_=>trivial
 |d::b,⟨D,h1,c,e,f,g⟩,k=>⟨D,h1,c,k D d (nB ..) (by rw[h1]) c e,f,g.kept λE h hd=>k E h (pP _ hd)⟩
def eK.lt{lo:Nat}{W:AS}:∀{b:List Deferred},eK lo W b->∀d∈b,∃D,d.target=.collected D/\D<W.heap.size
 |[],_,d,h=>by cases h
 |d::b,⟨D,h1,_,c,_,e⟩,f,h=>by
  rcases jH.1 h with rfl|h
  ·exact⟨D,by rw[h1],(bE.1 c).1⟩
  ·exact e.lt f h
def eK.more{D:Nat}{b:List Deferred}(h:eK lo W b)(c:∀d∈b,d.target≠.collected D)(e:lo<=D)(f:W.heap[D]?=an (.deferred (an []))):eK lo W ({target:=.collected D,args:=#[]}::b):=⟨D,rfl,e,f,c,h⟩
structure KD(lo:Nat)(W W':AS):Prop where
 os:W'.os=W.os
 tape:W'.tape=W.tape
 output:W'.output=W.output
 size:W'.heap.size=W.heap.size
 block:∀k,W'.heap[k]?=W.heap[k]?\/(lo<=k/\∃o,W.heap[k]?=an o/\o.isCells=Bz)
section
variable{lo:Nat}{W W' W'':AS}
def KD.refl(lo:Nat)(W:AS):KD lo W W:=⟨rfl,rfl,rfl,rfl,λ_=>.inl rfl⟩
def KD.cells(h:KD lo W W'){k:Nat}{cs:Array so}{t:TO}{f:Nat×Nat}(b:W.heap[k]?=an (ac cs t f)):W'.heap[k]?=an (ac cs t f):=by
 rcases h.block k with e|⟨_,o,c,hc⟩
 ·rw[e,b]
 ·rw[b] at c;cases c;cases hc
def KD.put(h:KD lo W W'){D:Nat}{x:Option (List Deferred)}(b:lo<=D)(c:W.heap[D]?=an (.deferred (an [])))(d:W'.heap[D]?=an (.deferred (an []))):KD lo W (W'.putObj D (.deferred x)):=
 ⟨h.os,h.tape,h.output,by rw[World.putObj_size,h.size],λk=>by
  by_cases e:k=D
  ·subst e;exact .inr ⟨b,_,c,rfl⟩
  ·rw[World.putObj_heap_other e];exact h.block k⟩
def KD.toQ(h:KD lo W W')(q:Q w W)(c:w.heap.size<=lo):Q w W':=
 ⟨h.os.trans q.os,h.tape.trans q.tape,h.output.trans q.output,by rw[h.size];exact q.size,λk b=>by
  rcases h.block k with e|⟨h1,_⟩
  ·rw[e];exact q.block k b
  ·omega⟩
def bD.kd{v u:so}{w:AS}(h:bD v w u W)(k:KD lo W W')(c:w.heap.size<=lo):bD v w u W':=
 ⟨⟨k.os.trans h.bJ.os,k.tape.trans h.bJ.tape,k.output.trans h.bJ.output,by rw[k.size];exact h.bJ.size,λi hi b=>by
  rcases k.block i with e|⟨h1,_⟩
  ·rw[e];exact h.bJ.block i hi b
  ·omega⟩,h.own⟩
def ay.F6(h:ay t s W B v n xs)(k:∀g cs d f,W.heap[g]?=an (ac cs d f)->v.ownBlock=an g->W'.heap[g]?=an (ac cs d f)):ay t s W' B v n xs:=by
 obtain⟨h0,h1,e⟩:=h;refine⟨h0,h1,?_⟩;rcases e with e|⟨g,b,c,i,j,l,r⟩
 ·simp_all
 ·exact .inr ⟨g,b,c,i,j,k g _ _ _ l (by rw[i];rfl),r⟩
def Nf{F:Fence}{n:Nat}{P:NO}{fn:Func}{tmps:Array so}{R:Ending->AS->Prop}(c:AS):∀(b:List Deferred)(W:AS),eK lo W b->KD lo c W->(∀D d,d∈b->d.target=.collected D->c.heap[D]?=an (.deferred (an [])))->
  (∀W',KD lo c W'->LeavesIn F n P fn tmps R [] .returning W')->LeavesInM F n P fn tmps R b .returning W
 |[],W,_,k,_,h=>h W k
 |d::b,W,⟨D,h1,j,i,l,o⟩,k,h0,h=>by refine⟨aj,.inl ⟨D,_,by rw[h1],run_takeDeferred i,?_⟩⟩;refine Nf c b _ (o.kept λE f hd he _ p=>?_) (k.put j (h0 D d (nB ..) (by rw[h1])) i) (λE f hd he=>h0 E f (pP _ hd) he) h;have g:E≠D:=λe=>l f hd (by rw[he,e]);rw[World.putObj_heap_other g];exact p
theorem eK.all{b:List Deferred}(h:eK lo W b):∀D d,d∈b->d.target=.collected D->W.heap[D]?=an (.deferred (an [])):=by
 induction b with
 |nil=>intro D d hd;cases hd
 |cons d b c=>
  obtain⟨E,h1,e,f,g,i⟩:=h;intro D j hd he;rcases jH.1 hd with rfl|hd
  ·simp_all
  ·grind
def aaJ{c:Code}(N:Nat)(T:Nat->(Nat->so)->Array so)(R:Nat->List Deferred->AS->Prop)(f:a.tmps=T 0 λi=>a.tmps.getD i undef)(h0:R 0 a.defers w)
  (round:∀k y d w,R k d w->∀K:Act->AS->Prop,(∀a' w',a'.tmps=T (k+1) (λi=>a'.tmps.getD i undef)->R (k+1) a'.defers w'->k<N->K a' w')->c.wp P (Exit.then K Q') {tmps:=T k y,defers:=d} w):(Code.loop c).wp P Q' a w:=by
 refine wp_loop_ghost (λn a w=>∃k,a.tmps=T k (λi=>a.tmps.getD i undef)/\R k a.defers w/\N-k=n) (N-0) ⟨0,f,h0,rfl⟩ ?_;rintro n a w⟨k,g,b,hm⟩;have e:a={tmps:=T k λi=>a.tmps.getD i undef,defers:=a.defers}:=by rw[<-g]
 rw[e];exact round k _ _ w b _ λa' w' h1 h j=>⟨_,by rw[<-hm];omega,k+1,h1,h,rfl⟩
end
def aaK(P:NO)(fn:Func)(R:Ending->AS->Prop):Exit->Act->AS->Prop
 |.normal,a,w|.ret,a,w=>LeavesInM alI 3 P fn a.tmps R a.defers .returning w
 |_,_,_=>False
def Kf{f:FuncId}{fn:Func}{c:Code}{args:Array so}{R:Ending->AS->Prop}(b:P.funcs[f]?=an fn)(d:fn.body=an c)
  (h:c.wp P (aaK P fn R) {tmps:=args++Array.replicate (fn.ntmps-args.size) undef,defers:=[]} w):aiK P f args w R:=
 (callsIn_wide (n:=3)).1 (callsIn_of_wp_marks b d trivial (wpIn_wide.2 (wp_mono h λe a w hq=>by cases e<;>first|exact hq|exact hq.elim)) rfl)
end
section
open Go.RowKit Go.WideShapes Go.ChangeShapes Go.Shelf
abbrev RR:={r:Int×Int//0<=r.1/\r.1<=15/\ -4080<=r.2/\r.2<=4080/\r.2≠0}
def kH(l:List RR):List (Int×Int):=l.map (·.1)
def E4(l:List RR)(x:RR):kH (l++[x])=kH l++[x.1]:=by simp[kH]
theorem YJ(n:Nat)(o:1<=n){b:Nat}(f:Nb 94 16 w b xs)(p:aS xs 4080=AT):
  SeqStopsK alI n Gz.prog 192 #[bi (an ⟨b,0,ns⟩)] (λr:RR=>qN r.1) (Kb b) (λys=>kH ys=dy xs) (λpre=>kH pre<+:dy xs) (dy xs).length w:=λl J q W u y _ z h0=>by
 have g:=Fx f.len p
 have:=TD o l b xs (λpre W=>∃c,kH c=pre/\J c W) (λpre W=>∃c,kH c=pre/\q c W) W (λs A C row⟨i,e,h⟩ D E=>⟨i,e,y i A C row h D E⟩)
  (λpre x F⟨c,e,G⟩ j=>by
   have hm:x∈dy xs:=j.subset aj
   have H:c.length<(dy xs).length:=by
    have h1:=j.length_le;have d:c.length=pre.length:=by rw[<-e];simp[kH]
    rw[List.length_append,List.length_singleton] at h1;omega
   obtain⟨fn,tmps,assign,body,I,K⟩:=z c ⟨x,g x hm⟩ F G H;refine⟨fn,tmps,assign,body,I,K.mono λM W' h=>?_⟩;rcases h with⟨h1,d,L⟩|⟨h1,d⟩
   ·exact .inl ⟨h1,⟨_,by rw[E4,e],d⟩,L⟩
   ·exact .inr ⟨h1,_,by rw[E4,e],d⟩) (f.below u f.lt) ⟨[],rfl,h0⟩
 exact KT
def Nb.own{t:TO}{n g:Nat}{w w':AS}{xs:List Int}{row:Option Nat}(h:Nb t n w g xs)(b:w.grownBy w' row)(hr:∀r,row=an r->∃o:Obj,w.heap[r]?=an o/\o.isCells=Bz):Nb t n w' g xs:=⟨h.blk.own b hr,h.len⟩
def ay.owned{w':AS}{row:Option Nat}(h:ay t s w B v n xs)(d:w.grownBy w' row)(hr:∀r,row=an r->∃o:Obj,w.heap[r]?=an o/\o.isCells=Bz):ay t s w' B v n xs:=
 h.F6 λg i j f hc _=>(d.block g (bE.1 hc).1 λe=>by obtain⟨o,c,b⟩:=hr g e.symm;rw[hc] at c;cases c;cases b).trans hc
def ay.Bu(h:ay t s w B v n xs)(k:Nat)(b:v.ownBlock=an k):k<w.heap.size:=by
 rcases h.dE with⟨e,_⟩|⟨g,_,e,_,c,_⟩
 ·rw[e] at b;cases b
 ·rw[e] at b;have:g=k:=aJ b;omega
def bD.row{u:so}{row:Option Nat}(h:bD v w u W)(b:W.grownBy W' row)(hr:∀r,row=an r->w.heap.size<=r):bD v w u W':=
 ⟨⟨b.os.trans h.bJ.os,b.tape.trans h.bJ.tape,b.output.trans h.bJ.output,aI h.bJ.size b.size,λi hi c=>(b.block i (bH hi h.bJ.size) λe=>by have:=hr i e.symm;omega).trans (h.bJ.block i hi c)⟩,h.own⟩
def eK.row{b:List Deferred}{row:Option Nat}(h:eK lo W b)(g:∀d∈b,∃D,d.target=.collected D/\D<B)(i:W.grownBy W' row)(hr:∀r,row=an r->B<=r):eK lo W' b:=
 h.kept λD d hd he _ f=>by obtain⟨E,c,j⟩:=g d hd;rw[he] at c;injection c with c;exact(i.block D (bE.1 f).1 λe=>by have:=hr D e.symm;omega).trans f
def eK.q{b:List Deferred}(h:eK lo W b)(q:Q W W'):eK lo W' b:=h.kept λD _ _ _ _ c=>(q.block D (bE.1 c).1).trans c
def ay.Qh(h:ay t s w B v n xs)(b:v.ownBlock=an k){o:Obj}(c:w.heap[k]?=an o):o.isCells=AT:=by
 obtain⟨_,_,d⟩:=h;rcases d with⟨e,_⟩|⟨g,f,i,j,_,l,_⟩
 ·rw[e] at b;cases b
 ·rw[j] at b;have:g=k:=aJ b;subst this;rw[l] at c;cases c;rfl
def eK.eJ{c:List Deferred}{v':so}(h:eK lo W c)(o:ay t s W B v n xs)(g:bD v W v' W'):eK lo W' c:=h.kept λD _ _ _ _ b=>(g.bJ.block D (bE.1 b).1 λe=>by have:=o.Qh e.symm b;cases this).trans b
def eK.set{c:List Deferred}{p:Nat}{cs:Array so}(h:eK lo W c)(d:ak W p t cs)(v:so):eK lo (W.setCell ⟨p,0,ns⟩ v) c:=h.kept λD _ _ _ _ b=>(jh W ⟨p,0,ns⟩ v D λe=>by rw[e] at b;rw[show W.heap[p]?=_ from d] at b;cases b).trans b
def KeepsOthers.Su{v':so}(o:ay t s W B v n xs)(g:bD v W v' W'):KeepsOthers W W':=KeepsOthers.of_grownBy g.bJ λ_ _ e b=>o.Qh e b
def ay.Gu{f:TO}{g:Nat}{cs:Array so}(h:ay t s w B v n xs)(j:ak w g f cs)(d:t≠f):v.ownBlock≠an g:=λb=>by
 obtain⟨_,_,l⟩:=h;rcases l with⟨e,_⟩|⟨i,o,p,q,_,c,_⟩
 ·rw[e] at b;cases b
 ·rw[q] at b;have:i=g:=aJ b;subst this;rw[show w.heap[i]?=_ from j] at c;injection c with c;injection c with _ e;exact d e.symm
def Zx(b:List (Int×Int))(r:Int×Int):iU (b++[r])=iU b++dn r.1 23++dn (bu r.2-1) 30:=by simp[iU]
def W8{o:Oper}{K:Act->AS->Prop}{l:Nat}(hd:∀c,o.op≠.defer c)(h:o.wp P a w K Q'):o.wpIn (alI.inRound l) n P a w K Q':=by
 refine⟨λ_ _=>trivial,?_⟩;show o.uponIn _ n P a K Q' ((o.semAt (an l) a.eval).run P w);rw[Oper.semAt_some l _ o hd];unfold Oper.wp at h;generalize(execOp a.eval o).run P w=r at h⊢;cases r with
 |ok x d=>
  cases x with
  |enter f args=>exact⟨λe=>cB,CallsIn.inRound l (callsIn_wide.2 h)⟩
  |row row args=>exact⟨λe=>cB,λc g _=>by obtain⟨v,b,i,j⟩:=h c g;exact⟨v,b,i,stepsIn_wide.2 j⟩⟩
  |value _=>exact h
  |skip=>exact h
  |defer _=>exact h
  |_=>exact h.elim
 |halt x d=>cases x with|panic _=>exact h|_=>exact h.elim
def zp{P:NO}{d:Array Oper}{Q':Exit->Act->AS->Prop}{g:Region.Mode}{l n:Nat}(hd:∀(j:Nat)(o:Oper),d[j]?=an o->∀c,o.op≠.defer c)(e:¬LetsOut Q'):∀(fuel:Nat)(listed:Array Bool)(a:Act)(w:AS),wpAny P g d Q' fuel listed a w->wpAnyIn (alI.inRound l) n P g d Q' fuel listed a w
 |0,_,_,_,h=>h
 |fuel+1,listed,a,w,h=>⟨h.1,λi hi=>by
  have b:=h.2 i hi;unfold wpOp at b;unfold wpOpIn;cases f:d[i]? with
  |none=>rw[f] at b;exact zp hd e fuel _ _ _ b
  |some o=>
   rw[f] at b;dsimp only at b⊢;split
   ·rename_i hw;rw[if_pos hw] at b;rcases b with b|b
    ·exact W8 (hd i o f) (Oper.wp_mono (λa w h=>zp hd e fuel _ a w h) b)
    ·exact absurd b.2 e
   ·rename_i hw;rw[if_neg hw] at b;exact⟨λ_ _=>trivial,zp hd e fuel _ _ _ b⟩⟩
theorem DY{b:List Oper}{id l:Nat}(S:AS->Prop)(X:Nat->Bool)(hm:P.follows .mixedOrders=AT)(hd:(b.all λo=>match o.op with|.defer _=>Bz|_=>AT)=AT)(f:¬LetsOut Q')(hS:S w.drew)
  (h:S w.drew->gr P .any b.toArray Q' S X b.toArray.size (Array.replicate b.toArray.size Bz) a w.drew):(Code.region id b.toArray AT).wpIn (alI.inRound l) n P Q' a w:=
 wpIn_region_any hm (zp (λj o g c e=>by have d:o∈b:=fu;have:=hU.1 hd o d;rw[e] at this;cases this) f _ _ _ _ (Er _ _ _ _ (h hS)))
theorem adZ{p d:Tmp}{assign body:Code}{g:Operand}{b:Nat}(j:a.eval g=.func (.func 192) #[] #[bi (an ⟨b,0,ns⟩)])(u:b<w.heap.size)(E:Nb 94 16 w b xs)(F:aS xs 4080=AT)
  (I:List RR->AS->Prop)(y:OwnFrom w.heap.size I)(o:∀pre W,I pre W->w.heap.size<=W.heap.size)(h0:I [] w)
  (c:∀(l:Nat)(x:RR)(W:AS)(K:Act->AS->Prop),K {tmps:=(a.tmps.setIfInBounds p (a9 #[U O x.1.1,U O x.1.2])).setIfInBounds d (bi (an ⟨W.heap.size,0,ns⟩)),defers:=[]} (W.alloc (ac #[U O x.1.1,U O x.1.2] 126))->
   assign.wpIn (alI.inRound l) 1 Gz.prog (Exit.then K λ_ _ _=>False) {tmps:=a.tmps.setIfInBounds p (a9 #[U O x.1.1,U O x.1.2]),defers:=[]} W)
  (q:∀(l:Nat)(pre:List RR)(x:RR)(W:AS)(f:Nat),I pre W->w.heap.size<=f->ak W f 126 #[U O x.1.1,U O x.1.2]->pre.length<(dy xs).length->
   body.wpIn (alI.inRound l) 1 Gz.prog (ownPostG w.heap.size (Kb b) I (λ_ _ _=>False) (pre++[x]) W) {tmps:=(a.tmps.setIfInBounds p (a9 #[U O x.1.1,U O x.1.2])).setIfInBounds d (bi (an ⟨f,0,ns⟩)),defers:=[]} W)
  (i:∀(D:Nat)(ys:List RR)(W:AS),w.heap.size<=D->kH ys=dy xs->I ys W->W.heap[D]?=an (.deferred (an []))->Q' .normal {a with defers:={target:=.collected D,args:=#[]}::a.defers} W):
  (Code.rangeFunc g #[p] assign body).wp Gz.prog Q' a w:=by
 refine wpIn_wide.1 (wpIn_rangeFunc_ownH (n:=3) rfl al (gf:=192) (lb:=#[bi (an ⟨b,0,ns⟩)]) j trivial (Gz.cl 192)
  (YJ 2 al E F) Kb.t (Kb.b u) (Below.refl _ _) (λ_=>rfl) I (λ_ _ _=>False) y (λ_ _ _ _ _ o _ _=>o) h0
  (λx z W=>∃f,w.heap.size<=f/\ak W f 126 #[U O x.1.1,U O x.1.2]/\z={tmps:=(a.tmps.setIfInBounds p (a9 #[U O x.1.1,U O x.1.2])).setIfInBounds d (bi (an ⟨f,0,ns⟩)),defers:=[]})
  (λx z s A C row⟨f,h1,G,H⟩ j J=>⟨f,h1,G.own j λr e=>(J r e).2,H⟩) ?_ ?_ i λ_ _ _ _ _ _ h _=>h.elim)
 ·intro l pre x W K hi hK;have e:(#[p].zip (qN x.1)).foldl (λt(p,v)=>t.setIfInBounds p v) a.tmps=a.tmps.setIfInBounds p (a9 #[U O x.1.1,U O x.1.2]):=by simp[qN]
  rw[e];refine c l x W K (hK _ _ ((KeepsOthers.alloc W _).from _) ?_ (y.alloc _ hi) ⟨W.heap.size,?_,ak.new W _ _,rfl⟩)
  ·exact Below.heap_alloc W _ b (bH u (o _ _ hi))
  ·grind
 ·simp_all
end
section
open Go.RowKit Go.WideShapes Go.ChangeShapes
def ahv(x:so)(w:AS):(method 377 195 x "loop.example/videocodec/impl.fits").run Gz.prog w=.ok (216,x) w:=aE
def inv1(x:so)(w:AS):(method 377 196 x "loop.example/videocodec/impl.fits").run Gz.prog w=.ok (217,x) w:=aE
def inv2(x:so)(w:AS):(method 377 229 x "loop.example/videocodec/impl.fits").run Gz.prog w=.ok (230,x) w:=aE
def DT(e:xs.length=64)(f:k<4)(w:AS):(alY 95 (a9 (arr xs)) (U O (k:Int))).run Gz.prog w=.ok (a9 (arr (sub xs (k*16) 16))) w:=by have h1:(0<=(k:Int)/\(k:Int)<((4:Nat):Int)):=aa;have b:¬4<=k:=aa;have c:=AW (t:=94) cN w;have d:=So (Gz.gu underlying94) rfl w;simp[alY,alP (Gz.gu underlying95),asIntOf,h1,go_sem,part,b,c,d,Q7]
def NF(d:xs.length=4)(e:k<4)(w:AS):(alY 93 (a9 (arr xs)) (U O (k:Int))).run Gz.prog w=.ok (U O (xs[k]?.getD 0)) w:=by have h1:(0<=(k:Int)/\(k:Int)<((4:Nat):Int)):=aa;have b:=nQ xs k aa;have c:¬4<=k:=aa;simp[alY,alP (Gz.gu underlying93),asIntOf,h1,go_sem,part,b,c]
def pB(m:List Int)(k:Nat):Bool:=(List.range k).all λj=>aS (lvl m j) 4080
def ab7(m:List Int)(k:Nat):pB m (k+1)=(pB m k&&aS (lvl m k) 4080):=by unfold pB;rw[akq,List.all_append];simp
def afn(b:k<4)(h:aS (lvl m k) 4080=Bz):pB m 4=Bz:=by
 cases c:pB m 4 with
 |false=>rfl
 |true=>have:=hU.1 c k (fR.2 b);rw[h] at this;cases this
def afo(b:m.length=71):pB m 4=aS (sub m 7 64) 4080:=by
 have h1:sub m 7 64=lvl m 0++(lvl m 1++(lvl m 2++lvl m 3)):=by exact KJ
 rw[h1,nO,nO,nO];unfold pB;simp only[akq,List.range_zero,List.nil_append,List.cons_append,List.all_cons,List.all_nil,Bool.and_true]
def AZ(m:List Int)(b:k<4):sub (sub m 7 64) (k*16) 16=lvl m k:=by unfold lvl sub;rw[List.drop_take,List.take_take,List.drop_drop,Nat.mul_comm k 16];congr 1;omega
def xz(m:List Int)(k:Nat):Bool:=((sub m 3 4).drop k).all λx=>decide (0<=x/\x<=4)
def ab8(c:m.length=71)(b:k<4):xz m k=(decide (0<=aq m (3+k)/\aq m (3+k)<=4)&&xz m (k+1)):=by
 have d:(sub m 3 4).length=4:=bS aa;unfold xz;rw[List.drop_eq_getElem_cons (show k<(sub m 3 4).length by omega),List.all_cons]
 have e:(sub m 3 4)[k]'aa=aq m (3+k):=by have:=gq m 3 4 k b;unfold aq;rw[<-this];simp[show k<(sub m 3 4).length by omega]
 rw[e]
def agi(w:AS)(f:m.length=71):aiK Gz.prog 217 #[a9 (arr m)] w λe w'=>e=be (a5 (jU m))/\Q w w':=by have g:=Nb.new 196 71 w m f;have h:Q w (w.alloc (ac (arr m) 196)):=(Q.refl _).alloc _;have i:=AX f;obtain⟨j,c⟩:∃b,(sub m 3 4==[0,0,0,0])=b:=⟨_,rfl⟩;rw[i,c];have d:=af c;go_enter Gz.gf func217,ntmps217;go_wp2_with(first|((with_reducible refine ep (ty:=93) _ 3 ?_ ?_ _ g 4 ?_ _ (Gz.gu underlying93) ?_ nP ?_);exact rfl;exact rfl;omega;exact rfl)|((with_reducible refine nE (t:=93) ?_ (sub m 3 4) [0,0,0,0] ?_ ?_ ?_ qA ?_);exact rfl;exact rfl;exact rfl;exact ru (bS aa) rfl;rw[d.out]));go_ret;exact⟨rfl,h⟩
def agj(w:AS)(h:m.length=71):aiK Gz.prog 216 #[a9 (arr m)] w λe w'=>e=be (a5 (lA m&&jU m&&qK m))/\Q w w':=by
 have s1:=bQ m;rw[h] at s1;have g:=Nb.new 195 71 w m h;have j:Q w (w.alloc (ac (arr m) 195)):=(Q.refl _).alloc _;have l:sub m 1 2=[aq m 1,aq m 2]:=lW m 1 aa;rw[F3 h,AX h,Rp h];obtain⟨p,c⟩:∃b,([aq m 1,aq m 2]==[0,0])=b:=⟨_,rfl⟩;obtain⟨q,d⟩:∃b,(sub m 3 4==[0,0,0,0])=b:=⟨_,rfl⟩;obtain⟨le,hle⟩:∃b,(sub m 7 64==rl 64 0)=b:=⟨_,rfl⟩;rw[c,d,hle];have f:=af c;have i:=af d;have o:=af hle;clear c d hle;go_enter Gz.gf func216,ntmps216;cases p with
 |false=>go_wp2_with(first|((with_reducible refine ep (ty:=92) _ 1 ?_ ?_ _ g 2 ?_ _ (Gz.gu underlying92) ?_ jR ?_);exact rfl;exact rfl;omega;exact rfl;rw[l])|((with_reducible refine nE (t:=92) ?_ [aq m 1,aq m 2] [0,0] ?_ ?_ ?_ om ?_);exact rfl;exact rfl;exact rfl;exact oA;rw[f.out]));go_ret;exact⟨rfl,j⟩
 |true=>cases q with|false=>go_wp2_with(first|((with_reducible refine ep (ty:=92) _ 1 ?_ ?_ _ g 2 ?_ _ (Gz.gu underlying92) ?_ jR ?_);exact rfl;exact rfl;omega;exact rfl;rw[l])|((with_reducible refine nE (t:=92) ?_ [aq m 1,aq m 2] [0,0] ?_ ?_ ?_ om ?_);exact rfl;exact rfl;exact rfl;exact oA;rw[f.out])|((with_reducible refine ep (ty:=93) _ 3 ?_ ?_ _ g 4 ?_ _ (Gz.gu underlying93) ?_ nP ?_);exact rfl;exact rfl;omega;exact rfl)|((with_reducible refine nE (t:=93) ?_ (sub m 3 4) [0,0,0,0] ?_ ?_ ?_ qA ?_);exact rfl;exact rfl;exact rfl;exact ru (bS aa) rfl;rw[i.out]));go_ret;exact⟨rfl,j⟩|true=>go_wp2_with(first|((with_reducible refine ep (ty:=92) _ 1 ?_ ?_ _ g 2 ?_ _ (Gz.gu underlying92) ?_ jR ?_);exact rfl;exact rfl;omega;exact rfl;rw[l])|((with_reducible refine nE (t:=92) ?_ [aq m 1,aq m 2] [0,0] ?_ ?_ ?_ om ?_);exact rfl;exact rfl;exact rfl;exact oA;rw[f.out])|((with_reducible refine ep (ty:=93) _ 3 ?_ ?_ _ g 4 ?_ _ (Gz.gu underlying93) ?_ nP ?_);exact rfl;exact rfl;omega;exact rfl)|((with_reducible refine nE (t:=93) ?_ (sub m 3 4) [0,0,0,0] ?_ ?_ ?_ qA ?_);exact rfl;exact rfl;exact rfl;exact ru (bS aa) rfl;rw[i.out])|((with_reducible refine ep (ty:=95) _ 7 ?_ ?_ _ g 64 ?_ _ (Gz.gu underlying95) ?_ vV ?_);exact rfl;exact rfl;omega;exact rfl)|((with_reducible refine nE (t:=95) ?_ (sub m 7 64) (rl 64 0) ?_ ?_ ?_ Sp ?_);exact rfl;exact rfl;exact rfl;exact Uj (bS aa) rfl;rw[o.out]));go_ret;exact⟨aj,j⟩
def agk(w:AS)(f:m.length=71):aiK Gz.prog 230 #[a9 (arr m)] w λe w'=>e=be (a5 (mz m&&lA m))/\Q w w':=by
 have s1:=bQ m;rw[f] at s1;have l:=Nb.new 229 71 w m f;have q0:Q w (w.alloc (ac (arr m) 229)):=(Q.refl _).alloc _;have o:sub m 1 2=[aq m 1,aq m 2]:=lW m 1 aa;have p:(sub m 3 4).length=4:=bS aa;rw[F3 f];obtain⟨x,c⟩:∃b,([aq m 1,aq m 2]==[0,0])=b:=⟨_,rfl⟩;rw[c];have g:=af c;clear c;go_enter Gz.gf func230,ntmps230;go_wp2_with((with_reducible refine ep (ty:=93) _ 3 ?_ ?_ _ l 4 ?_ _ (Gz.gu underlying93) ?_ nP ?_);exact rfl;exact rfl;omega;exact rfl);go_loop[7] (λi=>∃k:Nat,k<=4/\i=U O k/\Hid (mz m=xz m k)) (λi=>4-(intOf i).toNat)
 case atStart=>exact⟨0,aa,rfl,rfl⟩
 case round=>
  obtain⟨k,z,rfl,hr⟩:=hrel;by_cases d:k<4
  ·have q:(k:Int)<4:=by omega
   have he:=λw=>NF p d w;rw[gq m 3 4 k d] at he;have f9:=ab8 f d;unfold aq at f9;generalize m[3+k]?.getD 0=y at he f9;by_cases r:y<0
   ·exact Mr
   ·by_cases u:4<y
    ·exact Mr
    ·rw[decide_eq_true aa,alH] at f9;have jt:=af f9;exact Dn
  ·have h:k=4:=by omega
   subst h
   have j:Hid (mz m=AT):=by rw[Hid,hr.out];unfold xz;rw[List.drop_of_length_le aa];rfl
   go_wp2_with(first|((with_reducible refine ep (ty:=92) _ 1 ?_ ?_ _ l 2 ?_ _ (Gz.gu underlying92) ?_ jR ?_);exact rfl;exact rfl;omega;exact rfl;rw[o])|((with_reducible refine nE (t:=92) ?_ [aq m 1,aq m 2] [0,0] ?_ ?_ ?_ om ?_);exact rfl;exact rfl;exact rfl;exact oA;rw[g.out]));go_ret;exact⟨by rw[j.out];rfl,q0⟩
def lq(m:List Int):so:=if aq m 0=0 then em 195 (a9 (arr m)) else if aq m 0=1 then em 196 (a9 (arr m)) else if aq m 0=2 then em 229 (a9 (arr m)) else .nilIface
def kindOf(m:List Int)(w:AS)(f:m.length=71):aiK Gz.prog 151 #[a9 (arr m)] w λe w'=>e=be (lq m)/\Q w w':=by
 have s1:=bQ m;rw[f] at s1;have g:=Nb.new 97 71 w m f;have q0:Q w (w.alloc (ac (arr m) 97)):=(Q.refl _).alloc _;have h:sub m 1 2=[aq m 1,aq m 2]:=lW m 1 aa;have c0:=g.at 0 aa;rw[sub_one] at c0;unfold lq;obtain⟨b,d⟩:∃z,aq m 0=z:=⟨_,rfl⟩;rw[d] at c0⊢;by_cases h0:b=0
 ·rw[if_pos h0];subst h0;exact Dz
 ·have i:(b==0)=Bz:=by simp[h0]
  rw[if_neg h0];by_cases h1:b=1
  ·rw[if_pos h1];subst h1;exact Dz
  ·have j:(b==1)=Bz:=by simp[h1]
   rw[if_neg h1];by_cases c:b=2
   ·rw[if_pos c];subst c;exact Dz
   ·have l:(b==2)=Bz:=by simp[c]
    rw[if_neg c];go_enter Gz.gf func151,ntmps151;go_wp2;go_ret;exact⟨rfl,q0⟩
def Yd(x y:Int)(w:AS):aiK Gz.prog 169 #[a9 #[U O x,U O y]] w λe w'=>e=be (a5 (decide (-16<=x/\x<=16)&&decide (-16<=y/\y<=16)))/\Q w w':=by
 have e:(decide (-16<=x/\x<=16)&&decide (-16<=y/\y<=16))=(decide (-16<=x)&&(decide (x<=16)&&(decide (-16<=y)&&decide (y<=16)))):=by rw[Bool.decide_and,Bool.decide_and,Bool.and_assoc]
 rw[e];obtain⟨a,f⟩:∃b,decide (-16<=x)=b:=⟨_,rfl⟩;obtain⟨b,g⟩:∃b,decide (x<=16)=b:=⟨_,rfl⟩;obtain⟨c,hc⟩:∃b,decide (-16<=y)=b:=⟨_,rfl⟩;obtain⟨d,hd⟩:∃b,decide (y<=16)=b:=⟨_,rfl⟩;rw[f,g,hc,hd];go_enter Gz.gf func169,ntmps169;cases a with
 |false=>go_wp2;go_ret;exact⟨rfl,aU⟩
 |true=>
  cases b with
  |false=>go_wp2;go_ret;exact⟨rfl,aU⟩
  |true=>cases c with|false=>go_wp2;go_ret;exact⟨rfl,aU⟩|true=>go_wp2;go_ret;exact⟨by simp[*],aU⟩
end
section
open Go.RowKit Go.WideShapes Go.ChangeShapes
def D7(y:m.length=71){T:TO}{z:FuncId}(E:Bool)(F:lq m=em T (a9 (arr m)))(hm:dt m=(E&&lB m&&aS (sub m 7 64) 4080))
  (hi:∀(x:so)(w:AS),(method 377 T x "loop.example/videocodec/impl.fits").run Gz.prog w=.ok (z,x) w)(hc:∀(args:Array so)(w:AS),(callFunc z args).run Gz.prog w=.ok (.enter z args) w)
  (N:∀w,aiK Gz.prog z #[a9 (arr m)] w λe w'=>e=be (a5 E)/\Q w w'):
  aiK Gz.prog 147 #[a9 (arr m)] w λe w'=>e=be (a5 (dt m))/\Q w w':=by
 have s1:=bQ m;rw[y] at s1;have R:=Nb.new 97 71 w m y;have S:Q w (w.alloc (ac (arr m) 97)):=(Q.refl _).alloc _;have V:sub m 1 2=[aq m 1,aq m 2]:=lW m 1 aa;have f:=af (kindOf m (w.alloc (ac (arr m) 97)) y);rw[F] at f;obtain⟨vb,g⟩:∃b,lB m=b:=⟨_,rfl⟩;have c:=g;unfold lB at c;have A:=af (Yd (aq m 1) (aq m 2));rw[c] at A;rw[<-afo y,g] at hm;have C:=af hm;have X:=af N;clear N hm g c F;go_enter Gz.gf func147,ntmps147;go_wp2_with((with_reducible refine e8 (n:=71) rfl _ _ rfl _ rfl _ aG _ (Gz.gu underlying97) rfl gN ?_));refine f.out.mono ?_;rintro e Z⟨rfl,q1⟩;have h:=R.q q1;have G:=S.trans q1;clear R S q1 f;cases vb with
 |false=>go_wp2_with((with_reducible refine ep (ty:=92) _ 1 ?_ ?_ _ h 2 ?_ _ (Gz.gu underlying92) ?_ jR ?_);exact rfl;exact rfl;omega;exact rfl;rw[V]);refine(A.out Z).mono ?_;rintro e w3⟨rfl,p⟩;go_wp2;go_ret;exact⟨by rw[C.out];simp,G.trans p⟩
 |true=>
  go_wp2_with((with_reducible refine ep (ty:=92) _ 1 ?_ ?_ _ h 2 ?_ _ (Gz.gu underlying92) ?_ jR ?_);exact rfl;exact rfl;omega;exact rfl;rw[V]);refine(A.out Z).mono ?_;rintro e w3⟨rfl,p⟩;go_wp2;refine(X.out _).mono ?_;rintro e w4⟨rfl,H⟩;have b4:=(h.q p).q H;have I:=(G.trans p).trans H;clear h G p H A X;have h:=b4;clear b4;cases E with
  |false=>go_wp2;go_ret;exact⟨by rw[C.out];simp,I⟩
  |true=>
   have Q5:=af I;clear I;go_wp2_with((with_reducible refine ep (ty:=95) _ 7 ?_ ?_ _ h 64 ?_ _ (Gz.gu underlying95) ?_ vV ?_);exact rfl;exact rfl;omega;exact rfl);have J:(sub m 7 64).length=64:=bS aa;clear h;go_loopw[23] (λi wr=>∃k:Nat,k<=4/\i=U O k/\Hid (pB m k=AT/\Q w wr)) (λi _=>4-(intOf i).toNat)
   case atStart=>exact⟨0,aa,rfl,rfl,Q5.out⟩
   case round=>
    obtain⟨k,F,rfl,hK⟩:=hrel;obtain⟨D,K⟩:=hK.out;clear hK Q5;by_cases l:k<4
    ·have i6:(k:Int)<4:=by omega
     have he:=λw=>DT J l w;rw[AZ m l] at he;have r:(lvl m k).length=16:=by unfold lvl;exact bS (by omega)
     have d:=ab7 m k;rw[D,alH] at d;obtain⟨bL,o⟩:∃b,aS (lvl m k) 4080=b:=⟨_,rfl⟩;rw[o] at d;have u:=af o;have L:=af d;have Y2:=af K;clear o d D K;go_wp2_with(first|((refine dx (n:=16) rfl _ _ _ rfl _ rfl _ _ aD (Nb.new 94 16 _ (rl 16 0) rfl) r cN ?_;intro w9 bl g9 s9;rw[World.size_alloc] at s9))|((with_reducible refine e8 (n:=16) rfl _ _ rfl _ rfl _ bl _ (Gz.gu underlying94) rfl cN ?_)));have q9:=(Y2.out.alloc (ac (arr (rl 16 0)) 94)).grown g9 (λj e=>by have:=aJ e;have:=Y2.out.size;omega);refine(zE r al al u).mono ?_;rintro e w5⟨rfl,q6⟩;cases bL with
     |false=>go_wp2;go_ret;exact⟨by rw[C.out,afn l u.out];simp,q9.trans q6⟩
     |true=>
      go_wp2;go_roundw;case rel=>exact⟨k+1,aa,aF,by rw[L.out],q9.trans q6⟩
      case measure=>exact aT
    ·have M:k=4:=by omega
     subst M;have Y0:=af D;clear D;go_wp2;go_ret;exact⟨by rw[C.out,Y0.out];simp,K⟩
def YK(w:AS)(b:m.length=71):aiK Gz.prog 147 #[a9 (arr m)] w λe w'=>e=be (a5 (dt m))/\Q w w':=by
 by_cases h0:aq m 0=0
 ·exact D7 b (lA m&&jU m&&qK m) (by unfold lq;rw[if_pos h0]) (by unfold dt kt;rw[if_pos h0]) ahv (Gz.cl 216) (λw=>agj w b)
 ·by_cases h1:aq m 0=1
  ·exact D7 b (jU m) (by unfold lq;rw[if_neg h0,if_pos h1]) (by unfold dt kt;rw[if_neg h0,if_pos h1]) inv1 (Gz.cl 217) (λw=>agi w b)
  ·by_cases c:aq m 0=2
   ·exact D7 b (mz m&&lA m) (by unfold lq;rw[if_neg h0,if_neg h1,if_pos c]) (by unfold dt kt;rw[if_neg h0,if_neg h1,if_pos c]) inv2 (Gz.cl 230) (λw=>agk w b)
   ·have d:Hid (dt m=Bz):=Pa aa;have f:=af (kindOf m (w.alloc (ac (arr m) 97)) b);have h:lq m=.nilIface:=by unfold lq;rw[if_neg h0,if_neg h1,if_neg c]
    have i:=Nb.new 97 71 w m b;have g:Q w (w.alloc (ac (arr m) 97)):=(Q.refl _).alloc _;go_enter Gz.gf func147,ntmps147;go_wp2_with((with_reducible refine e8 (n:=71) rfl _ _ rfl _ rfl _ aG _ (Gz.gu underlying97) rfl gN ?_));refine f.out.mono ?_;rintro e j⟨rfl,q1⟩;go_wp2;go_ret;exact⟨by rw[d.out];rfl,g.trans q1⟩
end
end Go.Proofs.Q0
