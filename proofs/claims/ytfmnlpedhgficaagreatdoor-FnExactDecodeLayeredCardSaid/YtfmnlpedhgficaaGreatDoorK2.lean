import Derived.Test.YtfmnlpedhgficaaGreatDoorK1
import Derived.Conc.WgArith
import Derived.Deep.RegionLawGrows
import Derived.StillTailTactics
import Derived.Deep.RegionWith
import Derived.Deep.DeepCutAuto
import Derived.Lib.Strings
import Derived.Lib.Slices
import Derived.Lib.Small
import Derived.Lib.Walk
import Derived.Lib.BitFns
set_option maxRecDepth 100000
set_option maxHeartbeats 8000000
set_option linter.all false
open Go.Value renaming int->U,slice->Y,bool->a5,agg->a9,pointer->bi,tuple->ci,iface->em
open Go.IntKind renaming i64->O
open Go.Obj renaming cells->ac
open Go.Ending renaming returned->be
open Array renaming getElem?_append_left->alG
open Go renaming Addr->ajF,Calls->aiK,Value->so,World->AS,bodyPost_end->alp
open Go.IntKind renaming i64->EV,u64->akn
open Go.Lib renaming bitLen->aky
open Int renaming tdiv_eq_ediv_of_nonneg->ajZ
open List renaming append_assoc->ajH,getElem?_set_ne->akj,length_append->ajq,length_cons->ajE,length_nil->akU,replicate->rl
open Option renaming getD_some->ajG,none->ns,some->an
namespace Go.Proofs
def Kt{p:Prop}(h:p:=by
  refine⟨h.1,?_⟩;obtain⟨h1,h2⟩:=h.2;refine⟨h1,?_⟩;rcases h2 with h2|⟨g,cap,cur,hv,hB,hg,r⟩
  ·simp_all
  ·refine .inr ⟨g,cap,cur,hv,hB,?_,r⟩;rcases dg g w.heap.size with aV|G'
   ·exact(k.block g aV λe=>by have:=hs g e;omega).trans hg
   ·simp_all):p:=h
def yB{p:Prop}(h:p:=by rw[Int.tdiv_eq_ediv_of_nonneg (by omega)];omega):p:=h
def jF{p:Prop}(h:p:=by go_wp2;all_goals(go_ret;exact⟨by rw[H.out];rfl,rfl⟩)):p:=h
def yT{p:Prop}(h:p:=by rw[Int.tdiv_eq_ediv_of_nonneg h1];omega):p:=h
def CX{p:Prop}(h:p:=by rw[<-IntWalk.i64_left];exact IntWalk.i64_in _ ⟨by omega,by omega⟩):p:=h
abbrev j8:=@ajZ
abbrev oN:=@Go.Calls.quiet_of_same
def rP{p:Prop}(h:p:=by rw[Pi.out,CD.out];exact h3):p:=h
end Go.Proofs
namespace Go.Proofs.Q0
open Go.Proofs.Tryz
variable{g n B b k c:Nat}{t:TypeId}{xs:List Int}{A:Option ajF}{w:AS}{x:Int}{s:so}{S:List Nat}
section
open Go.RowKit Go.WideShapes Go.ChangeShapes
structure au(S:List Nat)(w w':AS):Prop where
 os:w'.os=w.os
 tape:w'.tape=w.tape
 output:w'.output=w.output
 size:w.heap.size<=w'.heap.size
 block:∀k,k<w.heap.size->k∉S->w'.heap[k]?=w.heap[k]?
section
variable{S T:List Nat}{a b w w':AS}
def au.refl(S:List Nat)(w:AS):au S w w:=⟨rfl,rfl,rfl,av _,λ_ _ _=>rfl⟩
def au.trans(h:au S a b)(k:au S b w):au S a w:=
 ⟨k.os.trans h.os,k.tape.trans h.tape,k.output.trans h.output,aI h.size k.size,λi hi e=>(k.block i (bH hi h.size) e).trans (h.block i hi e)⟩
def au.more(h:au S a b)(f:∀k,k∈S->k∈T):au T a b:=⟨h.os,h.tape,h.output,h.size,λi hi j=>h.block i hi λe=>j (f i e)⟩
def au.gV(S:List Nat)(h:Q a b):au S a b:=⟨h.os,h.tape,h.output,h.size,λi hi _=>h.block i hi⟩
def au.q(h:au S a w)(k:Q w w'):au S a w':=h.trans (.gV S k)
def au.dD(h:a.grownBy b (an g)):au [g] a b:=⟨h.os,h.tape,h.output,h.size,λi hi f=>h.block i hi λe=>f (by injection e with e;simp[e])⟩
def au.grown(h:au S a w)(k:w.grownBy w' (an g))(f:g∈S\/a.heap.size<=g):au S a w':=
 ⟨k.os.trans h.os,k.tape.trans h.tape,k.output.trans h.output,aI h.size k.size,λi hi j=>(k.block i (bH hi h.size) (λe=>by
  injection e with e;rcases f with f|f
  ·simp_all
  ·omega)).trans (h.block i hi j)⟩
def au.Gm{row:Option Nat}(h:au S a w)(k:w.grownBy w' row)(f:∀g,row=an g->g∈S\/a.heap.size<=g):au S a w':=
 ⟨k.os.trans h.os,k.tape.trans h.tape,k.output.trans h.output,aI h.size k.size,λi hi j=>(k.block i (bH hi h.size) (λe=>by
  rcases f i e.symm with f|f
  ·simp_all
  ·omega)).trans (h.block i hi j)⟩
def au.az(h:au S a w)(k:au T w w')(f:∀g,g∈T->g∈S\/a.heap.size<=g):au S a w':=
 ⟨k.os.trans h.os,k.tape.trans h.tape,k.output.trans h.output,aI h.size k.size,λi hi j=>(k.block i (bH hi h.size) (λe=>by
  rcases f i e with f|f
  ·simp_all
  ·omega)).trans (h.block i hi j)⟩
def au.set(h:au S a w){p:ajF}(hp:p.block∈S\/a.heap.size<=p.block)(u:so):au S a (w.setCell p u):=
 ⟨h.os,h.tape,h.output,by simpa[World.setCell] using h.size,λi hi f=>(jh w p u i (λe=>by
  rcases hp with hp|hp
  ·simp_all
  ·omega)).trans (h.block i hi f)⟩
def au.alloc(h:au S a w)(o:Obj):au S a (w.alloc o):=h.q ((Q.refl w).alloc o)
def au.drew(h:au S a w):au S a w.drew:=h.q (Q.refl w).drew
def au.drewN(h:au S a w)(n:Nat):au S a (w.drewN n):=h.q ((Q.refl w).drewN n)
def au.toQ(h:au S w w')(hq:Q a w)(f:∀k,k∈S->a.heap.size<=k):Q a w':=by have e:=(au.gV [] hq).az h λg i=>.inr (f g i);exact Q.iS ⟨e.os,e.tape,e.output,e.size,λk j _=>e.block k j aj⟩
def au.nil(h:au [] w w'):Q w w':=h.toQ (Q.refl w) aj
def ak.az{cs:Array so}(h:ak w g t cs)(k:au S w w')(e:g∉S):ak w' g t cs:=(k.block g h.lt e).trans h
def Nb.az(h:Nb t n w g xs)(k:au S w w')(e:g∉S):Nb t n w' g xs:=⟨h.blk.az k e,h.len⟩
def nK(k:au S w w'){b o:Nat}(e:b<w.heap.size)(f:b∉S):w'.cell? ⟨b,o,ns⟩=w.cell? ⟨b,o,ns⟩:=oM (a:=⟨b,o,ns⟩) (k.block b e f)
def Rd.az(h:Rd w B A xs)(k:au S w w')(i:B<=w.heap.size)(f:∀g,g∈S->B<=g):Rd w' B A xs:=
 h.keep λb o j=>nK k aa (λe=>by have:=f b e;omega)
def bB.az(h:bB w B A xs)(k:au S w w')(i:B<=w.heap.size)(f:∀g,g∈S->B<=g):bB w' B A xs:=
 h.keep λb o j=>nK k aa (λe=>by have:=f b e;omega)
def Own.az{v:so}(h:Own w B v n xs)(k:au S w w')(hs:∀g,g∈S->g<B):Own w' B v n xs:=by exact Kt
def ay.az{s:Nat}{v:so}(h:ay t s w B v n xs)(k:au S w w')(hs:∀g,g∈S->g<B):ay t s w' B v n xs:=by exact Kt
end
def kV{P:Program}{fn:Func}{p a:Tmp}{ty:TypeId}(h:fn.results=#[.cell p ty,.tmp a]){tmps:Array so}{cs:Array so}{fr:Nat×Nat}{d:TypeDesc}
  (i:tmps.getD p undef=bi (an ⟨g,0,ns⟩))(f:w.heap[g]?=an (ac cs t fr))
  (hu:P.underlying ty=an d)(hd:(match d with|.struct _|.array _ _=>true|_=>false)=true)(hi:(P.info? ty).map (·.size)=an cs.size):
  (results fn tmps).run P w=.ok (ci #[a9 cs,tmps.getD a undef]) w:=by
 have e:tmps[p]?.getD undef=bi (an ⟨g,0,ns⟩):=eY;simp[results,h,e,asAddr,run_loadVar_row w g t ty cs fr d f hu hd hi,Sem.run_bind,Result.andThen]
def fl(e:List (Int×Int)):List Int:=e.flatMap λr=>[r.1,r.2]
def Sk:∀e:List (Int×Int),(fl e).length=e.length*2
 |[]=>rfl
 |r::e=>by have:=Sk e;simp only[fl,List.flatMap_cons,ajq,ajE,akU] at this⊢;omega
def Bn:∀(f:List (Int×Int))(k:Nat)(i:k<f.length),(fl f)[k*2]?.getD 0=f[k].1/\(fl f)[k*2+1]?.getD 0=f[k].2
 |[],k,h=>by simp at h
 |r::f,0,_=>⟨rfl,rfl⟩
 |r::f,k+1,h=>by have:=Bn f k kU;have e:fl (r::f)=r.1::r.2::fl f:=rfl;rw[e,show(k+1)*2=k*2+2 by omega];simpa using this
def FY(e:List (Int×Int))(r:Int×Int):fl (e++[r])=fl e++[r.1,r.2]:=by simp[fl]
end
section
open Go.RowKit
def bj(p bit:Int):Int:=if bit=0 then p+(4096-p)/16 else p-p/16
def OI{p bit:Int}(h1:1<=p)(e:p<=4095):1<=bj p bit/\bj p bit<=4095:=by unfold bj;split<;>omega
def Ny(p:Int)(w:AS)(h1:1<=p)(f:p<=4095):
  aiK Gz.prog 196 #[U O p,U O 0] w λe w'=>e=be (U O (bj p 0))/\w=w':=by
 have e:bj p 0=p+(4096-p).tdiv 16:=by unfold bj;rw[if_pos rfl,ajZ aa]
 have h:0<=(4096-p).tdiv 16:=yB;have i:(4096-p).tdiv 16<=256:=yB;have H:=af e;go_enter Gz.gf func196,ntmps196;exact jF
def Nz(p:Int)(w:AS)(h1:1<=p)(f:p<=4095):
  aiK Gz.prog 196 #[U O p,U O 1] w λe w'=>e=be (U O (bj p 1))/\w=w':=by
 have e:bj p 1=p-p.tdiv 16:=by unfold bj;rw[if_neg al,ajZ aa]
 have h:0<=p.tdiv 16:=yB;have i:p.tdiv 16<=256:=yB;have H:=af e;go_enter Gz.gf func196,ntmps196;exact jF
theorem Na(p:Int)(w:AS)(h1:1<=p)(f:p<=4095):
  aiK Gz.prog 125 #[U O p,U O 0] w λe w'=>e=be (U O (bj p 0))/\w=w':=by
 have e:bj p 0=p+(4096-p).tdiv 16:=by unfold bj;rw[if_pos rfl,ajZ aa]
 have j:0<=(4096-p).tdiv 16:=fu;have l:(4096-p).tdiv 16<=256:=fu;have H:=af e;have h:=af (show decide (1<=p/\p<=4095)=true from decide_eq_true ⟨h1,f⟩);have i:=af (show decide ((0:Int)<=0/\(0:Int)<=1)=true from rfl);go_enter Gz.gf func125,ntmps125;go_wp2;(go_at_call 14;(with_reducible refine(bZ _ h).mono ?_);rintro e w'⟨rfl,rfl⟩)
 go_wp2;(go_at_call 14;(with_reducible refine(bZ _ i).mono ?_);rintro e w'⟨rfl,rfl⟩)
 exact jF
theorem Nc(p:Int)(w:AS)(h1:1<=p)(f:p<=4095):
  aiK Gz.prog 125 #[U O p,U O 1] w λe w'=>e=be (U O (bj p 1))/\w=w':=by
 have e:bj p 1=p-p.tdiv 16:=by unfold bj;rw[if_neg al,ajZ aa]
 have j:0<=p.tdiv 16:=fu;have l:p.tdiv 16<=256:=fu;have H:=af e;have h:=af (show decide (1<=p/\p<=4095)=true from decide_eq_true ⟨h1,f⟩);have i:=af (show decide ((0:Int)<=1/\(1:Int)<=1)=true from rfl);go_enter Gz.gf func125,ntmps125;go_wp2;(go_at_call 14;(with_reducible refine(bZ _ h).mono ?_);rintro e w'⟨rfl,rfl⟩)
 go_wp2;(go_at_call 14;(with_reducible refine(bZ _ i).mono ?_);rintro e w'⟨rfl,rfl⟩)
 exact jF
end
section
open Go.RowKit
def aX(n:Int):Int:=if n<0\/65534<n then 0 else if n%2=1 then(n+1)/2 else -(n/2)
def Xm{n:Int}(w:AS)(h:n<0\/65534<n):
  aiK Gz.prog 166 #[U O n] w λe w'=>e=be (U O (aX n))/\w=w':=by
 have e:aX n=0:=by unfold aX;rw[if_pos h]
 have H:=af e;rcases h with h|h
 ·go_enter Gz.gf func166,ntmps166;exact jF
 ·have f:0<=n:=by omega
  go_enter Gz.gf func166,ntmps166;exact jF
def XA(n:Int)(w:AS)(h1:0<=n)(l:n<=65534):
  aiK Gz.prog 166 #[U O n] w λe w'=>e=be (U O (aX n))/\w=w':=by
 by_cases h:n%2=1
 ·have e:aX n=(n+1)/2:=by unfold aX;rw[if_neg aa,if_pos h]
  have hc:((n%2:Int)==1)=true:=kU;have H:=af e;go_enter Gz.gf func166,ntmps166;exact jF
 ·have e:aX n= -n.tdiv 2:=by unfold aX;rw[if_neg aa,if_neg h,ajZ h1]
  have hc:((n%2:Int)==1)=false:=kU;have i:0<=n.tdiv 2:=yT;have j:n.tdiv 2<=40000:=yT;have f:wrap64 (-n.tdiv 2)= -n.tdiv 2:=CX;have H:=af (e.trans f.symm);clear e h i j f;go_enter Gz.gf func166,ntmps166;exact jF
def Xn{n:Int}(w:AS)(h1:0<=n)(j:n<=65534):
  aiK Gz.prog 90 #[U O n] w λe w'=>e=be (U O (aX n))/\w=w':=by
 have f:Hid (decide (0<=n/\n<=65534)=true):=decide_eq_true ⟨h1,j⟩;by_cases h:n%2=1
 ·have e:aX n=(n+1)/2:=by unfold aX;rw[if_neg aa,if_pos h]
  have hc:((n%2:Int)==1)=true:=kU;have H:=af e;go_enter Gz.gf func90,ntmps90;go_wp2;(go_at_call 14;(with_reducible refine(bZ _ f).mono ?_);rintro e w'⟨rfl,rfl⟩)
  exact jF
 ·have e:aX n= -n.tdiv 2:=by unfold aX;rw[if_neg aa,if_neg h,ajZ h1]
  have hc:((n%2:Int)==1)=false:=kU;have l:0<=n.tdiv 2:=yT;have m:n.tdiv 2<=40000:=yT;have i:wrap64 (-n.tdiv 2)= -n.tdiv 2:=CX;have H:=af (e.trans i.symm);clear e h l m i;go_enter Gz.gf func90,ntmps90;go_wp2;(go_at_call 14;(with_reducible refine(bZ _ f).mono ?_);rintro e w'⟨rfl,rfl⟩)
  exact jF
end
structure ax where
 code:Int
 span:Int
 ch:List Int
 rest:List Int
def u64(x:Int):Int:=x%18446744073709551616
def u64_in(h:0<=x)(k:x<18446744073709551616):u64 x=x:=Int.emod_eq_of_lt h k
def cV(d:ax):ax:={d with code:=u64 (d.code%16777216*256+d.rest.headD 0),rest:=d.rest.tail}
def feed(d:ax):ax:={cV d with span:=d.span*256}
def jO(d:ax):ax:=if d.span<16777216 then(if d.span*256<16777216 then feed (feed d) else feed d) else d
def dZ(d:ax)(c:Nat):Int:=d.span/4096*d.ch[c]?.getD 0
def cU(d:ax)(c:Nat):Int:=if d.code<dZ d c then 0 else 1
def dP(d:ax)(c:Nat):ax:=
 if d.code<dZ d c then{d with span:=dZ d c,ch:=d.ch.set c (bj (d.ch[c]?.getD 0) 0)}
 else{d with code:=d.code-dZ d c,span:=d.span-dZ d c,ch:=d.ch.set c (bj (d.ch[c]?.getD 0) 1)}
def bO(d:ax)(c:Nat):ax:=jO (dP d c)
structure bT(d:ax):Prop where
 lo:16777216<=d.span
 hi:d.span<=4294967295
 c0:0<=d.code
 c1:d.code<18446744073709551616
 len:d.ch.length=40
 ch:∀k,k<40->1<=d.ch[k]?.getD 0/\d.ch[k]?.getD 0<=4095
def lY{s p:Int}(h1:16777216<=s)(h:s<=4294967295)(e:1<=p)(f:p<=4095):4096<=s/4096*p/\s/4096*p<=s-4096/\4096<=s/4096/\s/4096<=1048575:=by have i:s/4096*1<=s/4096*p:=Int.mul_le_mul_of_nonneg_left e aa;have j:s/4096*p<=s/4096*4095:=Int.mul_le_mul_of_nonneg_left f aa;omega
structure xt(d:ax):Prop where
 lo:4096<=d.span
 hi:d.span<=4294967295
 c0:0<=d.code
 c1:d.code<18446744073709551616
 len:d.ch.length=40
 ch:∀k,k<40->1<=d.ch[k]?.getD 0/\d.ch[k]?.getD 0<=4095
def bT.nk{d:ax}(h:bT d)(c:Nat)(hc:c<40):xt (dP d c):=by
 obtain⟨i,j⟩:=h.ch c hc;obtain⟨m,q,_,_⟩:=lY h.lo h.hi i j;have l:=h.len
 have f:∀b:Int,∀k,k<40->1<=(d.ch.set c (bj (d.ch[c]?.getD 0) b))[k]?.getD 0/\(d.ch.set c (bj (d.ch[c]?.getD 0) b))[k]?.getD 0<=4095:=by
  intro b k o;by_cases e:c=k
  ·subst e;simp only[List.getElem?_set_self (show c<d.ch.length by omega),ajG];exact OI i j
  ·rw[akj e];exact h.ch k o
 have:=h.c1;unfold dP;split
 ·exact⟨m,by show dZ d c<=_;unfold dZ;omega,h.c0,h.c1,by simp[l],f 0⟩
 ·rename_i p;unfold dZ at p;refine⟨?_,?_,?_,?_,by simp[l],f 1⟩
  ·show 4096<=d.span-dZ d c;unfold dZ;omega
  ·show d.span-dZ d c<=_;unfold dZ;omega
  ·show 0<=d.code-dZ d c;unfold dZ;omega
  ·show d.code-dZ d c<_;unfold dZ;omega
def jM:0<=u64 x/\u64 x<18446744073709551616:=⟨Int.emod_nonneg _ al,Int.emod_lt_of_pos _ al⟩
def xt.jO{d:ax}(h:xt d):bT (jO d):=by
 have:=h.lo;unfold Go.Proofs.Q0.jO;split
 ·split
  ·exact⟨by show 16777216<=d.span*256*256;omega,by show d.span*256*256<=_;omega,(jM).1,(jM).2,h.len,h.ch⟩
  ·exact⟨by show 16777216<=d.span*256;omega,by show d.span*256<=_;omega,(jM).1,(jM).2,h.len,h.ch⟩
 ·exact⟨aa,h.hi,h.c0,h.c1,h.len,h.ch⟩
def bT.jY{d:ax}(h:bT d)(c:Nat)(hc:c<40):bT (bO d c):=(h.nk c hc).jO
def fA(data:List Int):ax:=⟨0,4294967295,rl 40 2048,data⟩
def eG(data:List Int):ax:=cV (cV (cV (cV (fA data))))
def Fp(data:List Int):bT (eG data):=
 ⟨by show(16777216:Int)<=4294967295;omega,by show(4294967295:Int)<=4294967295;omega,(jM).1,(jM).2,rfl,λk e=>by have:(eG data).ch=rl 40 2048:=rfl;rw[this,List.getElem?_replicate,if_pos e];decide⟩
def gT(b:Nat):Nat->Nat->ax->Option Nat×ax
 |0,_,d=>(ns,d)
 |f+1,k,d=>if cU d (b+min k 5)=1 then gT b f (k+1) (bO d (b+min k 5)) else(an k,bO d (b+min k 5))
def tailD(b:Nat):Nat->Int->ax->Int×ax
 |0,n,d=>(n,d)
 |j+1,n,d=>tailD b j (2*n+cU d (b+6)) (bO d (b+6))
def aQ(b:Nat)(d:ax):Option Int×ax:=
 match gT b 16 0 d with
 |(ns,e)=>(ns,e)
 |(an k,e)=>(an ((tailD b k 1 e).1-1),(tailD b k 1 e).2)
def nN(d:ax)(c:Nat):cU d c=0\/cU d c=1:=by unfold cU;split<;>simp
def PY{b:Nat}(i:b+5<40):∀(f k:Nat){d:ax},bT d->bT (gT b f k d).2
 |0,_,_,h=>h
 |f+1,k,d,h=>by
  have e:=h.jY (b+min k 5) aa;rw[gT];split
  ·exact PY i f (k+1) e
  ·exact e
def PZ{b:Nat}:∀(f k:Nat){d:ax}{j:Nat},(gT b f k d).1=an j->j<k+f
 |0,_,_,_,h=>by simp[gT] at h
 |f+1,k,d,j,h=>by
  rw[gT] at h;split at h
  ·have:=PZ f (k+1) h;omega
  ·simp at h;omega
def P0{b:Nat}(e:b+6<40):∀(j:Nat)(n:Int){d:ax},bT d->bT (tailD b j n d).2
 |0,_,_,h=>h
 |j+1,n,d,h=>P0 e j _ (h.jY (b+6) e)
theorem P4{b:Nat}:∀(j:Nat)(n:Int)(d:ax),n*2^j<=(tailD b j n d).1/\(tailD b j n d).1<(n+1)*2^j
 |0,n,d=>by simp only[tailD];omega
 |j+1,n,d=>by
  rw[tailD];obtain⟨h1,f⟩:=P4 (b:=b) j (2*n+cU d (b+6)) (bO d (b+6));generalize(tailD b j (2*n+cU d (b+6)) (bO d (b+6))).1=r at h1 f⊢;have h:(0:Int)<2^j:=by exact Int.pow_pos (by decide)
  have e:(2:Int)^(j+1)=2^j*2:=by rw[Int.pow_succ]
  rw[e];generalize(2:Int)^j=p at h h1 f⊢;rcases nN d (b+6) with hb|hb<;>rw[hb] at h1 f
  ·constructor
   ·have:n*(p*2)=(2*n+0)*p:=by rw[Int.add_zero,Int.mul_comm 2 n,Int.mul_assoc,Int.mul_comm 2 p]
    omega
   ·have:(n+1)*(p*2)=(2*n+0+1)*p+p:=by grind
    omega
  ·constructor
   ·have:n*(p*2)+p=(2*n+1)*p:=by grind
    omega
   ·have:(n+1)*(p*2)=(2*n+1+1)*p:=by grind
    omega
def adE(f:b+6<40){d:ax}(h:bT d):bT (aQ b d).2:=by
 have h1:=PY (b:=b) aa 16 0 h;unfold aQ;split
 ·simp_all
 ·rename_i k i e;rw[e] at h1;exact P0 f k 1 h1
def kj{d:ax}{n:Int}(h:(aQ b d).1=an n):0<=n/\n<=65534:=by
 unfold aQ at h;split at h
 ·cases h
 ·rename_i k f e;have i:=PZ (b:=b) 16 0 (d:=d) (j:=k) oH;obtain⟨h1,l⟩:=P4 (b:=b) k 1 f;have m:(tailD b k 1 f).1-1=n:=eY
  have o:(2:Int)^k<=32768:=by have:(2:Nat)^k<=2^15:=Nat.pow_le_pow_right al aa;have:((2^k:Nat):Int)<=((2^15:Nat):Int):=aa;exact this
  omega
section
open Go.RowKit Go.WideShapes Go.ChangeShapes
def ez(d:ax)(s:so):Array so:=#[.int .u64 d.code,.int .u64 d.span]++arr d.ch++#[s]
def Gn{d:ax}:(ez d s)[0]?=an (.int .u64 d.code):=by rw[ez,Array.append_assoc,alG aj];rfl
def Sl{d:ax}:(ez d s)[1]?=an (.int .u64 d.span):=by rw[ez,Array.append_assoc,alG aj];rfl
def Sm{d:ax}(h:d.ch.length=40)(e:k<40):(ez d s)[2+k]?=an (U O (d.ch[k]?.getD 0)):=by unfold ez;rw[alG (by simp[arr];omega),Array.getElem?_append_right aj];rw[<-nQ d.ch k aa];simp
def Gp{d:ax}(h:d.ch.length=40):(ez d s)[42]?=an s:=by unfold ez;simp[arr,h]
def OJ(d:ax)(s:so)(x:Int):(ez d s).setIfInBounds 0 (.int .u64 x)=ez {d with code:=x} s:=by simp[ez]
def OL(d:ax)(s:so)(x:Int):(ez d s).setIfInBounds 1 (.int .u64 x)=ez {d with span:=x} s:=by simp[ez]
def OM{d:ax}(h:d.ch.length=40)(e:k<40)(x:Int):(ez d s).setIfInBounds (2+k) (U O x)=ez {d with ch:=d.ch.set k x} s:=by simp only[ez,arr,Array.toList_setIfInBounds,Array.toList_append,ajH];rw[show 2+k=k+2 by omega];simp[List.set_append,h,e,List.map_set]
def ON{d:ax}{e:so}(r:List Int)(h:d.ch.length=40):(ez d s).setIfInBounds 42 e=ez {d with rest:=r} e:=by simp only[ez,arr,Array.toList_setIfInBounds,Array.toList_append,ajH];simp[List.set_append,h]
structure DB(w:AS)(g:Nat)(d:ax)(B:Nat)(A:Option ajF)(c:Nat):Prop where
 blk:ak w g 208 (ez d (Y A d.rest.length c))
 rd:bB w B A d.rest
 le:B<=g
 len:d.ch.length=40
 cap:d.rest.length<=c/\c<=maxLen
section
variable{w w':AS}{g B c:Nat}{d:ax}{A:Option ajF}
def DB.q(h:DB w g d B A c)(hq:Q w w'):DB w' g d B A c:=⟨h.blk.q hq,h.rd.q hq (aI h.le (Nat.le_of_lt h.blk.lt)),h.le,h.len,h.cap⟩
def DB.az(h:DB w g d B A c)(k:au S w w')(e:∀x,x∈S->B<=x)(f:g∉S):DB w' g d B A c:=
 ⟨h.blk.az k f,h.rd.az k (aI h.le (Nat.le_of_lt h.blk.lt)) e,h.le,h.len,h.cap⟩
def DB.aN(h:DB w g d B A c){p:ajF}(e:g≠p.block)(f:B<=p.block)(u:so):DB (w.setCell p u) g d B A c:=
 ⟨h.blk.aN e u,h.rd.keep λb o i=>oM (a:=⟨b,o,ns⟩) (jh w p u b aa),h.le,h.len,h.cap⟩
def DB.lt(h:DB w g d B A c):g<w.heap.size:=h.blk.lt
def DB.code(h:DB w g d B A c):w.cell? ⟨g,0,ns⟩=an (.int .u64 d.code):=(h.blk.cell 0).trans Gn
def DB.span(h:DB w g d B A c):w.cell? ⟨g,1,ns⟩=an (.int .u64 d.span):=(h.blk.cell 1).trans Sl
def DB.jP(h:DB w g d B A c)(k:Nat)(e:k<40):w.cell? ⟨g,2+k,ns⟩=an (U O (d.ch[k]?.getD 0)):=(h.blk.cell (2+k)).trans (Sm h.len e)
def DB.rest(h:DB w g d B A c):w.cell? ⟨g,42,ns⟩=an (Y A d.rest.length c):=(h.blk.cell 42).trans (Gp h.len)
def DB.free(h:DB w g d B A c)(i:Nat):w.frozen? ⟨g,i,ns⟩=false:=h.blk.free i
def DB.Bs(h:DB w g d B A c)(i:Nat)(u:so):bB (w.setCell ⟨g,i,ns⟩ u) B A d.rest:=h.rd.keep λb o e=>oM (a:=⟨b,o,ns⟩) (jh w _ u b (by have:=h.le;simp;omega))
def DB.jr(h:DB w g d B A c)(x:Int):DB (w.setCell ⟨g,0,ns⟩ (.int .u64 x)) g {d with code:=x} B A c:=
 ⟨by have:=h.blk.set 0 (.int .u64 x);rw[OJ] at this;exact this,h.Bs _ _,h.le,h.len,h.cap⟩
def DB.fC(h:DB w g d B A c)(x:Int):DB (w.setCell ⟨g,1,ns⟩ (.int .u64 x)) g {d with span:=x} B A c:=
 ⟨by have:=h.blk.set 1 (.int .u64 x);rw[OL] at this;exact this,h.Bs _ _,h.le,h.len,h.cap⟩
def DB.mw(h:DB w g d B A c)(k:Nat)(e:k<40)(x:Int):DB (w.setCell ⟨g,2+k,ns⟩ (U O x)) g {d with ch:=d.ch.set k x} B A c:=
 ⟨by have:=h.blk.set (2+k) (U O x);rw[OM h.len e] at this;exact this,h.Bs _ _,h.le,by simp[h.len],h.cap⟩
def DB.Ug(h:DB w g d B A c)(r:List Int){f:Option ajF}{e:Nat}(hr:bB w B f r)(hc:r.length≤e∧e≤maxLen):DB (w.setCell ⟨g,42,ns⟩ (Y f r.length e)) g {d with rest:=r} B f e:=
  ⟨by have:=h.blk.set 42 (Y f r.length e);rw[ON r h.len] at this;exact this,
   hr.keep λb o i=>oM (a:=⟨b,o,ns⟩) (jh w _ _ b (by have:=h.le;simp;omega)),h.le,h.len,hc⟩
def bB.tail{o:Nat}{r:List Int}(h:bB w B (an ⟨b,o,ns⟩) (x::r)):bB w B (an ⟨b,o+1,ns⟩) r:=λm=>by obtain⟨p,q,e,f,hc⟩:=h aj;injection e with e;injection e with j l;subst j;subst l;refine⟨b,o+1,rfl,f,λi hi=>?_⟩;have:=hc (i+1) aA;simpa[Nat.add_assoc,Nat.add_comm 1 i] using this
def lZ(w:AS)(g i:Nat)(u:so):au [g] w (w.setCell ⟨g,i,ns⟩ u):=(au.refl [g] w).set (.inl aj) u
end
def Tp(h0:0<=x)(h1:x<18446744073709551616):bits .and .u64 x 16777215=x%16777216:=by obtain⟨n,rfl⟩:∃n:Nat,x=(n:Int):=⟨x.toNat,aa⟩;rw[show(16777215:Int)=((16777215:Nat):Int) from rfl,bits_and_u64_nat _ _ aa al];rw[show(16777215:Nat)=2^24-1 from rfl,Nat.and_two_pow_sub_one_eq_mod];omega
def wrap_u64(x:Int):akn.wrap x=u64 x:=rfl
def adF(a x:Int):u64 (a+u64 x)=u64 (a+x):=by unfold u64;omega
def GQ(x:Int)(h0:0<=x)(h1:x<18446744073709551616):akn.wrap (bits .and .u64 x 16777215*256)=x%16777216*256:=by rw[Tp h0 h1,wrap_u64,u64_in aa aa]
def zL{d:ax}(h:d.rest=[]):cV d={d with code:=d.code%16777216*256}:=by unfold cV;rw[h];simp only[List.headD_nil,List.tail_nil,Int.add_zero];rw[u64_in aa aa]
def N6{d:ax}{r:List Int}(h:d.rest=x::r):cV d={d with code:=u64 (d.code%16777216*256+x),rest:=r}:=by unfold cV;rw[h];rfl
def P5{d:ax}(h:DB w g d B A c)(h0:0<=d.code)(h1:d.code<18446744073709551616):
  aiK Gz.prog 164 #[bi (an ⟨g,0,ns⟩)] w λe w'=>e=be (ci #[])/\(∃P R,DB w' g (cV d) B P R)/\au [g] w w':=by
 have c0:=h.code;have i:=h.rest;have hf:=h.free;have y:=GQ d.code h0 h1;cases hr:d.rest with
 |nil=>rw[hr] at i;simp only[akU] at i;have H:=af h;have z:=af y;have C:=af (zL hr);have HR:=af hr;clear h hr y;go_enter Gz.gf func164,ntmps164;go_wp2;rw[z.out,C.out];refine alp (v:=ci #[]) (by simp[results,results164,go_sem]) rfl ?_;exact⟨rfl,⟨A,c,H.out.jr _⟩,lZ _ _ _ _⟩
 |cons x r=>
  rw[hr] at i;simp only[ajE] at i;have j:=h.cap;rw[hr] at j;simp only[ajE,maxLen] at j;obtain⟨b,o,rfl,hb,hc⟩:=h.rd uR;have L:=hc 0 uR;rw[hr] at L;simp only[Nat.add_zero,List.getElem?_cons_zero,ajG] at L;have V:b≠g:=by have:=h.le;omega
  have H:=af h;have z:=af y;have C:=af (N6 hr);have HR:=af hr;have HC:=af hc;clear h hr y hc;go_enter Gz.gf func164,ntmps164;go_wp2;rw[z.out];have l:=H.out.jr (d.code%16777216*256);have D:=lZ w g 0 (.int .u64 (d.code%16777216*256));generalize w.setCell ⟨g,0,ns⟩ (.int .u64 (d.code%16777216*256))=E at l D⊢;have W:=l.code;have f:=l.rest;have X:=l.free;obtain⟨b',o',F,_,p⟩:=l.rd (by show 0<d.rest.length;rw[HR.out];simp);injection F with F;injection F with G I;subst G;subst I;have M:=p 0 (by show 0<d.rest.length;rw[HR.out];simp);have u:({d with code:=d.code%16777216*256}:ax).rest=x::r:=HR.out;rw[u] at M f;simp only[Nat.add_zero,List.getElem?_cons_zero,ajG,ajE] at M f;have Z:(0:Int)<((r.length:Int)+1):=aa;have H2:=af l;have E2:=af D;clear l D p u
  go_still_tail 12,ah
  change wpList _ _ _ _ _ E.drew;have m:=(H2.out.q (Q.refl E).drew);have J:=E2.out.drew;generalize E.drew=w3 at m J⊢;have W:=m.code;have f:=m.rest;rw[show({d with code:=d.code%16777216*256}:ax).rest=x::r from HR.out] at f;simp only[ajE] at f;have X:=m.free;have K:=af m;have E3:=af J;clear m J;go_wp2
  all_goals
   rw[C.out,wrap_u64,wrap_u64,adF];refine alp (v:=ci #[]) (by simp[results,results164,go_sem]) rfl ⟨rfl,?_,(E3.out.set (.inl aj) _).set (.inl aj) _⟩
   first
    |exact⟨_,_,(K.out.jr _).Ug r (by have hz:r=[]:=(by apply zy;omega);rw[hz];exact bB.nil _ _ _) ⟨aa,by unfold maxLen;omega⟩⟩
    |exact⟨_,_,(K.out.jr _).Ug r (by have N:=(K.out.Bs 0 (.int .u64 (u64 (d.code%16777216*256+x))));rw[show({d with code:=d.code%16777216*256}:ax).rest=x::r from HR.out] at N;exact N.tail) ⟨aa,by unfold maxLen;omega⟩⟩
end
section
open Go.RowKit Go.WideShapes Go.ChangeShapes
def FZ:(Gz.prog.info? 205).map (·.size)=an 40:=aE
def pA:List Int:=rl 40 2048
def lj:List Int:=rl 40 0
def N7:aiK Gz.prog 163 #[] w λe w'=>e=be (a9 (arr pA))/\Q w w':=by
 go_enter Gz.gf func163,ntmps163;go_wp2;change Code.wp _ _ _ _ ((w.alloc (ac (arr lj) 205)).alloc (ac (arr lj) 205));have p:Q w ((w.alloc (ac (arr lj) 205)).alloc (ac (arr lj) 205)):=aU;have q:=(Nb.new 205 40 w lj rfl).alloc (ac (arr lj) 205);have m:=Nb.new 205 40 (w.alloc (ac (arr lj) 205)) lj rfl;simp only[World.size_alloc] at m;generalize(w.alloc (ac (arr lj) 205)).alloc (ac (arr lj) 205)=L at p q m⊢;go_loopw[3] (λi wr=>∃(k:Nat)(xs:List Int),k<=40/\i=U O k/\Hid (Nb 205 40 wr w.heap.size lj/\Nb 205 40 wr (w.heap.size+1) xs/\Q w wr/\∀j,j<40->xs[j]?.getD 0=if j<k then 2048 else 0)) (λi _=>40-(intOf i).toNat)
 case atStart=>exact⟨0,lj,aa,rfl,q,m,p,al⟩
 case round=>
  obtain⟨k,xs,M,rfl,hK⟩:=hrel;obtain⟨z,h,u,o⟩:=hK.out;clear hK q m p;by_cases y:k<40
  ·have C:(k:Int)<40:=by omega
   have E:=h.at k y;generalize xs[k]?.getD 0=N at E;have f2:=h.free k;have F:=af z;have D:=af h;have G:=af u;have H:=af o;clear z h u o;go_wp2;go_roundw
   case rel=>
    refine⟨k+1,xs.set k 2048,aa,aF,F.out.aN aj _,D.out.set k 2048,G.out.set aj _,λj f=>?_⟩;by_cases e:k=j
    ·subst e;rw[List.getElem?_set_self (by rw[D.out.len];exact f),if_pos aa];rfl
    ·rw[akj e,H.out j f];by_cases h1:j<k
     ·rw[if_pos h1,if_pos aa]
     ·rw[if_neg h1,if_neg aa]
   case measure=>exact aT
  ·have l:k=40:=by omega
   subst l
   have e:xs=pA:=nJ h.len λj f=>by rw[h.len] at f;rw[o j f,if_pos f];unfold pA;rw[List.getElem?_replicate,if_pos f];rfl
   subst e;clear o;have I:pA.length=40:=rfl;go_wp2_with(first|(refine e8 (n:=40) rfl _ _ rfl _ rfl _ aG _ (Gz.gu underlying205) rfl FZ ?_)|(refine dx (n:=40) rfl _ _ _ rfl _ rfl _ _ dw aG dw FZ ?_;intro P J K R));refine bodyPost_ret (v:=a9 (arr pA)) (results_cell_row aD _ _ _ _ _ _ _ aD J.blk (Gz.gu underlying205) rfl (by rw[bQ,I];exact FZ)) rfl ⟨rfl,u.grown K λk e=>by have:=aJ e;omega⟩
end
section
open Go.RowKit Go.WideShapes Go.ChangeShapes
def abO{P:Program}{C:Code}{K:Exit->Act->AS->Prop}{a:Act}{X Y:Array so}(h:X=Y)(k:Code.wp P C K a (w.alloc (ac Y t))):Code.wp P C K a (w.alloc (ac X t)):=h▸k
def XG(y:bB w B A xs)(z:xs.length=n)(hc:n<=c/\c<=maxLen)(l:B<=w.heap.size):
  aiK Gz.prog 143 #[.slice A n c] w λe w'=>∃g,e=be (bi (an ⟨g,0,ns⟩))/\w.heap.size<=g/\(∃m o,DB w' g (eG xs) B m o)/\Q w w':=by
 go_enter Gz.gf func143,ntmps143;go_wp2;refine(N7).mono ?_;rintro e j⟨rfl,q1⟩;have X:(arr pA).size=40:=rfl;go_wp2;refine abO (Y:=ez (fA xs) (.slice A n c)) ah ?_
 have p:DB (j.alloc (ac (ez (fA xs) (.slice A n c)) 208)) j.heap.size (fA xs) B A c:=by refine⟨?_,(y.q q1 l).alloc (aI l q1.size) _,aI l q1.size,rfl,by show xs.length<=c/\_;omega⟩;have:(fA xs).rest.length=n:=z;rw[this];exact ak.new _ _ _
 have u:Q w (j.alloc (ac (ez (fA xs) (.slice A n c)) 208)):=q1.alloc _;have f:=q1.size;generalize j.alloc (ac (ez (fA xs) (.slice A n c)) 208)=Z at p u⊢;generalize K:j.heap.size=g at p f⊢;clear K y q1 l z;go_loopw[8] (λi wr=>∃(k:Nat)(d:ax)(m:Option ajF)(o:Nat),k<=4/\i=.int .i64 k/\Hid (DB wr g d B m o/\Q w wr/\(k=0->d=fA xs)/\(k=1->d=cV (fA xs))/\(k=2->d=cV (cV (fA xs)))/\(k=3->d=cV (cV (cV (fA xs))))/\(k=4->d=eG xs)/\0<=d.code/\d.code<18446744073709551616)) (λi _=>4-(intOf i).toNat)
 case atStart=>exact⟨0,fA xs,A,c,aa,rfl,p,u,λ_=>rfl,λh=>by omega,λh=>by omega,λh=>by omega,λh=>by omega,by show(0:Int)<=0;omega,by show(0:Int)<_;omega⟩
 case round=>
  obtain⟨k,d,m,o,hk,rfl,hK⟩:=hrel;obtain⟨C,D,E,F,G,H,I,L,M⟩:=hK.out;clear hK p u;by_cases N:k<4
  ·have J:(k:Int)<4:=by omega
   have P:=P5 C L M;go_wp2;refine P.mono ?_;rintro e w3⟨rfl,⟨R,V,d3⟩,W⟩;go_wp2;go_roundw
   case rel=>
    refine⟨k+1,cV d,R,V,aa,aF,d3,W.toQ D (by simpa using f),λh=>by omega,λh=>?_,λh=>?_,λh=>?_,λh=>?_,(jM).1,(jM).2⟩
    ·rw[E aa]
    ·rw[F aa]
    ·rw[G aa]
    ·rw[H aa];rfl
   case measure=>exact aT
  ·have v:k=4:=by omega
   subst v;have e:=I rfl;subst e;clear E F G H I;go_wp2;go_ret;exact⟨g,rfl,f,⟨_,_,C⟩,D⟩
end
section
open Go.RowKit Go.WideShapes Go.ChangeShapes
def bound(g k:Nat)(s p:Int)(w:AS)(h:w.cell? ⟨g,2+k,ns⟩=an (U O p))(v:k<40)(s1:16777216<=s)(s2:s<=4294967295)(j:1<=p)(l:p<=4095):
  aiK Gz.prog 188 #[bi (an ⟨g,2,ns⟩),.int .u64 s,U O (k:Int)] w λe w'=>e=be (.int .u64 (s/4096*p))/\w=w':=by
 obtain⟨f,i,m,o⟩:=lY s1 s2 j l;have q1:s.tdiv 4096=s/4096:=j8 aa;generalize s/4096=q at f i m o q1⊢;obtain⟨r,u⟩:∃r,q*p=r:=⟨_,rfl⟩;rw[u] at f i⊢;go_enter Gz.gf func188,ntmps188;go_wp2;go_ret;exact⟨rfl,rfl⟩
def GR(g:Nat)(p b:Int)(w:AS)(h:w.cell? ⟨g,2+k,ns⟩=an (U O p))(j:w.frozen? ⟨g,2+k,ns⟩=false)(l:k<40)
  (f:∀w,aiK Gz.prog 196 #[U O p,U O b] w λe w'=>e=be (U O (bj p b))/\w=w'):
  aiK Gz.prog 189 #[bi (an ⟨g,2,ns⟩),U O (k:Int),U O b] w λe w'=>e=be (ci #[])/\w'=(w.setCell ⟨g,2+k,ns⟩ (U O (bj p b))).drew:=by
 have i:=af f;go_enter Gz.gf func189,ntmps189
 go_region_with (go_at_call 196;refine(i.out _).mono ?_;rintro e w'⟨rfl,rfl⟩)
 all_goals
  refine alp (v:=ci #[]) (by simp[results,results189,go_sem]) rfl ?_;exact⟨rfl,rfl⟩
theorem NA{d:ax}(h1:4096<=d.span)(f:d.span<16777216):jO (feed d)=jO d:=by
 have e:(feed d).span=d.span*256:=rfl;unfold jO;by_cases h:d.span*256<16777216
 ·grind
 ·grind
def N8{d:ax}(h:¬d.span<16777216):jO d=d:=by unfold jO;rw[if_neg h]
def lk(w:AS)(g:Nat):Nat:=
 match w.cell? ⟨g,1,ns⟩ with
 |some (.int _ s)=>(16777216-s).toNat
 |_=>0
def DB.js{d:ax}(h:DB w g d B A c):lk w g=(16777216-d.span).toNat:=by unfold lk;rw[h.span]
def Tq{p:Prop}(h:p:=by clear h1 h2 h3 x1 x2 c0 c1 hf;go_wp2;go_loopw[] (λwr=>∃(e:ax)(A':Option Addr)(c':Nat),Hid (DB wr g e B A' c'/\au [g] w wr/\xt e/\jO e=bO d k)) λwr=>lk wr g;(case atStart=>exact⟨_,_,_,h4,x3,HM.out,rfl⟩);(case round=>obtain⟨e,A',c',hK⟩:=hrel;obtain⟨f,l,i,m⟩:=hK.out;have K:=f.span;have y:=i.lo;have L:=i.hi;have o:=af f.js;by_cases z:e.span<16777216;(have M:=af f;have C:=af l;have q:=af i;have D:=af m;have E:=af (P5 f i.c0 i.c1);clear f l i m hK;go_wp2;refine E.out.mono ?_;rintro N P⟨rfl,⟨F,G,j⟩,u⟩;have f1:=j.span;have f2:=j.free;rw[show(cV e).span=e.span from rfl] at f1;have v:=af j;have H:=af (C.out.az u λg I=>.inl I);clear j u;have wc:IntKind.u64.wrap (e.span*256)=e.span*256:=u64_in (by omega) (by omega);go_wp2;go_roundw;(case rel=>exact⟨feed e,F,G,v.out.fC (e.span*256),H.out.set (.inl (by simp)) _,⟨by show 4096<=e.span*256;omega,by show e.span*256<=_;omega,(jM).1,(jM).2,q.out.len,q.out.ch⟩,(NA y z).trans D.out⟩);(case measure=>rw[o.out,(v.out.fC (e.span*256)).js];show(16777216-e.span*256).toNat<(16777216-e.span).toNat;omega));(have J:=(N8 (by omega)).symm.trans m;subst J;go_wp2;go_ret;exact⟨rfl,⟨_,_,f⟩,l⟩))):p:=h
def decode(g k B c:Nat)(d:ax)(A:Option ajF)(w:AS)(h:DB w g d B A c)(ok:bT d)(m:k<40):
  aiK Gz.prog 165 #[bi (an ⟨g,0,ns⟩),U O (k:Int)] w λe w'=>e=be (U O (cU d k))/\(∃A' c',DB w' g (bO d k) B A' c')/\au [g] w w':=by
 obtain⟨C,D⟩:=ok.ch k m;have c0:=h.code;have c1:=h.span;have L:=h.jP k m;have hf:=h.free;have hS:=ok.lo;have N:=ok.hi;have V:=ok.c0;have P:=ok.c1;obtain⟨W,X,Z,b4⟩:=lY ok.lo ok.hi C D;have E:=ok.nk k m;have y:=af λw o=>bound g k d.span (d.ch[k]?.getD 0) w o m ok.lo ok.hi C D;have M:=af λb w o hf R=>GR g (d.ch[k]?.getD 0) b w o hf m R;have v:dZ d k=d.span/4096*d.ch[k]?.getD 0:=rfl;by_cases j:d.code<dZ d k
 ·have f:cU d k=0:=by unfold cU;rw[if_pos j]
  have i:dP d k={d with span:=dZ d k,ch:=d.ch.set k (bj (d.ch[k]?.getD 0) 0)}:=by unfold dP;rw[if_pos j]
  rw[f];have u:=af (Ny (d.ch[k]?.getD 0) · C D);generalize z:d.ch[k]?.getD 0=p at*;generalize F:d.span/4096*p=l at*;have H:=af h;have HM:=af E;have Pi:=af i;have CD:=af v;have G:=af z;rw[v] at j;clear h E i v f z F ok;go_enter Gz.gf func165,ntmps165;go_wp2
  go_quiet((go_at_call 188;exact oN ((y.out (w.drewN _) L).mono λ_ _ h=>⟨h.1,h.2.symm⟩)))
  have h1:=H.out.q ((Q.refl w).drewN nq);have x1:au [g] w (w.drewN nq):=(au.refl _ _).drewN _;generalize w.drewN nq=I at h1 x1⊢;have c0:=h1.code;have c1:=h1.span;have hf:=h1.free;go_wp2;have h2:=h1.fC l;have x2:=x1.set (p:=⟨g,1,ns⟩) (.inl aj) (.int .u64 l);generalize I.setCell ⟨g,1,ns⟩ (.int .u64 l)=J at h2 x2⊢;refine(M.out 0 _ (by have o:=h2.jP k m;rw[show d.ch[k]?.getD 0=p from G.out] at o;exact o) (h2.free _) u.out).mono ?_;rintro e w3⟨rfl,rfl⟩;have h3:=(h2.mw k m (bj p 0)).q ((Q.refl _).drew);have x3:=(x2.set (p:=⟨g,2+k,ns⟩) (.inl aj) (U O (bj p 0))).drew;generalize(J.setCell ⟨g,2+k,ns⟩ (U O (bj p 0))).drew=K at h3 x3⊢;have h4:DB K g (dP d k) B A c:=rP;exact Tq
 ·have f:cU d k=1:=by unfold cU;rw[if_neg j]
  have i:dP d k={d with code:=d.code-dZ d k,span:=d.span-dZ d k,ch:=d.ch.set k (bj (d.ch[k]?.getD 0) 1)}:=by unfold dP;rw[if_neg j]
  rw[f];have u:=af (Nz (d.ch[k]?.getD 0) · C D);generalize z:d.ch[k]?.getD 0=p at*;generalize F:d.span/4096*p=l at*;have H:=af h;have HM:=af E;have Pi:=af i;have CD:=af v;have G:=af z;rw[v] at j;have hle:l<=d.code:=aa;have wa:akn.wrap (d.code-l)=d.code-l:=u64_in aa aa;have wb:akn.wrap (d.span-l)=d.span-l:=u64_in aa aa;clear h E i v f z F ok j;go_enter Gz.gf func165,ntmps165;go_wp2
  go_quiet((go_at_call 188;exact oN ((y.out (w.drewN _) L).mono λ_ _ h=>⟨h.1,h.2.symm⟩)))
  have h1:=H.out.q ((Q.refl w).drewN nq);have x1:au [g] w (w.drewN nq):=(au.refl _ _).drewN _;generalize w.drewN nq=I at h1 x1⊢;have c0:=h1.code;have c1:=h1.span;have hf:=h1.free;go_wp2;have h2:=(h1.jr (d.code-l)).fC (d.span-l);have x2:=(x1.set (p:=⟨g,0,ns⟩) (.inl aj) (.int .u64 (d.code-l))).set (p:=⟨g,1,ns⟩) (.inl aj) (.int .u64 (d.span-l));generalize(I.setCell ⟨g,0,ns⟩ (.int .u64 (d.code-l))).setCell ⟨g,1,ns⟩ (.int .u64 (d.span-l))=J at h2 x2⊢;refine(M.out 1 _ (by have o:=h2.jP k m;rw[show d.ch[k]?.getD 0=p from G.out] at o;exact o) (h2.free _) u.out).mono ?_;rintro e w3⟨rfl,rfl⟩;have h3:=(h2.mw k m (bj p 1)).q ((Q.refl _).drew);have x3:=(x2.set (p:=⟨g,2+k,ns⟩) (.inl aj) (U O (bj p 1))).drew;generalize(J.setCell ⟨g,2+k,ns⟩ (U O (bj p 1))).drew=K at h3 x3⊢;have h4:DB K g (dP d k) B A c:=rP;exact Tq
end
def gZ:List Nat:=[0,1,4,8,5,2,3,6,9,12,13,10,7,11,14,15]
def aiF:gZ.length=16:=rfl
def tn:∀k,k<16->gZ[k]?.getD 0<16:=al
def fT:List (Int×Int)->List Int->Nat->Option (List Int)
 |[],b,_=>an b
 |(z,l)::r,b,p=>if l=0\/z<0\/16-(p:Int)<=z then ns else fT r (b.set (gZ[p+z.toNat]?.getD 0) l) (p+z.toNat+1)
def gO(e:List (Int×Int)):Option (List Int):=fT e (rl 16 0) 0
def P6:∀(e:List (Int×Int))(b:List Int)(p:Nat){c:List Int},fT e b p=an c->c.length=b.length
 |[],b,_,c,h=>by simp[fT] at h;rw[h]
 |(z,l)::r,b,p,c,h=>by
  rw[fT] at h;split at h
  ·cases h
  ·rw[P6 r _ _ h,List.length_set]
def zA{e:List (Int×Int)}{c:List Int}(h:gO e=an c):c.length=16:=(P6 e _ _ h).trans rfl
def OO:∀(e:List (Int×Int))(b:List Int)(p:Nat),p<=16->16<p+e.length->fT e b p=ns
 |[],b,p,h,k=>by simp at k;omega
 |(z,l)::r,b,p,h,k=>by
  rw[fT];split
  ·rfl
  ·rename_i f;exact OO r _ _ aa (by simp at k;omega)
abbrev bw:=ax×Nat
def bk(b:Nat)(s:bw):Int×bw:=
 match aQ b s.1 with
 |(ns,e)=>(0,(e,1))
 |(an n,e)=>(n,(e,s.2))
def eT:Nat->bw->List (Int×Int)×bw
 |0,s=>([],s)
 |k+1,s=>
  let z:=bk 23 s
  let l:=bk 30 z.2
  let r:=eT k l.2
  ((z.1,aX (l.1+1))::r.1,r.2)
def iD(s:bw):List Int×bw:=
 let n:=bk 16 s
 let r:=eT (min n.1 17).toNat n.2
 match gO r.1 with
 |some b=>(b,r.2)
 |none=>(rl 16 0,(r.2.1,if r.2.2=0 then 2 else r.2.2))
def ij:Nat->bw->List Int×bw
 |0,s=>([],s)
 |k+1,s=>
  let m:=bk 9 s
  let r:=ij k m.2
  (m.1::r.1,r.2)
def fg:Nat->bw->List Int×bw
 |0,s=>([],s)
 |k+1,s=>
  let m:=iD s
  let r:=fg k m.2
  (m.1++r.1,r.2)
def et:List Int:=rl 71 0
def l9(ap:Bool)(s:bw):Int×bw:=if ap then(2,s) else(1+cU s.1 1,(bO s.1 1,s.2))
def tH(s:bw):List Int×bw:=
 let x:=bk 2 s
 let y:=bk 2 x.2
 ([1,aX x.1,aX y.1,0,0,0,0],y.2)
def m7(s:bw):List Int×bw:=
 let r:=ij 4 s
 ([2,0,0]++r.1,r.2)
def fB(ap:Bool)(s:bw):List Int×bw:=if(l9 ap s).1=1 then tH (l9 ap s).2 else m7 (l9 ap s).2
def iT(ap:Bool)(s:bw):bw:=if ap then s else(bO s.1 0,s.2)
def dX(ap:Bool)(s:bw):List Int×bw:=
 if ap=false/\cU s.1 0=0 then(et,(bO s.1 0,s.2))
 else
  ((fB ap (iT ap s)).1++(fg 4 (fB ap (iT ap s)).2).1,(fg 4 (fB ap (iT ap s)).2).2)
def eR(ap:Bool):Nat->bw->Option (List Int)×Nat
 |0,s=>(an [],s.2)
 |k+1,s=>
  let m:=dX ap s
  if m.2.2≠0 then(ns,m.2.2)
  else match eR ap k m.2 with
   |(an r,e)=>(an (m.1++r),e)
   |(ns,e)=>(ns,e)
section
variable{s:bw}
def kZ(f:b+6<40)(h:bT s.1):bT (bk b s).2.1:=by have:=adE f h;unfold bk;split<;>rename_i e<;>rw[e] at this<;>exact this
def AK(b:Nat)(s:bw):0<=(bk b s).1/\(bk b s).1<=65534:=by
 unfold bk;split
 ·omega
 ·rename_i n f e;exact kj (b:=b) (d:=s.1) oH
def P7:∀(k:Nat){s:bw},bT s.1->bT (eT k s).2.1
 |0,_,h=>h
 |k+1,s,h=>P7 k (kZ al (kZ al h))
def OP:∀(k:Nat)(s:bw),(eT k s).1.length=k
 |0,_=>rfl
 |k+1,s=>by simp[eT,OP k]
def N9(h:bT s.1):bT (iD s).2.1:=by unfold iD;dsimp only;have:=P7 (min (bk 16 s).1 17).toNat (kZ (b:=16) al h);split<;>exact this
def NB(s:bw):(iD s).1.length=16:=by
 unfold iD;dsimp only;split
 ·rename_i b e;exact zA e
 ·rfl
def OQ:∀(k:Nat){s:bw},bT s.1->bT (ij k s).2.1
 |0,_,h=>h
 |k+1,s,h=>OQ k (kZ al h)
def Et:∀(k:Nat)(s:bw),(ij k s).1.length=k
 |0,_=>rfl
 |k+1,s=>by simp[ij,Et k]
def P8:∀(k:Nat){s:bw},bT s.1->bT (fg k s).2.1
 |0,_,h=>h
 |k+1,s,h=>P8 k (N9 h)
def zM:∀(k:Nat)(s:bw),(fg k s).1.length=k*16
 |0,_=>rfl
 |k+1,s=>by simp only[fg,ajq,zM k,NB];omega
def abP(ap:Bool)(h:bT s.1):bT (l9 ap s).2.1:=by
 unfold l9;split
 ·exact h
 ·exact h.jY 1 al
def abQ(ap:Bool)(h:bT s.1):bT (fB ap s).2.1:=by
 have h1:=abP ap h;unfold fB;split
 ·exact kZ al (kZ al h1)
 ·have:=OQ 4 h1;exact this
def EM(ap:Bool)(s:bw):(fB ap s).1.length=7:=by
 unfold fB;split
 ·rfl
 ·rfl
def abR(ap:Bool)(h:bT s.1):bT (iT ap s).1:=by
 unfold iT;split
 ·exact h
 ·exact h.jY 0 al
def aau(ap:Bool)(h:bT s.1):bT (dX ap s).2.1:=by
 unfold dX;split
 ·exact h.jY 0 al
 ·have:=P8 4 (abQ ap (abR ap h));generalize fg 4 (fB ap (iT ap s)).2=z at this⊢;exact this
def Eu(ap:Bool)(s:bw):(dX ap s).1.length=71:=by
 unfold dX;split
 ·rfl
 ·show((fB ap (iT ap s)).1++_).length=71;rw[ajq,EM,zM]
def Ew(ap:Bool):∀(k:Nat)(s:bw){r:List Int},(eR ap k s).1=an r->r.length=k*71
 |0,_,r,h=>by simp[eR] at h;rw[h];rfl
 |k+1,s,r,h=>by
  rw[eR] at h;have hm:=Eu ap s;generalize dX ap s=m at h hm;split at h
  ·cases h
  ·split at h
   ·rename_i f e i;have:=Ew ap k _ (r:=f) (by rw[i]);injection h with h;rw[<-h,ajq,hm,this];omega
   ·cases h
end
section
open Go.RowKit
def ix(h: -9223372036854775808<=x/\x<9223372036854775808):wrap64 x=x:=CX
def Fq:Lib.len8tab.size=256:=aE
def ahj:∀n:Fin 256,(Lib.len8tab[n.val]'(by rw[Fq];exact n.isLt)).toNat=aky n.val:=by decide+kernel
def Tr(n:Nat)(h:n<Lib.len8tab.size):Lib.len8tab[n].toNat=aky n:=ahj ⟨n,by rw[Fq] at h;exact h⟩
def afc(w:AS)(h0:0<=x)(h1:x<256):
  aiK Gz.prog 198 #[.int .u64 x] w λe w'=>e=be (U O (aky x.toNat))/\w'=w:=by
 go_enter Gz.gf func198,ntmps198;go_wp2;go_ret;refine⟨congrArg Ending.returned (congrArg (Value.int EV) ?_),rfl⟩;have f:=Lib.bitLen_le8 ⟨x.toNat,aa⟩;simp only at f;rw[Tr,ix (x:=(aky x.toNat:Int)) ⟨aa,aa⟩,ix (x:=(aky x.toNat:Int)) ⟨aa,aa⟩]
def afd(w:AS)(h0:256<=x)(h1:x<65536):
  aiK Gz.prog 198 #[.int .u64 x] w λe w'=>e=be (U O (aky x.toNat))/\w'=w:=by
 have f:=Fq;go_enter Gz.gf func198,ntmps198;go_wp2
 ·go_ret;refine⟨congrArg Ending.returned (congrArg (Value.int EV) ?_),rfl⟩;have h:=Lib.bitLen_le8 ⟨(x/256).toNat,aa⟩;simp only at h;have s:=Lib.bitLen_shift8 x.toNat aa aa;rw[show x.toNat/256=(x/256).toNat by omega] at s;rw[Tr,ix (x:=(aky (x/256).toNat:Int)) ⟨aa,aa⟩,ix ⟨aa,aa⟩];omega
def agf(h0:0<=x)(h1:x<65536):
  aiK Gz.prog 198 #[.int .u64 x] w λe w'=>e=be (U O (aky x.toNat))/\w'=w:=by
 by_cases h:x<256
 ·exact afc w h0 h
 ·exact afd w aa h1
def bitsLen(x:Int)(w:AS)(h0:0<=x)(h1:x<65536):
  aiK Gz.prog 190 #[.int .u64 x] w λe w'=>e=be (U O (aky x.toNat))/\w'=w:=by
 go_enter Gz.gf func190,ntmps190;go_wp2_with(go_at_call 198;refine(agf h0 h1).mono ?_;rintro e w'⟨rfl,rfl⟩);go_ret;exact⟨rfl,rfl⟩
def Oa:∀(f x:Nat),0<x->x<2^f->Lib.bitLenAux f x=x.log2+1
 |0,x,h,k=>by simp at k;omega
 |f+1,x,h,k=>by
  rw[Lib.bitLenAux,if_neg aa,Nat.log2_def];by_cases e:2<=x
  ·rw[if_pos e,Oa f (x/2) aa (by rw[Nat.pow_succ] at k;omega)];omega
  ·rw[if_neg e];have:x=1:=aa;subst this;cases f<;>rfl
def Zo(x:Nat)(h:0<x)(k:x<2^64):aky x=x.log2+1:=Oa 64 x h k
end
section
open Go.RowKit Go.WideShapes Go.ChangeShapes
def lz(a1 a2:ajF):Nat->so
 |0=>.nilIface
 |1=>em 240 (bi (an a1))
 |_=>em 240 (bi (an a2))
structure gw(w:AS)(a1 a2:ajF)(B:Nat):Prop where
 e1:w.cell? ⟨2,0,ns⟩=an (lz a1 a2 1)
 e2:w.cell? ⟨3,0,ns⟩=an (lz a1 a2 2)
 l1:2<B
 l2:3<B
def gw.q{w':AS}{a1 a2:ajF}(h:gw w a1 a2 B)(hq:Q w w')(e:B<=w.heap.size):gw w' a1 a2 B:=
 ⟨(hq.cell _ _ (bH h.l1 e)).trans h.e1,(hq.cell _ _ (bH h.l2 e)).trans h.e2,h.l1,h.l2⟩
def gw.az{w':AS}{a1 a2:ajF}(h:gw w a1 a2 B)(e:au S w w')(f:B<=w.heap.size)(i:∀x,x∈S->B<=x):gw w' a1 a2 B:=
 ⟨(nK e (bH h.l1 f) λk=>by have:=i _ k;have:=h.l1;omega).trans h.e1,(nK e (bH h.l2 f) λk=>by have:=i _ k;have:=h.l2;omega).trans h.e2,h.l1,h.l2⟩
structure RB(w:AS)(r g:Nat)(s:bw)(a1 a2:ajF)(B:Nat)(A:Option ajF)(c:Nat):Prop where
 blk:ak w r 184 #[bi (an ⟨g,0,ns⟩),lz a1 a2 s.2]
 db:DB w g s.1 B A c
 ne:r≠g
 le:B<=r
 er:gw w a1 a2 B
section
variable{w w':AS}{r g B c:Nat}{s:bw}{A:Option ajF}{a1 a2:ajF}
def RB.oy(h:RB w r g s a1 a2 B A c):B<=w.heap.size:=aI h.le (Nat.le_of_lt h.blk.lt)
def RB.q(h:RB w r g s a1 a2 B A c)(hq:Q w w'):RB w' r g s a1 a2 B A c:=⟨h.blk.q hq,h.db.q hq,h.ne,h.le,h.er.q hq h.oy⟩
def RB.az(h:RB w r g s a1 a2 B A c)(e:au S w w')(f:∀x,x∈S->B<=x)(i:g∉S)(hr:r∉S):RB w' r g s a1 a2 B A c:=
 ⟨h.blk.az e hr,h.db.az e f i,h.ne,h.le,h.er.az e h.oy f⟩
def RB.dec(h:RB w r g s a1 a2 B A c)(e:au [g] w w'){d:ax}{f:Option ajF}{i:Nat}(hd:DB w' g d B f i):RB w' r g (d,s.2) a1 a2 B f i:=
 ⟨h.blk.az e (by simp[h.ne]),hd,h.ne,h.le,h.er.az e h.oy λx j=>by simp at j;rw[j];exact h.db.le⟩
def RB.ptr(h:RB w r g s a1 a2 B A c):w.cell? ⟨r,0,ns⟩=an (bi (an ⟨g,0,ns⟩)):=h.blk.cell 0
def RB.err(h:RB w r g s a1 a2 B A c):w.cell? ⟨r,1,ns⟩=an (lz a1 a2 s.2):=h.blk.cell 1
def RB.free(h:RB w r g s a1 a2 B A c)(i:Nat):w.frozen? ⟨r,i,ns⟩=false:=h.blk.free i
def RB.Sn(h:RB w r g s a1 a2 B A c)(e:Nat):RB (w.setCell ⟨r,1,ns⟩ (lz a1 a2 e)) r g (s.1,e) a1 a2 B A c:=
 ⟨h.blk.set 1 _,h.db.aN (λe=>h.ne e.symm) h.le _,h.ne,h.le,h.er.az (lZ w r 1 _) h.oy λx f=>by simp at f;rw[f];exact h.le⟩
end
def vM(j:Nat)(h:j<=15):(2:Int)^(j+1)<=65536:=by have:(2:Nat)^(j+1)<=2^16:=Nat.pow_le_pow_right al aa;have:((2^(j+1):Nat):Int)<=((2^16:Nat):Int):=aa;exact this
def Ts:aky 65534=16:=aE
def number(r g b B c:Nat)(s:bw)(a1 a2:ajF)(A:Option ajF)(w:AS)(h:RB w r g s a1 a2 B A c)(ok:bT s.1)(hb:b+6<40):
  aiK Gz.prog 167 #[bi (an ⟨r,0,ns⟩),U O (b:Int)] w λe w'=>e=be (U O (bk b s).1)/\(∃o q,RB w' r g (bk b s).2 a1 a2 B o q)/\au [r,g] w w':=by
 have HL:=af λw=>bitsLen 65534 w aa aa;go_enter Gz.gf func167,ntmps167;go_wp2;go_loopw[5] (λi wr=>∃(k:Nat)(d:ax)(o:Option ajF)(q:Nat),k<=15/\i=U O k/\Hid (RB wr r g (d,s.2) a1 a2 B o q/\au [r,g] w wr/\bT d/\gT b (16-k) k d=gT b 16 0 s.1)) (λi _=>16-(intOf i).toNat)
 case atStart=>exact⟨0,s.1,A,c,aa,rfl,h,au.refl _ _,ok,rfl⟩
 case round=>
  obtain⟨k,d,o,q,hk,rfl,hK⟩:=hrel;obtain⟨f,u,y,m⟩:=hK.out;have c0:=f.ptr;have z:=decode g (b+min k 5) B q d o wr f.db y aa;have hkk:(k:Int)<=15:=aa;clear hK h;rw[show((b+min k 5:Nat):Int)=(b:Int)+((min k 5:Nat):Int) by omega] at z;have aiO:((b:Int)+min (k:Int) 5)=((b+min k 5:Nat):Int):=aa
  have l:gT b (16-k) k d=if cU d (b+min k 5)=1 then gT b (16-(k+1)) (k+1) (bO d (b+min k 5)) else(an k,bO d (b+min k 5)):=by rw[show 16-k=(15-k)+1 by omega,gT,show 16-(k+1)=15-k by omega]
  have C:=y.jY (b+min k 5) aa;have K2:=af u;have K1:=af f;go_wp2;refine z.mono ?_;rintro e w2⟨rfl,⟨M,N,d2⟩,P⟩;have E:=f.dec P d2;have J:=u.az P (λx F=>.inl (by simp at F;simp[F]));clear d2 P f u c0 z;rw[m] at l;rcases nN d (b+min k 5) with h0|h1
  ·rw[if_neg (by rw[h0];decide)] at l;rw[h0];generalize bO d (b+min k 5)=d1 at l C E
   have Q:Hid (bk b s=((tailD b k 1 d1).1-1,((tailD b k 1 d1).2,s.2))):=by unfold Hid bk aQ;rw[l]
   clear l m y h0 K1 K2;have D:=af E;have K:=af J;clear E J;go_wp2;go_loopw[6,27] (λv i wr=>∃(j:Nat)(n:Int)(d:ax)(o:Option ajF)(q:Nat),j<=k/\i=U O j/\v=U O n/\Hid (RB wr r g (d,s.2) a1 a2 B o q/\au [r,g] w wr/\bT d/\tailD b (k-j) n d=tailD b k 1 d1)/\0<=n/\n<2^(j+1)) (λ_ i _=>k-(intOf i).toNat)
   case atStart=>exact⟨0,1,d1,M,N,aa,rfl,rfl,⟨D.out,K.out,C,rfl⟩,aa,aa⟩
   case round=>
    obtain⟨j,n,d,A3,c3,hj,rfl,rfl,hK,U',G⟩:=hrel;obtain⟨f,u,y,m⟩:=hK.out;clear hK;by_cases aV:j<k
    ·have tZ:(j:Int)<(k:Int):=by omega
     have c0:=f.ptr;have z:=decode g (b+6) B c3 d A3 wr f.db y hb;rw[show((b+6:Nat):Int)=(b:Int)+6 by omega] at z
     have L:tailD b (k-j) n d=tailD b (k-(j+1)) (2*n+cU d (b+6)) (bO d (b+6)):=by rw[show k-j=(k-(j+1))+1 by omega,tailD]
     have C:=y.jY (b+6) hb;have R:=vM j aa;have p2:(2:Int)^(j+1+1)=2^(j+1)*2:=Int.pow_succ ..;have H:=nN d (b+6);have V:0<=2*n+cU d (b+6):=aa;have I:2*n+cU d (b+6)<2^(j+1+1):=by rw[p2];omega
     have W:n<=65536:=aa;have GG:=af I;rw[m] at L;clear G R p2 I;have wn:wrap64 (2*n)=2*n:=ix ⟨aa,aa⟩;go_wp2;refine z.mono ?_;rintro e w5⟨rfl,⟨A5,c5,d5⟩,X⟩;have Z:=f.dec X d5;have x6:=u.az X (λx F=>.inl (by simp at F;simp[F]));clear d5 X f u c0 z;generalize cU d (b+6)=bt at H L V GG;generalize bO d (b+6)=d6 at L C Z;have H5:=af Z;have X6:=af x6;clear Z x6;have wn2:wrap64 (2*n+bt)=2*n+bt:=ix ⟨aa,aa⟩;go_wp2;go_roundw;case rel=>exact⟨j+1,2*n+bt,d6,A5,c5,aa,aF,rfl,⟨H5.out,X6.out,C,L.symm⟩,aa,GG.out⟩
     case measure=>exact aT
    ·have gc:j=k:=by omega
     subst gc;rw[Nat.sub_self,tailD] at m;have e1:=congrArg Prod.fst m;have e2:=congrArg Prod.snd m;dsimp only at e1 e2;have E1:=af e1;have E2:=af e2;have R:=vM j aa;have W:n<=65536:=aa;clear G R m e1 e2;go_wp2;go_ret;rw[Q.out];exact⟨by rw[<-E1.out];rfl,⟨_,_,by rw[<-E2.out];exact f⟩,u⟩
  ·rw[if_pos h1] at l;rw[h1];generalize bO d (b+min k 5)=d1 at l C E;have D:=af E;have K:=af J;clear E J K1 K2 y h1;by_cases h15:k=15
   ·subst h15
    have Q:Hid (bk b s=(0,(d1,1))):=by unfold Hid bk aQ;rw[l];rfl
    have ce:w2.cell? ⟨2,0,ns⟩=an (em 240 (bi (an a1))):=D.out.er.e1;have cf:=D.out.free;have cr:=D.out.err;go_wp2_with(go_at_call 190;refine(HL.out _).mono ?_;rintro e w'⟨rfl,rfl⟩;rw[show aky (Int.toNat 65534)=16 from Ts]);go_ret;rw[Q.out];exact⟨rfl,⟨M,N,D.out.Sn 1⟩,K.out.set (p:=⟨r,1,ns⟩) (.inl aj) _⟩
   ·have ahk:(k:Int)+1<16:=by omega
    go_wp2_with(go_at_call 190;refine(HL.out _).mono ?_;rintro e w'⟨rfl,rfl⟩;rw[show aky (Int.toNat 65534)=16 from Ts]);go_roundw;case rel=>exact⟨k+1,d1,M,N,aa,aF,D.out,K.out,C,l.symm⟩
    case measure=>exact aT
end
end Go.Proofs.Q0
