import Derived.Test.YtnbpokndlaebbaaGreatDoorK1
import Derived.Conc.WgArith
import Derived.Deep.RegionLawGrows
import Derived.StillTailTactics
import Derived.Deep.RegionWith
import Derived.Deep.DeepCutAuto
import Derived.Lib.Strings
import Derived.Lib.Slices
import Derived.Lib.Small
import Derived.Lib.Walk
import Derived.Lib.BitFns
set_option maxRecDepth 100000
set_option maxHeartbeats 8000000
set_option linter.all false
open Go.Value renaming int->U,slice->Y,bool->ci,agg->bi,pointer->d9,tuple->em,iface->gc
open Go.IntKind renaming i64->O
open Go.Obj renaming cells->ap
open Go.Ending renaming returned->dl
open Array renaming getElem?_append_left->akp
open Go renaming Addr->aic,Calls->ahR,Value->AS,World->rl,bodyPost_end->ajY
open Go.IntKind renaming i64->EV,u64->aiR
open Go.Lib renaming bitLen->ajb
open Int renaming tdiv_eq_ediv_of_nonneg->aiC
open List renaming append_assoc->ait,getElem?_set_ne->akj,getElem?_set_self->ajX,length_append->ahc,length_cons->ais,length_nil->ajF,replicate->so
open Option renaming getD_some->aii,none->ns,some->an
namespace Go.Proofs
def JY{p:Prop}(h:p:=by
  refine⟨h.1,?_⟩;obtain⟨h1,h2⟩:=h.2;refine⟨h1,?_⟩;rcases h2 with h2|⟨g,cap,cur,hv,hB,hg,r⟩
  ·simp_all
  ·refine .inr ⟨g,cap,cur,hv,hB,?_,r⟩;rcases cZ g w.heap.size with aV|E'
   ·exact(k.block g aV λe=>by have:=hs g e;omega).trans hg
   ·simp_all):p:=h
def ye{p:Prop}(h:p:=by rw[Int.tdiv_eq_ediv_of_nonneg (by omega)];omega):p:=h
def ju{p:Prop}(h:p:=by go_wp2;all_goals(go_ret;exact⟨by rw[H.out];rfl,rfl⟩)):p:=h
def yy{p:Prop}(h:p:=by rw[Int.tdiv_eq_ediv_of_nonneg h1];omega):p:=h
def Cy{p:Prop}(h:p:=by rw[<-IntWalk.i64_left];exact IntWalk.i64_in _ ⟨by omega,by omega⟩):p:=h
abbrev jS:=@aiC
abbrev ox:=@Go.Calls.quiet_of_same
def rM{p:Prop}(h:p:=by rw[RC.out,Fd.out];exact h3):p:=h
end Go.Proofs
namespace Go.Proofs.Q0
open Go.Proofs.Tryz
variable{g n B b k c:Nat}{t:TypeId}{xs:List Int}{A:Option aic}{w:rl}{x:Int}{s:AS}{S:List Nat}
section
open Go.RowKit Go.WideShapes Go.ChangeShapes
structure al(S:List Nat)(w w':rl):Prop where
 os:w'.os=w.os
 tape:w'.tape=w.tape
 output:w'.output=w.output
 size:w.heap.size<=w'.heap.size
 block:∀k,k<w.heap.size->k∉S->w'.heap[k]?=w.heap[k]?
section
variable{S T:List Nat}{a b w w':rl}
def al.refl(S:List Nat)(w:rl):al S w w:=⟨rfl,rfl,rfl,ay _,λ_ _ _=>rfl⟩
def al.trans(h:al S a b)(k:al S b w):al S a w:=
 ⟨k.os.trans h.os,k.tape.trans h.tape,k.output.trans h.output,aQ h.size k.size,λi hi e=>(k.block i (cC hi h.size) e).trans (h.block i hi e)⟩
def al.more(h:al S a b)(f:∀k,k∈S->k∈T):al T a b:=⟨h.os,h.tape,h.output,h.size,λi hi j=>h.block i hi λe=>j (f i e)⟩
def al.dp(S:List Nat)(h:Q a b):al S a b:=⟨h.os,h.tape,h.output,h.size,λi hi _=>h.block i hi⟩
def al.q(h:al S a w)(k:Q w w'):al S a w':=h.trans (.dp S k)
def al.bA(h:a.grownBy b (an g)):al [g] a b:=⟨h.os,h.tape,h.output,h.size,λi hi f=>h.block i hi λe=>f (by injection e with e;simp[e])⟩
def al.grown(h:al S a w)(k:w.grownBy w' (an g))(f:g∈S\/a.heap.size<=g):al S a w':=
 ⟨k.os.trans h.os,k.tape.trans h.tape,k.output.trans h.output,aQ h.size k.size,λi hi j=>(k.block i (cC hi h.size) (λe=>by
  injection e with e;rcases f with f|f
  ·simp_all
  ·omega)).trans (h.block i hi j)⟩
def al.iL{row:Option Nat}(h:al S a w)(k:w.grownBy w' row)(f:∀g,row=an g->g∈S\/a.heap.size<=g):al S a w':=
 ⟨k.os.trans h.os,k.tape.trans h.tape,k.output.trans h.output,aQ h.size k.size,λi hi j=>(k.block i (cC hi h.size) (λe=>by
  rcases f i e.symm with f|f
  ·simp_all
  ·omega)).trans (h.block i hi j)⟩
def al.aq(h:al S a w)(k:al T w w')(f:∀g,g∈T->g∈S\/a.heap.size<=g):al S a w':=
 ⟨k.os.trans h.os,k.tape.trans h.tape,k.output.trans h.output,aQ h.size k.size,λi hi j=>(k.block i (cC hi h.size) (λe=>by
  rcases f i e with f|f
  ·simp_all
  ·omega)).trans (h.block i hi j)⟩
def al.set(h:al S a w){p:aic}(hp:p.block∈S\/a.heap.size<=p.block)(u:AS):al S a (w.setCell p u):=
 ⟨h.os,h.tape,h.output,by simpa[World.setCell] using h.size,λi hi f=>(im w p u i (λe=>by
  rcases hp with hp|hp
  ·simp_all
  ·omega)).trans (h.block i hi f)⟩
def al.alloc(h:al S a w)(o:Obj):al S a (w.alloc o):=h.q ((Q.refl w).alloc o)
def al.drew(h:al S a w):al S a w.drew:=h.q (Q.refl w).drew
def al.drewN(h:al S a w)(n:Nat):al S a (w.drewN n):=h.q ((Q.refl w).drewN n)
def al.toQ(h:al S w w')(hq:Q a w)(f:∀k,k∈S->a.heap.size<=k):Q a w':=by have e:=(al.dp [] hq).aq h λg i=>.inr (f g i);exact Q.ny ⟨e.os,e.tape,e.output,e.size,λk j _=>e.block k j au⟩
def al.nil(h:al [] w w'):Q w w':=h.toQ (Q.refl w) au
def ak.aq{cs:Array AS}(h:ak w g t cs)(k:al S w w')(e:g∉S):ak w' g t cs:=(k.block g h.lt e).trans h
def Nb.aq(h:Nb t n w g xs)(k:al S w w')(e:g∉S):Nb t n w' g xs:=⟨h.blk.aq k e,h.len⟩
def nu(k:al S w w'){b o:Nat}(e:b<w.heap.size)(f:b∉S):w'.cell? ⟨b,o,ns⟩=w.cell? ⟨b,o,ns⟩:=iH (a:=⟨b,o,ns⟩) (k.block b e f)
def Rd.aq(h:Rd w B A xs)(k:al S w w')(i:B<=w.heap.size)(f:∀g,g∈S->B<=g):Rd w' B A xs:=
 h.bK λb o j=>nu k aa (λe=>by have:=f b e;omega)
def bC.aq(h:bC w B A xs)(k:al S w w')(i:B<=w.heap.size)(f:∀g,g∈S->B<=g):bC w' B A xs:=
 h.bK λb o j=>nu k aa (λe=>by have:=f b e;omega)
def Own.aq{v:AS}(h:Own w B v n xs)(k:al S w w')(hs:∀g,g∈S->g<B):Own w' B v n xs:=by exact JY
def az.aq{s:Nat}{v:AS}(h:az t s w B v n xs)(k:al S w w')(hs:∀g,g∈S->g<B):az t s w' B v n xs:=by exact JY
end
def kE{P:Program}{fn:Func}{p a:Tmp}{ty:TypeId}(h:fn.results=#[.cell p ty,.tmp a]){tmps:Array AS}{cs:Array AS}{fr:Nat×Nat}{d:TypeDesc}
  (i:tmps.getD p undef=d9 (an ⟨g,0,ns⟩))(f:w.heap[g]?=an (ap cs t fr))
  (hu:P.underlying ty=an d)(hd:(match d with|.struct _|.array _ _=>true|_=>false)=true)(hi:(P.info? ty).map (·.size)=an cs.size):
  (results fn tmps).run P w=.ok (em #[bi cs,tmps.getD a undef]) w:=by
 have e:tmps[p]?.getD undef=d9 (an ⟨g,0,ns⟩):=eN;simp[results,h,e,asAddr,run_loadVar_row w g t ty cs fr d f hu hd hi,Sem.run_bind,Result.andThen]
def fl(rs:List (Int×Int)):List Int:=rs.flatMap λr=>[r.1,r.2]
def Rk:∀rs:List (Int×Int),(fl rs).length=rs.length*2
 |[]=>rfl
 |r::rs=>by have:=Rk rs;simp only[fl,List.flatMap_cons,ahc,ais,ajF] at this⊢;omega
def AL:∀(rs:List (Int×Int))(k:Nat)(f:k<rs.length),(fl rs)[k*2]?.getD 0=rs[k].1/\(fl rs)[k*2+1]?.getD 0=rs[k].2
 |[],k,h=>by simp at h
 |r::rs,0,_=>⟨rfl,rfl⟩
 |r::rs,k+1,h=>by have:=AL rs k mu;have e:fl (r::rs)=r.1::r.2::fl rs:=rfl;rw[e,show(k+1)*2=k*2+2 by omega];simpa using this
def Fu(rs:List (Int×Int))(r:Int×Int):fl (rs++[r])=fl rs++[r.1,r.2]:=by simp[fl]
end
section
open Go.RowKit
def bB(p bit:Int):Int:=if bit=0 then p+(4096-p)/16 else p-p/16
def NS{p bit:Int}(h1:1<=p)(e:p<=4095):1<=bB p bit/\bB p bit<=4095:=by unfold bB;split<;>omega
def MF(p:Int)(w:rl)(h1:1<=p)(f:p<=4095):
  ahR Gz.prog 182 #[U O p,U O 0] w λe w'=>e=dl (U O (bB p 0))/\w=w':=by
 have e:bB p 0=p+(4096-p).tdiv 16:=by unfold bB;rw[if_pos rfl,aiC aa]
 have h:0<=(4096-p).tdiv 16:=ye;have i:(4096-p).tdiv 16<=256:=ye;have H:=ag e;go_enter Gz.gf func182,ntmps182;exact ju
def MG(p:Int)(w:rl)(h1:1<=p)(f:p<=4095):
  ahR Gz.prog 182 #[U O p,U O 1] w λe w'=>e=dl (U O (bB p 1))/\w=w':=by
 have e:bB p 1=p-p.tdiv 16:=by unfold bB;rw[if_neg aw,aiC aa]
 have h:0<=p.tdiv 16:=ye;have i:p.tdiv 16<=256:=ye;have H:=ag e;go_enter Gz.gf func182,ntmps182;exact ju
theorem Mn(p:Int)(w:rl)(h1:1<=p)(f:p<=4095):
  ahR Gz.prog 139 #[U O p,U O 0] w λe w'=>e=dl (U O (bB p 0))/\w=w':=by
 have e:bB p 0=p+(4096-p).tdiv 16:=by unfold bB;rw[if_pos rfl,aiC aa]
 have j:0<=(4096-p).tdiv 16:=eW;have l:(4096-p).tdiv 16<=256:=eW;have H:=ag e;have h:=ag (show decide (1<=p/\p<=4095)=true from decide_eq_true ⟨h1,f⟩);have i:=ag (show decide ((0:Int)<=0/\(0:Int)<=1)=true from rfl);go_enter Gz.gf func139,ntmps139;go_wp2;(go_at_call 62;(with_reducible refine(cG _ h).mono ?_);rintro e w'⟨rfl,rfl⟩)
 go_wp2;(go_at_call 62;(with_reducible refine(cG _ i).mono ?_);rintro e w'⟨rfl,rfl⟩)
 exact ju
theorem Mo(p:Int)(w:rl)(h1:1<=p)(f:p<=4095):
  ahR Gz.prog 139 #[U O p,U O 1] w λe w'=>e=dl (U O (bB p 1))/\w=w':=by
 have e:bB p 1=p-p.tdiv 16:=by unfold bB;rw[if_neg aw,aiC aa]
 have j:0<=p.tdiv 16:=eW;have l:p.tdiv 16<=256:=eW;have H:=ag e;have h:=ag (show decide (1<=p/\p<=4095)=true from decide_eq_true ⟨h1,f⟩);have i:=ag (show decide ((0:Int)<=1/\(1:Int)<=1)=true from rfl);go_enter Gz.gf func139,ntmps139;go_wp2;(go_at_call 62;(with_reducible refine(cG _ h).mono ?_);rintro e w'⟨rfl,rfl⟩)
 go_wp2;(go_at_call 62;(with_reducible refine(cG _ i).mono ?_);rintro e w'⟨rfl,rfl⟩)
 exact ju
end
section
open Go.RowKit
def aY(n:Int):Int:=if n<0\/65534<n then 0 else if n%2=1 then(n+1)/2 else -(n/2)
def Wk{n:Int}(w:rl)(h:n<0\/65534<n):
  ahR Gz.prog 148 #[U O n] w λe w'=>e=dl (U O (aY n))/\w=w':=by
 have e:aY n=0:=by unfold aY;rw[if_pos h]
 have H:=ag e;rcases h with h|h
 ·go_enter Gz.gf func148,ntmps148;exact ju
 ·have f:0<=n:=by omega
  go_enter Gz.gf func148,ntmps148;exact ju
def Wt(n:Int)(w:rl)(h1:0<=n)(l:n<=65534):
  ahR Gz.prog 148 #[U O n] w λe w'=>e=dl (U O (aY n))/\w=w':=by
 by_cases h:n%2=1
 ·have e:aY n=(n+1)/2:=by unfold aY;rw[if_neg aa,if_pos h]
  have hc:((n%2:Int)==1)=true:=mu;have H:=ag e;go_enter Gz.gf func148,ntmps148;exact ju
 ·have e:aY n= -n.tdiv 2:=by unfold aY;rw[if_neg aa,if_neg h,aiC h1]
  have hc:((n%2:Int)==1)=false:=mu;have i:0<=n.tdiv 2:=yy;have j:n.tdiv 2<=40000:=yy;have f:wrap64 (-n.tdiv 2)= -n.tdiv 2:=Cy;have H:=ag (e.trans f.symm);clear e h i j f;go_enter Gz.gf func148,ntmps148;exact ju
def Wl{n:Int}(w:rl)(h1:0<=n)(j:n<=65534):
  ahR Gz.prog 101 #[U O n] w λe w'=>e=dl (U O (aY n))/\w=w':=by
 have f:Hid (decide (0<=n/\n<=65534)=true):=decide_eq_true ⟨h1,j⟩;by_cases h:n%2=1
 ·have e:aY n=(n+1)/2:=by unfold aY;rw[if_neg aa,if_pos h]
  have hc:((n%2:Int)==1)=true:=mu;have H:=ag e;go_enter Gz.gf func101,ntmps101;go_wp2;(go_at_call 62;(with_reducible refine(cG _ f).mono ?_);rintro e w'⟨rfl,rfl⟩)
  exact ju
 ·have e:aY n= -n.tdiv 2:=by unfold aY;rw[if_neg aa,if_neg h,aiC h1]
  have hc:((n%2:Int)==1)=false:=mu;have l:0<=n.tdiv 2:=yy;have m:n.tdiv 2<=40000:=yy;have i:wrap64 (-n.tdiv 2)= -n.tdiv 2:=Cy;have H:=ag (e.trans i.symm);clear e h l m i;go_enter Gz.gf func101,ntmps101;go_wp2;(go_at_call 62;(with_reducible refine(cG _ f).mono ?_);rintro e w'⟨rfl,rfl⟩)
  exact ju
end
structure aA where
 code:Int
 span:Int
 ch:List Int
 rest:List Int
def u64(x:Int):Int:=x%18446744073709551616
def u64_in(h:0<=x)(k:x<18446744073709551616):u64 x=x:=Int.emod_eq_of_lt h k
def dc(d:aA):aA:={d with code:=u64 (d.code%16777216*256+d.rest.headD 0),rest:=d.rest.tail}
def feed(d:aA):aA:={dc d with span:=d.span*256}
def jB(d:aA):aA:=if d.span<16777216 then(if d.span*256<16777216 then feed (feed d) else feed d) else d
def dZ(d:aA)(c:Nat):Int:=d.span/4096*d.ch[c]?.getD 0
def cV(d:aA)(c:Nat):Int:=if d.code<dZ d c then 0 else 1
def dQ(d:aA)(c:Nat):aA:=
 if d.code<dZ d c then{d with span:=dZ d c,ch:=d.ch.set c (bB (d.ch[c]?.getD 0) 0)}
 else{d with code:=d.code-dZ d c,span:=d.span-dZ d c,ch:=d.ch.set c (bB (d.ch[c]?.getD 0) 1)}
def bT(d:aA)(c:Nat):aA:=jB (dQ d c)
structure cj(d:aA):Prop where
 lo:16777216<=d.span
 hi:d.span<=4294967295
 c0:0<=d.code
 c1:d.code<18446744073709551616
 len:d.ch.length=40
 ch:∀k,k<40->1<=d.ch[k]?.getD 0/\d.ch[k]?.getD 0<=4095
def lG{s p:Int}(h1:16777216<=s)(h:s<=4294967295)(e:1<=p)(f:p<=4095):4096<=s/4096*p/\s/4096*p<=s-4096/\4096<=s/4096/\s/4096<=1048575:=by have i:s/4096*1<=s/4096*p:=Int.mul_le_mul_of_nonneg_left e aa;have j:s/4096*p<=s/4096*4095:=Int.mul_le_mul_of_nonneg_left f aa;omega
structure wX(d:aA):Prop where
 lo:4096<=d.span
 hi:d.span<=4294967295
 c0:0<=d.code
 c1:d.code<18446744073709551616
 len:d.ch.length=40
 ch:∀k,k<40->1<=d.ch[k]?.getD 0/\d.ch[k]?.getD 0<=4095
def cj.kr{d:aA}(h:cj d)(c:Nat)(hc:c<40):wX (dQ d c):=by
 obtain⟨i,j⟩:=h.ch c hc;obtain⟨m,q,_,_⟩:=lG h.lo h.hi i j;have l:=h.len
 have f:∀b:Int,∀k,k<40->1<=(d.ch.set c (bB (d.ch[c]?.getD 0) b))[k]?.getD 0/\(d.ch.set c (bB (d.ch[c]?.getD 0) b))[k]?.getD 0<=4095:=by
  intro b k o;by_cases e:c=k
  ·subst e;simp only[ajX (show c<d.ch.length by omega),aii];exact NS i j
  ·rw[akj e];exact h.ch k o
 have:=h.c1;unfold dQ;split
 ·exact⟨m,by show dZ d c<=_;unfold dZ;omega,h.c0,h.c1,by simp[l],f 0⟩
 ·rename_i p;unfold dZ at p;refine⟨?_,?_,?_,?_,by simp[l],f 1⟩
  ·show 4096<=d.span-dZ d c;unfold dZ;omega
  ·show d.span-dZ d c<=_;unfold dZ;omega
  ·show 0<=d.code-dZ d c;unfold dZ;omega
  ·show d.code-dZ d c<_;unfold dZ;omega
def jz:0<=u64 x/\u64 x<18446744073709551616:=⟨pK _ aw,pL _ aw⟩
def wX.jB{d:aA}(h:wX d):cj (jB d):=by
 have:=h.lo;unfold Go.Proofs.Q0.jB;split
 ·split
  ·exact⟨by show 16777216<=d.span*256*256;omega,by show d.span*256*256<=_;omega,(jz).1,(jz).2,h.len,h.ch⟩
  ·exact⟨by show 16777216<=d.span*256;omega,by show d.span*256<=_;omega,(jz).1,(jz).2,h.len,h.ch⟩
 ·exact⟨aa,h.hi,h.c0,h.c1,h.len,h.ch⟩
def cj.jN{d:aA}(h:cj d)(c:Nat)(hc:c<40):cj (bT d c):=(h.kr c hc).jB
def fw(data:List Int):aA:=⟨0,4294967295,so 40 2048,data⟩
def eJ(data:List Int):aA:=dc (dc (dc (dc (fw data))))
def EU(data:List Int):cj (eJ data):=
 ⟨by show(16777216:Int)<=4294967295;omega,by show(4294967295:Int)<=4294967295;omega,(jz).1,(jz).2,rfl,λk e=>by have:(eJ data).ch=so 40 2048:=rfl;rw[this,List.getElem?_replicate,if_pos e];decide⟩
def gO(b:Nat):Nat->Nat->aA->Option Nat×aA
 |0,_,d=>(ns,d)
 |f+1,k,d=>if cV d (b+min k 5)=1 then gO b f (k+1) (bT d (b+min k 5)) else(an k,bT d (b+min k 5))
def tailD(b:Nat):Nat->Int->aA->Int×aA
 |0,n,d=>(n,d)
 |j+1,n,d=>tailD b j (2*n+cV d (b+6)) (bT d (b+6))
def aT(b:Nat)(d:aA):Option Int×aA:=
 match gO b 16 0 d with
 |(ns,e)=>(ns,e)
 |(an k,e)=>(an ((tailD b k 1 e).1-1),(tailD b k 1 e).2)
def nA(d:aA)(c:Nat):cV d c=0\/cV d c=1:=by unfold cV;split<;>simp
def Pd{b:Nat}(e:b+5<40):∀(f k:Nat){d:aA},cj d->cj (gO b f k d).2
 |0,_,_,h=>h
 |f+1,k,d,h=>by
  have h':=h.jN (b+min k 5) aa;rw[gO];split
  ·exact Pd e f (k+1) h'
  ·exact h'
def Pe{b:Nat}:∀(f k:Nat){d:aA}{j:Nat},(gO b f k d).1=an j->j<k+f
 |0,_,_,_,h=>by simp[gO] at h
 |f+1,k,d,j,h=>by
  rw[gO] at h;split at h
  ·have:=Pe f (k+1) h;omega
  ·simp at h;omega
def Pf{b:Nat}(e:b+6<40):∀(j:Nat)(n:Int){d:aA},cj d->cj (tailD b j n d).2
 |0,_,_,h=>h
 |j+1,n,d,h=>Pf e j _ (h.jN (b+6) e)
theorem Pg{b:Nat}:∀(j:Nat)(n:Int)(d:aA),n*2^j<=(tailD b j n d).1/\(tailD b j n d).1<(n+1)*2^j
 |0,n,d=>by simp only[tailD];omega
 |j+1,n,d=>by
  rw[tailD];obtain⟨h1,f⟩:=Pg (b:=b) j (2*n+cV d (b+6)) (bT d (b+6));generalize(tailD b j (2*n+cV d (b+6)) (bT d (b+6))).1=r at h1 f⊢;have h:(0:Int)<2^j:=by exact Int.pow_pos (by decide)
  have e:(2:Int)^(j+1)=2^j*2:=by rw[Int.pow_succ]
  rw[e];generalize(2:Int)^j=p at h h1 f⊢;rcases nA d (b+6) with hb|hb<;>rw[hb] at h1 f
  ·constructor
   ·have:n*(p*2)=(2*n+0)*p:=by rw[Int.add_zero,Int.mul_comm 2 n,Int.mul_assoc,Int.mul_comm 2 p]
    omega
   ·have:(n+1)*(p*2)=(2*n+0+1)*p+p:=by grind
    omega
  ·constructor
   ·have:n*(p*2)+p=(2*n+1)*p:=by grind
    omega
   ·have:(n+1)*(p*2)=(2*n+1+1)*p:=by grind
    omega
def acs(f:b+6<40){d:aA}(h:cj d):cj (aT b d).2:=by
 have h1:=Pd (b:=b) aa 16 0 h;unfold aT;split
 ·simp_all
 ·rename_i k i e;rw[e] at h1;exact Pf f k 1 h1
def jW{d:aA}{n:Int}(h:(aT b d).1=an n):0<=n/\n<=65534:=by
 unfold aT at h;split at h
 ·cases h
 ·rename_i k f e;have i:=Pe (b:=b) 16 0 (d:=d) (j:=k) om;obtain⟨h1,l⟩:=Pg (b:=b) k 1 f;have m:(tailD b k 1 f).1-1=n:=eN
  have o:(2:Int)^k<=32768:=by have:(2:Nat)^k<=2^15:=Nat.pow_le_pow_right aw aa;have:((2^k:Nat):Int)<=((2^15:Nat):Int):=aa;exact this
  omega
section
open Go.RowKit Go.WideShapes Go.ChangeShapes
def eE(d:aA)(s:AS):Array AS:=#[.int .u64 d.code,.int .u64 d.span]++arr d.ch++#[s]
def FP{d:aA}:(eE d s)[0]?=an (.int .u64 d.code):=by rw[eE,Array.append_assoc,akp au];rfl
def Rl{d:aA}:(eE d s)[1]?=an (.int .u64 d.span):=by rw[eE,Array.append_assoc,akp au];rfl
def Rm{d:aA}(h:d.ch.length=40)(e:k<40):(eE d s)[2+k]?=an (U O (d.ch[k]?.getD 0)):=by unfold eE;rw[akp (by simp[arr];omega),Array.getElem?_append_right au];rw[<-nE d.ch k aa];simp
def FR{d:aA}(h:d.ch.length=40):(eE d s)[42]?=an s:=by unfold eE;simp[arr,h]
def NT(d:aA)(s:AS)(x:Int):(eE d s).setIfInBounds 0 (.int .u64 x)=eE {d with code:=x} s:=by simp[eE]
def NU(d:aA)(s:AS)(x:Int):(eE d s).setIfInBounds 1 (.int .u64 x)=eE {d with span:=x} s:=by simp[eE]
def NV{d:aA}(h:d.ch.length=40)(e:k<40)(x:Int):(eE d s).setIfInBounds (2+k) (U O x)=eE {d with ch:=d.ch.set k x} s:=by simp only[eE,arr,Array.toList_setIfInBounds,Array.toList_append,ait];rw[show 2+k=k+2 by omega];simp[List.set_append,h,e,List.map_set]
def NX{d:aA}{e:AS}(r:List Int)(h:d.ch.length=40):(eE d s).setIfInBounds 42 e=eE {d with rest:=r} e:=by simp only[eE,arr,Array.toList_setIfInBounds,Array.toList_append,ait];simp[List.set_append,h]
structure DB(w:rl)(g:Nat)(d:aA)(B:Nat)(A:Option aic)(c:Nat):Prop where
 blk:ak w g 198 (eE d (Y A d.rest.length c))
 rd:bC w B A d.rest
 le:B<=g
 len:d.ch.length=40
 cap:d.rest.length<=c/\c<=maxLen
section
variable{w w':rl}{g B c:Nat}{d:aA}{A:Option aic}
def DB.q(h:DB w g d B A c)(hq:Q w w'):DB w' g d B A c:=⟨h.blk.q hq,h.rd.q hq (aQ h.le (Nat.le_of_lt h.blk.lt)),h.le,h.len,h.cap⟩
def DB.aq(h:DB w g d B A c)(k:al S w w')(e:∀x,x∈S->B<=x)(f:g∉S):DB w' g d B A c:=
 ⟨h.blk.aq k f,h.rd.aq k (aQ h.le (Nat.le_of_lt h.blk.lt)) e,h.le,h.len,h.cap⟩
def DB.aL(h:DB w g d B A c){p:aic}(e:g≠p.block)(f:B<=p.block)(u:AS):DB (w.setCell p u) g d B A c:=
 ⟨h.blk.aL e u,h.rd.bK λb o i=>iH (a:=⟨b,o,ns⟩) (im w p u b aa),h.le,h.len,h.cap⟩
def DB.lt(h:DB w g d B A c):g<w.heap.size:=h.blk.lt
def DB.code(h:DB w g d B A c):w.cell? ⟨g,0,ns⟩=an (.int .u64 d.code):=(h.blk.cell 0).trans FP
def DB.span(h:DB w g d B A c):w.cell? ⟨g,1,ns⟩=an (.int .u64 d.span):=(h.blk.cell 1).trans Rl
def DB.jC(h:DB w g d B A c)(k:Nat)(e:k<40):w.cell? ⟨g,2+k,ns⟩=an (U O (d.ch[k]?.getD 0)):=(h.blk.cell (2+k)).trans (Rm h.len e)
def DB.rest(h:DB w g d B A c):w.cell? ⟨g,42,ns⟩=an (Y A d.rest.length c):=(h.blk.cell 42).trans (FR h.len)
def DB.free(h:DB w g d B A c)(i:Nat):w.frozen? ⟨g,i,ns⟩=false:=h.blk.free i
def DB.AV(h:DB w g d B A c)(i:Nat)(u:AS):bC (w.setCell ⟨g,i,ns⟩ u) B A d.rest:=h.rd.bK λb o e=>iH (a:=⟨b,o,ns⟩) (im w _ u b (by have:=h.le;simp;omega))
def DB.iA(h:DB w g d B A c)(x:Int):DB (w.setCell ⟨g,0,ns⟩ (.int .u64 x)) g {d with code:=x} B A c:=
 ⟨by have:=h.blk.set 0 (.int .u64 x);rw[NT] at this;exact this,h.AV _ _,h.le,h.len,h.cap⟩
def DB.fA(h:DB w g d B A c)(x:Int):DB (w.setCell ⟨g,1,ns⟩ (.int .u64 x)) g {d with span:=x} B A c:=
 ⟨by have:=h.blk.set 1 (.int .u64 x);rw[NU] at this;exact this,h.AV _ _,h.le,h.len,h.cap⟩
def DB.lX(h:DB w g d B A c)(k:Nat)(e:k<40)(x:Int):DB (w.setCell ⟨g,2+k,ns⟩ (U O x)) g {d with ch:=d.ch.set k x} B A c:=
 ⟨by have:=h.blk.set (2+k) (U O x);rw[NV h.len e] at this;exact this,h.AV _ _,h.le,by simp[h.len],h.cap⟩
def DB.Tl(h:DB w g d B A c)(r:List Int){f:Option aic}{e:Nat}(hr:bC w B f r)(hc:r.length≤e∧e≤maxLen):DB (w.setCell ⟨g,42,ns⟩ (Y f r.length e)) g {d with rest:=r} B f e:=
  ⟨by have:=h.blk.set 42 (Y f r.length e);rw[NX r h.len] at this;exact this,
   hr.bK λb o i=>iH (a:=⟨b,o,ns⟩) (im w _ _ b (by have:=h.le;simp;omega)),h.le,h.len,hc⟩
def bC.tail{o:Nat}{r:List Int}(h:bC w B (an ⟨b,o,ns⟩) (x::r)):bC w B (an ⟨b,o+1,ns⟩) r:=λm=>by obtain⟨p,q,e,f,hc⟩:=h au;injection e with e;injection e with j l;subst j;subst l;refine⟨b,o+1,rfl,f,λi hi=>?_⟩;have:=hc (i+1) av;simpa[Nat.add_assoc,Nat.add_comm 1 i] using this
def lH(w:rl)(g i:Nat)(u:AS):al [g] w (w.setCell ⟨g,i,ns⟩ u):=(al.refl [g] w).set (.inl au) u
end
def Sv(h0:0<=x)(h1:x<18446744073709551616):bits .and .u64 x 16777215=x%16777216:=by obtain⟨n,rfl⟩:∃n:Nat,x=(n:Int):=⟨x.toNat,aa⟩;rw[show(16777215:Int)=((16777215:Nat):Int) from rfl,bits_and_u64_nat _ _ aa aw];rw[show(16777215:Nat)=2^24-1 from rfl,Nat.and_two_pow_sub_one_eq_mod];omega
def wrap_u64(x:Int):aiR.wrap x=u64 x:=rfl
def acu(a x:Int):u64 (a+u64 x)=u64 (a+x):=by unfold u64;omega
def Gi(x:Int)(h0:0<=x)(h1:x<18446744073709551616):aiR.wrap (bits .and .u64 x 16777215*256)=x%16777216*256:=by rw[Sv h0 h1,wrap_u64,u64_in aa aa]
def zB{d:aA}(h:d.rest=[]):dc d={d with code:=d.code%16777216*256}:=by unfold dc;rw[h];simp only[List.headD_nil,List.tail_nil,Int.add_zero];rw[u64_in aa aa]
def Nf{d:aA}{r:List Int}(h:d.rest=x::r):dc d={d with code:=u64 (d.code%16777216*256+x),rest:=r}:=by unfold dc;rw[h];rfl
def Ph{d:aA}(h:DB w g d B A c)(h0:0<=d.code)(h1:d.code<18446744073709551616):
  ahR Gz.prog 146 #[d9 (an ⟨g,0,ns⟩)] w λe w'=>e=dl (em #[])/\(∃P R,DB w' g (dc d) B P R)/\al [g] w w':=by
 have c0:=h.code;have i:=h.rest;have hf:=h.free;have y:=Gi d.code h0 h1;cases hr:d.rest with
 |nil=>rw[hr] at i;simp only[ajF] at i;have H:=ag h;have z:=ag y;have C:=ag (zB hr);have HR:=ag hr;clear h hr y;go_enter Gz.gf func146,ntmps146;go_wp2;rw[z.out,C.out];refine ajY (v:=em #[]) (by simp[results,results146,go_sem]) rfl ?_;exact⟨rfl,⟨A,c,H.out.iA _⟩,lH _ _ _ _⟩
 |cons x r=>
  rw[hr] at i;simp only[ais] at i;have j:=h.cap;rw[hr] at j;simp only[ais,maxLen] at j;obtain⟨b,o,rfl,hb,hc⟩:=h.rd uC;have L:=hc 0 uC;rw[hr] at L;simp only[Nat.add_zero,List.getElem?_cons_zero,aii] at L;have V:b≠g:=by have:=h.le;omega
  have H:=ag h;have z:=ag y;have C:=ag (Nf hr);have HR:=ag hr;have HC:=ag hc;clear h hr y hc;go_enter Gz.gf func146,ntmps146;go_wp2;rw[z.out];have l:=H.out.iA (d.code%16777216*256);have D:=lH w g 0 (.int .u64 (d.code%16777216*256));generalize w.setCell ⟨g,0,ns⟩ (.int .u64 (d.code%16777216*256))=E at l D⊢;have W:=l.code;have f:=l.rest;have X:=l.free;obtain⟨b',o',F,_,p⟩:=l.rd (by show 0<d.rest.length;rw[HR.out];simp);injection F with F;injection F with G I;subst G;subst I;have M:=p 0 (by show 0<d.rest.length;rw[HR.out];simp);have u:({d with code:=d.code%16777216*256}:aA).rest=x::r:=HR.out;rw[u] at M f;simp only[Nat.add_zero,List.getElem?_cons_zero,aii,ais] at M f;have Z:(0:Int)<((r.length:Int)+1):=aa;have H2:=ag l;have E2:=ag D;clear l D p u
  go_still_tail 12,aj
  change wpList _ _ _ _ _ E.drew;have m:=(H2.out.q (Q.refl E).drew);have J:=E2.out.drew;generalize E.drew=w3 at m J⊢;have W:=m.code;have f:=m.rest;rw[show({d with code:=d.code%16777216*256}:aA).rest=x::r from HR.out] at f;simp only[ais] at f;have X:=m.free;have K:=ag m;have E3:=ag J;clear m J;go_wp2
  all_goals
   rw[C.out,wrap_u64,wrap_u64,acu];refine ajY (v:=em #[]) (by simp[results,results146,go_sem]) rfl ⟨rfl,?_,(E3.out.set (.inl au) _).set (.inl au) _⟩
   first
    |exact⟨_,_,(K.out.iA _).Tl r (by have hz:r=[]:=(by apply DH;omega);rw[hz];exact bC.nil _ _ _) ⟨aa,by unfold maxLen;omega⟩⟩
    |exact⟨_,_,(K.out.iA _).Tl r (by have N:=(K.out.AV 0 (.int .u64 (u64 (d.code%16777216*256+x))));rw[show({d with code:=d.code%16777216*256}:aA).rest=x::r from HR.out] at N;exact N.tail) ⟨aa,by unfold maxLen;omega⟩⟩
end
section
open Go.RowKit Go.WideShapes Go.ChangeShapes
def Fv:(Gz.prog.info? 195).map (·.size)=an 40:=aF
def pn:List Int:=so 40 2048
def kP:List Int:=so 40 0
def Ng:ahR Gz.prog 145 #[] w λe w'=>e=dl (bi (arr pn))/\Q w w':=by
 go_enter Gz.gf func145,ntmps145;go_wp2;change Code.wp _ _ _ _ ((w.alloc (ap (arr kP) 195)).alloc (ap (arr kP) 195));have p:Q w ((w.alloc (ap (arr kP) 195)).alloc (ap (arr kP) 195)):=aU;have q:=(Nb.new 195 40 w kP rfl).alloc (ap (arr kP) 195);have m:=Nb.new 195 40 (w.alloc (ap (arr kP) 195)) kP rfl;simp only[World.size_alloc] at m;generalize(w.alloc (ap (arr kP) 195)).alloc (ap (arr kP) 195)=L at p q m⊢;go_loopw[3] (λi wr=>∃(k:Nat)(xs:List Int),k<=40/\i=U O k/\Hid (Nb 195 40 wr w.heap.size kP/\Nb 195 40 wr (w.heap.size+1) xs/\Q w wr/\∀j,j<40->xs[j]?.getD 0=if j<k then 2048 else 0)) (λi _=>40-(intOf i).toNat)
 case atStart=>exact⟨0,kP,aa,rfl,q,m,p,aw⟩
 case round=>
  obtain⟨k,xs,M,rfl,hK⟩:=hrel;obtain⟨z,h,u,o⟩:=hK.out;clear hK q m p;by_cases y:k<40
  ·have C:(k:Int)<40:=by omega
   have E:=h.at k y;generalize xs[k]?.getD 0=N at E;have f2:=h.free k;have F:=ag z;have D:=ag h;have G:=ag u;have H:=ag o;clear z h u o;go_wp2;go_roundw
   case rel=>
    refine⟨k+1,xs.set k 2048,aa,aJ,F.out.aL au _,D.out.set k 2048,G.out.set au _,λj f=>?_⟩;by_cases e:k=j
    ·subst e;rw[ajX (by rw[D.out.len];exact f),if_pos aa];rfl
    ·rw[akj e,H.out j f];by_cases h1:j<k
     ·rw[if_pos h1,if_pos aa]
     ·rw[if_neg h1,if_neg aa]
   case measure=>exact bj
  ·have l:k=40:=by omega
   subst l
   have e:xs=pn:=nt h.len λj f=>by rw[h.len] at f;rw[o j f,if_pos f];unfold pn;rw[List.getElem?_replicate,if_pos f];rfl
   subst e;clear o;have I:pn.length=40:=rfl;go_wp2_with(first|(refine ew (n:=40) rfl _ _ rfl _ rfl _ aE _ (Gz.gu underlying195) rfl Fv ?_)|(refine cP (n:=40) rfl _ _ _ rfl _ rfl _ _ dn aE dn Fv ?_;intro P J K R));refine bodyPost_ret (v:=bi (arr pn)) (results_cell_row aC _ _ _ _ _ _ _ aC J.blk (Gz.gu underlying195) rfl (by rw[bP,I];exact Fv)) rfl ⟨rfl,u.grown K λk e=>by have:=aH e;omega⟩
end
section
open Go.RowKit Go.WideShapes Go.ChangeShapes
def aaJ{P:Program}{C:Code}{K:Exit->Act->rl->Prop}{a:Act}{X Y:Array AS}(h:X=Y)(k:Code.wp P C K a (w.alloc (ap Y t))):Code.wp P C K a (w.alloc (ap X t)):=h▸k
def Wy(y:bC w B A xs)(z:xs.length=n)(hc:n<=c/\c<=maxLen)(l:B<=w.heap.size):
  ahR Gz.prog 113 #[.slice A n c] w λe w'=>∃g,e=dl (d9 (an ⟨g,0,ns⟩))/\w.heap.size<=g/\(∃m o,DB w' g (eJ xs) B m o)/\Q w w':=by
 go_enter Gz.gf func113,ntmps113;go_wp2;refine(Ng).mono ?_;rintro e j⟨rfl,q1⟩;have X:(arr pn).size=40:=rfl;go_wp2;refine aaJ (Y:=eE (fw xs) (.slice A n c)) aj ?_
 have p:DB (j.alloc (ap (eE (fw xs) (.slice A n c)) 198)) j.heap.size (fw xs) B A c:=by refine⟨?_,(y.q q1 l).alloc (aQ l q1.size) _,aQ l q1.size,rfl,by show xs.length<=c/\_;omega⟩;have:(fw xs).rest.length=n:=z;rw[this];exact ak.new _ _ _
 have u:Q w (j.alloc (ap (eE (fw xs) (.slice A n c)) 198)):=q1.alloc _;have f:=q1.size;generalize j.alloc (ap (eE (fw xs) (.slice A n c)) 198)=Z at p u⊢;generalize K:j.heap.size=g at p f⊢;clear K y q1 l z;go_loopw[8] (λi wr=>∃(k:Nat)(d:aA)(m:Option aic)(o:Nat),k<=4/\i=.int .i64 k/\Hid (DB wr g d B m o/\Q w wr/\(k=0->d=fw xs)/\(k=1->d=dc (fw xs))/\(k=2->d=dc (dc (fw xs)))/\(k=3->d=dc (dc (dc (fw xs))))/\(k=4->d=eJ xs)/\0<=d.code/\d.code<18446744073709551616)) (λi _=>4-(intOf i).toNat)
 case atStart=>exact⟨0,fw xs,A,c,aa,rfl,p,u,λ_=>rfl,λh=>by omega,λh=>by omega,λh=>by omega,λh=>by omega,by show(0:Int)<=0;omega,by show(0:Int)<_;omega⟩
 case round=>
  obtain⟨k,d,m,o,hk,rfl,hK⟩:=hrel;obtain⟨C,D,E,F,G,H,I,L,M⟩:=hK.out;clear hK p u;by_cases N:k<4
  ·have J:(k:Int)<4:=by omega
   have P:=Ph C L M;go_wp2;refine P.mono ?_;rintro e w3⟨rfl,⟨R,V,d3⟩,W⟩;go_wp2;go_roundw
   case rel=>
    refine⟨k+1,dc d,R,V,aa,aJ,d3,W.toQ D (by simpa using f),λh=>by omega,λh=>?_,λh=>?_,λh=>?_,λh=>?_,(jz).1,(jz).2⟩
    ·rw[E aa]
    ·rw[F aa]
    ·rw[G aa]
    ·rw[H aa];rfl
   case measure=>exact bj
  ·have v:k=4:=by omega
   subst v;have e:=I rfl;subst e;clear E F G H I;go_wp2;go_ret;exact⟨g,rfl,f,⟨_,_,C⟩,D⟩
end
section
open Go.RowKit Go.WideShapes Go.ChangeShapes
def bound(g k:Nat)(s p:Int)(w:rl)(h:w.cell? ⟨g,2+k,ns⟩=an (U O p))(v:k<40)(s1:16777216<=s)(s2:s<=4294967295)(j:1<=p)(l:p<=4095):
  ahR Gz.prog 173 #[d9 (an ⟨g,2,ns⟩),.int .u64 s,U O (k:Int)] w λe w'=>e=dl (.int .u64 (s/4096*p))/\w=w':=by
 obtain⟨f,i,m,o⟩:=lG s1 s2 j l;have q1:s.tdiv 4096=s/4096:=jS aa;generalize s/4096=q at f i m o q1⊢;obtain⟨r,u⟩:∃r,q*p=r:=⟨_,rfl⟩;rw[u] at f i⊢;go_enter Gz.gf func173,ntmps173;go_wp2;go_ret;exact⟨rfl,rfl⟩
def Gj(g:Nat)(p b:Int)(w:rl)(h:w.cell? ⟨g,2+k,ns⟩=an (U O p))(j:w.frozen? ⟨g,2+k,ns⟩=false)(l:k<40)
  (f:∀w,ahR Gz.prog 182 #[U O p,U O b] w λe w'=>e=dl (U O (bB p b))/\w=w'):
  ahR Gz.prog 174 #[d9 (an ⟨g,2,ns⟩),U O (k:Int),U O b] w λe w'=>e=dl (em #[])/\w'=(w.setCell ⟨g,2+k,ns⟩ (U O (bB p b))).drew:=by
 have i:=ag f;go_enter Gz.gf func174,ntmps174
 go_region_with (go_at_call 182;refine(i.out _).mono ?_;rintro e w'⟨rfl,rfl⟩)
 all_goals
  refine ajY (v:=em #[]) (by simp[results,results174,go_sem]) rfl ?_;exact⟨rfl,rfl⟩
theorem MH{d:aA}(h1:4096<=d.span)(f:d.span<16777216):jB (feed d)=jB d:=by
 have e:(feed d).span=d.span*256:=rfl;unfold jB;by_cases h:d.span*256<16777216
 ·grind
 ·grind
def Nh{d:aA}(h:¬d.span<16777216):jB d=d:=by unfold jB;rw[if_neg h]
def kQ(w:rl)(g:Nat):Nat:=
 match w.cell? ⟨g,1,ns⟩ with
 |some (.int _ s)=>(16777216-s).toNat
 |_=>0
def DB.je{d:aA}(h:DB w g d B A c):kQ w g=(16777216-d.span).toNat:=by unfold kQ;rw[h.span]
def Sw{p:Prop}(h:p:=by clear h1 h2 h3 x1 x2 c0 c1 hf;go_wp2;go_loopw[] (λwr=>∃(e:aA)(A':Option Addr)(c':Nat),Hid (DB wr g e B A' c'/\al [g] w wr/\wX e/\jB e=bT d k)) λwr=>kQ wr g;(case atStart=>exact⟨_,_,_,h4,x3,HM.out,rfl⟩);(case round=>obtain⟨e,A',c',hK⟩:=hrel;obtain⟨f,l,i,m⟩:=hK.out;have K:=f.span;have y:=i.lo;have L:=i.hi;have o:=ag f.je;by_cases z:e.span<16777216;(have M:=ag f;have C:=ag l;have q:=ag i;have D:=ag m;have E:=ag (Ph f i.c0 i.c1);clear f l i m hK;go_wp2;refine E.out.mono ?_;rintro N P⟨rfl,⟨F,G,j⟩,u⟩;have f1:=j.span;have f2:=j.free;rw[show(dc e).span=e.span from rfl] at f1;have v:=ag j;have H:=ag (C.out.aq u λg I=>.inl I);clear j u;have wc:IntKind.u64.wrap (e.span*256)=e.span*256:=u64_in (by omega) (by omega);go_wp2;go_roundw;(case rel=>exact⟨feed e,F,G,v.out.fA (e.span*256),H.out.set (.inl (by simp)) _,⟨by show 4096<=e.span*256;omega,by show e.span*256<=_;omega,(jz).1,(jz).2,q.out.len,q.out.ch⟩,(MH y z).trans D.out⟩);(case measure=>rw[o.out,(v.out.fA (e.span*256)).je];show(16777216-e.span*256).toNat<(16777216-e.span).toNat;omega));(have J:=(Nh (by omega)).symm.trans m;subst J;go_wp2;go_ret;exact⟨rfl,⟨_,_,f⟩,l⟩))):p:=h
def decode(g k B c:Nat)(d:aA)(A:Option aic)(w:rl)(h:DB w g d B A c)(ok:cj d)(m:k<40):
  ahR Gz.prog 147 #[d9 (an ⟨g,0,ns⟩),U O (k:Int)] w λe w'=>e=dl (U O (cV d k))/\(∃A' c',DB w' g (bT d k) B A' c')/\al [g] w w':=by
 obtain⟨C,D⟩:=ok.ch k m;have c0:=h.code;have c1:=h.span;have L:=h.jC k m;have hf:=h.free;have hS:=ok.lo;have N:=ok.hi;have V:=ok.c0;have P:=ok.c1;obtain⟨W,X,Z,b4⟩:=lG ok.lo ok.hi C D;have E:=ok.kr k m;have y:=ag λw o=>bound g k d.span (d.ch[k]?.getD 0) w o m ok.lo ok.hi C D;have M:=ag λb w o hf R=>Gj g (d.ch[k]?.getD 0) b w o hf m R;have v:dZ d k=d.span/4096*d.ch[k]?.getD 0:=rfl;by_cases j:d.code<dZ d k
 ·have f:cV d k=0:=by unfold cV;rw[if_pos j]
  have i:dQ d k={d with span:=dZ d k,ch:=d.ch.set k (bB (d.ch[k]?.getD 0) 0)}:=by unfold dQ;rw[if_pos j]
  rw[f];have u:=ag (MF (d.ch[k]?.getD 0) · C D);generalize z:d.ch[k]?.getD 0=p at*;generalize F:d.span/4096*p=l at*;have H:=ag h;have HM:=ag E;have RC:=ag i;have Fd:=ag v;have G:=ag z;rw[v] at j;clear h E i v f z F ok;go_enter Gz.gf func147,ntmps147;go_wp2
  go_quiet((go_at_call 173;exact ox ((y.out (w.drewN _) L).mono λ_ _ h=>⟨h.1,h.2.symm⟩)))
  have h1:=H.out.q ((Q.refl w).drewN nq);have x1:al [g] w (w.drewN nq):=(al.refl _ _).drewN _;generalize w.drewN nq=I at h1 x1⊢;have c0:=h1.code;have c1:=h1.span;have hf:=h1.free;go_wp2;have h2:=h1.fA l;have x2:=x1.set (p:=⟨g,1,ns⟩) (.inl au) (.int .u64 l);generalize I.setCell ⟨g,1,ns⟩ (.int .u64 l)=J at h2 x2⊢;refine(M.out 0 _ (by have o:=h2.jC k m;rw[show d.ch[k]?.getD 0=p from G.out] at o;exact o) (h2.free _) u.out).mono ?_;rintro e w3⟨rfl,rfl⟩;have h3:=(h2.lX k m (bB p 0)).q ((Q.refl _).drew);have x3:=(x2.set (p:=⟨g,2+k,ns⟩) (.inl au) (U O (bB p 0))).drew;generalize(J.setCell ⟨g,2+k,ns⟩ (U O (bB p 0))).drew=K at h3 x3⊢;have h4:DB K g (dQ d k) B A c:=rM;exact Sw
 ·have f:cV d k=1:=by unfold cV;rw[if_neg j]
  have i:dQ d k={d with code:=d.code-dZ d k,span:=d.span-dZ d k,ch:=d.ch.set k (bB (d.ch[k]?.getD 0) 1)}:=by unfold dQ;rw[if_neg j]
  rw[f];have u:=ag (MG (d.ch[k]?.getD 0) · C D);generalize z:d.ch[k]?.getD 0=p at*;generalize F:d.span/4096*p=l at*;have H:=ag h;have HM:=ag E;have RC:=ag i;have Fd:=ag v;have G:=ag z;rw[v] at j;have hle:l<=d.code:=aa;have wa:aiR.wrap (d.code-l)=d.code-l:=u64_in aa aa;have wb:aiR.wrap (d.span-l)=d.span-l:=u64_in aa aa;clear h E i v f z F ok j;go_enter Gz.gf func147,ntmps147;go_wp2
  go_quiet((go_at_call 173;exact ox ((y.out (w.drewN _) L).mono λ_ _ h=>⟨h.1,h.2.symm⟩)))
  have h1:=H.out.q ((Q.refl w).drewN nq);have x1:al [g] w (w.drewN nq):=(al.refl _ _).drewN _;generalize w.drewN nq=I at h1 x1⊢;have c0:=h1.code;have c1:=h1.span;have hf:=h1.free;go_wp2;have h2:=(h1.iA (d.code-l)).fA (d.span-l);have x2:=(x1.set (p:=⟨g,0,ns⟩) (.inl au) (.int .u64 (d.code-l))).set (p:=⟨g,1,ns⟩) (.inl au) (.int .u64 (d.span-l));generalize(I.setCell ⟨g,0,ns⟩ (.int .u64 (d.code-l))).setCell ⟨g,1,ns⟩ (.int .u64 (d.span-l))=J at h2 x2⊢;refine(M.out 1 _ (by have o:=h2.jC k m;rw[show d.ch[k]?.getD 0=p from G.out] at o;exact o) (h2.free _) u.out).mono ?_;rintro e w3⟨rfl,rfl⟩;have h3:=(h2.lX k m (bB p 1)).q ((Q.refl _).drew);have x3:=(x2.set (p:=⟨g,2+k,ns⟩) (.inl au) (U O (bB p 1))).drew;generalize(J.setCell ⟨g,2+k,ns⟩ (U O (bB p 1))).drew=K at h3 x3⊢;have h4:DB K g (dQ d k) B A c:=rM;exact Sw
end
def gV:List Nat:=[0,1,4,8,5,2,3,6,9,12,13,10,7,11,14,15]
def ag7:gV.length=16:=rfl
def tf:∀k,k<16->gV[k]?.getD 0<16:=aw
def fP:List (Int×Int)->List Int->Nat->Option (List Int)
 |[],b,_=>an b
 |(z,l)::r,b,p=>if l=0\/z<0\/16-(p:Int)<=z then ns else fP r (b.set (gV[p+z.toNat]?.getD 0) l) (p+z.toNat+1)
def gI(rs:List (Int×Int)):Option (List Int):=fP rs (so 16 0) 0
def Pj:∀(rs:List (Int×Int))(b:List Int)(p:Nat){c:List Int},fP rs b p=an c->c.length=b.length
 |[],b,_,c,h=>by simp[fP] at h;rw[h]
 |(z,l)::r,b,p,c,h=>by
  rw[fP] at h;split at h
  ·cases h
  ·rw[Pj r _ _ h,List.length_set]
def zl{rs:List (Int×Int)}{c:List Int}(h:gI rs=an c):c.length=16:=(Pj rs _ _ h).trans rfl
def NY:∀(rs:List (Int×Int))(b:List Int)(p:Nat),p<=16->16<p+rs.length->fP rs b p=ns
 |[],b,p,h,k=>by simp at k;omega
 |(z,l)::r,b,p,h,k=>by
  rw[fP];split
  ·rfl
  ·rename_i e;exact NY r _ _ aa (by simp at k;omega)
abbrev bF:=aA×Nat
def bD(b:Nat)(s:bF):Int×bF:=
 match aT b s.1 with
 |(ns,e)=>(0,(e,1))
 |(an n,e)=>(n,(e,s.2))
def eQ:Nat->bF->List (Int×Int)×bF
 |0,s=>([],s)
 |k+1,s=>
  let z:=bD 23 s
  let l:=bD 30 z.2
  let r:=eQ k l.2
  ((z.1,aY (l.1+1))::r.1,r.2)
def ir(s:bF):List Int×bF:=
 let n:=bD 16 s
 let r:=eQ (min n.1 17).toNat n.2
 match gI r.1 with
 |some b=>(b,r.2)
 |none=>(so 16 0,(r.2.1,if r.2.2=0 then 2 else r.2.2))
def hU:Nat->bF->List Int×bF
 |0,s=>([],s)
 |k+1,s=>
  let m:=bD 9 s
  let r:=hU k m.2
  (m.1::r.1,r.2)
def fc:Nat->bF->List Int×bF
 |0,s=>([],s)
 |k+1,s=>
  let m:=ir s
  let r:=fc k m.2
  (m.1++r.1,r.2)
def et:List Int:=so 71 0
def lM(be:Bool)(s:bF):Int×bF:=if be then(2,s) else(1+cV s.1 1,(bT s.1 1,s.2))
def tB(s:bF):List Int×bF:=
 let x:=bD 2 s
 let y:=bD 2 x.2
 ([1,aY x.1,aY y.1,0,0,0,0],y.2)
def mK(s:bF):List Int×bF:=
 let r:=hU 4 s
 ([2,0,0]++r.1,r.2)
def fz(be:Bool)(s:bF):List Int×bF:=if(lM be s).1=1 then tB (lM be s).2 else mK (lM be s).2
def iM(be:Bool)(s:bF):bF:=if be then s else(bT s.1 0,s.2)
def dV(be:Bool)(s:bF):List Int×bF:=
 if be=false/\cV s.1 0=0 then(et,(bT s.1 0,s.2))
 else
  ((fz be (iM be s)).1++(fc 4 (fz be (iM be s)).2).1,(fc 4 (fz be (iM be s)).2).2)
def eP(be:Bool):Nat->bF->Option (List Int)×Nat
 |0,s=>(an [],s.2)
 |k+1,s=>
  let m:=dV be s
  if m.2.2≠0 then(ns,m.2.2)
  else match eP be k m.2 with
   |(an r,e)=>(an (m.1++r),e)
   |(ns,e)=>(ns,e)
section
variable{s:bF}
def kL(f:b+6<40)(h:cj s.1):cj (bD b s).2.1:=by have:=acs f h;unfold bD;split<;>rename_i e<;>rw[e] at this<;>exact this
def Am(b:Nat)(s:bF):0<=(bD b s).1/\(bD b s).1<=65534:=by
 unfold bD;split
 ·omega
 ·rename_i n f e;exact jW (b:=b) (d:=s.1) om
def Pk:∀(k:Nat){s:bF},cj s.1->cj (eQ k s).2.1
 |0,_,h=>h
 |k+1,s,h=>Pk k (kL aw (kL aw h))
def NZ:∀(k:Nat)(s:bF),(eQ k s).1.length=k
 |0,_=>rfl
 |k+1,s=>by simp[eQ,NZ k]
def Ni(h:cj s.1):cj (ir s).2.1:=by unfold ir;dsimp only;have:=Pk (min (bD 16 s).1 17).toNat (kL (b:=16) aw h);split<;>exact this
def MJ(s:bF):(ir s).1.length=16:=by
 unfold ir;dsimp only;split
 ·rename_i b e;exact zl e
 ·rfl
def N4:∀(k:Nat){s:bF},cj s.1->cj (hU k s).2.1
 |0,_,h=>h
 |k+1,s,h=>N4 k (kL aw h)
def D8:∀(k:Nat)(s:bF),(hU k s).1.length=k
 |0,_=>rfl
 |k+1,s=>by simp[hU,D8 k]
def Pm:∀(k:Nat){s:bF},cj s.1->cj (fc k s).2.1
 |0,_,h=>h
 |k+1,s,h=>Pm k (Ni h)
def zC:∀(k:Nat)(s:bF),(fc k s).1.length=k*16
 |0,_=>rfl
 |k+1,s=>by simp only[fc,ahc,zC k,MJ];omega
def aaK(be:Bool)(h:cj s.1):cj (lM be s).2.1:=by
 unfold lM;split
 ·exact h
 ·exact h.jN 1 aw
def aaL(be:Bool)(h:cj s.1):cj (fz be s).2.1:=by
 have h1:=aaK be h;unfold fz;split
 ·exact kL aw (kL aw h1)
 ·have:=N4 4 h1;exact this
def Ek(be:Bool)(s:bF):(fz be s).1.length=7:=by
 unfold fz;split
 ·rfl
 ·rfl
def aaM(be:Bool)(h:cj s.1):cj (iM be s).1:=by
 unfold iM;split
 ·exact h
 ·exact h.jN 0 aw
def Zt(be:Bool)(h:cj s.1):cj (dV be s).2.1:=by
 unfold dV;split
 ·exact h.jN 0 aw
 ·have:=Pm 4 (aaL be (aaM be h));generalize fc 4 (fz be (iM be s)).2=z at this⊢;exact this
def D9(be:Bool)(s:bF):(dV be s).1.length=71:=by
 unfold dV;split
 ·rfl
 ·show((fz be (iM be s)).1++_).length=71;rw[ahc,Ek,zC]
def Ea(be:Bool):∀(k:Nat)(s:bF){r:List Int},(eP be k s).1=an r->r.length=k*71
 |0,_,r,h=>by simp[eP] at h;rw[h];rfl
 |k+1,s,r,h=>by
  rw[eP] at h;have hm:=D9 be s;generalize dV be s=m at h hm;split at h
  ·cases h
  ·split at h
   ·rename_i f e i;have:=Ea be k _ (r:=f) (by rw[i]);injection h with h;rw[<-h,ahc,hm,this];omega
   ·cases h
end
section
open Go.RowKit
def ig(h: -9223372036854775808<=x/\x<9223372036854775808):wrap64 x=x:=Cy
def EW:Lib.len8tab.size=256:=aF
def afP:∀n:Fin 256,(Lib.len8tab[n.val]'(by rw[EW];exact n.isLt)).toNat=ajb n.val:=by decide+kernel
def Sx(n:Nat)(h:n<Lib.len8tab.size):Lib.len8tab[n].toNat=ajb n:=afP ⟨n,by rw[EW] at h;exact h⟩
def adU(w:rl)(h0:0<=x)(h1:x<256):
  ahR Gz.prog 184 #[.int .u64 x] w λe w'=>e=dl (U O (ajb x.toNat))/\w'=w:=by
 go_enter Gz.gf func184,ntmps184;go_wp2;go_ret;refine⟨congrArg Ending.returned (congrArg (Value.int EV) ?_),rfl⟩;have f:=Lib.bitLen_le8 ⟨x.toNat,aa⟩;simp only at f;rw[Sx,ig (x:=(ajb x.toNat:Int)) ⟨aa,aa⟩,ig (x:=(ajb x.toNat:Int)) ⟨aa,aa⟩]
def adV(w:rl)(h0:256<=x)(h1:x<65536):
  ahR Gz.prog 184 #[.int .u64 x] w λe w'=>e=dl (U O (ajb x.toNat))/\w'=w:=by
 have f:=EW;go_enter Gz.gf func184,ntmps184;go_wp2
 ·go_ret;refine⟨congrArg Ending.returned (congrArg (Value.int EV) ?_),rfl⟩;have h:=Lib.bitLen_le8 ⟨(x/256).toNat,aa⟩;simp only at h;have s:=Lib.bitLen_shift8 x.toNat aa aa;rw[show x.toNat/256=(x/256).toNat by omega] at s;rw[Sx,ig (x:=(ajb (x/256).toNat:Int)) ⟨aa,aa⟩,ig ⟨aa,aa⟩];omega
def aeR(h0:0<=x)(h1:x<65536):
  ahR Gz.prog 184 #[.int .u64 x] w λe w'=>e=dl (U O (ajb x.toNat))/\w'=w:=by
 by_cases h:x<256
 ·exact adU w h0 h
 ·exact adV w aa h1
def bitsLen(x:Int)(w:rl)(h0:0<=x)(h1:x<65536):
  ahR Gz.prog 175 #[.int .u64 x] w λe w'=>e=dl (U O (ajb x.toNat))/\w'=w:=by
 go_enter Gz.gf func175,ntmps175;go_wp2_with(go_at_call 184;refine(aeR h0 h1).mono ?_;rintro e w'⟨rfl,rfl⟩);go_ret;exact⟨rfl,rfl⟩
def Nj:∀(f x:Nat),0<x->x<2^f->Lib.bitLenAux f x=x.log2+1
 |0,x,h,k=>by simp at k;omega
 |f+1,x,h,k=>by
  rw[Lib.bitLenAux,if_neg aa,Nat.log2_def];by_cases e:2<=x
  ·rw[if_pos e,Nj f (x/2) aa (by rw[Nat.pow_succ] at k;omega)];omega
  ·rw[if_neg e];have:x=1:=aa;subst this;cases f<;>rfl
def Yn(x:Nat)(h:0<x)(k:x<2^64):ajb x=x.log2+1:=Nj 64 x h k
end
section
open Go.RowKit Go.WideShapes Go.ChangeShapes
def kT(a1 a2:aic):Nat->AS
 |0=>.nilIface
 |1=>gc 234 (d9 (an a1))
 |_=>gc 234 (d9 (an a2))
structure gQ(w:rl)(a1 a2:aic)(B:Nat):Prop where
 e1:w.cell? ⟨1,0,ns⟩=an (kT a1 a2 1)
 e2:w.cell? ⟨2,0,ns⟩=an (kT a1 a2 2)
 l1:1<B
 l2:2<B
def gQ.q{w':rl}{a1 a2:aic}(h:gQ w a1 a2 B)(hq:Q w w')(e:B<=w.heap.size):gQ w' a1 a2 B:=
 ⟨(hq.cell _ _ (cC h.l1 e)).trans h.e1,(hq.cell _ _ (cC h.l2 e)).trans h.e2,h.l1,h.l2⟩
def gQ.aq{w':rl}{a1 a2:aic}(h:gQ w a1 a2 B)(e:al S w w')(f:B<=w.heap.size)(i:∀x,x∈S->B<=x):gQ w' a1 a2 B:=
 ⟨(nu e (cC h.l1 f) λk=>by have:=i _ k;have:=h.l1;omega).trans h.e1,(nu e (cC h.l2 f) λk=>by have:=i _ k;have:=h.l2;omega).trans h.e2,h.l1,h.l2⟩
structure RB(w:rl)(r g:Nat)(s:bF)(a1 a2:aic)(B:Nat)(A:Option aic)(c:Nat):Prop where
 blk:ak w r 158 #[d9 (an ⟨g,0,ns⟩),kT a1 a2 s.2]
 db:DB w g s.1 B A c
 ne:r≠g
 le:B<=r
 er:gQ w a1 a2 B
section
variable{w w':rl}{r g B c:Nat}{s:bF}{A:Option aic}{a1 a2:aic}
def RB.nY(h:RB w r g s a1 a2 B A c):B<=w.heap.size:=aQ h.le (Nat.le_of_lt h.blk.lt)
def RB.q(h:RB w r g s a1 a2 B A c)(hq:Q w w'):RB w' r g s a1 a2 B A c:=⟨h.blk.q hq,h.db.q hq,h.ne,h.le,h.er.q hq h.nY⟩
def RB.aq(h:RB w r g s a1 a2 B A c)(e:al S w w')(f:∀x,x∈S->B<=x)(i:g∉S)(hr:r∉S):RB w' r g s a1 a2 B A c:=
 ⟨h.blk.aq e hr,h.db.aq e f i,h.ne,h.le,h.er.aq e h.nY f⟩
def RB.dec(h:RB w r g s a1 a2 B A c)(e:al [g] w w'){d:aA}{f:Option aic}{i:Nat}(hd:DB w' g d B f i):RB w' r g (d,s.2) a1 a2 B f i:=
 ⟨h.blk.aq e (by simp[h.ne]),hd,h.ne,h.le,h.er.aq e h.nY λx j=>by simp at j;rw[j];exact h.db.le⟩
def RB.ptr(h:RB w r g s a1 a2 B A c):w.cell? ⟨r,0,ns⟩=an (d9 (an ⟨g,0,ns⟩)):=h.blk.cell 0
def RB.err(h:RB w r g s a1 a2 B A c):w.cell? ⟨r,1,ns⟩=an (kT a1 a2 s.2):=h.blk.cell 1
def RB.free(h:RB w r g s a1 a2 B A c)(i:Nat):w.frozen? ⟨r,i,ns⟩=false:=h.blk.free i
def RB.Rn(h:RB w r g s a1 a2 B A c)(e:Nat):RB (w.setCell ⟨r,1,ns⟩ (kT a1 a2 e)) r g (s.1,e) a1 a2 B A c:=
 ⟨h.blk.set 1 _,h.db.aL (λe=>h.ne e.symm) h.le _,h.ne,h.le,h.er.aq (lH w r 1 _) h.nY λx f=>by simp at f;rw[f];exact h.le⟩
end
def vr(j:Nat)(h:j<=15):(2:Int)^(j+1)<=65536:=by have:(2:Nat)^(j+1)<=2^16:=Nat.pow_le_pow_right aw aa;have:((2^(j+1):Nat):Int)<=((2^16:Nat):Int):=aa;exact this
def Sy:ajb 65534=16:=aF
def number(r g b B c:Nat)(s:bF)(a1 a2:aic)(A:Option aic)(w:rl)(h:RB w r g s a1 a2 B A c)(ok:cj s.1)(hb:b+6<40):
  ahR Gz.prog 149 #[d9 (an ⟨r,0,ns⟩),U O (b:Int)] w λe w'=>e=dl (U O (bD b s).1)/\(∃o q,RB w' r g (bD b s).2 a1 a2 B o q)/\al [r,g] w w':=by
 have HL:=ag λw=>bitsLen 65534 w aa aa;go_enter Gz.gf func149,ntmps149;go_wp2;go_loopw[5] (λi wr=>∃(k:Nat)(d:aA)(o:Option aic)(q:Nat),k<=15/\i=U O k/\Hid (RB wr r g (d,s.2) a1 a2 B o q/\al [r,g] w wr/\cj d/\gO b (16-k) k d=gO b 16 0 s.1)) (λi _=>16-(intOf i).toNat)
 case atStart=>exact⟨0,s.1,A,c,aa,rfl,h,al.refl _ _,ok,rfl⟩
 case round=>
  obtain⟨k,d,o,q,hk,rfl,hK⟩:=hrel;obtain⟨f,u,y,m⟩:=hK.out;have c0:=f.ptr;have z:=decode g (b+min k 5) B q d o wr f.db y aa;have hkk:(k:Int)<=15:=aa;clear hK h;rw[show((b+min k 5:Nat):Int)=(b:Int)+((min k 5:Nat):Int) by omega] at z;have ahf:((b:Int)+min (k:Int) 5)=((b+min k 5:Nat):Int):=aa
  have l:gO b (16-k) k d=if cV d (b+min k 5)=1 then gO b (16-(k+1)) (k+1) (bT d (b+min k 5)) else(an k,bT d (b+min k 5)):=by rw[show 16-k=(15-k)+1 by omega,gO,show 16-(k+1)=15-k by omega]
  have C:=y.jN (b+min k 5) aa;have K2:=ag u;have K1:=ag f;go_wp2;refine z.mono ?_;rintro e w2⟨rfl,⟨M,N,d2⟩,P⟩;have E:=f.dec P d2;have J:=u.aq P (λx F=>.inl (by simp at F;simp[F]));clear d2 P f u c0 z;rw[m] at l;rcases nA d (b+min k 5) with h0|h1
  ·rw[if_neg (by rw[h0];decide)] at l;rw[h0];generalize bT d (b+min k 5)=d1 at l C E
   have Q:Hid (bD b s=((tailD b k 1 d1).1-1,((tailD b k 1 d1).2,s.2))):=by unfold Hid bD aT;rw[l]
   clear l m y h0 K1 K2;have D:=ag E;have K:=ag J;clear E J;go_wp2;go_loopw[6,27] (λv i wr=>∃(j:Nat)(n:Int)(d:aA)(o:Option aic)(q:Nat),j<=k/\i=U O j/\v=U O n/\Hid (RB wr r g (d,s.2) a1 a2 B o q/\al [r,g] w wr/\cj d/\tailD b (k-j) n d=tailD b k 1 d1)/\0<=n/\n<2^(j+1)) (λ_ i _=>k-(intOf i).toNat)
   case atStart=>exact⟨0,1,d1,M,N,aa,rfl,rfl,⟨D.out,K.out,C,rfl⟩,aa,aa⟩
   case round=>
    obtain⟨j,n,d,A3,c3,hj,rfl,rfl,hK,wY,G⟩:=hrel;obtain⟨f,u,y,m⟩:=hK.out;clear hK;by_cases aV:j<k
    ·have tQ:(j:Int)<(k:Int):=by omega
     have c0:=f.ptr;have z:=decode g (b+6) B c3 d A3 wr f.db y hb;rw[show((b+6:Nat):Int)=(b:Int)+6 by omega] at z
     have L:tailD b (k-j) n d=tailD b (k-(j+1)) (2*n+cV d (b+6)) (bT d (b+6)):=by rw[show k-j=(k-(j+1))+1 by omega,tailD]
     have C:=y.jN (b+6) hb;have R:=vr j aa;have p2:(2:Int)^(j+1+1)=2^(j+1)*2:=Int.pow_succ ..;have H:=nA d (b+6);have V:0<=2*n+cV d (b+6):=aa;have I:2*n+cV d (b+6)<2^(j+1+1):=by rw[p2];omega
     have W:n<=65536:=aa;have GG:=ag I;rw[m] at L;clear G R p2 I;have wn:wrap64 (2*n)=2*n:=ig ⟨aa,aa⟩;go_wp2;refine z.mono ?_;rintro e w5⟨rfl,⟨A5,c5,d5⟩,X⟩;have Z:=f.dec X d5;have x6:=u.aq X (λx F=>.inl (by simp at F;simp[F]));clear d5 X f u c0 z;generalize cV d (b+6)=bt at H L V GG;generalize bT d (b+6)=d6 at L C Z;have H5:=ag Z;have X6:=ag x6;clear Z x6;have wn2:wrap64 (2*n+bt)=2*n+bt:=ig ⟨aa,aa⟩;go_wp2;go_roundw;case rel=>exact⟨j+1,2*n+bt,d6,A5,c5,aa,aJ,rfl,⟨H5.out,X6.out,C,L.symm⟩,aa,GG.out⟩
     case measure=>exact bj
    ·have ip:j=k:=by omega
     subst ip;rw[Nat.sub_self,tailD] at m;have e1:=congrArg Prod.fst m;have e2:=congrArg Prod.snd m;dsimp only at e1 e2;have E1:=ag e1;have E2:=ag e2;have R:=vr j aa;have W:n<=65536:=aa;clear G R m e1 e2;go_wp2;go_ret;rw[Q.out];exact⟨by rw[<-E1.out];rfl,⟨_,_,by rw[<-E2.out];exact f⟩,u⟩
  ·rw[if_pos h1] at l;rw[h1];generalize bT d (b+min k 5)=d1 at l C E;have D:=ag E;have K:=ag J;clear E J K1 K2 y h1;by_cases h15:k=15
   ·subst h15
    have Q:Hid (bD b s=(0,(d1,1))):=by unfold Hid bD aT;rw[l];rfl
    have ce:w2.cell? ⟨1,0,ns⟩=an (gc 234 (d9 (an a1))):=D.out.er.e1;have cf:=D.out.free;have cr:=D.out.err;go_wp2_with(go_at_call 175;refine(HL.out _).mono ?_;rintro e w'⟨rfl,rfl⟩;rw[show ajb (Int.toNat 65534)=16 from Sy]);go_ret;rw[Q.out];exact⟨rfl,⟨M,N,D.out.Rn 1⟩,K.out.set (p:=⟨r,1,ns⟩) (.inl au) _⟩
   ·have afQ:(k:Int)+1<16:=by omega
    go_wp2_with(go_at_call 175;refine(HL.out _).mono ?_;rintro e w'⟨rfl,rfl⟩;rw[show ajb (Int.toNat 65534)=16 from Sy]);go_roundw;case rel=>exact⟨k+1,d1,M,N,aa,aJ,D.out,K.out,C,l.symm⟩
    case measure=>exact bj
end
end Go.Proofs.Q0
