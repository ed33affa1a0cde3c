import Derived.Test.YtjjdeakghpmpfaaGreatDoorK3
import Derived.Conc.WgArith
import Derived.Deep.RegionLawGrows
import Derived.StillTailTactics
import Derived.Deep.RegionWith
import Derived.Deep.DeepCutAuto
set_option maxRecDepth 100000
set_option maxHeartbeats 8000000
set_option linter.all false
open Go.Value renaming int->U,slice->Y,bool->a9,agg->a5,pointer->ci,tuple->dl,iface->em
open Go.IntKind renaming i64->O
open Go.Obj renaming cells->ac
open Go.Ending renaming returned->be
open Array renaming getElem?_append_left->akT
open Go renaming Addr->aiI,Calls->UL,Oper->aku,Operand->ajd,Program->Kx,TypeId->EV,Value->rl,World->ns,bodyPost_end->akv,wpList->aja
open Go.IntKind renaming u64->ajq
open Int renaming tdiv_eq_ediv_of_nonneg->ajh
open List renaming append_assoc->aiK,getElem?_set_ne->akJ,length_append->aiw,length_cons->aiS,length_map->ajA,length_nil->akc,replicate->an
open Nat renaming add_assoc->akL
open Option renaming getD_some->aiL
namespace Go.Proofs
def aA{p:Prop}(h:p:=by simp;omega):p:=h
abbrev pd:=@List.getElem?_eq_some_iff
def J1{p:Prop}(h:p:=by rw[this,<-hv,<-fP xs o k j hj];have tr:j<(sub xs o k).length:=eO;simp[tr]):p:=h
def tZ{p:Prop}(h:p:=by simp[World.setCell]):p:=h
abbrev Dw:=@List.eq_nil_of_length_eq_zero
def J2{p:Prop}(h:p:=by
  refine⟨h.1,?_⟩;obtain⟨h1,h2⟩:=h.2;refine⟨h1,?_⟩;rcases h2 with h2|⟨g,cap,cur,hv,hB,hg,r⟩
  ·simp_all
  ·refine .inr ⟨g,cap,cur,hv,hB,?_,r⟩;rcases de g w.heap.size with aT|wt
   ·exact(k.block g aT λe=>by have:=hs g e;omega).trans hg
   ·simp_all):p:=h
def xD{p:Prop}(h:p:=by rw[Int.tdiv_eq_ediv_of_nonneg (by omega)];omega):p:=h
def jb{p:Prop}(h:p:=by go_wp2;all_goals(go_ret;exact⟨by rw[H.out];rfl,rfl⟩)):p:=h
def xT{p:Prop}(h:p:=by rw[Int.tdiv_eq_ediv_of_nonneg h1];omega):p:=h
def Cb{p:Prop}(h:p:=by rw[<-IntWalk.i64_left];exact IntWalk.i64_in _ ⟨by omega,by omega⟩):p:=h
abbrev jF:=@ajh
abbrev nO:=@Go.Calls.quiet_of_same
def qV{p:Prop}(h:p:=by rw[PP.out,Do.out];exact h3):p:=h
end Go.Proofs
namespace Go.Proofs.Q0
open Go.Proofs.Tryz
variable{o k n b B g c:Nat}{xs ys:List Int}{p:aiI}{row:Option Nat}{P:Kx}{w w':ns}{t:EV}{A:Option aiI}{x:Int}{s:rl}
section
open Go.RowKit Go.WideShapes Go.ChangeShapes
def upd:List Int->Nat->List Int->List Int
 |xs,_,[]=>xs
 |xs,o,y::ys=>upd (xs.set o y) (o+1) ys
def u0:∀(ys xs:List Int)(o:Nat),(upd xs o ys).length=xs.length
 |[],_,_=>rfl
 |y::ys,xs,o=>by rw[upd,u0 ys];simp
def zQ:∀(ys xs:List Int)(o k:Nat),o+ys.length<=xs.length->(upd xs o ys)[k]?.getD 0=if o<=k/\k<o+ys.length then ys[k-o]?.getD 0 else xs[k]?.getD 0
 |[],xs,o,k,h=>by rw[upd,if_neg];simp only[akc];omega
 |y::ys,xs,o,k,h=>by
  simp only[aiS] at h⊢;rw[upd,zQ ys (xs.set o y) (o+1) k aA];by_cases e:k=o
  ·subst e;rw[if_neg aa,if_pos aa];simp[show k<xs.length by omega]
  ·by_cases h1:o+1<=k/\k<o+1+ys.length
   ·rw[if_pos h1,if_pos aa,show k-o=(k-(o+1))+1 by omega];simp
   ·rw[if_neg h1,if_neg aa];rw[akJ aa]
def sub(xs:List Int)(o k:Nat):List Int:=(xs.drop o).take k
def bP(h:o+k<=xs.length):(sub xs o k).length=k:=by simp[sub];omega
def fP(xs:List Int)(o k i:Nat)(h:i<k):(sub xs o k)[i]?.getD 0=xs[o+i]?.getD 0:=by unfold sub;rw[List.getElem?_take_of_lt h,List.getElem?_drop]
def mQ(h:xs.length=ys.length)(k:∀i,i<xs.length->xs[i]?.getD 0=ys[i]?.getD 0):xs=ys:=by refine List.ext_getElem h λi h1 e=>?_;have:=k i h1;simpa[h1,e] using this
def Xm(h:o+ys.length<=xs.length):sub (upd xs o ys) o ys.length=ys:=by
 have e:o+ys.length<=(upd xs o ys).length:=by rw[u0];exact h
 refine mQ (bP e) λi hi=>?_;rw[bP e] at hi;rw[fP _ _ _ _ hi,zQ _ _ _ _ h,if_pos aa];congr 2;omega
def XU{e:Nat}(h:o+ys.length<=xs.length)(f:e+k<=xs.length)(l:e+k<=o\/o+ys.length<=e):sub (upd xs o ys) e k=sub xs e k:=by
 have j:e+k<=(upd xs o ys).length:=by rw[u0];exact f
 refine mQ (by rw[bP j,bP f]) λi hi=>?_;rw[bP j] at hi;rw[fP _ _ _ _ hi,fP _ _ _ _ hi,zQ _ _ _ _ h,if_neg aa]
structure Nb(t:EV)(n:Nat)(w:ns)(g:Nat)(xs:List Int):Prop where
 blk:ak w g t (arr xs)
 len:xs.length=n
section
variable{t:EV}{n:Nat}{w w':ns}{g:Nat}{xs ys:List Int}
def Nb.q(h:Nb t n w g xs)(hq:Q w w'):Nb t n w' g xs:=⟨h.blk.q hq,h.len⟩
def Nb.at(h:Nb t n w g xs)(k:Nat)(e:k<n):w.cell? ⟨g,k,none⟩=some (U O (xs[k]?.getD 0)):=(h.blk.cell k).trans (mZ _ _ (by rw[h.len];exact e))
def Nb.free(h:Nb t n w g xs)(k:Nat):w.frozen? ⟨g,k,none⟩=false:=h.blk.free k
def Nb.set(h:Nb t n w g xs)(k:Nat)(y:Int):Nb t n (w.setCell ⟨g,k,none⟩ (U O y)) g (xs.set k y):=⟨by rw[<-Qx];exact h.blk.set k _,by rw[List.length_set];exact h.len⟩
def Nb.aN(h:Nb t n w g xs)(e:g≠p.block)(u:rl):Nb t n (w.setCell p u) g xs:=⟨h.blk.aN e u,h.len⟩
def Nb.grown(h:Nb t n w g xs)(e:w.grownBy w' row)(f:some g≠row):Nb t n w' g xs:=⟨h.blk.grown e f,h.len⟩
def Nb.alloc(h:Nb t n w g xs)(o:Obj):Nb t n (w.alloc o) g xs:=h.q ((Q.refl w).alloc o)
def Nb.drew(h:Nb t n w g xs):Nb t n w.drew g xs:=h.q ((Q.refl w).drew)
def Nb.new(t:EV)(n:Nat)(w:ns)(xs:List Int)(h:xs.length=n):Nb t n (w.alloc (ac (arr xs) t)) w.heap.size xs:=⟨ak.new w _ _,h⟩
def Nb.lt(h:Nb t n w g xs):g<w.heap.size:=h.blk.lt
def Qy(xs:List Int)(o k:Nat):(arr xs).extract o (o+k)=arr (sub xs o k):=by simp only[arr,sub,List.extract_toArray,List.extract_eq_take_drop,List.map_take,List.map_drop];rw[show o+k-o=k by omega]
def abc(xs:List Int):(arr xs).toList=xs.map (Value.int .i64):=rfl
def Nb.range(h:Nb t n w g xs)(o k:Nat)(e:o+k<=n):w.rangeAt g o ((sub xs o k).map (Value.int .i64)):=λj v hv=>by
 have f:=h.len
 have hj:j<k:=by have:=(pd.1 hv).1;rw[ajA,bP aa] at this;exact this
 have:=h.at (o+j) aa;exact J1
def Nb.there(h:Nb t n w g xs)(o k:Nat)(e:o+k<=n):w.there g o k:=λj f=>⟨by rw[h.at (o+j) aa];rfl,h.free _⟩
def Nb.setCells:∀(ys:List Int)(w:ns)(xs:List Int)(o:Nat),Nb t n w g xs->Nb t n (w.setCells g o (ys.map (Value.int .i64))) g (upd xs o ys)
 |[],_,_,_,h=>h
 |y::ys,w,xs,o,h=>by rw[List.map_cons,World.setCells,upd];exact Nb.setCells ys _ _ _ (h.set o y)
def JJ(g:Nat):∀(vs:List rl)(o:Nat)(w:ns),w.grownBy (w.setCells g o vs) (some g)/\(w.setCells g o vs).heap.size=w.heap.size
 |[],_,_=>⟨⟨rfl,rfl,rfl,au _,λ_ _ _=>rfl⟩,rfl⟩
 |v::vs,o,w=>by rw[World.setCells];obtain⟨h1,i⟩:=JJ g vs (o+1) (w.setCell ⟨g,o,none⟩ v);have h:(w.setCell ⟨g,o,none⟩ v).heap.size=w.heap.size:=tZ;refine⟨⟨h1.os,h1.tape,h1.output,by rw[i,h];exact au _,λk j f=>?_⟩,i.trans h⟩;exact(h1.block k (by rw[h];exact j) f).trans (iI w ⟨g,o,none⟩ v k λe=>f nI)
variable{P:Kx}{ops:Array aku}{rest:List aku}{o:aku}{a:Act}{Q':Exit->Act->ns->Prop}
def LP(e:o.guard=none)(ty:EV)(x:ajd)(f:o.op=.load ty x)(g off:Nat)(i:a.eval x=ci (some ⟨g,off,none⟩))(xs:List Int)(h:Nb t n w g xs)(k:Nat)(j:off+k<=n)(d:TypeDesc)
  (hu:P.underlying ty=some d)(hd:d.isRow=true)(hi:(P.info? ty).map (·.size)=some k)
  (hK:aja P ops Q' rest (a.put o.dst (a5 (arr (sub xs off k)))) w):aja P ops Q' (o::rest) a w:=
 wpList_load_mid e ty x f g off i _ d (h.range off k j) hu hd (by rw[ajA,bP (by have:=h.len;omega)];exact hi) hK
def eQ(f:o.guard=none)(ty:EV)(x:ajd)(i:o.op=.load ty x)(g:Nat)(j:a.eval x=ci (some ⟨g,0,none⟩))(xs:List Int)(h:Nb t n w g xs)(d:TypeDesc)
  (hu:P.underlying ty=some d)(hd:d.isRow=true)(hi:(P.info? ty).map (·.size)=some n)
  (hK:aja P ops Q' rest (a.put o.dst (a5 (arr xs))) w):aja P ops Q' (o::rest) a w:=by
 have e:sub xs 0 n=xs:=by unfold sub;rw[List.drop_zero,List.take_of_length_le (Nat.le_of_eq h.len)]
 refine LP f ty x i g 0 j xs h n aa d hu hd hi ?_;rw[e];exact hK
def ye(e:o.guard=none)(ty:EV)(x y:ajd)(f:o.op=.store ty x y)(g off:Nat)(i:a.eval x=ci (some ⟨g,off,none⟩))(xs ys:List Int)(j:a.eval y=a5 (arr ys))(h:Nb t n w g xs)(l:off+ys.length<=n)
  (hi:(P.info? ty).map (·.size)=some ys.length)
  (hK:∀w',Nb t n w' g (upd xs off ys)->w.grownBy w' (some g)->w'.heap.size=w.heap.size->aja P ops Q' rest (a.put o.dst undef) w'):aja P ops Q' (o::rest) a w:=by
 refine wpList_store_mid e ty x y f g off (arr ys) i j (by rw[bO];exact h.there off _ l) (by rw[bO];exact hi) (Fj ys) ?_;obtain⟨h1,m⟩:=JJ g (arr ys).toList off w;exact hK _ (Nb.setCells ys w xs off h) h1 m
end
def Qz:∀(ys xs pre:List Int),xs.length=ys.length->upd (pre++xs) pre.length ys=pre++ys
 |[],xs,pre,h=>by have:xs=[]:=Dw lV;subst this;rfl
 |y::ys,x::xs,pre,h=>by rw[upd];have e:(pre++x::xs).set pre.length y=(pre++[y])++xs:=aj;rw[e];have:=Qz ys xs (pre++[y]) lV;simp only[aiw,List.length_singleton] at this;rw[this];simp
def abd(h:xs.length=ys.length):upd xs 0 ys=ys:=Qz ys xs [] h
def di{ops:Array aku}{rest:List aku}{o:aku}{a:Act}{Q':Exit->Act->ns->Prop}(e:o.guard=none)(ty:EV)(x y:ajd)(i:o.op=.store ty x y)(g:Nat)(j:a.eval x=ci (some ⟨g,0,none⟩))(xs ys:List Int)(l:a.eval y=a5 (arr ys))(h:Nb t n w g xs)(f:ys.length=n)
  (hi:(P.info? ty).map (·.size)=some n)
  (hK:∀w',Nb t n w' g ys->w.grownBy w' (some g)->w'.heap.size=w.heap.size->aja P ops Q' rest (a.put o.dst undef) w'):aja P ops Q' (o::rest) a w:=
 ye e ty x y i g 0 j xs ys l h aa (by rw[f];exact hi) λw' h1 m q=>hK w' (by rw[abd (by rw[h.len,f])] at h1;exact h1) m q
abbrev Uj:=Rd
def az(t:EV)(s:Nat)(w:ns)(B:Nat)(v:rl)(n:Nat)(xs:List Int):Prop:=xs.length=n*s/\w.ownsRow B t s v n (xs.map (Value.int .i64))
section
variable{t:EV}{s:Nat}{w w':ns}{B B' g c n:Nat}{v:rl}{A:Option aiI}{xs:List Int}
def az.nil(t:EV)(s:Nat)(w:ns)(B:Nat):az t s w B (Y none 0 0) 0 []:=⟨aj,World.ownsRow_nil _ _ _ _⟩
def az.jT(t:EV)(s:Nat)(w:ns)(B:Nat)(e:B<=w.heap.size):az t s (w.alloc (ac #[] t)) B (Y (some ⟨w.heap.size,0,none⟩) 0 0) 0 []:=
 ⟨aj,World.ownsRow_made w #[] 0 e (dC _) aj⟩
def az.form(h:az t s w B v n xs):∃A c,v=Y A n c:=by exact CJ
def az.dD(h:az t s w B v n xs):(v=Y none 0 0/\n=0)\/∃g c,v=Y (some ⟨g,0,none⟩) n c/\B<=g/\g<w.heap.size/\n<=c/\c<=maxLen:=by exact CK
def az.le(h:az t s w B v n xs):n<=maxLen:=by exact De
def az.q(h:az t s w B v n xs)(hq:Q w w'):az t s w' B v n xs:=
 ⟨h.1,h.2.kept (w':=w') (row:=none) ⟨hq.os,hq.tape,hq.output,hq.size,λk e _=>hq.block k e⟩ B8⟩
def az.drewN(h:az t s w B v n xs)(k:Nat):az t s (w.drewN k) B v n xs:=aG
def az.alloc(h:az t s w B v n xs)(o:Obj):az t s (w.alloc o) B v n xs:=h.q ((Q.refl w).alloc o)
def az.drew(h:az t s w B v n xs):az t s w.drew B v n xs:=aG
def az.below(h:az t s w B v n xs)(k:Nat)(e:v.ownBlock=some k):B<=k:=(h.2.lt k e).1
def az.other(h:az t s w B v n xs)(f:w.grownBy w' row)(e:v.ownBlock=none\/v.ownBlock≠row):az t s w' B v n xs:=⟨h.1,h.2.kept f e⟩
def az.aN(h:az t s w B v n xs)(e:p.block<B)(u:rl):az t s (w.setCell p u) B v n xs:=⟨h.1,ownsRow_setCell_below h.2 e u⟩
def az.cell(h:az t s w B (Y (some ⟨g,0,none⟩) n c) n xs)(k:Nat)(e:k<n*s):w.cell? ⟨g,k,none⟩=some (U O (xs[k]?.getD 0)):=by
 have:=h.2.cells (g:=g) rfl k (U O (xs[k]?.getD 0)) (by have:=h.1;simp[show k<xs.length by omega]);by_cases h0:k=0
 ·subst h0;simpa[Addr.add] using this
 ·simpa[Addr.add,h0] using this
def az.rd(h:az t s w B (Y A n c) n xs):Rd w w.heap.size A xs:=λm=>by
 have q:=h.1;rcases h.dD with⟨e,r⟩|⟨g,f,e,u,j,_⟩
 ·simp_all
 ·have l:A=some ⟨g,0,none⟩:=by injection e
  subst l;refine⟨g,0,rfl,j,λi hi=>?_⟩;rw[Nat.zero_add];exact h.cell i aa
def az.frozen(h:az t s w B (Y (some ⟨g,0,none⟩) n c) n xs)(k:Nat):w.frozen? ⟨g,k,none⟩=false:=by
 rcases h.2.2 with⟨e,_⟩|⟨f,i,j,e,q,l,_⟩
 ·cases e
 ·have:g=f:=by injection e with h1;injection h1 with m;injection m
  subst this;simp[World.frozen?,l]
def Rd.range(h:Rd w B (some ⟨b,o,none⟩) xs)(i k:Nat)(y:i+k<=xs.length)(m:0<xs.length):w.rangeAt b (o+i) ((sub xs i k).map (Value.int .i64)):=λj v l=>by
 obtain⟨z,C,e,_,hc⟩:=h m;injection e with e;injection e with q r;subst q;subst r
 have u:j<k:=by have:=(pd.1 l).1;rw[ajA,bP aa] at this;exact this
 have:=hc (i+j) aa;rw[akL,this,<-l,<-fP xs i k j u];have f:j<(sub xs i k).length:=eO;simp[f]
variable{P:Kx}{ops:Array aku}{rest:List aku}{o:aku}{a:Act}{Q':Exit->Act->ns->Prop}
end
end
section
open Go.RowKit Go.WideShapes Go.ChangeShapes
def bB(w:ns)(B:Nat)(A:Option aiI)(xs:List Int):Prop:=
 0<xs.length->∃b o,A=some ⟨b,o,none⟩/\b<B/\∀i,i<xs.length->w.cell? ⟨b,o+i,none⟩=some (.int .u8 (xs[i]?.getD 0))
def bB.nil(w:ns)(B:Nat)(A:Option aiI):bB w B A []:=λh=>absurd h aj
def bB.cM(h:bB w B A xs)(f:∀b o,b<B->w'.cell? ⟨b,o,none⟩=w.cell? ⟨b,o,none⟩):bB w' B A xs:=λj=>by obtain⟨b,o,rfl,e,hc⟩:=h j;exact⟨b,o,rfl,e,λi hi=>(f b _ e).trans (hc i hi)⟩
def bB.more{B':Nat}(h:bB w B A xs)(f:B<=B'):bB w B' A xs:=λe=>by obtain⟨b,o,rfl,i,hc⟩:=h e;exact⟨b,o,rfl,aa,hc⟩
def bB.q(h:bB w B A xs)(hq:Q w w')(e:B<=w.heap.size):bB w' B A xs:=
 h.cM λb o f=>hq.cell b o aa
def bB.drewN(h:bB w B A xs)(k:Nat):bB (w.drewN k) B A xs:=h
def bB.alloc(h:bB w B A xs)(e:B<=w.heap.size)(o:Obj):bB (w.alloc o) B A xs:=h.q ((Q.refl w).alloc o) e
def bB.grown(h:bB w B A xs)(f:w.grownBy w' row)(i:B<=w.heap.size)(hr:∀g,row=some g->B<=g):bB w' B A xs:=
 h.cM λb o j=>nN (a:=⟨b,o,none⟩) (f.block b aa λe=>by have:=hr _ e.symm;omega)
def aK(w:ns)(B:Nat)(v:rl)(n:Nat)(xs:List Int):Prop:=xs.length=n/\w.ownsRow B 5 1 v n (xs.map (Value.int .u8))
section
variable{w w':ns}{B B' g c n:Nat}{v:rl}{A:Option aiI}{xs:List Int}
def aK.nil(w:ns)(B:Nat):aK w B (Y none 0 0) 0 []:=⟨rfl,World.ownsRow_nil _ _ _ _⟩
def aK.jT(w:ns)(B:Nat)(e:B<=w.heap.size):aK (w.alloc (ac #[] 5)) B (Y (some ⟨w.heap.size,0,none⟩) 0 0) 0 []:=
 ⟨rfl,World.ownsRow_lit w #[] 0 e (dC _) rfl⟩
def aK.len(h:aK w B v n xs):xs.length=n:=h.1
def aK.form(h:aK w B v n xs):∃A c,v=Y A n c:=by exact CJ
def aK.dD(h:aK w B v n xs):(v=Y none 0 0/\n=0)\/∃g c,v=Y (some ⟨g,0,none⟩) n c/\B<=g/\g<w.heap.size/\n<=c/\c<=maxLen:=by exact CK
def aK.le(h:aK w B v n xs):n<=maxLen:=by exact De
def aK.q(h:aK w B v n xs)(hq:Q w w'):aK w' B v n xs:=
 ⟨h.1,h.2.kept (w':=w') (row:=none) ⟨hq.os,hq.tape,hq.output,hq.size,λk e _=>hq.block k e⟩ B8⟩
def aK.drewN(h:aK w B v n xs)(k:Nat):aK (w.drewN k) B v n xs:=aG
def aK.alloc(h:aK w B v n xs)(o:Obj):aK (w.alloc o) B v n xs:=h.q ((Q.refl w).alloc o)
def aK.drew(h:aK w B v n xs):aK w.drew B v n xs:=aG
def aK.block(h:aK w B (Y (some ⟨g,0,none⟩) n c) n xs):B<=g/\g<w.heap.size:=by
 rcases h.dD with⟨e,_⟩|⟨_,_,e,f,i,_⟩
 ·cases e
 ·simp_all
def aK.at(h:aK w B (Y (some ⟨g,0,none⟩) n c) n xs)(k:Nat)(e:k<n):w.cell? ⟨g,k,none⟩=some (.int .u8 (xs[k]?.getD 0)):=by exact JS
def aK.free(h:aK w B (Y (some ⟨g,0,none⟩) n c) n xs)(k:Nat):w.frozen? ⟨g,k,none⟩=false:=World.ownsRow.frozenAt h.2 k
def aK.set(h:aK w B (Y (some ⟨g,0,none⟩) n c) n xs)(k:Nat)(x:Int):aK (w.setCell ⟨g,k,none⟩ (.int .u8 x)) B (Y (some ⟨g,0,none⟩) n c) n (xs.set k x):=by exact JU
def aK.rd(h:aK w B (Y A n c) n xs):bB w w.heap.size A xs:=λm=>by
 have q:=h.1;rcases h.dD with⟨e,r⟩|⟨g,f,e,u,j,_⟩
 ·omega
 ·have l:A=some ⟨g,0,none⟩:=by injection e
  subst l;refine⟨g,0,rfl,j,λi hi=>?_⟩;rw[Nat.zero_add];exact h.at i aa
def aK.mono(h:aK w B v n xs)(e:B'<=B):aK w B' v n xs:=by exact CL
def aK.other(h:aK w B v n xs)(f:w.grownBy w' row)(e:v.ownBlock=none\/v.ownBlock≠row):aK w' B v n xs:=⟨h.1,h.2.kept f e⟩
def aK.ne{w2:ns}{e f:Nat}{v2:rl}(h:aK w B v n xs)(h':aK w2 e v2 f ys)(i:w.heap.size<=e):v.ownBlock=none\/v.ownBlock≠v2.ownBlock:=by
 cases hv:v.ownBlock with
 |none=>exact .inl rfl
 |some k=>exact JV
def aK.SG{a:ns}(h:aK w B v n xs)(hq:Q a w)(e:a.heap.size<=B)(f:w.grownBy w' v.ownBlock):Q a w':=
 hq.grown f λk i=>aJ e (h.2.lt k i).1
def aK.aN(h:aK w B v n xs)(e:p.block<B)(u:rl):aK (w.setCell p u) B v n xs:=⟨h.1,ownsRow_setCell_below h.2 e u⟩
end
end
section
open Go.RowKit Go.WideShapes Go.ChangeShapes
structure av(S:List Nat)(w w':ns):Prop where
 os:w'.os=w.os
 tape:w'.tape=w.tape
 output:w'.output=w.output
 size:w.heap.size<=w'.heap.size
 block:∀k,k<w.heap.size->k∉S->w'.heap[k]?=w.heap[k]?
section
variable{S T:List Nat}{a b w w':ns}
def av.refl(S:List Nat)(w:ns):av S w w:=⟨rfl,rfl,rfl,au _,λ_ _ _=>rfl⟩
def av.trans(h:av S a b)(k:av S b w):av S a w:=
 ⟨k.os.trans h.os,k.tape.trans h.tape,k.output.trans h.output,aJ h.size k.size,λi hi e=>(k.block i (cG hi h.size) e).trans (h.block i hi e)⟩
def av.more(h:av S a b)(f:∀k,k∈S->k∈T):av T a b:=⟨h.os,h.tape,h.output,h.size,λi hi j=>h.block i hi λe=>j (f i e)⟩
def av.gQ(S:List Nat)(h:Q a b):av S a b:=⟨h.os,h.tape,h.output,h.size,λi hi _=>h.block i hi⟩
def av.q(h:av S a w)(k:Q w w'):av S a w':=h.trans (.gQ S k)
def av.dQ(h:a.grownBy b (some g)):av [g] a b:=⟨h.os,h.tape,h.output,h.size,λi hi f=>h.block i hi λe=>f (by injection e with e;simp[e])⟩
def av.grown(h:av S a w)(k:w.grownBy w' (some g))(f:g∈S\/a.heap.size<=g):av S a w':=
 ⟨k.os.trans h.os,k.tape.trans h.tape,k.output.trans h.output,aJ h.size k.size,λi hi j=>(k.block i (cG hi h.size) (λe=>by
  injection e with e;rcases f with f|f
  ·simp_all
  ·omega)).trans (h.block i hi j)⟩
def av.Rx(h:av S a w)(k:w.grownBy w' row)(f:∀g,row=some g->g∈S\/a.heap.size<=g):av S a w':=
 ⟨k.os.trans h.os,k.tape.trans h.tape,k.output.trans h.output,aJ h.size k.size,λi hi j=>(k.block i (cG hi h.size) (λe=>by
  rcases f i e.symm with f|f
  ·simp_all
  ·omega)).trans (h.block i hi j)⟩
def av.aw(h:av S a w)(k:av T w w')(f:∀g,g∈T->g∈S\/a.heap.size<=g):av S a w':=
 ⟨k.os.trans h.os,k.tape.trans h.tape,k.output.trans h.output,aJ h.size k.size,λi hi j=>(k.block i (cG hi h.size) (λe=>by
  rcases f i e with f|f
  ·simp_all
  ·omega)).trans (h.block i hi j)⟩
def av.set(h:av S a w)(hp:p.block∈S\/a.heap.size<=p.block)(u:rl):av S a (w.setCell p u):=
 ⟨h.os,h.tape,h.output,by simpa[World.setCell] using h.size,λi hi f=>(iI w p u i (λe=>by
  rcases hp with hp|hp
  ·simp_all
  ·omega)).trans (h.block i hi f)⟩
def av.alloc(h:av S a w)(o:Obj):av S a (w.alloc o):=h.q ((Q.refl w).alloc o)
def av.drew(h:av S a w):av S a w.drew:=h.q (Q.refl w).drew
def av.drewN(h:av S a w)(n:Nat):av S a (w.drewN n):=h.q ((Q.refl w).drewN n)
def av.toQ(h:av S w w')(hq:Q a w)(f:∀k,k∈S->a.heap.size<=k):Q a w':=by have e:=(av.gQ [] hq).aw h λg i=>.inr (f g i);exact Q.jf ⟨e.os,e.tape,e.output,e.size,λk j _=>e.block k j aj⟩
def av.nil(h:av [] w w'):Q w w':=h.toQ (Q.refl w) aj
def ak.aw{cs:Array rl}(h:ak w g t cs)(k:av S w w')(e:g∉S):ak w' g t cs:=(k.block g h.lt e).trans h
def Nb.aw(h:Nb t n w g xs)(k:av S w w')(e:g∉S):Nb t n w' g xs:=⟨h.blk.aw k e,h.len⟩
def mR(k:av S w w'){b:Nat}(e:b<w.heap.size)(f:b∉S):w'.cell? ⟨b,o,none⟩=w.cell? ⟨b,o,none⟩:=nN (a:=⟨b,o,none⟩) (k.block b e f)
def Rd.aw(h:Rd w B A xs)(k:av S w w')(i:B<=w.heap.size)(f:∀g,g∈S->B<=g):Rd w' B A xs:=
 h.cM λb o j=>mR k aa (λe=>by have:=f b e;omega)
def bB.aw(h:bB w B A xs)(k:av S w w')(i:B<=w.heap.size)(f:∀g,g∈S->B<=g):bB w' B A xs:=
 h.cM λb o j=>mR k aa (λe=>by have:=f b e;omega)
def Own.aw{v:rl}(h:Own w B v n xs)(k:av S w w')(hs:∀g,g∈S->g<B):Own w' B v n xs:=by exact J2
def az.aw{s:Nat}{v:rl}(h:az t s w B v n xs)(k:av S w w')(hs:∀g,g∈S->g<B):az t s w' B v n xs:=by exact J2
end
def j8{fn:Func}{p a:Tmp}{ty:EV}(h:fn.results=#[.cell p ty,.tmp a]){tmps:Array rl}{cs:Array rl}{fr:Nat×Nat}{d:TypeDesc}
  (i:tmps.getD p undef=ci (some ⟨g,0,none⟩))(f:w.heap[g]?=some (ac cs t fr))
  (hu:P.underlying ty=some d)(hd:(match d with|.struct _|.array _ _=>true|_=>false)=true)(hi:(P.info? ty).map (·.size)=some cs.size):
  (results fn tmps).run P w=.ok (dl #[a5 cs,tmps.getD a undef]) w:=by
 have e:tmps[p]?.getD undef=ci (some ⟨g,0,none⟩):=eg;simp[results,h,e,asAddr,run_loadVar_row w g t ty cs fr d f hu hd hi,Sem.run_bind,Result.andThen]
def fl(e:List (Int×Int)):List Int:=e.flatMap λr=>[r.1,r.2]
def Ry:∀e:List (Int×Int),(fl e).length=e.length*2
 |[]=>rfl
 |r::e=>by have:=Ry e;simp only[fl,List.flatMap_cons,aiw,aiS,akc] at this⊢;omega
def Ai:∀(f:List (Int×Int))(k:Nat)(i:k<f.length),(fl f)[k*2]?.getD 0=f[k].1/\(fl f)[k*2+1]?.getD 0=f[k].2
 |[],k,h=>by simp at h
 |r::f,0,_=>⟨rfl,rfl⟩
 |r::f,k+1,h=>by have:=Ai f k lV;have e:fl (r::f)=r.1::r.2::fl f:=rfl;rw[e,show(k+1)*2=k*2+2 by omega];simpa using this
def Fl(e:List (Int×Int))(r:Int×Int):fl (e++[r])=fl e++[r.1,r.2]:=by simp[fl]
end
section
open Go.RowKit
def bj(p bit:Int):Int:=if bit=0 then p+(4096-p)/16 else p-p/16
def Oj{p bit:Int}(h1:1<=p)(e:p<=4095):1<=bj p bit/\bj p bit<=4095:=by unfold bj;split<;>omega
def MU(p:Int)(w:ns)(h1:1<=p)(f:p<=4095):
  UL Gz.prog 185 #[U O p,U O 0] w λe w'=>e=be (U O (bj p 0))/\w=w':=by
 have e:bj p 0=p+(4096-p).tdiv 16:=by unfold bj;rw[if_pos rfl,ajh aa]
 have h:0<=(4096-p).tdiv 16:=xD;have i:(4096-p).tdiv 16<=256:=xD;have H:=af e;go_enter Gz.gf func185,ntmps185;exact jb
def MW(p:Int)(w:ns)(h1:1<=p)(f:p<=4095):
  UL Gz.prog 185 #[U O p,U O 1] w λe w'=>e=be (U O (bj p 1))/\w=w':=by
 have e:bj p 1=p-p.tdiv 16:=by unfold bj;rw[if_neg aq,ajh aa]
 have h:0<=p.tdiv 16:=xD;have i:p.tdiv 16<=256:=xD;have H:=af e;go_enter Gz.gf func185,ntmps185;exact jb
def MA(p:Int)(w:ns)(h1:1<=p)(f:p<=4095):
  UL Gz.prog 114 #[U O p,U O 0] w λe w'=>e=be (U O (bj p 0))/\w=w':=by
 have e:bj p 0=p+(4096-p).tdiv 16:=by unfold bj;rw[if_pos rfl,ajh aa]
 have j:0<=(4096-p).tdiv 16:=eO;have l:(4096-p).tdiv 16<=256:=eO;have H:=af e;have h:=af (show decide (1<=p/\p<=4095)=true from decide_eq_true ⟨h1,f⟩);have i:=af (show decide ((0:Int)<=0/\(0:Int)<=1)=true from rfl);go_enter Gz.gf func114,ntmps114;go_wp2;(go_at_call 51;(with_reducible refine(cj _ h).mono ?_);rintro e w'⟨rfl,rfl⟩)
 go_wp2;(go_at_call 51;(with_reducible refine(cj _ i).mono ?_);rintro e w'⟨rfl,rfl⟩)
 exact jb
def MB(p:Int)(w:ns)(h1:1<=p)(f:p<=4095):
  UL Gz.prog 114 #[U O p,U O 1] w λe w'=>e=be (U O (bj p 1))/\w=w':=by
 have e:bj p 1=p-p.tdiv 16:=by unfold bj;rw[if_neg aq,ajh aa]
 have j:0<=p.tdiv 16:=eO;have l:p.tdiv 16<=256:=eO;have H:=af e;have h:=af (show decide (1<=p/\p<=4095)=true from decide_eq_true ⟨h1,f⟩);have i:=af (show decide ((0:Int)<=1/\(1:Int)<=1)=true from rfl);go_enter Gz.gf func114,ntmps114;go_wp2;(go_at_call 51;(with_reducible refine(cj _ h).mono ?_);rintro e w'⟨rfl,rfl⟩)
 go_wp2;(go_at_call 51;(with_reducible refine(cj _ i).mono ?_);rintro e w'⟨rfl,rfl⟩)
 exact jb
end
section
open Go.RowKit
def aW(n:Int):Int:=if n<0\/65534<n then 0 else if n%2=1 then(n+1)/2 else -(n/2)
def Wx{n:Int}(w:ns)(h:n<0\/65534<n):
  UL Gz.prog 155 #[U O n] w λe w'=>e=be (U O (aW n))/\w=w':=by
 have e:aW n=0:=by unfold aW;rw[if_pos h]
 have H:=af e;rcases h with h|h
 ·go_enter Gz.gf func155,ntmps155;exact jb
 ·have f:0<=n:=by omega
  go_enter Gz.gf func155,ntmps155;exact jb
def WH(n:Int)(w:ns)(h1:0<=n)(l:n<=65534):
  UL Gz.prog 155 #[U O n] w λe w'=>e=be (U O (aW n))/\w=w':=by
 by_cases h:n%2=1
 ·have e:aW n=(n+1)/2:=by unfold aW;rw[if_neg aa,if_pos h]
  have hc:((n%2:Int)==1)=true:=lV;have H:=af e;go_enter Gz.gf func155,ntmps155;exact jb
 ·have e:aW n= -n.tdiv 2:=by unfold aW;rw[if_neg aa,if_neg h,ajh h1]
  have hc:((n%2:Int)==1)=false:=lV;have i:0<=n.tdiv 2:=xT;have j:n.tdiv 2<=40000:=xT;have f:wrap64 (-n.tdiv 2)= -n.tdiv 2:=Cb;have H:=af (e.trans f.symm);clear e h i j f;go_enter Gz.gf func155,ntmps155;exact jb
def Wy{n:Int}(w:ns)(h1:0<=n)(j:n<=65534):
  UL Gz.prog 79 #[U O n] w λe w'=>e=be (U O (aW n))/\w=w':=by
 have f:Hid (decide (0<=n/\n<=65534)=true):=decide_eq_true ⟨h1,j⟩;by_cases h:n%2=1
 ·have e:aW n=(n+1)/2:=by unfold aW;rw[if_neg aa,if_pos h]
  have hc:((n%2:Int)==1)=true:=lV;have H:=af e;go_enter Gz.gf func79,ntmps79;go_wp2;(go_at_call 51;(with_reducible refine(cj _ f).mono ?_);rintro e w'⟨rfl,rfl⟩)
  exact jb
 ·have e:aW n= -n.tdiv 2:=by unfold aW;rw[if_neg aa,if_neg h,ajh h1]
  have hc:((n%2:Int)==1)=false:=lV;have l:0<=n.tdiv 2:=xT;have m:n.tdiv 2<=40000:=xT;have i:wrap64 (-n.tdiv 2)= -n.tdiv 2:=Cb;have H:=af (e.trans i.symm);clear e h l m i;go_enter Gz.gf func79,ntmps79;go_wp2;(go_at_call 51;(with_reducible refine(cj _ f).mono ?_);rintro e w'⟨rfl,rfl⟩)
  exact jb
end
structure ay where
 code:Int
 span:Int
 ch:List Int
 rest:List Int
def u64(x:Int):Int:=x%18446744073709551616
def u64_in(h:0<=x)(k:x<18446744073709551616):u64 x=x:=Int.emod_eq_of_lt h k
def cR(d:ay):ay:={d with code:=u64 (d.code%16777216*256+d.rest.headD 0),rest:=d.rest.tail}
def feed(d:ay):ay:={cR d with span:=d.span*256}
def ji(d:ay):ay:=if d.span<16777216 then(if d.span*256<16777216 then feed (feed d) else feed d) else d
def dS(d:ay)(c:Nat):Int:=d.span/4096*d.ch[c]?.getD 0
def cP(d:ay)(c:Nat):Int:=if d.code<dS d c then 0 else 1
def dM(d:ay)(c:Nat):ay:=
 if d.code<dS d c then{d with span:=dS d c,ch:=d.ch.set c (bj (d.ch[c]?.getD 0) 0)}
 else{d with code:=d.code-dS d c,span:=d.span-dS d c,ch:=d.ch.set c (bj (d.ch[c]?.getD 0) 1)}
def bJ(d:ay)(c:Nat):ay:=ji (dM d c)
structure bQ(d:ay):Prop where
 lo:16777216<=d.span
 hi:d.span<=4294967295
 c0:0<=d.code
 c1:d.code<18446744073709551616
 len:d.ch.length=40
 ch:∀k,k<40->1<=d.ch[k]?.getD 0/\d.ch[k]?.getD 0<=4095
def kX{s p:Int}(h1:16777216<=s)(h:s<=4294967295)(e:1<=p)(f:p<=4095):4096<=s/4096*p/\s/4096*p<=s-4096/\4096<=s/4096/\s/4096<=1048575:=by have i:s/4096*1<=s/4096*p:=Int.mul_le_mul_of_nonneg_left e aa;have j:s/4096*p<=s/4096*4095:=Int.mul_le_mul_of_nonneg_left f aa;omega
structure wm(d:ay):Prop where
 lo:4096<=d.span
 hi:d.span<=4294967295
 c0:0<=d.code
 c1:d.code<18446744073709551616
 len:d.ch.length=40
 ch:∀k,k<40->1<=d.ch[k]?.getD 0/\d.ch[k]?.getD 0<=4095
def bQ.mA{d:ay}(h:bQ d)(c:Nat)(hc:c<40):wm (dM d c):=by
 obtain⟨i,j⟩:=h.ch c hc;obtain⟨m,u,_,_⟩:=kX h.lo h.hi i j;have l:=h.len
 have f:∀b:Int,∀k,k<40->1<=(d.ch.set c (bj (d.ch[c]?.getD 0) b))[k]?.getD 0/\(d.ch.set c (bj (d.ch[c]?.getD 0) b))[k]?.getD 0<=4095:=by
  intro b k q;by_cases e:c=k
  ·subst e;simp only[List.getElem?_set_self (show c<d.ch.length by omega),aiL];exact Oj i j
  ·rw[akJ e];exact h.ch k q
 have:=h.c1;unfold dM;split
 ·exact⟨m,by show dS d c<=_;unfold dS;omega,h.c0,h.c1,by simp[l],f 0⟩
 ·rename_i r;unfold dS at r;refine⟨?_,?_,?_,?_,by simp[l],f 1⟩
  ·show 4096<=d.span-dS d c;unfold dS;omega
  ·show d.span-dS d c<=_;unfold dS;omega
  ·show 0<=d.code-dS d c;unfold dS;omega
  ·show d.code-dS d c<_;unfold dS;omega
def jg:0<=u64 x/\u64 x<18446744073709551616:=⟨Int.emod_nonneg _ aq,Int.emod_lt_of_pos _ aq⟩
def wm.ji{d:ay}(h:wm d):bQ (ji d):=by
 have:=h.lo;unfold Go.Proofs.Q0.ji;split
 ·split
  ·exact⟨by show 16777216<=d.span*256*256;omega,by show d.span*256*256<=_;omega,(jg).1,(jg).2,h.len,h.ch⟩
  ·exact⟨by show 16777216<=d.span*256;omega,by show d.span*256<=_;omega,(jg).1,(jg).2,h.len,h.ch⟩
 ·exact⟨aa,h.hi,h.c0,h.c1,h.len,h.ch⟩
def bQ.jx{d:ay}(h:bQ d)(c:Nat)(hc:c<40):bQ (bJ d c):=(h.mA c hc).ji
def e7(data:List Int):ay:=⟨0,4294967295,an 40 2048,data⟩
def eu(data:List Int):ay:=cR (cR (cR (cR (e7 data))))
def EG(data:List Int):bQ (eu data):=
 ⟨by show(16777216:Int)<=4294967295;omega,by show(4294967295:Int)<=4294967295;omega,(jg).1,(jg).2,rfl,λk e=>by have:(eu data).ch=an 40 2048:=rfl;rw[this,List.getElem?_replicate,if_pos e];decide⟩
def gr(b:Nat):Nat->Nat->ay->Option Nat×ay
 |0,_,d=>(none,d)
 |f+1,k,d=>if cP d (b+min k 5)=1 then gr b f (k+1) (bJ d (b+min k 5)) else(some k,bJ d (b+min k 5))
def tailD(b:Nat):Nat->Int->ay->Int×ay
 |0,n,d=>(n,d)
 |j+1,n,d=>tailD b j (2*n+cP d (b+6)) (bJ d (b+6))
def aQ(b:Nat)(d:ay):Option Int×ay:=
 match gr b 16 0 d with
 |(none,e)=>(none,e)
 |(some k,e)=>(some ((tailD b k 1 e).1-1),(tailD b k 1 e).2)
def mV(d:ay)(c:Nat):cP d c=0\/cP d c=1:=by unfold cP;split<;>simp
def Pu{b:Nat}(e:b+5<40):∀(f k:Nat){d:ay},bQ d->bQ (gr b f k d).2
 |0,_,_,h=>h
 |f+1,k,d,h=>by
  have h':=h.jx (b+min k 5) aa;rw[gr];split
  ·exact Pu e f (k+1) h'
  ·exact h'
def Pv{b:Nat}:∀(f k:Nat){d:ay}{j:Nat},(gr b f k d).1=some j->j<k+f
 |0,_,_,_,h=>by simp[gr] at h
 |f+1,k,d,j,h=>by
  rw[gr] at h;split at h
  ·have:=Pv f (k+1) h;omega
  ·simp at h;omega
def Pw{b:Nat}(e:b+6<40):∀(j:Nat)(n:Int){d:ay},bQ d->bQ (tailD b j n d).2
 |0,_,_,h=>h
 |j+1,n,d,h=>Pw e j _ (h.jx (b+6) e)
def Px{b:Nat}:∀(j:Nat)(n:Int)(d:ay),n*2^j<=(tailD b j n d).1/\(tailD b j n d).1<(n+1)*2^j
 |0,n,d=>by simp only[tailD];omega
 |j+1,n,d=>by
  rw[tailD];obtain⟨h1,f⟩:=Px (b:=b) j (2*n+cP d (b+6)) (bJ d (b+6));generalize(tailD b j (2*n+cP d (b+6)) (bJ d (b+6))).1=r at h1 f⊢;have h:(0:Int)<2^j:=by exact Int.pow_pos (by decide)
  have e:(2:Int)^(j+1)=2^j*2:=by rw[Int.pow_succ]
  rw[e];generalize(2:Int)^j=p at h h1 f⊢;rcases mV d (b+6) with hb|hb<;>rw[hb] at h1 f
  ·constructor
   ·have:n*(p*2)=(2*n+0)*p:=by rw[Int.add_zero,Int.mul_comm 2 n,Int.mul_assoc,Int.mul_comm 2 p]
    omega
   ·have:(n+1)*(p*2)=(2*n+0+1)*p+p:=by grind
    omega
  ·constructor
   ·have:n*(p*2)+p=(2*n+1)*p:=by grind
    omega
   ·have:(n+1)*(p*2)=(2*n+1+1)*p:=by grind
    omega
def acS(f:b+6<40){d:ay}(h:bQ d):bQ (aQ b d).2:=by
 have h1:=Pu (b:=b) aa 16 0 h;unfold aQ;split
 ·simp_all
 ·rename_i k i e;rw[e] at h1;exact Pw f k 1 h1
def jK{d:ay}{n:Int}(h:(aQ b d).1=some n):0<=n/\n<=65534:=by
 unfold aQ at h;split at h
 ·cases h
 ·rename_i k f e;have i:=Pv (b:=b) 16 0 (d:=d) (j:=k) nI;obtain⟨h1,l⟩:=Px (b:=b) k 1 f;have m:(tailD b k 1 f).1-1=n:=eg
  have q:(2:Int)^k<=32768:=by have:(2:Nat)^k<=2^15:=Nat.pow_le_pow_right aq aa;have:((2^k:Nat):Int)<=((2^15:Nat):Int):=aa;exact this
  omega
section
open Go.RowKit Go.WideShapes Go.ChangeShapes
def eo(d:ay)(s:rl):Array rl:=#[.int .u64 d.code,.int .u64 d.span]++arr d.ch++#[s]
def FJ{d:ay}:(eo d s)[0]?=some (.int .u64 d.code):=by rw[eo,Array.append_assoc,akT aj];rfl
def Rz{d:ay}:(eo d s)[1]?=some (.int .u64 d.span):=by rw[eo,Array.append_assoc,akT aj];rfl
def RD{d:ay}(h:d.ch.length=40)(e:k<40):(eo d s)[2+k]?=some (U O (d.ch[k]?.getD 0)):=by unfold eo;rw[akT (by simp[arr];omega),Array.getElem?_append_right aj];rw[<-mZ d.ch k aa];simp
def FK{d:ay}(h:d.ch.length=40):(eo d s)[42]?=some s:=by unfold eo;simp[arr,h]
def Ok(d:ay)(s:rl)(x:Int):(eo d s).setIfInBounds 0 (.int .u64 x)=eo {d with code:=x} s:=by simp[eo]
def Ol(d:ay)(s:rl)(x:Int):(eo d s).setIfInBounds 1 (.int .u64 x)=eo {d with span:=x} s:=by simp[eo]
def Om{d:ay}(h:d.ch.length=40)(e:k<40)(x:Int):(eo d s).setIfInBounds (2+k) (U O x)=eo {d with ch:=d.ch.set k x} s:=by simp only[eo,arr,Array.toList_setIfInBounds,Array.toList_append,aiK];rw[show 2+k=k+2 by omega];simp[List.set_append,h,e,List.map_set]
def On{d:ay}{s':rl}(r:List Int)(h:d.ch.length=40):(eo d s).setIfInBounds 42 s'=eo {d with rest:=r} s':=by simp only[eo,arr,Array.toList_setIfInBounds,Array.toList_append,aiK];simp[List.set_append,h]
structure DB(w:ns)(g:Nat)(d:ay)(B:Nat)(A:Option aiI)(c:Nat):Prop where
 blk:ak w g 198 (eo d (Y A d.rest.length c))
 rd:bB w B A d.rest
 le:B<=g
 len:d.ch.length=40
 cap:d.rest.length<=c/\c<=maxLen
section
variable{w w':ns}{g B c:Nat}{d:ay}{A:Option aiI}
def DB.q(h:DB w g d B A c)(hq:Q w w'):DB w' g d B A c:=⟨h.blk.q hq,h.rd.q hq (aJ h.le (Nat.le_of_lt h.blk.lt)),h.le,h.len,h.cap⟩
def DB.aw{S:List Nat}(h:DB w g d B A c)(k:av S w w')(e:∀x,x∈S->B<=x)(f:g∉S):DB w' g d B A c:=
 ⟨h.blk.aw k f,h.rd.aw k (aJ h.le (Nat.le_of_lt h.blk.lt)) e,h.le,h.len,h.cap⟩
def DB.aN(h:DB w g d B A c)(e:g≠p.block)(f:B<=p.block)(u:rl):DB (w.setCell p u) g d B A c:=
 ⟨h.blk.aN e u,h.rd.cM λb o i=>nN (a:=⟨b,o,none⟩) (iI w p u b aa),h.le,h.len,h.cap⟩
def DB.lt(h:DB w g d B A c):g<w.heap.size:=h.blk.lt
def DB.code(h:DB w g d B A c):w.cell? ⟨g,0,none⟩=some (.int .u64 d.code):=(h.blk.cell 0).trans FJ
def DB.span(h:DB w g d B A c):w.cell? ⟨g,1,none⟩=some (.int .u64 d.span):=(h.blk.cell 1).trans Rz
def DB.jl(h:DB w g d B A c)(k:Nat)(e:k<40):w.cell? ⟨g,2+k,none⟩=some (U O (d.ch[k]?.getD 0)):=(h.blk.cell (2+k)).trans (RD h.len e)
def DB.rest(h:DB w g d B A c):w.cell? ⟨g,42,none⟩=some (Y A d.rest.length c):=(h.blk.cell 42).trans (FK h.len)
def DB.free(h:DB w g d B A c)(i:Nat):w.frozen? ⟨g,i,none⟩=false:=h.blk.free i
def DB.Ap(h:DB w g d B A c)(i:Nat)(u:rl):bB (w.setCell ⟨g,i,none⟩ u) B A d.rest:=h.rd.cM λb o e=>nN (a:=⟨b,o,none⟩) (iI w _ u b (by have:=h.le;simp;omega))
def DB.iO(h:DB w g d B A c)(x:Int):DB (w.setCell ⟨g,0,none⟩ (.int .u64 x)) g {d with code:=x} B A c:=
 ⟨by have:=h.blk.set 0 (.int .u64 x);rw[Ok] at this;exact this,h.Ap _ _,h.le,h.len,h.cap⟩
def DB.fc(h:DB w g d B A c)(x:Int):DB (w.setCell ⟨g,1,none⟩ (.int .u64 x)) g {d with span:=x} B A c:=
 ⟨by have:=h.blk.set 1 (.int .u64 x);rw[Ol] at this;exact this,h.Ap _ _,h.le,h.len,h.cap⟩
def DB.lG(h:DB w g d B A c)(k:Nat)(e:k<40)(x:Int):DB (w.setCell ⟨g,2+k,none⟩ (U O x)) g {d with ch:=d.ch.set k x} B A c:=
 ⟨by have:=h.blk.set (2+k) (U O x);rw[Om h.len e] at this;exact this,h.Ap _ _,h.le,by simp[h.len],h.cap⟩
def DB.Ty(h:DB w g d B A c)(r:List Int){f:Option aiI}{e:Nat}(hr:bB w B f r)(hc:r.length≤e∧e≤maxLen):DB (w.setCell ⟨g,42,none⟩ (Y f r.length e)) g {d with rest:=r} B f e:=
  ⟨by have:=h.blk.set 42 (Y f r.length e);rw[On r h.len] at this;exact this,
   hr.cM λb o i=>nN (a:=⟨b,o,none⟩) (iI w _ _ b (by have:=h.le;simp;omega)),h.le,h.len,hc⟩
def bB.tail{r:List Int}(h:bB w B (some ⟨b,o,none⟩) (x::r)):bB w B (some ⟨b,o+1,none⟩) r:=λm=>by obtain⟨q,u,e,f,hc⟩:=h aj;injection e with e;injection e with j l;subst j;subst l;refine⟨b,o+1,rfl,f,λi hi=>?_⟩;have:=hc (i+1) aA;simpa[akL,Nat.add_comm 1 i] using this
def kY(w:ns)(g i:Nat)(u:rl):av [g] w (w.setCell ⟨g,i,none⟩ u):=(av.refl [g] w).set (.inl aj) u
end
def SJ(h0:0<=x)(h1:x<18446744073709551616):bits .and .u64 x 16777215=x%16777216:=by obtain⟨n,rfl⟩:∃n:Nat,x=(n:Int):=⟨x.toNat,aa⟩;rw[show(16777215:Int)=((16777215:Nat):Int) from rfl,bits_and_u64_nat _ _ aa aq];rw[show(16777215:Nat)=2^24-1 from rfl,Nat.and_two_pow_sub_one_eq_mod];omega
def wrap_u64(x:Int):ajq.wrap x=u64 x:=rfl
def acT(a x:Int):u64 (a+u64 x)=u64 (a+x):=by unfold u64;omega
def Ge(x:Int)(h0:0<=x)(h1:x<18446744073709551616):ajq.wrap (bits .and .u64 x 16777215*256)=x%16777216*256:=by rw[SJ h0 h1,wrap_u64,u64_in aa aa]
def zc{d:ay}(h:d.rest=[]):cR d={d with code:=d.code%16777216*256}:=by unfold cR;rw[h];simp only[List.headD_nil,List.tail_nil,Int.add_zero];rw[u64_in aa aa]
def Nw{d:ay}{r:List Int}(h:d.rest=x::r):cR d={d with code:=u64 (d.code%16777216*256+x),rest:=r}:=by unfold cR;rw[h];rfl
def Py{d:ay}(h:DB w g d B A c)(h0:0<=d.code)(h1:d.code<18446744073709551616):
  UL Gz.prog 153 #[ci (some ⟨g,0,none⟩)] w λe w'=>e=be (dl #[])/\(∃V W,DB w' g (cR d) B V W)/\av [g] w w':=by
 have c0:=h.code;have i:=h.rest;have hf:=h.free;have z:=Ge d.code h0 h1;cases hr:d.rest with
 |nil=>rw[hr] at i;simp only[akc] at i;have H:=af h;have C:=af z;have D:=af (zc hr);have HR:=af hr;clear h hr z;go_enter Gz.gf func153,ntmps153;go_wp2;rw[C.out,D.out];refine akv (v:=dl #[]) (by simp[results,results153,go_sem]) rfl ?_;exact⟨rfl,⟨A,c,H.out.iO _⟩,kY _ _ _ _⟩
 |cons x r=>
  rw[hr] at i;simp only[aiS] at i;have j:=h.cap;rw[hr] at j;simp only[aiS,maxLen] at j;obtain⟨b,o,rfl,hb,hc⟩:=h.rd tW;have M:=hc 0 tW;rw[hr] at M;simp only[Nat.add_zero,List.getElem?_cons_zero,aiL] at M;have X:b≠g:=by have:=h.le;omega
  have H:=af h;have C:=af z;have D:=af (Nw hr);have HR:=af hr;have HC:=af hc;clear h hr z hc;go_enter Gz.gf func153,ntmps153;go_wp2;rw[C.out];have l:=H.out.iO (d.code%16777216*256);have E:=kY w g 0 (.int .u64 (d.code%16777216*256));generalize w.setCell ⟨g,0,none⟩ (.int .u64 (d.code%16777216*256))=F at l E⊢;have Z:=l.code;have f:=l.rest;have bf:=l.free;obtain⟨b',o',G,_,u⟩:=l.rd (by show 0<d.rest.length;rw[HR.out];simp);injection G with G;injection G with I J;subst I;subst J;have N:=u 0 (by show 0<d.rest.length;rw[HR.out];simp);have y:({d with code:=d.code%16777216*256}:ay).rest=x::r:=HR.out;rw[y] at N f;simp only[Nat.add_zero,List.getElem?_cons_zero,aiL,aiS] at N f;have DE:(0:Int)<((r.length:Int)+1):=aa;have H2:=af l;have E2:=af E;clear l E u y
  go_still_tail 12,ai
  change aja _ _ _ _ _ F.drew;have m:=(H2.out.q (Q.refl F).drew);have K:=E2.out.drew;generalize F.drew=w3 at m K⊢;have Z:=m.code;have f:=m.rest;rw[show({d with code:=d.code%16777216*256}:ay).rest=x::r from HR.out] at f;simp only[aiS] at f;have bf:=m.free;have L:=af m;have E3:=af K;clear m K;go_wp2
  all_goals
   rw[D.out,wrap_u64,wrap_u64,acT];refine akv (v:=dl #[]) (by simp[results,results153,go_sem]) rfl ⟨rfl,?_,(E3.out.set (.inl aj) _).set (.inl aj) _⟩
   first
    |exact⟨_,_,(L.out.iO _).Ty r (by have hz:r=[]:=(by apply Dw;omega);rw[hz];exact bB.nil _ _ _) ⟨aa,by unfold maxLen;omega⟩⟩
    |exact⟨_,_,(L.out.iO _).Ty r (by have R:=(L.out.Ap 0 (.int .u64 (u64 (d.code%16777216*256+x))));rw[show({d with code:=d.code%16777216*256}:ay).rest=x::r from HR.out] at R;exact R.tail) ⟨aa,by unfold maxLen;omega⟩⟩
end
section
open Go.RowKit Go.WideShapes Go.ChangeShapes
def Fo:(Gz.prog.info? 195).map (·.size)=some 40:=aC
def oG:List Int:=an 40 2048
def ks:List Int:=an 40 0
def Ny:UL Gz.prog 152 #[] w λe w'=>e=be (a5 (arr oG))/\Q w w':=by
 go_enter Gz.gf func152,ntmps152;go_wp2;change Code.wp _ _ _ _ ((w.alloc (ac (arr ks) 195)).alloc (ac (arr ks) 195));have r:Q w ((w.alloc (ac (arr ks) 195)).alloc (ac (arr ks) 195)):=aR;have u:=(Nb.new 195 40 w ks rfl).alloc (ac (arr ks) 195);have m:=Nb.new 195 40 (w.alloc (ac (arr ks) 195)) ks rfl;simp only[World.size_alloc] at m;generalize(w.alloc (ac (arr ks) 195)).alloc (ac (arr ks) 195)=M at r u m⊢;go_loopw[3] (λi wr=>∃(k:Nat)(xs:List Int),k<=40/\i=U O k/\Hid (Nb 195 40 wr w.heap.size ks/\Nb 195 40 wr (w.heap.size+1) xs/\Q w wr/\∀j,j<40->xs[j]?.getD 0=if j<k then 2048 else 0)) (λi _=>40-(intOf i).toNat)
 case atStart=>exact⟨0,ks,aa,rfl,u,m,r,aq⟩
 case round=>
  obtain⟨k,xs,N,rfl,hK⟩:=hrel;obtain⟨C,h,y,q⟩:=hK.out;clear hK u m r;by_cases z:k<40
  ·have D:(k:Int)<40:=by omega
   have F:=h.at k z;generalize xs[k]?.getD 0=R at F;have f2:=h.free k;have G:=af C;have E:=af h;have H:=af y;have I:=af q;clear C h y q;go_wp2;go_roundw
   case rel=>
    refine⟨k+1,xs.set k 2048,aa,aH,G.out.aN aj _,E.out.set k 2048,H.out.set aj _,λj f=>?_⟩;by_cases e:k=j
    ·subst e;rw[List.getElem?_set_self (by rw[E.out.len];exact f),if_pos aa];rfl
    ·rw[akJ e,I.out j f];by_cases h1:j<k
     ·rw[if_pos h1,if_pos aa]
     ·rw[if_neg h1,if_neg aa]
   case measure=>exact bg
  ·have l:k=40:=by omega
   subst l
   have e:xs=oG:=mQ h.len λj f=>by rw[h.len] at f;rw[q j f,if_pos f];unfold oG;rw[List.getElem?_replicate,if_pos f];rfl
   subst e;clear q;have J:oG.length=40:=rfl;go_wp2_with(first|(refine eQ (n:=40) rfl _ _ rfl _ rfl _ aG _ (Gz.gu underlying195) rfl Fo ?_)|(refine di (n:=40) rfl _ _ _ rfl _ rfl _ _ dh aG dh Fo ?_;intro V K L W));refine bodyPost_ret (v:=a5 (arr oG)) (results_cell_row aD _ _ _ _ _ _ _ aD K.blk (Gz.gu underlying195) rfl (by rw[bO,J];exact Fo)) rfl ⟨rfl,y.grown L λk e=>by have:=aL e;omega⟩
end
section
open Go.RowKit Go.WideShapes Go.ChangeShapes
def abe{C:Code}{K:Exit->Act->ns->Prop}{a:Act}{X Y:Array rl}(h:X=Y)(k:Code.wp P C K a (w.alloc (ac Y t))):Code.wp P C K a (w.alloc (ac X t)):=h▸k
def WO(C:bB w B A xs)(D:xs.length=n)(hc:n<=c/\c<=maxLen)(l:B<=w.heap.size):
  UL Gz.prog 132 #[.slice A n c] w λe w'=>∃g,e=be (ci (some ⟨g,0,none⟩))/\w.heap.size<=g/\(∃m r,DB w' g (eu xs) B m r)/\Q w w':=by
 go_enter Gz.gf func132,ntmps132;go_wp2;refine(Ny).mono ?_;rintro e j⟨rfl,q1⟩;have hs:(arr oG).size=40:=rfl;go_wp2;refine abe (Y:=eo (e7 xs) (.slice A n c)) ai ?_
 have u:DB (j.alloc (ac (eo (e7 xs) (.slice A n c)) 198)) j.heap.size (e7 xs) B A c:=by refine⟨?_,(C.q q1 l).alloc (aJ l q1.size) _,aJ l q1.size,rfl,by show xs.length<=c/\_;omega⟩;have:(e7 xs).rest.length=n:=D;rw[this];exact ak.new _ _ _
 have y:Q w (j.alloc (ac (eo (e7 xs) (.slice A n c)) 198)):=q1.alloc _;have f:=q1.size;generalize j.alloc (ac (eo (e7 xs) (.slice A n c)) 198)=w2 at u y⊢;generalize M:j.heap.size=g at u f⊢;clear M C q1 l D;go_loopw[8] (λi wr=>∃(k:Nat)(d:ay)(m:Option aiI)(r:Nat),k<=4/\i=.int .i64 k/\Hid (DB wr g d B m r/\Q w wr/\(k=0->d=e7 xs)/\(k=1->d=cR (e7 xs))/\(k=2->d=cR (cR (e7 xs)))/\(k=3->d=cR (cR (cR (e7 xs))))/\(k=4->d=eu xs)/\0<=d.code/\d.code<18446744073709551616)) (λi _=>4-(intOf i).toNat)
 case atStart=>exact⟨0,e7 xs,A,c,aa,rfl,u,y,λ_=>rfl,λh=>by omega,λh=>by omega,λh=>by omega,λh=>by omega,by show(0:Int)<=0;omega,by show(0:Int)<_;omega⟩
 case round=>
  obtain⟨k,d,m,r,hk,rfl,hK⟩:=hrel;obtain⟨E,F,G,H,I,J,K,N,R⟩:=hK.out;clear hK u y;by_cases V:k<4
  ·have L:(k:Int)<4:=by omega
   have W:=Py E N R;go_wp2;refine W.mono ?_;rintro e w3⟨rfl,⟨X,Z,d3⟩,x3⟩;go_wp2;go_roundw
   case rel=>
    refine⟨k+1,cR d,X,Z,aa,aH,d3,x3.toQ F (by simpa using f),λh=>by omega,λh=>?_,λh=>?_,λh=>?_,λh=>?_,(jg).1,(jg).2⟩
    ·rw[G aa]
    ·rw[H aa]
    ·rw[I aa]
    ·rw[J aa];rfl
   case measure=>exact bg
  ·have z:k=4:=by omega
   subst z;have e:=K rfl;subst e;clear G H I J K;go_wp2;go_ret;exact⟨g,rfl,f,⟨_,_,E⟩,F⟩
end
section
open Go.RowKit Go.WideShapes Go.ChangeShapes
def bound(g k:Nat)(s p:Int)(w:ns)(h:w.cell? ⟨g,2+k,none⟩=some (U O p))(z:k<40)(s1:16777216<=s)(s2:s<=4294967295)(j:1<=p)(l:p<=4095):
  UL Gz.prog 177 #[ci (some ⟨g,2,none⟩),.int .u64 s,U O (k:Int)] w λe w'=>e=be (.int .u64 (s/4096*p))/\w=w':=by
 obtain⟨f,i,m,u⟩:=kX s1 s2 j l;have q1:s.tdiv 4096=s/4096:=jF aa;generalize s/4096=q at f i m u q1⊢;obtain⟨r,y⟩:∃r,q*p=r:=⟨_,rfl⟩;rw[y] at f i⊢;go_enter Gz.gf func177,ntmps177;go_wp2;go_ret;exact⟨rfl,rfl⟩
def Gf(g:Nat)(p b:Int)(w:ns)(h:w.cell? ⟨g,2+k,none⟩=some (U O p))(j:w.frozen? ⟨g,2+k,none⟩=false)(l:k<40)
  (f:∀w,UL Gz.prog 185 #[U O p,U O b] w λe w'=>e=be (U O (bj p b))/\w=w'):
  UL Gz.prog 178 #[ci (some ⟨g,2,none⟩),U O (k:Int),U O b] w λe w'=>e=be (dl #[])/\w'=(w.setCell ⟨g,2+k,none⟩ (U O (bj p b))).drew:=by
 have i:=af f;go_enter Gz.gf func178,ntmps178
 go_region_with (go_at_call 185;refine(i.out _).mono ?_;rintro e w'⟨rfl,rfl⟩)
 all_goals
  refine akv (v:=dl #[]) (by simp[results,results178,go_sem]) rfl ?_;exact⟨rfl,rfl⟩
def MX{d:ay}(h1:4096<=d.span)(f:d.span<16777216):ji (feed d)=ji d:=by
 have e:(feed d).span=d.span*256:=rfl;unfold ji;by_cases h:d.span*256<16777216
 ·grind
 ·grind
def Nz{d:ay}(h:¬d.span<16777216):ji d=d:=by unfold ji;rw[if_neg h]
def kt(w:ns)(g:Nat):Nat:=
 match w.cell? ⟨g,1,none⟩ with
 |some (.int _ s)=>(16777216-s).toNat
 |_=>0
def DB.iP{d:ay}(h:DB w g d B A c):kt w g=(16777216-d.span).toNat:=by unfold kt;rw[h.span]
def SK{p:Prop}(h:p:=by clear h1 h2 h3 x1 x2 c0 c1 hf;go_wp2;go_loopw[] (λwr=>∃(e:ay)(A':Option Addr)(c':Nat),Hid (DB wr g e B A' c'/\av [g] w wr/\wm e/\ji e=bJ d k)) λwr=>kt wr g;(case atStart=>exact⟨_,_,_,h4,x3,HM.out,rfl⟩);(case round=>obtain⟨e,A',c',hK⟩:=hrel;obtain⟨f,l,i,m⟩:=hK.out;have L:=f.span;have z:=i.lo;have M:=i.hi;have q:=af f.iP;by_cases C:e.span<16777216;(have N:=af f;have D:=af l;have r:=af i;have E:=af m;have F:=af (Py f i.c0 i.c1);clear f l i m hK;go_wp2;refine F.out.mono ?_;rintro Q R⟨rfl,⟨G,H,j⟩,u⟩;have f1:=j.span;have f2:=j.free;rw[show(cR e).span=e.span from rfl] at f1;have y:=af j;have I:=af (D.out.aw u λg J=>.inl J);clear j u;have wc:IntKind.u64.wrap (e.span*256)=e.span*256:=u64_in (by omega) (by omega);go_wp2;go_roundw;(case rel=>exact⟨feed e,G,H,y.out.fc (e.span*256),I.out.set (.inl (by simp)) _,⟨by show 4096<=e.span*256;omega,by show e.span*256<=_;omega,(jg).1,(jg).2,r.out.len,r.out.ch⟩,(MX z C).trans E.out⟩);(case measure=>rw[q.out,(y.out.fc (e.span*256)).iP];show(16777216-e.span*256).toNat<(16777216-e.span).toNat;omega));(have K:=(Nz (by omega)).symm.trans m;subst K;go_wp2;go_ret;exact⟨rfl,⟨_,_,f⟩,l⟩))):p:=h
def decode(g k B c:Nat)(d:ay)(A:Option aiI)(w:ns)(h:DB w g d B A c)(ok:bQ d)(m:k<40):
  UL Gz.prog 154 #[ci (some ⟨g,0,none⟩),U O (k:Int)] w λe w'=>e=be (U O (cP d k))/\(∃A' c',DB w' g (bJ d k) B A' c')/\av [g] w w':=by
 obtain⟨D,E⟩:=ok.ch k m;have c0:=h.code;have c1:=h.span;have M:=h.jl k m;have hf:=h.free;have hS:=ok.lo;have R:=ok.hi;have X:=ok.c0;have V:=ok.c1;obtain⟨Z,b2,b3,b4⟩:=kX ok.lo ok.hi D E;have F:=ok.mA k m;have z:=af λw r=>bound g k d.span (d.ch[k]?.getD 0) w r m ok.lo ok.hi D E;have N:=af λb w r hf W=>Gf g (d.ch[k]?.getD 0) b w r hf m W;have y:dS d k=d.span/4096*d.ch[k]?.getD 0:=rfl;by_cases j:d.code<dS d k
 ·have f:cP d k=0:=by unfold cP;rw[if_pos j]
  have i:dM d k={d with span:=dS d k,ch:=d.ch.set k (bj (d.ch[k]?.getD 0) 0)}:=by unfold dM;rw[if_pos j]
  rw[f];have u:=af (MU (d.ch[k]?.getD 0) · D E);generalize C:d.ch[k]?.getD 0=p at*;generalize G:d.span/4096*p=l at*;have H:=af h;have HM:=af F;have PP:=af i;have Do:=af y;have I:=af C;rw[y] at j;clear h F i y f C G ok;go_enter Gz.gf func154,ntmps154;go_wp2
  go_quiet((go_at_call 177;exact nO ((z.out (w.drewN _) M).mono λ_ _ h=>⟨h.1,h.2.symm⟩)))
  have h1:=H.out.q ((Q.refl w).drewN nq);have x1:av [g] w (w.drewN nq):=(av.refl _ _).drewN _;generalize w.drewN nq=J at h1 x1⊢;have c0:=h1.code;have c1:=h1.span;have hf:=h1.free;go_wp2;have h2:=h1.fc l;have x2:=x1.set (p:=⟨g,1,none⟩) (.inl aj) (.int .u64 l);generalize J.setCell ⟨g,1,none⟩ (.int .u64 l)=K at h2 x2⊢;refine(N.out 0 _ (by have r:=h2.jl k m;rw[show d.ch[k]?.getD 0=p from I.out] at r;exact r) (h2.free _) u.out).mono ?_;rintro e w3⟨rfl,rfl⟩;have h3:=(h2.lG k m (bj p 0)).q ((Q.refl _).drew);have x3:=(x2.set (p:=⟨g,2+k,none⟩) (.inl aj) (U O (bj p 0))).drew;generalize(K.setCell ⟨g,2+k,none⟩ (U O (bj p 0))).drew=L at h3 x3⊢;have h4:DB L g (dM d k) B A c:=qV;exact SK
 ·have f:cP d k=1:=by unfold cP;rw[if_neg j]
  have i:dM d k={d with code:=d.code-dS d k,span:=d.span-dS d k,ch:=d.ch.set k (bj (d.ch[k]?.getD 0) 1)}:=by unfold dM;rw[if_neg j]
  rw[f];have u:=af (MW (d.ch[k]?.getD 0) · D E);generalize C:d.ch[k]?.getD 0=p at*;generalize G:d.span/4096*p=l at*;have H:=af h;have HM:=af F;have PP:=af i;have Do:=af y;have I:=af C;rw[y] at j;have hle:l<=d.code:=aa;have wa:ajq.wrap (d.code-l)=d.code-l:=u64_in aa aa;have wb:ajq.wrap (d.span-l)=d.span-l:=u64_in aa aa;clear h F i y f C G ok j;go_enter Gz.gf func154,ntmps154;go_wp2
  go_quiet((go_at_call 177;exact nO ((z.out (w.drewN _) M).mono λ_ _ h=>⟨h.1,h.2.symm⟩)))
  have h1:=H.out.q ((Q.refl w).drewN nq);have x1:av [g] w (w.drewN nq):=(av.refl _ _).drewN _;generalize w.drewN nq=J at h1 x1⊢;have c0:=h1.code;have c1:=h1.span;have hf:=h1.free;go_wp2;have h2:=(h1.iO (d.code-l)).fc (d.span-l);have x2:=(x1.set (p:=⟨g,0,none⟩) (.inl aj) (.int .u64 (d.code-l))).set (p:=⟨g,1,none⟩) (.inl aj) (.int .u64 (d.span-l));generalize(J.setCell ⟨g,0,none⟩ (.int .u64 (d.code-l))).setCell ⟨g,1,none⟩ (.int .u64 (d.span-l))=K at h2 x2⊢;refine(N.out 1 _ (by have r:=h2.jl k m;rw[show d.ch[k]?.getD 0=p from I.out] at r;exact r) (h2.free _) u.out).mono ?_;rintro e w3⟨rfl,rfl⟩;have h3:=(h2.lG k m (bj p 1)).q ((Q.refl _).drew);have x3:=(x2.set (p:=⟨g,2+k,none⟩) (.inl aj) (U O (bj p 1))).drew;generalize(K.setCell ⟨g,2+k,none⟩ (U O (bj p 1))).drew=L at h3 x3⊢;have h4:DB L g (dM d k) B A c:=qV;exact SK
end
end Go.Proofs.Q0
