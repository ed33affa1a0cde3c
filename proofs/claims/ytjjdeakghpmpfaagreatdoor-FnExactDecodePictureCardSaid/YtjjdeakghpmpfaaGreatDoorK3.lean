import Derived.Test.YtjjdeakghpmpfaaGreatDoorK2
import Derived.Deep.MidRow
import Derived.Deep.WholeRow
set_option maxRecDepth 100000
set_option maxHeartbeats 8000000
set_option linter.all false
open Go.Value renaming int->U,slice->Y,bool->a9,agg->a5,pointer->ci,tuple->dl,iface->em
open Go.IntKind renaming i64->O
open Go.Obj renaming cells->ac
open Go.Ending renaming returned->be
open Go renaming Calls->UL,Value->rl,World->ns,bodyPost_ret->aiA,results_cell_row->akj,wpList->aja
open Go.Instr renaming index->akG,loadAt->ajF
open Go.IntKind renaming i64->AS
open Go.Result renaming andThen_ok->aiY
open Go.Sem renaming run_bind->aiC,run_pure->ajH
open Go.World renaming setCell->alj,size_alloc->BE
open List renaming replicate->an
namespace Go.Proofs
def Cv{p:Prop}(h:p:=by rw[bO,h.len];exact mP):p:=h
def CO{p:Prop}(h:p:=by refine⟨rfl,rfl,rfl,by simp[World.setRow],λk hk ip=>?_⟩;simp only[World.setRow,Array.getElem?_modify];rw[if_neg λe=>ip nI]):p:=h
def CR{p:Prop}(h:p:=by
  go_wp2;go_round;case rel=>exact⟨k+1,aa,aH,by rw[Hid,hr.out,jn.out]⟩
  case measure=>simp[intOf];omega):p:=h
def JY{p:Prop}(h:p:=by
  apply List.ext_getElem
  ·simp[a6]
  ·intro i h1 h2;rw[List.getElem_set];simp only[a6,List.getElem_map,List.getElem_range];by_cases e:k=i
   ·simp_all
   ·omega):p:=h
abbrev aB:=@Go.IntWalk.i64_in
def aV{p q:Prop}(k:q)(e:p=q:=by first|(simp only[Act.put,List.setIfInBounds_toArray,List.set_cons_zero,List.set_cons_succ];done)|(simp only[Act.put,List.setIfInBounds_toArray,List.set_cons_zero,List.set_cons_succ];exact rfl)|exact rfl):p:=e▸k
def JZ{p:Prop}(h:p:=by exact⟨h1,nU h2 aa,nU h3 aa,nU h4 aa⟩):p:=h
def J0{p:Prop}(h:p:=by
  rcases(by omega:i=0\/i=1\/i=2\/i=3) with rfl|rfl|rfl|rfl
  ·exact nU h aa
  ·exact nU h1 aa
  ·exact nU h2 aa
  ·exact nU h3 aa):p:=h
def LL{p:Prop}(h:p:=by
  clear b2 g2 z2 H1 H2 H3 H4;go_wp2;go_roundw;case rel=>exact⟨k+1,aa,aH,HK⟩
  case measure=>simp[intOf];omega):p:=h
def dh{p:Prop}(h:p:=by first|assumption|rfl):p:=h
abbrev yA:=@Int.mul_le_mul_of_nonneg_right
def xA{p:Prop}(h:p:=by rw[<-IntWalk.i64_left,w1]):p:=h
def bg{p:Prop}(h:p:=by simp[intOf];omega):p:=h
def qT{p:Prop}(h:p:=by show w.heap.size+1≠w.heap.size+1+1;omega):p:=h
def tY{p:Prop}(h:p:=by show w.heap.size≠w.heap.size+1+1;omega):p:=h
def qU{p:Prop}(h:p:=by show w.heap.size<=w.heap.size+1+1;omega):p:=h
def Cw{p:Prop}(h:p:=by unfold cl;split<;>(try split)<;>omega):p:=h
def xB{p:Prop}(h:p:=by rw[E.out];omega):p:=h
def CS{p:Prop}(h:p:=by go_enter Gz.gf func73,ntmps73;go_wp2;go_ret;exact⟨rfl,rfl⟩):p:=h
def ri{p:Prop}(h:p:=by go_wp2;go_ret;exact⟨rfl,aR⟩):p:=h
def uo{p:Prop}(h:p:=by go_wp2;go_ret;exact⟨aj,aR⟩):p:=h
end Go.Proofs
namespace Go.Proofs.Q0
open Go.Proofs.Tryz
variable{x:Operand}{k:Nat}{M B n:Int}{xs:List Int}{w:ns}
section
open Go.RowKit
def arr(xs:List Int):Array rl:=(xs.map (Value.int .i64)).toArray
def bO(xs:List Int):(arr xs).size=xs.length:=by simp[arr]
def mZ(xs:List Int)(k:Nat)(h:k<xs.length):(arr xs)[k]?=some (U O (xs[k]?.getD 0)):=by simp[arr,h]
def Qx(xs:List Int)(k:Nat)(y:Int):(arr xs).setIfInBounds k (U O y)=arr (xs.set k y):=by simp[arr,List.map_set]
def Fj(xs:List Int):(arr xs).all (·.oneCell')=true:=by rw[Array.all_eq_true_iff_forall_mem];intro v b;simp only[arr,List.mem_toArray,List.mem_map] at b;obtain⟨x,_,rfl⟩:=b;rfl
structure Bl(w:ns)(g:Nat)(xs:List Int):Prop where
 blk:ak w g 82 (arr xs)
 len:xs.length=16
def mP:(Gz.prog.info? 82).map (·.size)=some 16:=aC
section
variable{w w':ns}{g:Nat}{xs ys:List Int}
def Bl.q(h:Bl w g xs)(hq:Q w w'):Bl w' g xs:=⟨h.blk.q hq,h.len⟩
def Bl.at(h:Bl w g xs)(k:Nat)(b:k<16):w.cell? ⟨g,k,none⟩=some (U O (xs[k]?.getD 0)):=(h.blk.cell k).trans (mZ _ _ (by rw[h.len];exact b))
def Bl.free(h:Bl w g xs)(k:Nat):w.frozen? ⟨g,k,none⟩=false:=h.blk.free k
def Bl.set(h:Bl w g xs)(k:Nat)(y:Int):Bl (w.setCell ⟨g,k,none⟩ (U O y)) g (xs.set k y):=⟨by rw[<-Qx];exact h.blk.set k _,by rw[List.length_set];exact h.len⟩
def Bl.aN(h:Bl w g xs){p:Addr}(b:g≠p.block)(u:rl):Bl (w.setCell p u) g xs:=⟨h.blk.aN b u,h.len⟩
def Bl.grown{row:Option Nat}(h:Bl w g xs)(b:w.grownBy w' row)(d:some g≠row):Bl w' g xs:=⟨h.blk.grown b d,h.len⟩
def Bl.alloc(h:Bl w g xs)(o:Obj):Bl (w.alloc o) g xs:=h.q ((Q.refl w).alloc o)
def Bl.drew(h:Bl w g xs):Bl w.drew g xs:=h.q ((Q.refl w).drew)
def Bl.new(w:ns)(xs:List Int)(h:xs.length=16):Bl (w.alloc (ac (arr xs) 82)) w.heap.size xs:=⟨ak.new w _ _,h⟩
def Bl.zero(w:ns):Bl (w.alloc (ac (arr (an 16 0)) 82)) w.heap.size (an 16 0):=Bl.new w _ rfl
def Bl.lt(h:Bl w g xs):g<w.heap.size:=h.blk.lt
def Xl(h:Bl w g xs):(ajF 82 (ci (some ⟨g,0,none⟩))).run Gz.prog w=.ok (a5 (arr xs)) w:=by have:=run_loadVar_row w g 82 82 (arr xs) (0,0) _ h.blk (Gz.gu underlying82) rfl Cv;simp only[ajF,Instr.sureAddr,aiC,ajH,aiY,this]
variable{ops:Array Oper}{rest:List Oper}{o:Oper}{a:Act}{Q':Exit->Act->ns->Prop}
def eY(b:o.guard=none)(d:o.op=.load 82 x){g:Nat}(e:a.eval x=ci (some ⟨g,0,none⟩)){xs:List Int}(h:Bl w g xs)
  (hK:aja Gz.prog ops Q' rest (a.put o.dst (a5 (arr xs))) w):aja Gz.prog ops Q' (o::rest) a w:=
 wpList_load_row b _ x d g e 82 (arr xs) (0,0) _ h.blk (Gz.gu underlying82) rfl Cv hK
def eX(hw:Region.wanted o (yielded ops a.tmps)=true)(d:o.op=.load 82 x){g:Nat}(e:a.eval x=ci (some ⟨g,0,none⟩)){xs:List Int}(h:Bl w g xs)
  (hK:aja Gz.prog ops Q' rest (a.put o.dst (a5 (arr xs))) w):aja Gz.prog ops Q' (o::rest) a w:=
 wpList_step λ_ b=>by rw[if_pos hw];exact wp_load_row _ x d g e 82 (arr xs) (0,0) _ h.blk (Gz.gu underlying82) rfl Cv (b _ _ hK)
def xC{S:ns->Prop}(hw:Region.wanted o (yielded ops a.tmps)=true)(d:o.op=.load 82 x){g:Nat}(e:a.eval x=ci (some ⟨g,0,none⟩)){xs:List Int}(hS:∀w,S w->Bl w g xs):
  YieldsIf Gz.prog ops S o (a5 (arr xs)) a:=
 .inl ⟨hw,λw b=>by unfold execOp;simp only[d,e,Xl (hS w b),aiC,ajH,aiY]⟩
def WN(h:Bl w g xs)(b:ys.length=16):∃w',(Instr.storeAt 82 (ci (some ⟨g,0,none⟩)) (a5 (arr ys))).run Gz.prog w=.ok () w'/\Bl w' g ys/\w.grownBy w' (some g)/\w'.heap.size=w.heap.size:=by
 have hi:(Gz.prog.info? 82).map (·.size)=some (arr ys).size:=by rw[bO,b];exact mP
 have:=run_storeVar_row (P:=Gz.prog) w g 82 82 (arr xs) (arr ys) h.blk hi (by rw[bO,bO,h.len,b]) (Fj ys);refine⟨_,by simp only[Instr.storeAt,Instr.sureAddr,aiC,ajH,aiY];exact this,⟨?_,b⟩,?_,?_⟩
 ·have d:=h.blk;unfold ak at d⊢;simp[World.setRow,Array.getElem?_modify,d]
 ·exact CO
 ·simp
def iH(b:o.guard=none)(x y:Operand)(e:o.op=.store 82 x y)(g:Nat)(f:a.eval x=ci (some ⟨g,0,none⟩))(xs ys:List Int)(i:a.eval y=a5 (arr ys))(j:ys.length=16)(h:Bl w g xs)
  (hK:∀w',Bl w' g ys->w.grownBy w' (some g)->w'.heap.size=w.heap.size->aja Gz.prog ops Q' rest (a.put o.dst undef) w'):aja Gz.prog ops Q' (o::rest) a w:=by
 obtain⟨w',l,m,p,q⟩:=WN h j;refine wpList_plain b λK d=>?_;unfold Oper.wp execOp;simp only[e,f,i,l,aiC,ajH,aiY];exact d _ _ (hK w' m p q)
end
def rq(xs:List Int)(e:xs.length=16)(f:k<16)(w:ns):(akG 82 (a5 (arr xs)) (U O (k:Int))).run Gz.prog w=.ok (U O (xs[k]?.getD 0)) w:=by have h1:(0<=(k:Int)/\(k:Int)<((16:Nat):Int)):=aa;have b:=mZ xs k aa;have d:¬16<=k:=aa;simp[akG,run_underlying (Gz.gu underlying82),asIntOf,h1,go_sem,part,b,d]
def aS(xs:List Int)(M:Int):Bool:=xs.all λy=>decide (-M<=y/\y<=M)
def Pq(xs:List Int)(M:Int)(k:Nat)(h:k<xs.length):aS (xs.drop k) M=(decide (-M<=xs[k]?.getD 0/\xs[k]?.getD 0<=M)&&aS (xs.drop (k+1)) M):=by unfold aS;rw[List.drop_eq_getElem_cons h,List.all_cons,List.getElem?_eq_getElem h];rfl
def mU(h:aS xs M=true)(k:Nat)(hk:k<xs.length): -M<=xs[k]?.getD 0/\xs[k]?.getD 0<=M:=by exact LJ
def yR{t:Bool}(f:xs.length=16)(s:0<=M)(p:M<=100000)(j:Hid (aS xs M=t)):
  UL Gz.prog 159 #[a5 (arr xs),U O M] w λe w'=>e=be (a9 t)/\Q w w':=by
 have u:=Bl.new w xs f;have l:Q w (w.alloc (ac (arr xs) 82)):=aR;go_enter Gz.gf func159,ntmps159;go_wp2_with(first|refine eY rfl rfl rfl aG ?_|refine eX aD rfl rfl aG ?_);go_loop[8] (λi=>∃k:Nat,k<=16/\i=U O k/\Hid (aS xs M=aS (xs.drop k) M)) (λi=>16-(intOf i).toNat)
 case atStart=>exact⟨0,aa,rfl,rfl⟩
 case round=>
  obtain⟨k,z,rfl,hr⟩:=hrel;by_cases m:k<16
  ·have d:(k:Int)<16:=by omega
   have he:=λw=>rq xs f m w;have b:=Pq xs M k aa;generalize xs[k]?.getD 0=y at he b;by_cases q:y< -M
   ·rw[decide_eq_false λh=>aa,Bool.false_and] at b;have jn:=af b;clear b;go_wp2;go_ret;exact⟨by rw[<-j.out,hr.out,jn.out];rfl,l⟩
   ·by_cases r:M<y
    ·rw[decide_eq_false λh=>aa,Bool.false_and] at b;have jn:=af b;go_wp2;go_ret;exact⟨by rw[<-j.out,hr.out,jn.out];rfl,l⟩
    ·rw[decide_eq_true aa,Bool.true_and] at b;have jn:=af b;exact CR
  ·have d:k=16:=by omega
   subst d;go_wp2;go_ret;exact⟨by rw[<-j.out,hr.out,List.drop_of_length_le (Nat.le_of_eq f)];rfl,l⟩
end
section
open Go.RowKit
def ej(w:ns)(lo hi:Nat)(v:rl)(n:Nat)(xs:List Int):Prop:=Own w lo v n xs/\∀k,v.ownBlock=some k->k<hi
section
variable{w w':ns}{lo hi kc kw n n' g:Nat}{v v':rl}{A:Option Addr}{c:Nat}{xs ys:List Int}{t:TypeId}{cs:Array rl}
def Own.i(h:Own w lo v n xs):ej w lo w.heap.size v n xs:=⟨h,λk b=>(h.2.lt k b).2⟩
def ej.nil(w:ns)(lo hi:Nat):ej w lo hi (Y none 0 0) 0 []:=⟨Own.nil _ _,λk b=>by simp[Value.ownBlock] at b⟩
def ej.q(h:ej w lo hi v n xs)(hq:Q w w'):ej w' lo hi v n xs:=⟨h.1.q hq,h.2⟩
def ej.rd(h:ej w lo hi (Y A n c) n xs):Rd w w.heap.size A xs:=h.1.rd
def ej.len(h:ej w lo hi v n xs):xs.length=n:=h.1.1
def ej.form(h:ej w lo hi v n xs):∃A c,v=Y A n c:=h.1.form
def ej.other(h:ej w lo hi v n xs)(h':ej w kc kw v' n' ys)(d:w.grownBy w' v'.ownBlock)(hd:hi<=kc\/kw<=lo):ej w' lo hi v n xs:=by
 refine⟨h.1.other d ?_,h.2⟩;cases b:v.ownBlock with
 |none=>exact .inl rfl
 |some k=>refine .inr λe=>?_;have h1:=(h.1.2.lt k b).1;have f:=h.2 k b;have i:=(h'.1.2.lt k e.symm).1;have j:=h'.2 k e.symm;omega
def ak.mark(h:ak w g t cs)(h':ej w kc kw v' n' ys)(b:w.grownBy w' v'.ownBlock)(hd:g<kc\/kw<=g):ak w' g t cs:=
 h.grown b (λe=>by have d:=(h'.1.2.lt g e.symm).1;have f:=h'.2 g e.symm;omega)
def Rd.mark{B:Nat}(h:Rd w B A xs)(h':ej w kc kw v' n' ys)(b:w.grownBy w' v'.ownBlock)(d:B<=w.heap.size)(hd:B<=kc):Rd w' B A xs:=
 h.grown b d (λg e=>by have f:=(h'.1.2.lt g e).1;omega)
def Q.mark{a:ns}(h:Q a w)(h':ej w kc kw v' n' ys)(b:w.grownBy w' v'.ownBlock)(hd:a.heap.size<=kc):Q a w':=h'.1.SG h hd b
def ej.marked(h':ej w kc kw v' n' ys){b:List Int}(o:Own w' kc v' n' b):ej w' kc kw v' n' b:=⟨o,h'.2⟩
end
end
section
open Go.RowKit
def sf(f:Nat->Int)(k:Nat)(h:k<16):(a6 (λj=>if j<k then f j else 0) 16).set k (f k)=a6 (λj=>if j<k+1 then f j else 0) 16:=by exact JY
def rV(f:Nat->Int):a6 (λj=>if j<16 then f j else 0) 16=a6 f 16:=aD
def rX(f:Nat->Int):a6 (λj=>if j<0 then f j else 0) 16=an 16 0:=aD
def sB{f:Nat->Int}{m:Nat}(h:k<16)(hm:m<=k):(a6 (λj=>if j<m then f j else 0) 16)[k]?.getD 0=0:=by rw[nY h,if_neg aa]
def afw(h:xs.length=16):a6 (λj=>xs[j]?.getD 0) 16=xs:=by rw[<-h];exact aa7 xs
end
section
open Go.RowKit
def oy(xs:List Int)(a s:Nat):List Int:=
 let p:=xs[a]?.getD 0
 let q:=xs[a+s]?.getD 0
 let r:=xs[a+2*s]?.getD 0
 let t:=xs[a+3*s]?.getD 0
 (((xs.set a (p+q+r+t)).set (a+s) (p+q-r-t)).set (a+2*s) (p-q-r+t)).set (a+3*s) (p-q+r-t)
def Pr(xs:List Int)(a s:Nat):(oy xs a s).length=xs.length:=by simp[oy]
def cT(xs:List Int)(B:Int):Prop:=∀k:Nat,-B<=xs[k]?.getD 0/\xs[k]?.getD 0<=B
def zP{y:Int}(h:cT xs B)(h1: -B<=y)(b:y<=B):cT (xs.set k y) B:=λi=>by
 rw[List.getElem?_set];have:=h i;split
 ·grind
 ·omega
def nU{C:Int}(h:cT xs B)(b:B<=C):cT xs C:=λi=>by have:=h i;omega
def nV(h:cT xs B)(d:0<=B){a s:Nat}:cT (oy xs a s) (4*B):=by have b:=nU h (show B<=4*B by omega);have e:=h a;have f:=h (a+s);have hc:=h (a+2*s);have hd:=h (a+3*s);exact zP (zP (zP (zP b aa aa) aa aa) aa aa) aa aa
def XT{g a s:Nat}(D:Bl w g xs)(Q:0<s)(X:a+3*s<16)(F:cT xs B)(R:0<=B)(S:B<=1000000000000):
  UL Gz.prog 188 #[ci (some ⟨g,0,none⟩),U O a,U O s] w λe w'=>e=be (dl #[])/\Bl w' g (oy xs a s)/\w.grownBy w' (some g)/\w'.heap.size=w.heap.size:=by
 have h0:=F a;have h1:=F (a+s);have T:=F (a+2*s);have V:=F (a+3*s);have G:oy xs a s=(((xs.set a (xs[a]?.getD 0+xs[a+s]?.getD 0+xs[a+2*s]?.getD 0+xs[a+3*s]?.getD 0)).set (a+s) (xs[a]?.getD 0+xs[a+s]?.getD 0-xs[a+2*s]?.getD 0-xs[a+3*s]?.getD 0)).set (a+2*s) (xs[a]?.getD 0-xs[a+s]?.getD 0-xs[a+2*s]?.getD 0+xs[a+3*s]?.getD 0)).set (a+3*s) (xs[a]?.getD 0-xs[a+s]?.getD 0+xs[a+2*s]?.getD 0-xs[a+3*s]?.getD 0):=rfl;have c0:=D.at a aa;have K:=D.at (a+s) aa;have L:=D.at (a+2*s) aa;have N:=D.at (a+3*s) aa;rw[G];clear G F;generalize xs[a]?.getD 0=p at h0 c0⊢;generalize xs[a+s]?.getD 0=q at h1 K⊢;generalize xs[a+2*s]?.getD 0=r at T L⊢;generalize xs[a+3*s]?.getD 0=t at V N⊢;obtain⟨i1,H⟩:∃i,a+s=i:=⟨_,rfl⟩;obtain⟨i2,I⟩:∃i,a+2*s=i:=⟨_,rfl⟩;obtain⟨i3,J⟩:∃i,a+3*s=i:=⟨_,rfl⟩;rw[H] at K⊢;rw[I] at L⊢;rw[J] at N⊢;have Z:(a:Int)+(s:Int)=(i1:Int):=aa;have e2:(a:Int)+2*(s:Int)=(i2:Int):=aa;have e3:(a:Int)+3*(s:Int)=(i3:Int):=aa;have l0:(a:Int)<16:=aa;have l1:(i1:Int)<16:=aa;have l2:(i2:Int)<16:=aa;have l3:(i3:Int)<16:=aa;have d1:a≠i1:=aa;have d2:a≠i2:=aa;have d3:a≠i3:=aa;have d4:i1≠i2:=aa;have d5:i1≠i3:=aa;have d6:i2≠i3:=aa;have m2:AS.wrap (2*(s:Int))=2*(s:Int):=aB _ ⟨aa,aa⟩;have m3:AS.wrap (3*(s:Int))=3*(s:Int):=aB _ ⟨aa,aa⟩;have m4:AS.wrap (i1:Int)=(i1:Int):=aB _ ⟨aa,aa⟩;have m5:AS.wrap (i2:Int)=(i2:Int):=aB _ ⟨aa,aa⟩;have m6:AS.wrap (i3:Int)=(i3:Int):=aB _ ⟨aa,aa⟩;have W:=af D;clear H I J D;go_enter Gz.gf func188,ntmps188;go_wp2;refine et (λP=>P.cell? ⟨g,a,none⟩=some (U O p)/\P.cell? ⟨g,i1,none⟩=some (U O q)/\P.cell? ⟨g,i2,none⟩=some (U O r)/\P.cell? ⟨g,i3,none⟩=some (U O t)) (λ_=>false) ai ⟨c0,K,L,N⟩ λhS=>?_;refine ah 0 (h:=ah 1 (h:=ah 2 (h:=ah 3 (h:=ah 4 (h:=ah 5 (h:=ah 6 (h:=ah 7 (h:=ah 8 (h:=ah 9 (h:=ah 10 (h:=ah 11 (h:=ah 12 (h:=ah 13 (h:=ah 14 (h:=ah 15 (h:=ah 16 (h:=ah 17 (h:=ah 18 (h:=ah 19 (h:=ah 20 (h:=ah 21 (h:=ah 22 (h:=ah 23 (h:=ah 24 (h:=ah 25 (h:=ah 26 (h:=ah 27 (h:=ah 28 (h:=ah 29 (h:=ah 30 (h:=ah 31 (h:=?_))))))))))))))))))))))))))))))));refine kg ai ?_ _;clear hS c0 K L N;have d:=W.out.drew;have l:=Dq (World.grownBy.refl w (some g)) 1;have m:w.drew.heap.size=w.heap.size:=rfl;change w.grownBy w.drew (some g) at l;generalize w.drew=z at d l m⊢;have v1:AS.wrap (p+q)=p+q:=aB _ ⟨aa,aa⟩;have v2:AS.wrap (p+q+r)=p+q+r:=aB _ ⟨aa,aa⟩;have v3:AS.wrap (p+q+r+t)=p+q+r+t:=aB _ ⟨aa,aa⟩;have v4:AS.wrap (p+q-r)=p+q-r:=aB _ ⟨aa,aa⟩;have v5:AS.wrap (p+q-r-t)=p+q-r-t:=aB _ ⟨aa,aa⟩;have v6:AS.wrap (p-q)=p-q:=aB _ ⟨aa,aa⟩;have v7:AS.wrap (p-q-r)=p-q-r:=aB _ ⟨aa,aa⟩;have v8:AS.wrap (p-q-r+t)=p-q-r+t:=aB _ ⟨aa,aa⟩;have v9:AS.wrap (p-q+r)=p-q+r:=aB _ ⟨aa,aa⟩;have v10:AS.wrap (p-q+r-t)=p-q+r-t:=aB _ ⟨aa,aa⟩;go_wp2;refine et (λ_=>True) (λ_=>false) ai trivial λhS=>?_;refine ah 0 (h:=ah 1 (h:=ah 2 (h:=ah 3 (h:=ah 4 (h:=ah 5 (h:=ah 6 (h:=ah 7 (h:=ah 8 (h:=ah 9 (h:=ah 10 (h:=ah 11 (h:=ah 12 (h:=ah 13 (h:=ah 14 (h:=ah 15 (h:=ah 16 (h:=ah 17 (h:=ah 18 (h:=ah 19 (h:=ah 20 (h:=ah 23 (h:=?_))))))))))))))))))))));have C:=d.at a aa;have f0:=d.free a;refine bh (k:=21) ai rfl rfl λj b=>?_;go_simp;refine b.out _ _ trivial λ_=>?_;clear b j;refine aV ?_;refine bh (k:=22) ai rfl rfl λj b=>?_;go_simp;have f:=d.set a (p+q+r+t);have u:=ry l a (U O (p+q+r+t));have y:(z.setCell ⟨g,a,none⟩ (U O (p+q+r+t))).heap.size=w.heap.size:=by simpa[alj] using m
 clear C f0 d l m;generalize z.setCell ⟨g,a,none⟩ (U O (p+q+r+t))=E at f u y⊢;refine b.out _ _ trivial λ_=>?_;clear b j;refine aV ?_;have C:=f.at i1 aa;have f0:=f.free i1;refine bh (k:=24) ai rfl rfl λj b=>?_;go_simp;refine b.out _ _ trivial λ_=>?_;clear b j;refine aV ?_;refine bh (k:=25) ai rfl rfl λj b=>?_;go_simp;have d:=f.set i1 (p+q-r-t);have l:=ry u i1 (U O (p+q-r-t));have m:(E.setCell ⟨g,i1,none⟩ (U O (p+q-r-t))).heap.size=w.heap.size:=by simpa[alj] using y
 clear C f0 f u y;generalize E.setCell ⟨g,i1,none⟩ (U O (p+q-r-t))=z at d l m⊢;refine b.out _ _ trivial λ_=>?_;clear b j;refine aV ?_;refine kg ai ?_ _;clear hS;go_wp2;have u:=Dq l 1;have y:z.drew.heap.size=w.heap.size:=m;have f:=d.drew;change w.grownBy z.drew (some g) at u;refine et (λ_=>True) (λ_=>false) ai trivial λhS=>?_;clear d l m;generalize z.drew=E at f u y⊢;refine ah 0 (h:=ah 1 (h:=ah 2 (h:=ah 3 (h:=ah 4 (h:=ah 5 (h:=ah 6 (h:=ah 7 (h:=ah 8 (h:=ah 9 (h:=ah 10 (h:=ah 11 (h:=ah 12 (h:=ah 13 (h:=ah 14 (h:=ah 15 (h:=ah 16 (h:=ah 17 (h:=ah 18 (h:=ah 19 (h:=ah 20 (h:=ah 21 (h:=ah 22 (h:=ah 23 (h:=ah 24 (h:=ah 27 (h:=?_))))))))))))))))))))))))));have C:=f.at i2 aa;have f0:=f.free i2;refine bh (k:=25) ai rfl rfl λj b=>?_;go_simp;refine b.out _ _ trivial λ_=>?_;clear b j;refine aV ?_;refine bh (k:=26) ai rfl rfl λj b=>?_;go_simp;have d:=f.set i2 (p-q-r+t);have l:=ry u i2 (U O (p-q-r+t));have m:(E.setCell ⟨g,i2,none⟩ (U O (p-q-r+t))).heap.size=w.heap.size:=by simpa[alj] using y
 clear C f0 f u y;generalize E.setCell ⟨g,i2,none⟩ (U O (p-q-r+t))=z at d l m⊢;refine b.out _ _ trivial λ_=>?_;clear b j;refine aV ?_;have C:=d.at i3 aa;have f0:=d.free i3;refine bh (k:=28) ai rfl rfl λj b=>?_;go_simp;refine b.out _ _ trivial λ_=>?_;clear b j;refine aV ?_;refine bh (k:=29) ai rfl rfl λj b=>?_;go_simp;have f:=d.set i3 (p-q+r-t);have u:=ry l i3 (U O (p-q+r-t));have y:(z.setCell ⟨g,i3,none⟩ (U O (p-q+r-t))).heap.size=w.heap.size:=by simpa[alj] using m
 clear C f0 d l m;generalize z.setCell ⟨g,i3,none⟩ (U O (p-q+r-t))=E at f u y⊢;refine b.out _ _ trivial λ_=>?_;clear b j;refine aV ?_;refine kg ai ?_ _;clear hS;go_wp2
 go_end0
 exact⟨rfl,f.drew,Dq u 1,y⟩
end
section
open Go.RowKit
def rows(xs:List Int):Nat->List Int
 |0=>xs
 |i+1=>oy (rows xs i) (4*i) 1
def gP(xs:List Int):Nat->List Int
 |0=>xs
 |i+1=>oy (gP xs i) i 4
def AI(xs:List Int):List Int:=gP (rows xs 4) 4
def aa8(xs:List Int)(i:Nat):(rows xs i).length=xs.length:=by induction i with|zero=>rfl|succ i b=>rw[rows,Pr,b]
def aa9(xs:List Int)(i:Nat):(gP xs i).length=xs.length:=by induction i with|zero=>rfl|succ i b=>rw[gP,Pr,b]
def Ps(h:cT xs B)(b:0<=B):cT (rows xs 1) (4*B)/\cT (rows xs 2) (16*B)/\cT (rows xs 3) (64*B)/\cT (rows xs 4) (256*B):=by have h1:cT (rows xs 1) (4*B):=nV h b;have h2:cT (rows xs 2) (4*(4*B)):=nV h1 aa;have h3:cT (rows xs 3) (4*(4*(4*B))):=nV h2 aa;have h4:cT (rows xs 4) (4*(4*(4*(4*B)))):=nV h3 aa;exact JZ
def aba(h:cT xs B)(b:0<=B):cT (gP xs 1) (4*B)/\cT (gP xs 2) (16*B)/\cT (gP xs 3) (64*B)/\cT (gP xs 4) (256*B):=by have h1:cT (gP xs 1) (4*B):=nV h b;have h2:cT (gP xs 2) (4*(4*B)):=nV h1 aa;have h3:cT (gP xs 3) (4*(4*(4*B))):=nV h2 aa;have h4:cT (gP xs 4) (4*(4*(4*(4*B)))):=nV h3 aa;exact JZ
def acK(h:cT xs B)(b:0<=B){i:Nat}(hi:i<4):cT (rows xs i) (256*B):=by obtain⟨h1,h2,h3,_⟩:=Ps h b;exact J0
def acL(h:cT xs B)(b:0<=B){i:Nat}(hi:i<4):cT (gP xs i) (256*B):=by obtain⟨h1,h2,h3,_⟩:=aba h b;exact J0
def Oi{A S:Int}{g:Nat}(a s:Nat)(h:A=(a:Int))(hS:S=(s:Int))(i:Bl w g xs)(b:0<s)(j:a+3*s<16)(l:cT xs B)(d:0<=B)(f:B<=1000000000000):
  UL Gz.prog 188 #[ci (some ⟨g,0,none⟩),U O A,U O S] w λe w'=>e=be (dl #[])/\Bl w' g (oy xs a s)/\w.grownBy w' (some g)/\w'.heap.size=w.heap.size:=by
 subst h hS;exact XT i b j l d f
def abb(w:ns)(D:xs.length=16)(I:cT xs B)(y:0<=B)(K:B<=1000000):
  UL Gz.prog 184 #[a5 (arr xs)] w λe w'=>e=be (a5 (arr (AI xs)))/\Q w w':=by
 have s1:=bO xs;rw[D] at s1;have E:Q w ((w.alloc (ac (arr xs) 82)).alloc (ac (arr (an 16 0)) 82)):=aR;have F:=(Bl.new w xs D).alloc (ac (arr (an 16 0)) 82);have C:=Bl.zero (w.alloc (ac (arr xs) 82));simp only[BE] at C;have G:((w.alloc (ac (arr xs) 82)).alloc (ac (arr (an 16 0)) 82)).heap.size=w.heap.size+1+1:=aj;have J:=af I;clear I;go_enter Gz.gf func184,ntmps184;go_wp2;change Code.wp _ _ _ _ ((w.alloc (ac (arr xs) 82)).alloc (ac (arr (an 16 0)) 82));generalize(w.alloc (ac (arr xs) 82)).alloc (ac (arr (an 16 0)) 82)=W at E F C G⊢;go_loopw[5] (λi wr=>∃k:Nat,k<=4/\i=U O k/\Hid (Bl wr w.heap.size (rows xs k)/\Bl wr (w.heap.size+1) (an 16 0)/\Q w wr/\wr.heap.size=w.heap.size+1+1)) (λi _=>4-(intOf i).toNat)
 case atStart=>exact⟨0,aa,rfl,F,C,E,G⟩
 case round=>
  obtain⟨k,L,rfl,hK⟩:=hrel;obtain⟨h1,m,f,h⟩:=hK.out;clear F C E G hK;by_cases p:k<4
  ·have b:(k:Int)<4:=by omega
   have d:=acK J.out y p;have H1:=af h1;have H2:=af m;have H3:=af f;have H4:=af h;have q:=af d;clear h1 m f h d;go_wp2;refine(Oi (4*k) 1 aa rfl H1.out aa aa q.out aa aa).mono ?_;rintro e j⟨rfl,b2,g2,z2⟩;have HK:Hid (Bl j w.heap.size (rows xs (k+1))/\Bl j (w.heap.size+1) (an 16 0)/\Q w j/\j.heap.size=w.heap.size+1+1):=⟨b2,H2.out.grown g2 (λe=>by have:=aL e;omega),H3.out.grown g2 (λk e=>by cases e;omega),by rw[z2];exact H4.out⟩;exact LL
  ·have b:k=4:=by omega
   subst b;have r:=(Ps J.out y).2.2.2;have l:=aa8 xs 4;rw[D] at l;obtain⟨ys,s⟩:∃ys,rows xs 4=ys:=⟨_,rfl⟩;rw[s] at h1 r l;have N:=af s;have P:=af l;have H1:=af h1;have H2:=af m;have H3:=af f;have H4:=af h;have R:=af r;clear h1 m f h r s l;go_wp2;simp only[Int.cast_ofNat_Int];go_loopw[12] (λi wr=>∃k:Nat,k<=4/\i=U O k/\Hid (Bl wr w.heap.size (gP ys k)/\Bl wr (w.heap.size+1) (an 16 0)/\Q w wr/\wr.heap.size=w.heap.size+1+1)) (λi _=>4-(intOf i).toNat)
   case atStart=>exact⟨0,aa,rfl,H1.out,H2.out,H3.out,H4.out⟩
   case round=>
    obtain⟨k,L,rfl,hK⟩:=hrel;clear H1 H2 H3 H4;obtain⟨h1,m,f,h⟩:=hK.out;clear hK;by_cases p:k<4
    ·have b:(k:Int)<4:=by omega
     have d:=acL R.out aa p;have H1:=af h1;have H2:=af m;have H3:=af f;have H4:=af h;have q:=af d;clear h1 m f h d;go_wp2;refine(Oi k 4 rfl rfl H1.out aa aa q.out aa aa).mono ?_;rintro e j⟨rfl,b2,g2,z2⟩;have HK:Hid (Bl j w.heap.size (gP ys (k+1))/\Bl j (w.heap.size+1) (an 16 0)/\Q w j/\j.heap.size=w.heap.size+1+1):=⟨b2,H2.out.grown g2 (λe=>by have:=aL e;omega),H3.out.grown g2 (λk e=>by cases e;omega),by rw[z2];exact H4.out⟩;exact LL
    ·have b:k=4:=by omega
     subst b;have z:(gP ys 4).length=16:=by rw[aa9];exact P.out
     have H4:=af h;have H3:=af f;obtain⟨H,u⟩:∃H,gP ys 4=H:=⟨_,rfl⟩;rw[u] at h1 z;have S:=af u;clear f h u;go_wp2_with(first|(first|refine eY rfl rfl rfl aG ?_|refine eX aD rfl rfl aG ?_)|(refine iH rfl _ _ rfl _ rfl _ _ rfl dh aG ?_;intro X T V Z));refine aiA (v:=a5 (arr H)) (akj aD _ _ _ _ _ _ _ aD T.blk (Gz.gu underlying82) rfl (by rw[bO,z];exact mP)) rfl ⟨by rw[AI,N.out,S.out],?_⟩;exact H3.out.grown V (λk e=>by cases e;omega)
end
section
open Go.RowKit
def iM(f:Nat->Int):Nat->Int
 |0=>0
 |k+1=>iM f k+f k
def Pt{f:Nat->Int}(h:∀j,j<16-> -B<=f j/\f j<=B)(d:0<=B)(k:Nat)(b:k<=16): -(16*B)<=iM f k/\iM f k<=16*B:=by
 have:∀k:Nat,k<=16-> -((k:Int)*B)<=iM f k/\iM f k<=(k:Int)*B:=by
  intro k b
  induction k with
  |zero=>simp[iM]
  |succ k e=>have:=h k aa;rw[iM,Int.natCast_succ,Int.add_mul,Int.one_mul];omega
 have h1:=this k b;have i:(k:Int)*B<=16*B:=yA aa d;omega
def sg(n:Nat):Int:=([1,1,1,1,1,1,-1,-1,1,-1,-1,1,1,-1,1,-1]:List Int)[n]?.getD 0
def Ah(n:Nat)(h:n<16):sg n=1\/sg n= -1:=by have:∀n,n<16->sg n=1\/sg n= -1:=aq;exact this n h
def jU(xs:List Int)(k j:Nat):Int:=sg (4*(k/4)+j/4)*sg (4*(k%4)+j%4)*xs[j]?.getD 0
def nj(xs:List Int)(k:Nat):Int:=iM (jU xs k) 16
def iN(xs:List Int):List Int:=a6 (nj xs) 16
def zu(xs:List Int):(iN xs).length=16:=aD
def acM{a b x:Int}(d:a=1\/a= -1)(e:b=1\/b= -1)(h: -B<=x/\x<=B): -B<=a*b*x/\a*b*x<=B:=eO
def Ez(h:cT xs B)(k j:Nat)(b:k<16)(d:j<16): -B<=jU xs k j/\jU xs k j<=B:=
 acM (Ah _ aa) (Ah _ aa) (h j)
def ED(h:cT xs B)(d:0<=B):cT (iN xs) (16*B):=λk=>by
 rcases de k 16 with b|b
 ·unfold iN;rw[nY b];exact Pt (λj e=>Ez h k j b e) d 16 (au _)
 ·rw[List.getElem?_eq_none (by rw[zu];exact b)];simp;omega
def aep(h:xs.length=16):∃l m p q r s u y z C b d e f i j,xs=[l,m,p,q,r,s,u,y,z,C,b,d,e,f,i,j]:=by
 match xs,h with
 |[l,m,p,q,r,s,u,y,z,C,b,d,e,f,i,j],_=>exact⟨l,m,p,q,r,s,u,y,z,C,b,d,e,f,i,j,rfl⟩
def acN(h:xs.length=16):AI xs=iN xs:=by obtain⟨y,z,C,D,E,F,G,H,I,J,b,d,e,i,j,l,rfl⟩:=aep h;have hr:rows [y,z,C,D,E,F,G,H,I,J,b,d,e,i,j,l] 4=[y+z+C+D,y+z-C-D,y-z-C+D,y-z+C-D,E+F+G+H,E+F-G-H,E-F-G+H,E-F+G-H,I+J+b+d,I+J-b-d,I-J-b+d,I-J+b-d,e+i+j+l,e+i-j-l,e-i-j+l,e-i+j-l]:=rfl;have hc:∀K L N P Q R S T V W m p q r s u:Int,gP [K,L,N,P,Q,R,S,T,V,W,m,p,q,r,s,u] 4=[K+Q+V+q,L+R+W+r,N+S+m+s,P+T+p+u,K+Q-V-q,L+R-W-r,N+S-m-s,P+T-p-u,K-Q-V+q,L-R-W+r,N-S-m+s,P-T-p+u,K-Q+V-q,L-R+W-r,N-S+m-s,P-T+p-u]:=λ_ _ _ _ _ _ _ _ _ _ _ _ _ _ _ _=>rfl;rw[AI,hr,hc];have hl:∀f:Nat->Int,a6 f 16=[f 0,f 1,f 2,f 3,f 4,f 5,f 6,f 7,f 8,f 9,f 10,f 11,f 12,f 13,f 14,f 15]:=λ_=>rfl;rw[iN,hl];have hs:∀f:Nat->Int,iM f 16=0+f 0+f 1+f 2+f 3+f 4+f 5+f 6+f 7+f 8+f 9+f 10+f 11+f 12+f 13+f 14+f 15:=λ_=>rfl;have s0:sg 0=1:=rfl;have s1:sg 1=1:=rfl;have s2:sg 2=1:=rfl;have s3:sg 3=1:=rfl;have s4:sg 4=1:=rfl;have s5:sg 5=1:=rfl;have s6:sg 6= -1:=rfl;have s7:sg 7= -1:=rfl;have s8:sg 8=1:=rfl;have s9:sg 9= -1:=rfl;have X:sg 10= -1:=rfl;have Z:sg 11=1:=rfl;have s12:sg 12=1:=rfl;have s13:sg 13= -1:=rfl;have s14:sg 14=1:=rfl;have s15:sg 15= -1:=rfl;simp only[nj,hs,jU,List.cons.injEq,and_true,List.getElem?_cons_zero,List.getElem?_cons_succ,Option.getD_some,Nat.reduceDiv,Nat.reduceMod,Nat.reduceMul,Nat.reduceAdd,s0,s1,s2,s3,s4,s5,s6,s7,s8,s9,X,Z,s12,s13,s14,s15,Int.reduceMul,Int.reduceNeg,Int.one_mul];refine⟨?_,?_,?_,?_,?_,?_,?_,?_,?_,?_,?_,?_,?_,?_,?_,?_⟩;all_goals omega
def Rv(I J:Int)(n:Nat)(w:ns)(h:4*I+J=(n:Int))(b:n<16)(d:0<=I/\I<=3)(f:0<=J/\J<=3):
  UL Gz.prog 176 #[U O I,U O J] w λe w'=>e=be (U O (sg n))/\w=w':=by
 have he:∀w,(akG 82 (a5 #[U O 1,U O 1,U O 1,U O 1,U O 1,U O 1,U O (-1),U O (-1),U O 1,U O (-1),U O (-1),U O 1,U O 1,U O (-1),U O 1,U O (-1)]) (U O (n:Int))).run Gz.prog w=.ok (U O (sg n)) w:=
  λw=>rq [1,1,1,1,1,1,-1,-1,1,-1,-1,1,1,-1,1,-1] rfl b w
 go_enter Gz.gf func176,ntmps176;go_wp2;go_ret;exact⟨rfl,rfl⟩
end
section
open Go.RowKit
def acO(xs:List Int)(u:Nat){v:Nat}(y:Nat){x:Nat}(b:v<4)(d:x<4):jU xs (4*u+v) (4*y+x)=sg (4*u+y)*sg (4*v+x)*xs[4*y+x]?.getD 0:=by unfold jU;rw[show(4*u+v)/4=u by omega,show(4*u+v)%4=v by omega,show(4*y+x)/4=y by omega,show(4*y+x)%4=x by omega]
def acP(hx:xs.length=16)(hB:cT xs B)(V:0<=B)(Hx:B<=1000000):
  UL Gz.prog 150 #[a5 (arr xs)] w λe w'=>e=be (a5 (arr (iN xs)))/\Q w w':=by
 have s1:=bO xs;rw[hx] at s1;have W:Q w (((w.alloc (ac (arr xs) 82)).alloc (ac (arr (an 16 0)) 82)).alloc (ac (arr (an 16 0)) 82)):=aR;have X:=((Bl.new w xs hx).alloc (ac (arr (an 16 0)) 82)).alloc (ac (arr (an 16 0)) 82);have R:=(Bl.zero (w.alloc (ac (arr xs) 82))).alloc (ac (arr (an 16 0)) 82);have S:=Bl.zero ((w.alloc (ac (arr xs) 82)).alloc (ac (arr (an 16 0)) 82));simp only[BE] at R S;have hs:(((w.alloc (ac (arr xs) 82)).alloc (ac (arr (an 16 0)) 82)).alloc (ac (arr (an 16 0)) 82)).heap.size=w.heap.size+1+1+1:=aj;have HB:=af hB;clear hB;go_enter Gz.gf func150,ntmps150;go_wp2;change Code.wp _ _ _ _ (((w.alloc (ac (arr xs) 82)).alloc (ac (arr (an 16 0)) 82)).alloc (ac (arr (an 16 0)) 82));generalize((w.alloc (ac (arr xs) 82)).alloc (ac (arr (an 16 0)) 82)).alloc (ac (arr (an 16 0)) 82)=wv at W X R S hs⊢;go_loopw[4] (λi wr=>∃u:Nat,u<=4/\i=U O u/\Hid (Bl wr w.heap.size xs/\Bl wr (w.heap.size+1) (an 16 0)/\Bl wr (w.heap.size+1+1) (a6 (λj=>if j<4*u then nj xs j else 0) 16)/\Q w wr/\w.heap.size+1+1+1<=wr.heap.size)) (λi _=>4-(intOf i).toNat)
 case atStart=>exact⟨0,aa,rfl,X,R,by rw[Nat.mul_zero,rX];exact S,W,aa⟩
 case round=>
  obtain⟨u,hu,rfl,hK⟩:=hrel;clear X R S W hs;by_cases hlu:u<4
  ·have hu4:(u:Int)<4:=by omega
   go_wp2;go_loopw[5] (λi wr=>∃v:Nat,v<=4/\i=U O v/\Hid (Bl wr w.heap.size xs/\Bl wr (w.heap.size+1) (an 16 0)/\Bl wr (w.heap.size+1+1) (a6 (λj=>if j<4*u+v then nj xs j else 0) 16)/\Q w wr/\w.heap.size+1+1+1<=wr.heap.size)) (λi _=>4-(intOf i).toNat)
   case atStart=>exact⟨0,aa,rfl,hK⟩
   case round=>
    clear hK;obtain⟨v,hv,rfl,hK⟩:=hrel;by_cases Z:v<4
    ·have hv4:(v:Int)<4:=by omega
     obtain⟨T,rfl⟩:∃T,T=wr:=⟨_,rfl⟩;go_wp2;go_loopw[6,7] (λn i wq=>∃y:Nat,y<=4/\i=U O y/\n=U O (iM (jU xs (4*u+v)) (4*y))/\Hid (Q T wq)) (λ_ i _=>4-(intOf i).toNat)
     case atStart=>exact⟨0,aa,rfl,rfl,Q.refl _⟩
     case round=>
      obtain⟨y,hy,rfl,rfl,hq⟩:=hrel;by_cases hly:y<4
      ·have Ug:(y:Int)<4:=by omega
       go_wp2;go_loopw[6,8] (λn i wq=>∃x:Nat,x<=4/\i=U O x/\n=U O (iM (jU xs (4*u+v)) (4*y+x))/\Hid (Q T wq)) (λ_ i _=>4-(intOf i).toNat)
       case atStart=>exact⟨0,aa,rfl,rfl,hq⟩
       case round=>
        clear hq;obtain⟨x,hx',rfl,rfl,hq⟩:=hrel;by_cases wj:x<4
        ·have Uh:(x:Int)<4:=by omega
         obtain⟨i,hi⟩:∃i,4*y+x=i:=⟨_,rfl⟩;have l:i<16:=aa;have e1:4*(y:Int)+(x:Int)=(i:Int):=aa;have J:=(hK.out.1.q hq.out).at i l;have f:=Ez HB.out (4*u+v) i aa l;have K:=Pt (λj hj=>Ez HB.out (4*u+v) j aa hj) V i aa;have E:=acO xs u y Z wj;have d:iM (jU xs (4*u+v)) (4*y+(x+1))=iM (jU xs (4*u+v)) (4*y+x)+jU xs (4*u+v) (4*y+x):=rfl;rw[hi] at E d⊢;rw[E] at f d;have o1:=Ah (4*u+y) aa;have o2:=Ah (4*v+x) aa;have T1:=af λz=>Rv (u:Int) (y:Int) (4*u+y) z aa aa aa aa;have T2:=af λz=>Rv (v:Int) (x:Int) (4*v+x) z aa aa aa aa;generalize sg (4*u+y)=s1 at f d o1 T1;generalize sg (4*v+x)=s2 at f d o2 T2;generalize xs[i]?.getD 0=b at f d J;generalize iM (jU xs (4*u+v)) i=n at d K⊢;have D: -1<=s1*s2/\s1*s2<=1:=by rcases o1 with rfl|rfl<;>rcases o2 with rfl|rfl<;>decide
         obtain⟨m,F⟩:∃s,s1*s2=s:=⟨_,rfl⟩;rw[F] at f d D;obtain⟨t,ht⟩:∃t,m*b=t:=⟨_,rfl⟩;rw[ht] at f d;have w1:AS.wrap (s1*s2)=m:=by rw[F];exact aB _ ⟨by omega,by omega⟩
         have Y':wrap64 (s1*s2)=m:=xA;have w2:AS.wrap (m*b)=t:=by rw[ht];exact aB _ ⟨by omega,by omega⟩
         have BT:wrap64 (m*b)=t:=by rw[<-IntWalk.i64_left,w2]
         have w3:AS.wrap (n+t)=n+t:=aB _ ⟨aa,aa⟩;have w4:AS.wrap (4*(y:Int))=4*(y:Int):=aB _ ⟨aa,aa⟩;have w5:AS.wrap (i:Int)=(i:Int):=aB _ ⟨aa,aa⟩;have L:(i:Int)<16:=aa;have jn:=af d;have HQ:=af hq.out;have HI:=af hi;clear d hq K f o1 o2 D F ht E hi;go_wp2;refine et (λww=>ww.cell? ⟨w.heap.size,i,none⟩=some (U O b)) (λ_=>false) ai J λhS=>?_;refine ah 0 (h:=ah 1 (h:=ah 2 (h:=ah 4 (h:=ah 5 (h:=ah 8 (h:=ah 9 (h:=ah 10 (h:=ah 11 (h:=ah 12 (h:=ah 13 (h:=?_)))))))))));refine bh (k:=3) ai rfl rfl λK2 r=>?_;go_simp;refine(T1.out _).mono ?_;rintro e wz⟨rfl,rfl⟩;refine r.out _ _ hS λhS=>?_;clear r K2;refine aV ?_;refine bh (k:=6) ai rfl rfl λK2 r=>?_;go_simp;refine(T2.out _).mono ?_;rintro e wz⟨rfl,rfl⟩;refine r.out _ _ hS λhS=>?_;clear r K2;refine aV ?_;refine ah 7 (h:=ah 14 (h:=ah 15 (h:=ah 16 (h:=?_))));refine kg ai ?_ _;clear hS J;go_wp2;go_roundw;case rel=>exact⟨x+1,aa,aH,by rw[jn.out],HQ.out.drew⟩
         case measure=>exact bg
        ·have Ui:x=4:=by omega
         subst Ui;go_wp2;go_roundw;case rel=>exact⟨y+1,aa,aH,by rw[Nat.mul_succ],hq⟩
         case measure=>exact bg
      ·have hye:y=4:=by omega
       subst hye;obtain⟨i,hi⟩:∃i,4*u+v=i:=⟨_,rfl⟩;have l:i<16:=aa;have e1:4*(u:Int)+(v:Int)=(i:Int):=aa;obtain⟨I,N,C,G,k5⟩:=hK.out;have d:=sf (nj xs) i l;have hn:iM (jU xs (4*u+v)) (4*4)=nj xs (4*u+v):=rfl;rw[hn,hi];rw[hi] at C;replace I:=I.q hq.out;replace N:=N.q hq.out;replace C:=C.q hq.out;replace G:=G.trans hq.out;have k6:=hq.out.size;have J:=C.at i l;have f1:=C.free i;rw[sB l (Nat.le_refl _)] at J;generalize nj xs i=n at d⊢;have n1:=af (C.set i n);rw[d] at n1;have n2:=af (N.aN (p:=⟨w.heap.size+1+1,i,none⟩) qT (U O n));have n3:=af (I.aN (p:=⟨w.heap.size+1+1,i,none⟩) tY (U O n));have n4:=af (G.set (p:=⟨w.heap.size+1+1,i,none⟩) qU (U O n));have w4:AS.wrap (4*(u:Int))=4*(u:Int):=aB _ ⟨aa,aa⟩;have w5:AS.wrap (i:Int)=(i:Int):=aB _ ⟨aa,aa⟩;have L:(i:Int)<16:=aa;have P:4*u+(v+1)=i+1:=aa;have HI2:=af P;clear I N C G d hn hi P hq hK;go_wp2;go_roundw;case rel=>exact⟨v+1,aa,aH,n3.out,n2.out,by rw[HI2.out];exact n1.out,n4.out,by simp;omega⟩
       case measure=>exact bg
    ·have hve:v=4:=by omega
     subst hve;go_wp2;go_roundw;case rel=>exact⟨u+1,aa,aH,by rw[Nat.mul_succ];exact hK⟩
     case measure=>exact bg
  ·have hue:u=4:=by omega
   subst hue;obtain⟨I,N,C,G,k5⟩:=hK.out
   have k3':Bl wr (w.heap.size+1+1) (iN xs):=by have:a6 (λj=>if j<4*4 then nj xs j else 0) 16=iN xs:=rV (nj xs);rw[<-this];exact C
   have hl:=zu xs;have H4:=af G;obtain⟨zs,H⟩:∃zs,iN xs=zs:=⟨_,rfl⟩;rw[H] at k3' hl;have HZ:=af H;clear I C G hK H;go_wp2_with(first|(first|refine eY rfl rfl rfl aG ?_|refine eX aD rfl rfl aG ?_)|(refine iH rfl _ _ rfl _ rfl _ _ rfl dh aG ?_;intro w9 b9 g9 s9));refine aiA (v:=a5 (arr zs)) (akj aD _ _ _ _ _ _ _ aD b9.blk (Gz.gu underlying82) rfl (by rw[bO,hl];exact mP)) rfl ⟨by rw[HZ.out],?_⟩;exact H4.out.grown g9 (λk e=>by have:=aL e;omega)
end
section
open Go.RowKit
def steps:List Int:=[1,2,4,8,12,16,24,32,48,64,96,128,192,256,384,512]
def step(q:Nat):Int:=steps[q]?.getD 0
def uZ{q:Nat}(h:q<16):1<=step q/\step q<=512:=by have:∀q,q<16->1<=step q/\step q<=512:=aq;exact this q h
structure Tb(w:ns):Prop where
 pos:2<w.heap.size
 at_:∀q,q<16->w.cell? ⟨2,q,none⟩=some (U O (step q))
def Tb.q{w':ns}(h:Tb w)(hq:Q w w'):Tb w':=⟨cG h.pos hq.size,λq b=>(hq.cell 2 q h.pos).trans (h.at_ q b)⟩
def cl(n M:Int):Int:=if n< -M then -M else if M<n then M else n
def Gd(h:0<=M): -M<=cl n M/\cl n M<=M:=Cw
def AJ(l s:Int):Int:=cl (l*s) 4080
def SI{a b:Int}(h:a=b):Ending.returned (U O a)=be (U O b):=by rw[h]
def nR{q:Int}{t:Bool}(w:ns)(h:Hid (decide (0<=q/\q<=15)=t)):
  UL Gz.prog 44 #[U O q] w λe w'=>e=be (a9 t)/\w=w':=by
 obtain rfl:=h.out;by_cases h1:0<=q
 ·by_cases b:q<=15
  ·rw[decide_eq_true ⟨h1,b⟩];go_enter Gz.gf func44,ntmps44;go_wp2;go_ret;exact⟨by simp[*],rfl⟩
  ·rw[decide_eq_false λh=>b h.2];go_enter Gz.gf func44,ntmps44;exact yo
 ·rw[decide_eq_false λh=>h1 h.1];go_enter Gz.gf func44,ntmps44;exact yo
def aeq:UL Gz.prog 74 #[U O n,U O (-4080),U O 4080] w λe w'=>e=be (U O (cl n 4080))/\w=w':=by have e:cl n 4080=min (max n (-4080)) 4080:=Cw;have E:=af e;clear e;go_enter Gz.gf func74,ntmps74;go_wp2;all_goals(go_ret;exact⟨SI xB,rfl⟩)
def afx(n:Int)(w:ns):UL Gz.prog 57 #[U O n,U O (-4080),U O 4080] w λe w'=>e=be (U O (cl n 4080))/\w=w':=by have e:cl n 4080=max (-4080) (min 4080 n):=Cw;have E:=af e;clear e;go_enter Gz.gf func57,ntmps57;go_wp2;all_goals(go_ret;exact⟨SI xB,rfl⟩)
def acQ{s:Int}(h1:0<=n)(b:n<=1000000)(d:1<=s)(f:s<=1000):UL Gz.prog 183 #[U O n,U O s] w λe w'=>e=be (U O ((2*n+s)/(2*s)))/\w=w':=by go_enter Gz.gf func183,ntmps183;go_wp2;go_ret;exact⟨rfl,rfl⟩
def ZL(n:Int)(w:ns)(h1: -1000000000000<=n)(b:n<=1000000000000):
  UL Gz.prog 73 #[U O n] w λe w'=>e=be (U O (if n<0 then -n else n))/\w=w':=by
 by_cases h:n<0
 ·rw[if_pos h];exact CS
 ·rw[if_neg h];by_cases h0:n=0
  ·subst h0;exact CS
  ·exact CS
def Rw{l s:Int}(h1: -4080<=l)(b:l<=4080)(s1:1<=s)(s2:s<=512): -4080*512<=l*s/\l*s<=4080*512:=by
 constructor
 ·have d: -4080*512<= -4080*s:=Int.mul_le_mul_of_nonpos_left aa s2;have e: -4080*s<=l*s:=yA h1 aa;omega
 ·have d:l*s<=4080*s:=yA b aa;omega
def Ww(l q:Int)(n:Nat)(w:ns)(f:Tb w)(hq:q=(n:Int))(b:n<16)(h1: -4080<=l)(h:l<=4080):
  UL Gz.prog 174 #[U O l,U O q] w λe w'=>e=be (U O (AJ l (step n)))/\Q w w':=by
 have i:=f.at_ n b;obtain⟨s1,s2⟩:=uZ b;unfold AJ;generalize step n=s at i s1 s2⊢;have j:(n:Int)<16:=aa;have m:Hid (decide (0<=(n:Int)/\(n:Int)<=15)=true):=decide_eq_true ⟨aa,aa⟩;obtain⟨r,u⟩:=Rw h1 h s1 s2;obtain⟨p,d⟩:∃p,l*s=p:=⟨_,rfl⟩;rw[d] at r u⊢;have y:AS.wrap (l*s)=p:=by rw[d];exact aB _ ⟨by omega,by omega⟩
 go_enter Gz.gf func174,ntmps174;go_wp2;refine(nR _ m).mono ?_;rintro e w'⟨rfl,rfl⟩;go_wp2;refine(aeq).mono ?_;rintro e w'⟨rfl,rfl⟩;go_wp2;go_ret;exact⟨rfl,Q.refl _⟩
def LO(q:Int){n:Nat}(w:ns)(hq:q=(n:Int))(f:n<16):
  UL Gz.prog 56 #[U O q] w λe w'=>e=be (U O (step n))/\Q w w':=by
 have h:=(Bl.new w steps rfl).at n f;have i:Q w (w.alloc (ac (arr steps) 82)):=aR;have d:steps[n]?.getD 0=step n:=rfl;rw[d] at h;have b:=d;generalize step n=s at h b⊢;go_enter Gz.gf func56,ntmps56;go_wp2;refine(nX _ aa aa).mono ?_;rintro e w'⟨rfl,rfl⟩
 have hc:(w.alloc (ac #[U O 1,U O 2,U O 4,U O 8,U O 12,U O 16,U O 24,U O 32,U O 48,U O 64,U O 96,U O 128,U O 192,U O 256,U O 384,U O 512] 3)).cell? ⟨w.heap.size,n,none⟩=some (U O s):=by rw[<-b];exact((ak.new w 3 (arr steps)).cell n).trans (mZ steps n f)
 exact ri
end
section
open Go.RowKit
def ie(W H q:Int)(n:Nat):Bool:=dL W&&(dL H&&(decide (0<=q/\q<=15)&&decide ((n:Int)=H/8)))
def Nv(W H:Int)(I:Bool)(q:Int)(A:Option Addr)(n c:Nat)(w:ns):
  UL Gz.prog 60 #[a5 #[U O W,U O H,a9 I,U O q,Y A n c]] w λe w'=>e=be (a9 (ie W H q n))/\Q w w':=by
 unfold ie;cases i:dL W
 ·have b:=af i;go_enter Gz.gf func60,ntmps60;go_wp2;refine(kh b.out).mono ?_;rintro e w'⟨rfl,rfl⟩;exact uo
 ·have b:=af i;cases d:dL H
  ·have f:=af d;go_enter Gz.gf func60,ntmps60;go_wp2;refine(kh b.out).mono ?_;rintro e w'⟨rfl,rfl⟩;go_wp2;refine(kh f.out).mono ?_;rintro e w'⟨rfl,rfl⟩;exact uo
  ·have j:8<=H/\H<=32:=by unfold dL at d;have:=of_decide_eq_true d;omega
   have f:=af d;obtain⟨l,m⟩:=j;cases hq:decide (0<=q/\q<=15)
   ·have h:=hq;go_enter Gz.gf func60,ntmps60;go_wp2;refine(kh b.out).mono ?_;rintro e w'⟨rfl,rfl⟩;go_wp2;refine(kh f.out).mono ?_;rintro e w'⟨rfl,rfl⟩;go_wp2;refine(nR _ h).mono ?_;rintro e w'⟨rfl,rfl⟩;exact uo
   ·have h:=hq;go_enter Gz.gf func60,ntmps60;go_wp2;refine(kh b.out).mono ?_;rintro e w'⟨rfl,rfl⟩;go_wp2;refine(kh f.out).mono ?_;rintro e w'⟨rfl,rfl⟩;go_wp2;refine(nR _ h).mono ?_;rintro e w'⟨rfl,rfl⟩;go_wp2;all_goals(go_ret;exact⟨by first|(simp;done)|(simp[*];done)|rfl,aR⟩)
end
section
open Go.RowKit
def acR(W H:Int)(I:Bool)(q:Int)(A:Option Addr)(n c:Nat)(w:ns):
  UL Gz.prog 31 #[a5 #[U O W,U O H,a9 I,U O q,Y A n c]] w λe w'=>e=be (a9 (ie W H q n))/\Q w w':=by
 have d:ie W H q n=(decide (8<=W/\W<=32)&&(decide (8<=H/\H<=32)&&((W%8==0)&&((H%8==0)&&(decide (0<=q/\q<=15)&&decide ((n:Int)=H/8)))))):=by unfold ie dL;by_cases h1:8<=W/\W<=32<;>by_cases m:8<=H/\H<=32<;>by_cases p:W%8=0<;>by_cases r:H%8=0<;>simp[h1,m,p,r]
 rw[d];cases f:decide (8<=W/\W<=32)
 ·have b:=af f;go_enter Gz.gf func31,ntmps31;go_wp2;(go_at_call 51;(with_reducible refine(cj _ b).mono ?_);rintro e w'⟨rfl,rfl⟩)
  exact uo
 ·have h:=of_decide_eq_true f;have b:=af f;cases i:decide (8<=H/\H<=32)
  ·have j:=af i;go_enter Gz.gf func31,ntmps31;go_wp2;(go_at_call 51;(with_reducible refine(cj _ b).mono ?_);rintro e w'⟨rfl,rfl⟩)
   go_wp2;(go_at_call 51;(with_reducible refine(cj _ j).mono ?_);rintro e w'⟨rfl,rfl⟩)
   exact uo
  ·have l:=of_decide_eq_true i;have j:=af i;obtain⟨u,y⟩:=h;obtain⟨w3,z⟩:=l;cases hq:decide (0<=q/\q<=15)
   all_goals
    have s:=af hq;go_enter Gz.gf func31,ntmps31;go_wp2;(go_at_call 51;(with_reducible refine(cj _ b).mono ?_);rintro e w'⟨rfl,rfl⟩)
    go_wp2;(go_at_call 51;(with_reducible refine(cj _ j).mono ?_);rintro e w'⟨rfl,rfl⟩)
    go_wp2_with(first|(go_at_call 51;(with_reducible refine(cj _ s).mono ?_);rintro e w'⟨rfl,rfl⟩));all_goals(go_ret;exact⟨by first|(simp;done)|(simp[*];done)|(simp[*];rfl)|rfl,aR⟩)
end
end Go.Proofs.Q0
