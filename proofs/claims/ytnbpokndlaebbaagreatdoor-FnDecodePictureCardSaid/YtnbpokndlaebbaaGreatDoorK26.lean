import Derived.Test.YtnbpokndlaebbaaGreatDoorK25
import Derived.Deep.CutBlock
set_option maxRecDepth 100000
set_option maxHeartbeats 8000000
set_option linter.all false
open Go.Value renaming int->U,slice->Y,bool->ci,agg->bi,pointer->d9,tuple->em,iface->gc
open Go.IntKind renaming i64->O
open Go.Obj renaming cells->ap
open Go.Ending renaming returned->dl
open Bool renaming and_eq_true->Uy,and_false->akJ,false->Ba,true->AT,true_and->akq
open Go renaming Addr->aic,Calls->ahR,TypeId->SL,Value->AS,World->rl
open Go.Instr renaming typeAssert->aiL
open Go.IntKind renaming i64->EV
open Go.World renaming size_alloc->NO
open List renaming all_eq_true->aia,length_map->aiS,length_set->ajj,range->aij,range_succ->aiU,replicate->so,setIfInBounds_toArray->ahZ,set_cons_succ->aip,set_cons_zero->ain
open Option renaming none->ns,some->an
namespace Go.Proofs
def Dt{p:Prop}(h:p:=by go_enter Gz.gf func15,ntmps15;go_wp2;refine(JG c HX.out Hv hn hm HT).mono ?_;rintro e w1⟨rfl,q1⟩;have cc:=(bc.q q1).cell;have cp:=(bp.q q1).cell;go_wp2;go_ret;exact⟨au,q0.trans q1⟩):p:=h
def Lf{p:Prop}(h:p:=by(clear xQ;obtain⟨rfl,rfl,rd,rB,rn,rp⟩:=HR.out aa;have rc:=br.cell;go_wp2_with((with_reducible refine ep (ty:=95) _ 1 ?_ ?_ _ bq 2 ?_ _ (Gz.gu underlying95) ?_ jE ?_);exact rfl;exact rfl;omega;exact rfl;rw[hV]);refine(Zd x y c' (rd.q q0 rB) (aQ rB q0.size) rn rp aa aa aa aa v1 v2 v3 v4).mono ?_;rintro e w5⟨v,rfl,o5,q5⟩;rcases o5.dC with⟨_,h⟩|⟨g',c5,rfl,hB5,Jg,_⟩;(exact absurd h aw);go_wp2;go_meet;exact⟨λe=>absurd e aa,lm.q q5,(al.dp _ q0).q q5,bp.q q5,bq.q q5,Cq.q q5,λ_=>⟨g',c5,rfl,by have:=q0.size;omega,Jg,λi hi=>o5.at i hi⟩⟩)):p:=h
def Lg{p:Prop}(h:p:=by
  go_wp2;go_roundw;case rel=>exact⟨k+1,aa,aJ,Z6.out⟩
  case measure=>simp[intOf];omega):p:=h
def yR{p:Prop}(h:p:=by
  (have kc:=ag ii;clear ii;have n1:=ag (k1.set (p:=⟨w.heap.size+1+1,4*y+x,none⟩) uG (U O V));have n2:=ag (k2.aL (p:=⟨w.heap.size+1+1,4*y+x,none⟩) uF (U O V));have n3:=ag (k3.aL (p:=⟨w.heap.size+1+1,4*y+x,none⟩) uE (U O V));have n5:=ag (k5.set (4*y+x) V);rw[kc.out] at n5;clear k1 k2 k3 k5)
  go_wp2;go_roundw;case rel=>first|exact⟨x+1,aa,aJ,n1.out,n2.out,n3.out,n5.out⟩|exact⟨x+1,aa,aJ,n1.out.drew,n2.out,n3.out.q (Q.refl _).drew,n5.out.q (Q.refl _).drew⟩
  case measure=>simp[intOf];omega):p:=h
end Go.Proofs
namespace Go.Proofs.Q0
open Go.Proofs.Tryz
variable{n k W H B:Nat}{p:Nat×Nat}{xs ref m:List Int}{w:rl}{A:Option aic}{I:Bool}{RW RH:Int}{ls:List (List Int)}
section
open Go.RowKit
def tI(L:Int)(xs:List Int)(p:Nat×Nat):List Int:=
 (xs.set (p.1-p.2) (fH (xs[p.1-2*p.2]?.getD 0) (xs[p.1-p.2]?.getD 0) (xs[p.1]?.getD 0) (xs[p.1+p.2]?.getD 0) L)).set p.1
  (fI (xs[p.1-2*p.2]?.getD 0) (xs[p.1-p.2]?.getD 0) (xs[p.1]?.getD 0) (xs[p.1+p.2]?.getD 0) L)
def dT(W y k:Nat):Nat×Nat:=(y*W+4*(k+1),1)
def gH(W x k:Nat):Nat×Nat:=(4*(k+1)*W+x,W)
def bR(f:Nat->Nat->Nat×Nat)(m n k:Nat):List (Nat×Nat):=(aij n).flatMap (λy=>(aij m).map (f y))++(aij k).map (f n)
def fW(W H:Nat):List (Nat×Nat):=bR (dT W) ((W-1)/4) H 0++bR (gH W) ((H-1)/4) W 0
def du(L:Int)(es:List (Nat×Nat))(xs:List Int):List Int:=es.foldl (tI L) xs
def sI(f:Nat->Nat->Nat×Nat)(m n k:Nat):bR f m n (k+1)=bR f m n k++[f n k]:=by unfold bR;rw[aiU,List.map_append,List.append_assoc];rfl
def sJ(f:Nat->Nat->Nat×Nat)(m n:Nat):bR f m (n+1) 0=bR f m n m:=by unfold bR;rw[aiU,List.flatMap_append];simp
def OQ(f:Nat->Nat->Nat×Nat)(m:Nat):bR f m 0 0=[]:=rfl
def OS(f:Nat->Nat->Nat×Nat)(m n:Nat):∀d,bR f m n 0<+:bR f m (n+d) 0
 |0=>List.prefix_refl _
 |d+1=>(OS f m n d).trans ⟨(aij m).map (f (n+d)),by
   rw[show n+(d+1)=(n+d)+1 by omega,sJ];unfold bR;simp⟩
def P0{f:Nat->Nat->Nat×Nat}{m N:Nat}(b:n<N)(d:k<=m):bR f m n k<+:bR f m N 0:=by
 have h1:bR f m n k<+:bR f m (n+1) 0:=by rw[sJ];refine(List.prefix_append_right_inj _).2 ?_;refine⟨(List.range' k (m-k)).map (f n),?_⟩;rw[<-List.map_append];congr 1;have:=List.range'_append (s:=0) (m:=k) (n:=m-k) (step:=1);rw[List.range_eq_range',List.range_eq_range'];rw[show m=k+(m-k) by omega];simpa using this
 have a:=OS f m (n+1) (N-(n+1));rw[show n+1+(N-(n+1))=N by omega] at a;exact h1.trans a
def P4{f:Nat->Nat->Nat×Nat}{m N:Nat}(h:p∈bR f m N 0):∃y k,y<N/\k<m/\p=f y k:=by unfold bR at h;rw[List.range_zero,List.map_nil,List.append_nil,List.mem_flatMap] at h;obtain⟨y,a,h⟩:=h;obtain⟨k,b,rfl⟩:=oD.1 h;exact⟨y,k,fM.1 a,fM.1 b,rfl⟩
def j9(W H:Nat)(p:Nat×Nat):Prop:=1<=p.2/\p.2<=W/\2*p.2<=p.1/\p.1+p.2<H*W
def P5{a b:Nat}(h:a<b):a*W+W<=b*W:=by have:=yZ W (show a+1<=b from h);rw[Nat.succ_mul] at this;exact this
def aet{y:Nat}(hw:W%4=0)(a:y<H)(b:k<(W-1)/4):j9 W H (dT W y k):=by have:=P5 (W:=W) a;unfold j9 dT;omega
def aeu{x:Nat}(a:H%4=0)(b:x<W)(d:k<(H-1)/4):j9 W H (gH W x k):=by have h1:=P5 (W:=W) (show 4*(k+1)+1<H by omega);have e:=yZ W (show 2<=4*(k+1) by omega);rw[Nat.succ_mul] at h1;unfold j9 gH;omega
def vS(hw:W%4=0)(d:H%4=0)(h:p∈fW W H):j9 W H p:=by
 rcases uW.1 h with h|h
 ·obtain⟨y,k,a,b,rfl⟩:=P4 h;exact aet hw a b
 ·obtain⟨y,k,a,b,rfl⟩:=P4 h;exact aeu d a b
def P6{L:Int}:(tI L xs p).length=xs.length:=by unfold tI;rw[ajj,ajj]
def aam(L:Int)(es:List (Nat×Nat))(p:Nat×Nat)(xs:List Int):du L (es++[p]) xs=tI L (du L es xs) p:=by unfold du;rw[List.foldl_append];rfl
def Af(L:Int)(xs:List Int):∀es:List (Nat×Nat),(du L es xs).length=xs.length:=λes=>by induction es generalizing xs with|nil=>rfl|cons p es a=>rw[du,List.foldl_cons];exact(a _).trans P6
def abT(L:Int)(h:dk xs=AT)(i:xs.length=H*W)(e:j9 W H p):dk (tI L xs p)=AT:=by unfold j9 at e;have f:=pY h (p.1-p.2) aa;have hc:=pY h p.1 aa;have b:=aep (a:=xs[p.1-2*p.2]?.getD 0) (d:=xs[p.1+p.2]?.getD 0) (L:=L) f hc;exact FJ (FJ h b.1.1 b.1.2) b.2.1 b.2.2
def Ag{W H:Nat}(L:Int):∀(es:List (Nat×Nat)){xs:List Int},dk xs=AT->xs.length=H*W->(∀p∈es,j9 W H p)->dk (du L es xs)=AT
 |[],_,h,_,_=>h
 |p::es,_,h,a,b=>Ag L es (abT L h a (b p au)) (by rw[P6];exact a) (λq hq=>b q (by simp[hq]))
end
section
open Go.RowKit
def iR(I:Bool)(W H a b:Int)(xs:List Int):Bool:=I||(bV a b xs&&(a==W&&b==H))
def Yc(W H:Int)(I:Bool)(q:Int)(S:AS)(a b:Int)(c:Nat)(l:Rd w B A xs)(r:B<=w.heap.size)(u:Hid (xs.length=n))(hm:n<=9223372036854775807):
  ahR Gz.prog 28 #[bi #[U O W,U O H,ci I,U O q,S],bi #[U O a,U O b,Y A n c]] w λe w'=>e=dl (ci (iR I W H a b xs))/\Q w w':=by
 have d:Q w ((w.alloc (ap #[U O W,U O H,ci I,U O q,S] 25)).alloc (ap #[U O a,U O b,Y A n c] 28)):=aU;have z:=(ak.new w 25 #[U O W,U O H,ci I,U O q,S]).alloc (ap #[U O a,U O b,Y A n c] 28);have v:=ak.new (w.alloc (ap #[U O W,U O H,ci I,U O q,S] 25)) 28 #[U O a,U O b,Y A n c];rw[NO] at v;have x:=ag (l.q d r);have f:=aQ r d.size;clear l;cases I with
 |true=>have h:iR AT W H a b xs=AT:=rfl;rw[h];go_enter Gz.gf func28,ntmps28;go_wp2;go_ret;exact⟨rfl,d⟩
 |false=>
  obtain⟨t,i⟩:∃t,bV a b xs=t:=⟨_,rfl⟩;have y:=ag i;have h:iR Ba W H a b xs=(t&&(a==W&&b==H)):=by unfold iR;rw[i];rfl
  rw[h];obtain⟨s,j⟩:∃s,(a==W&&b==H)=s:=⟨_,rfl⟩;rw[j];have C:=ag j;clear i j h;cases t with
  |false=>go_enter Gz.gf func28,ntmps28;go_wp2;refine(ya c x.out f u hm y).mono ?_;rintro e D⟨rfl,q1⟩;go_wp2;go_ret;exact⟨au,d.trans q1⟩
  |true=>go_enter Gz.gf func28,ntmps28;go_wp2;refine(ya c x.out f u hm y).mono ?_;rintro e D⟨rfl,q1⟩;have F:=(z.q q1).cell;have G:=(v.q q1).cell;go_wp2;refine(XC Ba q S C).mono ?_;rintro e J⟨rfl,E⟩;go_wp2;go_ret;exact⟨au,(d.trans q1).trans E⟩
def aan(W H:Int)(I:Bool)(q:Int)(S:AS)(a b:Int)(c:Nat)(r:Rd w B A xs)(u:B<=w.heap.size)(hn:Hid (xs.length=n))(hm:n<=9223372036854775807):
  ahR Gz.prog 15 #[bi #[U O W,U O H,ci I,U O q,S],bi #[U O a,U O b,Y A n c]] w λe w'=>e=dl (ci (iR I W H a b xs))/\Q w w':=by
 have q0:Q w ((w.alloc (ap #[U O W,U O H,ci I,U O q,S] 25)).alloc (ap #[U O a,U O b,Y A n c] 28)):=aU;have bc:=(ak.new w 25 #[U O W,U O H,ci I,U O q,S]).alloc (ap #[U O a,U O b,Y A n c] 28);have bp:=ak.new (w.alloc (ap #[U O W,U O H,ci I,U O q,S] 25)) 28 #[U O a,U O b,Y A n c];rw[NO] at bp;have HX:=ag (r.q q0 u);have Hv:=aQ u q0.size;clear r;cases I with
 |true=>have h:iR AT W H a b xs=AT:=rfl;rw[h];go_enter Gz.gf func15,ntmps15;go_wp2;go_ret;exact⟨rfl,q0⟩
 |false=>
  obtain⟨t,i⟩:∃t,bV a b xs=t:=⟨_,rfl⟩;have HT:=ag i;have h:iR Ba W H a b xs=(t&&(a==W&&b==H)):=by unfold iR;rw[i];rfl
  rw[h];obtain⟨s,j⟩:∃s,(a==W&&b==H)=s:=⟨_,rfl⟩;rw[j];have l:=ag j;clear i j h;cases t with
  |false=>go_enter Gz.gf func15,ntmps15;go_wp2;refine(JG c HX.out Hv hn hm HT).mono ?_;rintro e y⟨rfl,q1⟩;go_wp2;go_ret;exact⟨au,q0.trans q1⟩
  |true=>
   by_cases h1:a=W
   ·by_cases f:b=H
    ·have d:s=AT:=by rw[<-l.out];simp[h1,f]
     subst d h1 f;exact Dt
    ·have d:s=Ba:=by rw[<-l.out];simp[f]
     have v:(b==H)=Ba:=by rw[beq_eq_false_iff_ne];exact f
     subst d h1;clear f;exact Dt
   ·have d:s=Ba:=by rw[<-l.out];simp[h1]
    have x:(a==W)=Ba:=by rw[beq_eq_false_iff_ne];exact h1
    subst d;clear h1;exact Dt
end
section
open Go.RowKit Go.WideShapes Go.ChangeShapes
def S6(n:Int)(I:Bool)(a:bytes xs):jg xs n I=fh xs n I:=(aaV xs n I).trans (acV n I a).symm
def abU{cnt:Nat}{L:List Int}(h:fh xs cnt I=an L):gx I L cnt=AT:=by
 unfold fh at h;split at h
 ·split at h
  ·cases h
  ·rename_i b d;split at h
   ·rename_i ys a;split at h
    ·injection h with h;unfold dO at a;split at a
     ·simp_all
     ·cases a
    ·cases h
   ·cases h
 ·cases h
def Q8{cnt:Nat}{L:List Int}(h:fh xs cnt I=an L)(k:Nat)(b:k<cnt):dt (aP L k)=AT/\(I=AT->nth (aP L k) 0=2):=by have h1:=Fw (abU h) b;unfold dR at h1;rw[Uy] at h1;refine⟨h1.1,λd=>?_⟩;have a:=h1.2;rw[d,Bool.not_true,Bool.false_or,beq_iff_eq] at a;exact a
def fi(W H:Int)(I:Bool)(q:Int)(ls:List (List Int))(RW RH:Int)(ref:List Int):Bool:=iz W H q ls.length&&(iR I W H RW RH ref&&(aij ls.length).all λi=>(fh (aS ls i) (W/8) I).isSome)
def iF(W:Int)(I:Bool)(ls:List (List Int))(i:Nat):List Int:=(fh (aS ls i) (W/8) I).getD []
def jM(W H:Int)(I:Bool)(q:Int)(ls:List (List Int))(ref:List Int):List Int:=iy W.toNat H.toNat ref (iF W I ls) q ls.length (so (W.toNat*H.toNat) 128)
def qW(W H:Int)(I:Bool)(q:Int)(ls:List (List Int))(ref:List Int):List Int:=du (fV q.toNat) (fW W.toNat H.toNat) (jM W H I q ls ref)
def P7{W H:Int}{q:Int}(h:iz W H q ls.length=Ba):fi W H I q ls RW RH ref=Ba:=by unfold fi;rw[h];rfl
def P8{W H:Int}{q:Int}(h:iR I W H RW RH ref=Ba):fi W H I q ls RW RH ref=Ba:=by unfold fi;rw[h,Bool.false_and,akJ]
theorem OT{W H:Int}{q:Int}{i:Nat}(hi:i<ls.length)(h:fh (aS ls i) (W/8) I=ns):fi W H I q ls RW RH ref=Ba:=by have:((aij ls.length).all λi=>(fh (aS ls i) (W/8) I).isSome)=Ba:=eW;unfold fi;rw[this,akJ,akJ]
def OU{W H:Int}{q:Int}(h1:iz W H q ls.length=AT)(a:iR I W H RW RH ref=AT)(b:∀i,i<ls.length->∃L,fh (aS ls i) (W/8) I=an L):fi W H I q ls RW RH ref=AT:=by unfold fi;rw[h1,a,akq,akq,aia];intro i hi;obtain⟨L,d⟩:=b i (fM.1 hi);rw[d];rfl
def Sa{W H:Int}(h:iR I W H RW RH ref=AT)(a:I=Ba):RW=W/\RH=H/\bV W H ref=AT:=by unfold iR at h;rw[a,Bool.false_or,Uy,Uy,beq_iff_eq,beq_iff_eq] at h;obtain⟨h1,b,d⟩:=h;subst b d;exact⟨rfl,rfl,h1⟩
theorem afu(W H:Int)(I:Bool)(q:Int)(c:Nat){f h:aic}(r:eF w B A ls)(s:B<=w.heap.size)(t:ls.length=n)(he:gQ w f h B)(u:dD w f)(v:dD w h):
  ahR Gz.prog 27 #[bi #[U O W,U O H,ci I,U O q,Y A n c]] w λe w'=>Q w w'/\
   ((∃b,∃cnt:Nat,e=dl (em #[bi #[U O W,U O H,ci I,U O q,Y A n c,Y (an ⟨b,0,ns⟩) n n],ci AT])/\iz W H q n=AT/\W/8=(cnt:Int)/\
    (∀i,i<n->∃L gl cl,fh (aS ls i) cnt I=an L/\w'.cell? ⟨b,i,ns⟩=an (Y (an ⟨gl,0,ns⟩) cnt cl)/\az 100 71 w' w.heap.size (Y (an ⟨gl,0,ns⟩) cnt cl) cnt L))\/
   (e=dl (em #[bi #[U O 0,U O 0,ci Ba,U O 0,Y ns 0 0,Y ns 0 0],ci Ba])/\∀RW RH ref,fi W H I q ls RW RH ref=Ba)):=by
 subst t;cases a:iz W H q ls.length with
 |false=>exact(adv I A c w a).mono λe w'⟨h1,d⟩=>⟨d,.inr ⟨h1,λ_ _ _=>P7 a⟩⟩
 |true=>
  obtain⟨⟨x,y,w3⟩,_,_,_⟩:=ni a;obtain⟨cnt,hc⟩:∃cnt:Nat,W/8=(cnt:Int):=⟨(W/8).toNat,aa⟩;refine(abN I c a r s rfl he u v hc).mono λe w'⟨h1,d⟩=>⟨h1,?_⟩;rcases d with⟨b,j,l⟩|⟨j,i,hi,l⟩
  ·grind
  ·exact .inr ⟨j,λ_ _ _=>OT hi (by rw[hc];exact l)⟩
end
section
open Go.RowKit
def aev(v:AS)(w:rl):(aiL (gc 169 v) 167 169 AT).run Gz.prog w=.ok (em #[v,ci AT]) w:=aF
def aew(v:AS)(w:rl):(aiL (gc 170 v) 167 170 AT).run Gz.prog w=.ok (em #[v,ci AT]) w:=aF
def Zf(v:AS)(w:rl):(aiL (gc 169 v) 167 170 AT).run Gz.prog w=.ok (em #[bi (arr (so 71 0)),ci Ba]) w:=aF
def Zg(v:AS)(w:rl):(aiL (gc 170 v) 167 169 AT).run Gz.prog w=.ok (em #[bi (arr (so 71 0)),ci Ba]) w:=aF
def Zh(v:AS)(w:rl):(aiL (gc 219 v) 167 169 AT).run Gz.prog w=.ok (em #[bi (arr (so 71 0)),ci Ba]) w:=aF
def Zi(v:AS)(w:rl):(aiL (gc 219 v) 167 170 AT).run Gz.prog w=.ok (em #[bi (arr (so 71 0)),ci Ba]) w:=aF
end
section
open Go.RowKit
theorem Sb(q:m.length=71)(b:dt m=AT):(nth m 0=0\/nth m 0=1\/nth m 0=2)/\(-16<=nth m 1/\nth m 1<=16)/\(-16<=nth m 2/\nth m 2<=16)/\(nth m 0=2->∀k,k<4->0<=nth m (3+k)/\nth m (3+k)<=4)/\aW (sub m 7 64) 4080=AT:=by
 unfold dt kV j5 at b;simp only[Uy,decide_eq_true_eq] at b;obtain⟨⟨h1,f,h⟩,i⟩:=b;have d:∀j,ax m j=nth m j:=λ_=>rfl;simp only[d] at h1 f h;refine⟨?_,f,h,λh0 k hk=>?_,i⟩
 ·grind
 ·rw[if_neg aa,if_neg aa,if_pos h0,Uy] at h1
  have l:=gW.1 h1.1 (nth m (3+k)) (by
   have e:=gj m 3 4 k hk;have a:k<(sub m 3 4).length:=CC
   rw[show nth m (3+k)=(sub m 3 4)[k] by
    unfold nth;rw[<-e,List.getElem?_eq_getElem a];rfl]
   exact pM a)
  simpa using l
def aex(h:aW (sub m 7 64) 4080=AT)(k:Nat)(a:k<4):aW (lvl m k) 4080=AT:=by rw[<-AB m a];unfold aW at h⊢;rw[aia] at h⊢;exactλx b=>h x (List.drop_subset _ _ (List.take_subset _ _ b))
def Q9(a:m.length=71)(b:k<4):(lvl m k).length=16:=bZ aa
structure lf(o:Nat)(w wr:rl)(W H g n c B:Nat)(xs m:List Int)(mv:AS)(ms:List Int):Prop where
 own:Own wr B (Y (an ⟨g,0,ns⟩) n c) n xs
 aq:al [g] w wr
 jQ:ak wr (w.heap.size+o) 28 #[U O W,U O H,Y (an ⟨g,0,ns⟩) n c]
 aP:Nb 100 71 wr (w.heap.size+2) m
 tb:Tb wr
 xR:nth m 0≠2->∃b c',mv=Y (an ⟨b,0,ns⟩) 64 c'/\b≠g/\b<wr.heap.size/\∀i,i<64->wr.cell? ⟨b,i,ns⟩=an (U O (ms[i]?.getD 0))
variable{o:Nat}{w wr w':rl}{W H g n c B:Nat}{xs m ys:List Int}{mv:AS}{ms:List Int}
def lf.q(h:lf o w wr W H g n c B xs m mv ms)(q:Q wr w'):lf o w w' W H g n c B xs m mv ms:=
 ⟨h.own.q q,h.aq.q q,h.jQ.q q,h.aP.q q,h.tb.q q,λhm=>by obtain⟨b,c',e,h1,a,d⟩:=h.xR hm;exact⟨b,c',e,h1,cC a q.size,λi hi=>(q.cell b i a).trans (d i hi)⟩⟩
def lf.put(h:lf o w wr W H g n c B xs m mv ms)(k:Own w' B (Y (an ⟨g,0,ns⟩) n c) n ys)(x:al [g] wr w')(f:g<w.heap.size)(h0:g≠0):lf o w w' W H g n c B ys m mv ms:=
 ⟨k,h.aq.trans x,h.jQ.aq x av,h.aP.aq x av,h.tb.aq x av,λhm=>by obtain⟨b,c',e,h1,a,d⟩:=h.xR hm;exact⟨b,c',e,h1,cC a x.size,λi hi=>(nu x a (by simpa using h1)).trans (d i hi)⟩⟩
def lf.rd(h:lf o w wr W H g n c B xs m mv ms)(hm:nth m 0≠2)(f:ms.length=64):∃b c',mv=Y (an ⟨b,0,ns⟩) 64 c'/\b<wr.heap.size/\Rd wr wr.heap.size (an ⟨b,0,ns⟩) ms:=by obtain⟨b,c',e,_,a,d⟩:=h.xR hm;exact⟨b,c',e,a,λ_=>⟨b,0,rfl,a,λi hi=>by rw[Nat.zero_add];exact d i aa⟩⟩
def Wf{P:Program}{b:Array Oper}{S:rl->Prop}{f:Oper}{a:Act}{t:SL}{h i off:Nat}{e:List Int}(hw:Region.wanted f (yielded b a.tmps)=AT){ty:SL}{x:Operand}(l:f.op=.load ty x)(q:a.eval x=d9 (an ⟨i,off,ns⟩))(r:off+k<=h){d:TypeDesc}(hS:∀w,S w->Nb t h w i e)(s:e.length=h)
  (hu:P.underlying ty=an d)(hd:d.isRow=AT)(hi:(P.info? ty).map (·.size)=an k):YieldsIf P b S f (bi (arr (sub e off k))) a:=
 yieldsIf_load_mid hw ty x l i off q ((sub e off k).map (Value.int .i64)) d (λw j=>(hS w j).range off k r) hu hd (by rw[aiS,bZ (by omega)];exact hi)
def V4{P:Program}{b:Array Oper}{S:rl->Prop}{h:Oper}{a:Act}{t:SL}{s e l q i off:Nat}{f:List Int}(hw:Region.wanted h (yielded b a.tmps)=AT){ty:SL}{x:Operand}(r:h.op=.load ty x)(u:a.eval x=d9 (an ⟨i,off,ns⟩))(v:off+k<=e*s){d:TypeDesc}(hS:∀w,S w->az t s w l (Y (an ⟨i,0,ns⟩) e q) e f)(y:f.length=e*s)
  (hu:P.underlying ty=an d)(hd:d.isRow=AT)(hi:(P.info? ty).map (·.size)=an k):YieldsIf P b S h (bi (arr (sub f off k))) a:=
 yieldsIf_load_mid hw ty x r i off u ((sub f off k).map (Value.int .i64)) d (λw j=>(hS w j).range off k v) hu hd (by rw[aiS,bZ (by omega)];exact hi)
theorem Bg{W H n:Nat}{xs:List Int}(h:(xs.length:Int)=(W:Int)*(H:Int))(a:xs.length=n):n=H*W:=eW
def Sc{W H x y a k b d:Nat}{ref xs m:List Int}(h:nth m 0=2)(e:x+k%2*4=b)(f:y+k/2*4=d):ko W H ref xs x y a m k=
  mi (nth m (3+k)).toNat (eA W H xs b d (decide (a<d))) (eL W H xs b d (decide (0<b))) (eC W H xs b d (decide (a<d)) (decide (0<b))) (decide (a<d)) (decide (0<b)):=by
 subst e f;unfold ko;rw[if_pos h]
def Sd{W H x y a k i j:Nat}{ref xs m:List Int}(h:nth m 0≠2)(hi:k%2*4=i)(b:k/2*4=j):ko W H ref xs x y a m k=lW (ld W H ref x y (nth m 1) (nth m 2)) i j:=by subst hi b;unfold ko;rw[if_neg h]
def afv(w:rl):(binOp .eql 26 (Y ns 0 0) (Y ns 0 0)).run Gz.prog w=.ok (ci AT) w:=aF
def afw{g:aic}{n c:Nat}(w:rl):(binOp .eql 26 (Y (an g) n c) (Y ns 0 0)).run Gz.prog w=.ok (ci Ba) w:=aF
def afx(w:rl):(eqGuard .eql 26 (.tmp 46) (.const (Y ns 0 0)) (Y ns 0 0) (Y ns 0 0)).run Gz.prog w=.ok () w:=aF
def afy{g:aic}{n c:Nat}(w:rl):(eqGuard .eql 26 (.tmp 46) (.const (Y ns 0 0)) (Y (an g) n c) (Y ns 0 0)).run Gz.prog w=.ok () w:=aF
end
section
open Go.RowKit
def Xz{x y:Nat}(a:Nat){g c:Nat}(L c' B':Nat)(M:Option aic)(ref:List Int)(q RW RH:Int)(ho:Own w B (Y (an ⟨g,0,ns⟩) n c) n xs)(hB:0<B)(hp:bV W H xs=AT)(hl:m.length=71)(hv:dt m=AT)
  (hx:x+8<=W)(hy:y+8<=H)(hT:Tb w)(hr:nth m 0≠2->RW=W/\RH=H/\Rd w B' M ref/\B'<=w.heap.size/\ref.length=L/\bV W H ref=AT):
  ahR Gz.prog 92 #[bi #[U O W,U O H,Y (an ⟨g,0,ns⟩) n c],bi #[U O RW,U O RH,Y M L c'],U O x,U O y,bi (arr m),U O q,U O a] w λe w'=>e=dl (em #[])/\Own w' B (Y (an ⟨g,0,ns⟩) n c) n (eg W H ref x y a m q 4 xs)/\al [g] w w':=by
 obtain⟨k0,⟨v1,v2⟩,⟨v3,v4⟩,km,kl⟩:=Sb hl hv;obtain⟨wt,rE⟩:=ho.block;have Jh:g≠0:=aa;obtain⟨⟨p1,p2,p3⟩,⟨p4,p5,p6⟩,p7,p8⟩:=jU hp;have uz:=ho.1;have rK:=ag λk=>qm hp (Ab W H ref x y a m q xs k) (Ac W H ref x y a m q p8 k);have hn:n=H*W:=Bg p7 uz;have NE:n<=1024:=by rw[hn];exact eZ (show H<=32 by omega) (show W<=32 by omega)
 have Fk:=ag hn;clear hn;have hV:sub m 1 2=[nth m 1,nth m 2]:=lE m 1 aa;have Vt:(sub m 7 64).length=64:=bZ aa;have TK:=ag λz=>kindOf m z hl;have bq:=Nb.new 100 71 ((w.alloc (ap (#[U O W,U O H,Y (an ⟨g,0,ns⟩) n c]:Array AS) 28)).alloc (ap #[U O RW,U O RH,Y M L c'] 28)) m hl;simp only[NO] at bq;have q0:Q w (((w.alloc (ap (#[U O W,U O H,Y (an ⟨g,0,ns⟩) n c]:Array AS) 28)).alloc (ap #[U O RW,U O RH,Y M L c'] 28)).alloc (ap (arr m) 100)):=aU;have bp:=((ak.new w 28 (#[U O W,U O H,Y (an ⟨g,0,ns⟩) n c]:Array AS)).alloc (ap #[U O RW,U O RH,Y M L c'] 28)).alloc (ap (arr m) 100);have br:=(ak.new (w.alloc (ap (#[U O W,U O H,Y (an ⟨g,0,ns⟩) n c]:Array AS) 28)) 28 #[U O RW,U O RH,Y M L c']).alloc (ap (arr m) 100);rw[NO] at br;have HR:=ag hr;have KM:=ag km;clear hr km hv p7 p8;go_enter Gz.gf func92,ntmps92;go_wp2_with((with_reducible refine ew (n:=71) rfl _ _ rfl _ rfl _ aE _ (Gz.gu underlying100) rfl e8 ?_));generalize(((w.alloc (ap (#[U O W,U O H,Y (an ⟨g,0,ns⟩) n c]:Array AS) 28)).alloc (ap #[U O RW,U O RH,Y M L c'] 28)).alloc (ap (arr m) 100))=w0 at q0 bp br bq⊢;refine(TK.out _).mono ?_;rintro e w1⟨rfl,q1⟩;replace bq:=bq.q q1;replace bp:=bp.q q1;replace br:=br.q q1;replace q0:=q0.trans q1;have lm:=ho.q q0;have Cq:=hT.q q0;clear q1 TK;generalize xQ:kS m=kv
 go_upto_block 0 with fail
 go_cut[14] (λs wx=>(nth m 0=2->s=Y ns 0 0)/\Hid (lf 0 w wx W H g n c B xs m s (ld W H ref x y (nth m 1) (nth m 2))))
 case first=>
  rcases k0 with h0|h0|h0
  case inr.inr=>
   obtain rfl:kv=gc 219 (bi (arr m)):=by have e:ax m 0=2:=h0;rw[<-xQ];unfold kS;rw[e];rfl
   have f1:=Zh (bi (arr m));have f2:=Zi (bi (arr m));clear xQ;go_wp2;go_meet;exact⟨λ_=>rfl,lm,al.dp _ q0,bp,bq,Cq,λe=>absurd h0 e⟩
  case inl=>
   obtain rfl:kv=gc 169 (bi (arr m)):=by have e:ax m 0=0:=h0;rw[<-xQ];unfold kS;rw[e];rfl
   have f1:=aev (bi (arr m));have f2:=Zf (bi (arr m));exact Lf
  case inr.inl=>
   obtain rfl:kv=gc 170 (bi (arr m)):=by have e:ax m 0=1:=h0;rw[<-xQ];unfold kS;rw[e];rfl
   have f1:=Zg (bi (arr m));have f2:=aew (bi (arr m));exact Lf
 case rest=>
  obtain⟨D,hS⟩:=hcut;have bq:=hS.out.aP;go_wp2_with((with_reducible refine ep (ty:=98) _ 7 ?_ ?_ _ bq 64 ?_ _ (Gz.gu underlying98) ?_ vD ?_);exact rfl;exact rfl;omega;exact rfl);clear bq;go_loopw[37] (λi wr=>∃k:Nat,k<=4/\i=U O k/\Hid (lf 0 w wr W H g n c B (eg W H ref x y a m q k xs) m u14 (ld W H ref x y (nth m 1) (nth m 2)))) (λi _=>4-(intOf i).toNat)
  case atStart=>exact⟨0,aa,rfl,hS⟩
  case round=>
   clear hS;obtain⟨k,hk,rfl,hK⟩:=hrel;by_cases l:k<4
   ·have mp:(k:Int)<4:=by omega
    have he:∀w,(Instr.index 98 (bi (arr (sub m 7 64))) (U O (k:Int))).run Gz.prog w=.ok (bi (arr (lvl m k))) w:=λw=>by have h:=Dw Vt l w;rw[AB m l] at h;exact h
    have F':=Q9 hl l;have T1:=ag λz=>partAt k z l;obtain⟨i,hi⟩:∃i,k%2*4=i:=⟨_,rfl⟩;obtain⟨j,hj⟩:∃j,k/2*4=j:=⟨_,rfl⟩;have Vu:i<=4:=aa;have Vv:j<=4:=aa;have HX:=ag (rK.out k);have HS:Hid (eg W H ref x y a m q (k+1) xs=iE W (x+k%2*4) (y+k/2*4) (ko W H ref (eg W H ref x y a m q k xs) x y a m k) (gU (lvl m k) q) 16 (eg W H ref x y a m q k xs)):=rfl;have N:=ag (PZ W H ref (eg W H ref x y a m q k xs) x y a m k);have xS:=ag (Q7 (W:=W) (H:=H) (ref:=ref) x y a (m:=m) k HX.out λe=>(HR.out e).2.2.2.2.2);obtain⟨xi,r⟩:∃z,x+k%2*4=z:=⟨_,rfl⟩;obtain⟨yj,t⟩:∃z,y+k/2*4=z:=⟨_,rfl⟩;have P:=ag λh=>@Sc W H x y a k xi yj ref (eg W H ref x y a m q k xs) m h r t;have xT:=ag λh=>@Sd W H x y a k i j ref (eg W H ref x y a m q k xs) m h hi hj;rw[r,t] at HS;generalize ko W H ref (eg W H ref x y a m q k xs) x y a m k=pb at HS N xS P xT;generalize eg W H ref x y a m q k xs=ys at HX HS P hK;rw[hi] at r;rw[hj] at t;rw[hi,hj] at T1;have tx:EV.wrap ((x:Int)+(i:Int))=(xi:Int):=by rw[<-r];exact aD _ ⟨by omega,by omega⟩
    have ty:EV.wrap ((y:Int)+(j:Int))=(yj:Int):=by rw[<-t];exact aD _ ⟨by omega,by omega⟩
    have pG:xi+4<=W:=aa;have pH:yj+4<=H:=aa
    have he2:∀w,(binOp .eql 26 u14 (Y ns 0 0)).run Gz.prog w=.ok (ci (decide (nth m 0=2))) w:=λw=>by
     by_cases f:nth m 0=2
     ·rw[D f,decide_eq_true f];exact afv w
     ·obtain⟨b,c',e,_⟩:=hK.out.xR f;rw[e,decide_eq_false f];exact afw w
    have he3:∀w,(eqGuard .eql 26 (.tmp 46) (.const (Y ns 0 0)) u14 (Y ns 0 0)).run Gz.prog w=.ok () w:=λw=>by
     by_cases f:nth m 0=2
     ·rw[D f];exact afx w
     ·obtain⟨b,c',e,_⟩:=hK.out.xR f;rw[e];exact afy w
    obtain⟨bb,R⟩:∃z,decide (nth m 0=2)=z:=⟨_,rfl⟩;rw[R] at he2;have Fd:=ag R;have BQ:=ag D;have bz:=Bl.zero wr;have HXY:Hid (x+i=xi/\y+j=yj):=⟨r,t⟩;clear hi hj r t R D;go_wp2_with((refine iG rfl _ _ rfl _ rfl _ _ rfl dn aE ?_;intro K b9 g9 s9));refine(T1.out _).mono ?_;rintro e w9'⟨rfl,rfl⟩;have q9:Q wr K:=Q.grown ((Q.refl wr).alloc _) g9 (λk e=>by have:=aH e;omega);rw[NO] at s9;have C:Bl (K.alloc (ap (#[U O 0,U O 0,U O 0,U O 0,U O 0,U O 0,U O 0,U O 0,U O 0,U O 0,U O 0,U O 0,U O 0,U O 0,U O 0,U O 0]:Array AS) 97)) K.heap.size (so 16 0):=Bl.zero K;have E:Bl (K.alloc (ap (#[U O 0,U O 0,U O 0,U O 0,U O 0,U O 0,U O 0,U O 0,U O 0,U O 0,U O 0,U O 0,U O 0,U O 0,U O 0,U O 0]:Array AS) 97)) wr.heap.size (lvl m k):=b9.alloc _;have qb:Q wr (K.alloc (ap (#[U O 0,U O 0,U O 0,U O 0,U O 0,U O 0,U O 0,U O 0,U O 0,U O 0,U O 0,U O 0,U O 0,U O 0,U O 0,U O 0]:Array AS) 97)):=q9.alloc _;have szb:(K.alloc (ap (#[U O 0,U O 0,U O 0,U O 0,U O 0,U O 0,U O 0,U O 0,U O 0,U O 0,U O 0,U O 0,U O 0,U O 0,U O 0,U O 0]:Array AS) 97)).heap.size=wr.heap.size+2:=by rw[NO,s9]
    rw[s9] at C;clear b9 g9 bz he T1
    go_upto_if 47 with fail
    generalize K.alloc (ap (#[U O 0,U O 0,U O 0,U O 0,U O 0,U O 0,U O 0,U O 0,U O 0,U O 0,U O 0,U O 0,U O 0,U O 0,U O 0,U O 0]:Array AS) 97)=wb at C E qb szb⊢;clear s9 q9;go_cut[] from 48 to 65 (λwx=>Hid (Q wr wx/\Bl wx wr.heap.size (lvl m k)/\Bl wx (wr.heap.size+1) pb))
    case first=>
     cases bb with
     |true=>
      have f:nth m 0=2:=of_decide_eq_true Fd.out;have F:=hK.out.q qb;obtain⟨md,S⟩:∃z:Nat,nth m (3+k)=(z:Int):=⟨(nth m (3+k)).toNat,by have:=KM.out f k l;omega⟩;have He:md<5:=by have:=KM.out f k l;omega
      have cm:wb.cell? ⟨w.heap.size+1+1,3+k,ns⟩=an (U O (nth m (3+k))):=F.aP.at (3+k) aa;have G:=P.out f;rw[S] at cm G;rw[Int.toNat_natCast] at G;have BJ:=ag G;have u:=ag F;have pc:=F.jQ.cell;have xU:=ag S;clear G F S;go_wp2;refine eo (λJ=>Q wb J/\(∀i,J.cell? ⟨w.heap.size,i,ns⟩=(#[U O W,U O H,Y (an ⟨g,0,ns⟩) n c]:Array AS)[i]?)/\J.cell? ⟨w.heap.size+1+1,3+k,ns⟩=an (U O (md:Int))) (λj=>decide (14<=j)) aj ⟨(Q.refl _).drew,pc,cm⟩ λhS=>?_;refine ai 0 (h:=ai 1 (h:=ai 2 (h:=ai 3 (h:=ai 4 (h:=ai 5 (h:=ai 6 (h:=ai 7 (h:=ai 9 (h:=ai 10 (h:=ai 11 (h:=ai 12 (h:=?_))))))))))));refine bw (k:=8) aj rfl rfl λT d=>?_;go_simp;refine(Za xi yj a c (u.out.q hS.1).own.rd (ay _) (u.out.own.1) HX aa aa).mono ?_;rintro e w3⟨rfl,q3⟩;have y3:=hS.1.trans q3;refine d.out _ _ ⟨y3,(u.out.q y3).jQ.cell,(u.out.aP.q y3).at (3+k) aa|>.trans (congrArg (λz=>an (Value.int .i64 z)) xU.out)⟩ λhS=>?_;clear d T;refine bh ?_;refine bw (k:=13) aj rfl rfl λT d=>?_;go_simp;refine(Xy He (GH HX.out xi yj)).mono ?_;rintro e w4⟨rfl,q4⟩;rw[<-BJ.out];have y4:=y3.trans q4;refine d.out _ _ ⟨y4,(u.out.q y4).jQ.cell,(u.out.aP.q y4).at (3+k) aa|>.trans (congrArg (λz=>an (Value.int .i64 z)) xU.out)⟩ λhS=>?_;clear d T;refine bh ?_;refine gi [14] 14 aj aw rfl ?_;have b5:=C.q y4;have Hf:=N.out;refine iG rfl _ _ rfl _ rfl _ _ rfl Hf b5 ?_;intro w6 b6 g6 s6;go_wp2;go_meet;have q6:=(qb.trans y4).grown g6 (λk e=>by have:=aH e;omega);exact⟨q6,(E.q y4).grown g6 (λe=>by have:=aH e;omega),b6⟩
     |false=>have f:nth m 0≠2:=of_decide_eq_false Fd.out;obtain⟨bm,cm,rfl,hbm,Y'⟩:=(hK.out.q qb).rd f vR;go_wp2;refine(partOf i j _ cm _ _ wb Y' (ay _) vR Vu Vv).mono ?_;rintro e w5⟨rfl,q5⟩;rw[<-xT.out f];have b5:=C.q q5;go_wp2_with((refine iG rfl _ _ rfl _ rfl _ _ rfl dn aE ?_;intro w6 b6 g6 s6));go_meet;have q6:=(qb.trans q5).grown g6 (λk e=>by have:=aH e;omega);exact⟨q6,(E.q q5).grown g6 (λe=>by have:=aH e;omega),b6⟩
    case rest=>
     obtain⟨qc,bc1,bc2⟩:=hcut.out;have V:=hK.out.q qc;have pc:=V.jQ.cell;have Cr:=ag V;clear hcut C E qb V;go_wp2;refine eo (λJ=>(∀i,J.cell? ⟨w.heap.size,i,ns⟩=(#[U O W,U O H,Y (an ⟨g,0,ns⟩) n c]:Array AS)[i]?)/\Bl J wr.heap.size (lvl m k)/\Bl J (wr.heap.size+1) pb) (λ_=>Ba) aj ⟨pc,bc1.drew,bc2.drew⟩ λhS=>?_;refine ai 0 (h:=ai 1 (h:=ai 2 (h:=ai 3 (h:=ai 4 (h:=ai 5 (h:=ai 6 (h:=ai 9 (h:=?_))))))));refine pS (i:=7) (v:=bi (arr ?Uy)) rfl aj aj aj aj (λ_ _ _ h=>h) (yb aC rfl rfl λJ X=>?hz1) hS ?SL;case hz1=>((try dsimp only at X);go_split_ands;assumption)
     try simp only[Act.put,ahZ,ain,aip]
     refine pS (i:=8) (v:=bi (arr ?xv2)) rfl aj aj aj aj (λ_ _ _ h=>h) (yb aC rfl rfl λJ X=>?hz2) hS ?ahc;case hz2=>((try dsimp only at X);go_split_ands;assumption)
     try simp only[Act.put,ahZ,ain,aip]
     refine bw (k:=10) aj rfl rfl λT d=>?_;go_simp;have y0:Q wc wc.drew:=(Q.refl _).drew;refine(Wc q (Cr.out.q y0).tb F').mono ?_;rintro e w5⟨rfl,q5⟩;have y5:=y0.trans q5;have Z:=ag (Cr.out.q y5);have Ji:=bc1.q y5;have Jj:=bc2.q y5;refine d.out _ _ ⟨Z.out.jQ.cell,Ji,Jj⟩ λhS=>?_;clear d T;refine bh ?_;have xV:=ag (abQ (gU (lvl m k) q) Z.out.own Fk.out NE aa aa pG pH N.out PR xS.out Q6);rw[<-HS.out] at xV;refine bw (k:=11) aj rfl rfl λT d=>?_;go_simp;refine xV.out.mono ?_;rintro e w6⟨rfl,o6,x6⟩;have Z6:=ag (Z.out.put o6 x6 rE Jh);have hsr:=hK.out.aq.size;refine d.out _ _ ⟨Z6.out.jQ.cell,Ji.aq x6 av,Jj.aq x6 av⟩ λhS=>?_;clear d T;refine bh ?_;refine kF aj ?_ _;clear hS o6 x6 y5 bc1 bc2 pc Ji Jj;exact Lg
   ·have PB:k=4:=by omega
    subst PB;go_wp2;exact bodyPost_end (v:=em #[]) (by simp[results,results92,go_sem]) rfl ⟨rfl,hK.out.own,hK.out.aq⟩
end
section
open Go.RowKit
def XA{f g:Nat->Int}{c:Int}{u v:Bool}{m:Nat}(hm:m<5)(R:EB f g c):
  ahR Gz.prog 104 #[U O m,bi (aN f g c u v)] w λe w'=>e=dl (bi (arr (mi m f g c u v)))/\Q w w':=by
 have C:=((ak.new w 145 (aN f g c u v)).alloc (ap (arr (so 16 0)) 97)).alloc (ap (arr (so 16 0)) 97);have D:=(Bl.zero (w.alloc (ap (aN f g c u v) 145))).alloc (ap (arr (so 16 0)) 97);have E:=Bl.zero ((w.alloc (ap (aN f g c u v) 145)).alloc (ap (arr (so 16 0)) 97));have L:Q w (((w.alloc (ap (aN f g c u v) 145)).alloc (ap (arr (so 16 0)) 97)).alloc (ap (arr (so 16 0)) 97)):=aU;simp only[NO] at D E;have d0:∀i,(((w.alloc (ap (aN f g c u v) 145)).alloc (ap #[U O 0,U O 0,U O 0,U O 0,U O 0,U O 0,U O 0,U O 0,U O 0,U O 0,U O 0,U O 0,U O 0,U O 0,U O 0,U O 0] 97)).alloc (ap #[U O 0,U O 0,U O 0,U O 0,U O 0,U O 0,U O 0,U O 0,U O 0,U O 0,U O 0,U O 0,U O 0,U O 0,U O 0,U O 0] 97)).cell? ⟨w.heap.size,i,ns⟩=(#[U O (f 0),U O (f 1),U O (f 2),U O (f 3),U O (g 0),U O (g 1),U O (g 2),U O (g 3),U O c,ci u,ci v]:Array AS)[i]?:=C.cell;have r:=ag R;have TM:=ag λz=>aai f g u v z R;have S:=ag λk z M=>WT f g c u v k z M;clear R;go_enter Gz.gf func104,ntmps104;go_wp2;refine(TM.out _).mono ?_;rintro e N⟨rfl,q1⟩;replace C:=C.q q1;replace D:=D.q q1;replace E:=E.q q1;replace L:=L.trans q1;have K0:Hid (Q w N/\ak N w.heap.size 145 (aN f g c u v)/\Bl N (w.heap.size+1) cJ/\Bl N (w.heap.size+1+1) cJ):=⟨L,C,D,E⟩;clear L C D E q1 d0;obtain⟨s,l⟩:∃z,mH f g u v=z:=⟨_,rfl⟩;rw[l];have T:=ag l;clear l;go_wp2;go_loopw[7] (λi wr=>∃y:Nat,y<=4/\i=U O y/\Hid (Q w wr/\ak wr w.heap.size 145 (aN f g c u v)/\Bl wr (w.heap.size+1) cJ/\Bl wr (w.heap.size+1+1) (bk (λj=>if j<4*y then mh m f g c u v j else 0) 16))) (λi _=>4-(intOf i).toNat)
 case atStart=>exact⟨0,aa,rfl,by rw[sM];exact K0⟩
 case round=>
  obtain⟨y,hy,rfl,hK⟩:=hrel;clear K0;by_cases X:y<4
  ·have Z:(y:Int)<4:=by omega
   have hyd:decide ((y:Int)<4)=AT:=decide_eq_true Z;go_wp2;go_loopw[8] (λi wr=>∃x:Nat,x<=4/\i=U O x/\Hid (Q w wr/\ak wr w.heap.size 145 (aN f g c u v)/\Bl wr (w.heap.size+1) cJ/\Bl wr (w.heap.size+1+1) (bk (λj=>if j<4*y+x then mh m f g c u v j else 0) 16))) (λi _=>4-(intOf i).toNat)
   case atStart=>exact⟨0,aa,rfl,hK⟩
   case round=>
    obtain⟨x,hx,rfl,hL⟩:=hrel;clear hK;by_cases wW:x<4
    ·have UH:(x:Int)<4:=by omega
     obtain⟨k1,k2,k3,k5⟩:=hL.out;clear hL;have ii:=sU (mh m f g c u v) (4*y+x) aa
     have hF:mh m f g c u v (4*y+x)=kn m f g c u v x y:=by unfold mh;rw[show(4*y+x)%4=x by omega,show(4*y+x)/4=y by omega]
     rw[hF] at ii;clear hF;have d0:∀i,wr.cell? ⟨w.heap.size,i,ns⟩=(#[U O (f 0),U O (f 1),U O (f 2),U O (f 3),U O (g 0),U O (g 1),U O (g 2),U O (g 3),U O c,ci u,ci v]:Array AS)[i]?:=k2.cell;have F:=k5.at (4*y+x) aa;have f3:=k5.free (4*y+x);rw[te aa (Nat.le_refl _)] at F;have cx:=(k2.cell x).trans (qk f g c u v x wW);have cy:=(k2.cell (4+y)).trans (ql f g c u v y X);have d8:wr.cell? ⟨w.heap.size,8,ns⟩=an (U O c):=k2.cell 8;have pi:((4:Int)*(y:Int)+(x:Int)).toNat=4*y+x:=aa;have hM:Hid (mH f g u v=s):=T;rcases(show m=0\/m=1\/m=2\/m=3\/m=4 by omega) with rfl|rfl|rfl|rfl|rfl
     ·have a:kn 0 f g c u v x y=s:=hM.out;rw[a] at ii;clear a;(have kc:=ag ii;clear ii;have n1:=ag (k1.set (p:=⟨w.heap.size+1+1,4*y+x,ns⟩) uG (U O s));have n2:=ag (k2.aL (p:=⟨w.heap.size+1+1,4*y+x,ns⟩) uF (U O s));have n3:=ag (k3.aL (p:=⟨w.heap.size+1+1,4*y+x,ns⟩) uE (U O s));have n5:=ag (k5.set (4*y+x) s);rw[kc.out] at n5;clear k1 k2 k3 k5)
      go_wp2;go_roundw;case rel=>first|exact⟨x+1,aa,aJ,n1.out,n2.out,n3.out,n5.out⟩|exact⟨x+1,aa,aJ,n1.out.drew,n2.out,n3.out.q (Q.refl _).drew,n5.out.q (Q.refl _).drew⟩
      case measure=>exact bj
     ·have a:kn 1 f g c u v x y=f x:=rfl;rw[a] at ii;clear a;obtain⟨V,b⟩:∃z,f x=z:=⟨_,rfl⟩;rw[b] at cx ii;clear b d0;exact yR
     ·have a:kn 2 f g c u v x y=g y:=rfl;rw[a] at ii;clear a;obtain⟨V,b⟩:∃z,g y=z:=⟨_,rfl⟩;rw[b] at cy ii;clear b d0;exact yR
     ·have a:kn 3 f g c u v x y=ph f g c (4+x-y):=rfl;rw[a] at ii;clear a;obtain⟨k,M⟩:∃k,4+x-y=k:=⟨_,rfl⟩;rw[M] at ii;obtain⟨j,hj⟩:∃j,k=j+1:=⟨k-1,aa⟩;have hD:ph f g c k=(gC f g c j+2*gC f g c k+gC f g c (k+1)+2)/4:=by unfold ph;rw[hj];rfl
      rw[hD] at ii;clear hD;obtain⟨a0,a1⟩:=nI r.out j;obtain⟨b0,b1⟩:=nI r.out k;obtain⟨c0,c1⟩:=nI r.out (k+1);have T1:=ag λz=>S.out j z aa;have T2:=ag λz=>S.out k z aa;have T3:=ag λz=>S.out (k+1) z aa;generalize gC f g c j=s1 at ii T1 a0 a1;generalize gC f g c k=s2 at ii T2 b0 b1;generalize gC f g c (k+1)=d at ii T3 c0 c1;obtain⟨kA,hA⟩:∃z,(j:Int)=z:=⟨_,rfl⟩;obtain⟨t,hI⟩:∃z,(k:Int)=z:=⟨_,rfl⟩;obtain⟨kB,hB⟩:∃z,((k+1:Nat):Int)=z:=⟨_,rfl⟩;rw[hA] at T1;rw[hI] at T2;rw[hB] at T3;have ek:(4:Int)+(x:Int)-(y:Int)=t:=aa;have mx:max (0:Int) (t-1)=kA:=aa;have mn:min (8:Int) (t+1)=kB:=aa;have kl:1<=t/\t<=7:=aa;obtain⟨kl1,kl2⟩:=kl;have t1:EV.wrap (2*s2)=2*s2:=aD _ ⟨aa,aa⟩;have t2:EV.wrap (s1+2*s2)=s1+2*s2:=aD _ ⟨aa,aa⟩;have t3:EV.wrap (s1+2*s2+d)=s1+2*s2+d:=aD _ ⟨aa,aa⟩;have t4:EV.wrap (s1+2*s2+d+2)=s1+2*s2+d+2:=aD _ ⟨aa,aa⟩;have t5:(s1+2*s2+d+2).tdiv 4=(s1+2*s2+d+2)/4:=jS aa;have t6:EV.wrap ((s1+2*s2+d+2)/4)=(s1+2*s2+d+2)/4:=aD _ ⟨aa,aa⟩;have ba:∀(z:iW wr)(i:Nat),z.at_.cell? ⟨w.heap.size,i,ns⟩=(#[U O (f 0),U O (f 1),U O (f 2),U O (f 3),U O (g 0),U O (g 1),U O (g 2),U O (g 3),U O c,ci u,ci v]:Array AS)[i]?:=k2.fZ;clear M hj hA hI hB cx cy d8 F f3;go_wp2;refine uY aj aj ?_;repeat(go_big_quiet_step (first|(go_at_call_of 143 kA;exact Calls.fZ (T1.out _))|(go_at_call_of 143 kB;exact Calls.fZ (T3.out _))|(go_at_call_of 143 t;exact Calls.fZ (T2.out _))))
      refine wpQuiet_nil ?_;rintro _⟨⟨w7,P⟩,rfl⟩;replace k1:=k1.trans P;replace k2:=k2.q P;replace k3:=k3.q P;replace k5:=k5.q P;have F:=k5.at (4*y+x) aa;have f3:=k5.free (4*y+x);obtain⟨V,b⟩:∃z,(s1+2*s2+d+2)/4=z:=⟨_,rfl⟩;rw[b] at ii⊢;clear b t1 t2 t3 t4 t5 t6 ba ek mx mn;exact yR
     ·have a:kn 4 f g c u v x y=dG (f x+g y-c) 0 255:=rfl;rw[a] at ii;clear a d0;obtain⟨a0,a1⟩:=r.out.1 x;obtain⟨b0,b1⟩:=r.out.2.1 y;obtain⟨e0,e1⟩:=r.out.2.2;obtain⟨fx,G⟩:∃z,f x=z:=⟨_,rfl⟩;obtain⟨gy,J⟩:∃z,g y=z:=⟨_,rfl⟩;rw[G] at cx ii a0 a1;rw[J] at cy ii b0 b1;clear G J;have TC:=ag λz=>wD (fx+gy-c) 0 255 z aw;obtain⟨V,b⟩:∃z,dG (fx+gy-c) 0 255=z:=⟨_,rfl⟩;rw[b] at ii TC;clear b;clear F f3;go_wp2
      go_quiet((go_at_call 67;exact ox ((TC.out _).mono λ_ _ h=>⟨h.1,h.2.symm⟩)))
      replace k1:=k1.drewN nq;replace k2:=k2.drewN nq;replace k3:=k3.q ((Q.refl _).drewN nq);replace k5:=k5.q ((Q.refl _).drewN nq);have F:=k5.at (4*y+x) aa;have f3:=k5.free (4*y+x);exact yR
    ·have T9:x=4:=by omega
     subst T9;go_wp2;go_roundw;case rel=>exact⟨y+1,aa,aJ,hL⟩
     case measure=>exact bj
  ·have T8:y=4:=by omega
   subst T8;obtain⟨k1,k2,k3,k5⟩:=hK.out;clear hK;rw[sL] at k5;have ul:=PW m f g c u v;change Bl wr (w.heap.size+1+1) (mi m f g c u v) at k5;generalize K:mi m f g c u v=vs at k5 ul⊢;have JT:=ag K;clear K;have K4:=ag k1;clear k1 k2;exact yQ
end
section
open Go.RowKit
def WV{q:Int}(hx:xs.length=16)(P:aW xs 4080=AT)(hq:qB q=AT):
  ahR Gz.prog 108 #[bi (arr xs),U O q] w λe w'=>e=dl (bi (arr (gU xs q)))/\Q w w':=by
 have s1:=bP xs;rw[hx] at s1;have R:0<=q/\q<=15:=of_decide_eq_true hq;obtain⟨n,rfl⟩:∃n:Nat,q=(n:Int):=⟨q.toNat,aa⟩;have HV:Hid (gU xs (n:Int)=ki (bk (gT xs (step n)) 16)):=by unfold Hid gU;rw[P,hq];rfl
 rw[HV.out];have y:n<16:=aa;have HI:=ag λk hk=>nz P k hk;have HM:Hid (aW (bk (gT xs (step n)) 16) 4080=AT):=QW λk _=>Gh aa;clear hq P R;go_enter Gz.gf func108,ntmps108;go_wp2_with(first|refine eY rfl rfl rfl aE ?_|refine eU aC rfl rfl aE ?_);have QQ:Q w (((w.alloc (ap (arr xs) 97)).alloc (ap (arr (so 16 0)) 97)).alloc (ap (arr (so 16 0)) 97)):=aU;have ba:=((Bl.new w xs hx).alloc (ap (arr (so 16 0)) 97)).alloc (ap (arr (so 16 0)) 97);have S:=(Bl.zero (w.alloc (ap (arr xs) 97))).alloc (ap (arr (so 16 0)) 97);have T:=Bl.zero ((w.alloc (ap (arr xs) 97)).alloc (ap (arr (so 16 0)) 97));simp only[NO] at S T;go_loopw[6] (λi wr=>∃k:Nat,k<=16/\i=U O k/\Hid (Bl wr w.heap.size xs/\Bl wr (w.heap.size+1) cJ/\Q w wr/\Bl wr (w.heap.size+1+1) (bk (λj=>if j<k then gT xs (step n) j else 0) 16))) (λi _=>16-(intOf i).toNat)
 case atStart=>exact⟨0,aa,rfl,ba,S,QQ,by rw[sM];exact T⟩
 case round=>
  obtain⟨k,hk,rfl,hK⟩:=hrel;obtain⟨J,K,u,L⟩:=hK.out;clear hK ba S T QQ;by_cases d:k<16
  ·have f:(k:Int)<16:=by omega
   have l:=sU (gT xs (step n)) k d;have M:=J.at k d;obtain⟨a1,a2⟩:=HI.out k aa;have T1:=ag λz=>Ly (n:Int) z rfl y;have b:gT xs (step n) k=cl (xs[k]?.getD 0*step n) 4080:=rfl;obtain⟨e1,e2⟩:=vJ y;generalize gT xs (step n) k=r at l b;obtain⟨V,C⟩:∃z,step n=z:=⟨_,rfl⟩;rw[C] at T1 b e1 e2;clear C;generalize xs[k]?.getD 0=x at M a1 a2 b;obtain⟨p1,p2⟩:=Rj a1 a2 e1 e2;obtain⟨p,X⟩:∃p,x*V=p:=⟨_,rfl⟩;rw[X] at p1 p2 b;have w1:EV.wrap (x*V)=p:=by rw[X];exact aD _ ⟨by omega,by omega⟩
   have w2:wrap64 (x*V)=p:=yc;have T3:=ag λz=>aeQ p z;rw[<-b] at T3;have Z:=ag l;have K1:=ag J;have s:=ag u;have K3:=ag L;have K4:=ag K;have z0:=J.lt;clear l b J u L K X;go_wp2;refine eo (λww=>Q wr ww/\ww.cell? ⟨w.heap.size,k,ns⟩=an (U O x)) (λj=>decide (9<=j)) aj ⟨(Q.refl _).drew,M⟩ λhS=>?_;refine ai 0 (h:=ai 1 (h:=ai 2 (h:=ai 3 (h:=ai 4 (h:=?_)))));refine bw (k:=5) aj rfl rfl λs a=>?_;go_simp;refine(T1.out _).mono ?_;rintro e wa⟨rfl,q1⟩;have t:=hS.1.trans q1;refine a.out _ _ ⟨t,(t.cell _ _ aa).trans M⟩ λhS=>?_;clear a s;refine bh ?_;refine ai 6 (h:=?_);refine bw (k:=7) aj rfl rfl λs a=>?_;go_simp;refine(T3.out _).mono ?_;rintro e wc⟨rfl,rfl⟩;refine a.out _ _ hS λhS=>?_;clear a s;refine bh ?_;refine bw (k:=8) aj rfl rfl λs a=>?_;go_simp;refine a.out _ _ hS λhS=>?_;clear a s;refine bh ?_;refine gi [9] 9 aj aw rfl ?_;have N:=K3.out.q t;have c3:=N.at k d;have f3:=N.free k;rw[te d (Nat.le_refl _)] at c3;have n5:=ag (N.set k r);rw[Z.out] at n5;have n1:=ag ((K1.out.q t).aL (p:=⟨w.heap.size+1+1,k,ns⟩) uF (U O r));have n2:=ag ((K4.out.q t).aL (p:=⟨w.heap.size+1+1,k,ns⟩) uE (U O r));have n4:=ag ((s.out.trans t).set (p:=⟨w.heap.size+1+1,k,ns⟩) uG (U O r));clear N t q1 hS M;go_wp2;go_roundw;case rel=>exact⟨k+1,aa,aJ,n1.out,n2.out,n4.out,n5.out⟩
   case measure=>exact bj
  ·have f:k=16:=by omega
   subst f;rw[sL] at L;have D:(bk (gT xs (step n)) 16).length=16:=D6;generalize E:bk (gT xs (step n)) 16=ms at L HM D;have Je:=ag E;clear E;have F:=zX ms;go_wp2_with(first|refine eY rfl rfl rfl aE ?_|refine eU aC rfl rfl aE ?_);refine(ZH D HM).mono ?_;rintro e wv⟨rfl,q1⟩;replace K:=K.q q1;replace u:=u.trans q1;have K4:=ag u;clear u q1;generalize G:ki ms=vs at F⊢;have JT:=ag G;clear G;go_wp2_with(first|(first|refine eY rfl rfl rfl aE ?_|refine eU aC rfl rfl aE ?_)|(refine iG rfl _ _ rfl _ rfl _ _ rfl dn aE ?_;intro w9 b9 g9 s9));refine bodyPost_ret (v:=bi (arr _)) (results_cell_row aC _ _ _ _ _ _ _ aC (Bl.blk b9) (Gz.gu underlying97) rfl (by rw[bP,F];exact lD)) rfl ⟨by rw[Je.out,JT.out],K4.out.grown g9 λk e=>by have:=aH e;omega⟩
end
end Go.Proofs.Q0
