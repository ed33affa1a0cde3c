import Derived.Test.YtjjdeakghpmpfaaGreatDoorK27
import Derived.Deep.CutBlock
set_option maxRecDepth 100000
set_option maxHeartbeats 8000000
set_option linter.all false
open Go.Value renaming int->U,slice->Y,bool->a9,agg->a5,pointer->ci,tuple->dl,iface->em
open Go.IntKind renaming i64->O
open Go.Obj renaming cells->ac
open Go.Ending renaming returned->be
open Bool renaming and_eq_true->OF,and_false->akt
open Go renaming Addr->aiI,Calls->UL,TypeId->EV,Value->rl,World->ns
open Go.Instr renaming typeAssert->ajj
open Go.IntKind renaming i64->AS
open Go.World renaming size_alloc->BE
open List renaming all_eq_true->aiE,length_map->ajA,range->aiB,range_succ->aju,replicate->an,setIfInBounds_toArray->aix,set_cons_succ->aiQ,set_cons_zero->aiG
namespace Go.Proofs
def Dd{p:Prop}(h:p:=by go_enter Gz.gf func18,ntmps18;go_wp2;refine(JH c HX.out Hx hn hm HT).mono ?_;rintro e w1⟨rfl,q1⟩;have cc:=(bc.q q1).cell;have cp:=(bp.q q1).cell;go_wp2;go_ret;exact⟨aj,q0.trans q1⟩):p:=h
def Lq{p:Prop}(h:p:=by(clear xn;obtain⟨rfl,rfl,rd,rB,rn,rp⟩:=HR.out aa;have rc:=br.cell;go_wp2_with((with_reducible refine dY (ty:=80) _ 1 ?_ ?_ _ bq 2 ?_ _ (Gz.gu underlying80) ?_ jo ?_);exact rfl;exact rfl;omega;exact rfl;rw[hV]);refine(Zw x y c' (rd.q q0 rB) (aJ rB q0.size) rn rp aa aa aa aa v1 v2 v3 v4).mono ?_;rintro e w5⟨v,rfl,o5,q5⟩;rcases o5.dD with⟨_,h⟩|⟨g',c5,rfl,hB5,Jk,_⟩;(exact absurd h aq);go_wp2;go_meet;exact⟨λe=>absurd e aa,gt.q q5,(av.gQ _ q0).q q5,bp.q q5,bq.q q5,BX.q q5,λ_=>⟨g',c5,rfl,by have:=q0.size;omega,Jk,λi hi=>o5.at i hi⟩⟩)):p:=h
def Lr{p:Prop}(h:p:=by
  go_wp2;go_roundw;case rel=>exact⟨k+1,aa,aH,Z6.out⟩
  case measure=>simp[intOf];omega):p:=h
def ym{p:Prop}(h:p:=by
  (have jn:=af f9;clear f9;have n1:=af (k1.set (p:=⟨w.heap.size+1+1,4*y+x,none⟩) qU (U O V));have n2:=af (k2.aN (p:=⟨w.heap.size+1+1,4*y+x,none⟩) tY (U O V));have n3:=af (k3.aN (p:=⟨w.heap.size+1+1,4*y+x,none⟩) qT (U O V));have n5:=af (k5.set (4*y+x) V);rw[jn.out] at n5;clear k1 k2 k3 k5)
  go_wp2;go_roundw;case rel=>first|exact⟨x+1,aa,aH,n1.out,n2.out,n3.out,n5.out⟩|exact⟨x+1,aa,aH,n1.out.drew,n2.out,n3.out.q (Q.refl _).drew,n5.out.q (Q.refl _).drew⟩
  case measure=>simp[intOf];omega):p:=h
end Go.Proofs
namespace Go.Proofs.Q0
open Go.Proofs.Tryz
variable{n k W H B:Nat}{p:Nat×Nat}{xs ref m:List Int}{w:ns}{A:Option aiI}{I:Bool}{RW RH:Int}{ls:List (List Int)}
section
open Go.RowKit
def tc(L:Int)(xs:List Int)(p:Nat×Nat):List Int:=
 (xs.set (p.1-p.2) (fi (xs[p.1-2*p.2]?.getD 0) (xs[p.1-p.2]?.getD 0) (xs[p.1]?.getD 0) (xs[p.1+p.2]?.getD 0) L)).set p.1
  (fj (xs[p.1-2*p.2]?.getD 0) (xs[p.1-p.2]?.getD 0) (xs[p.1]?.getD 0) (xs[p.1+p.2]?.getD 0) L)
def dP(W y k:Nat):Nat×Nat:=(y*W+4*(k+1),1)
def fX(W x k:Nat):Nat×Nat:=(4*(k+1)*W+x,W)
def bH(f:Nat->Nat->Nat×Nat)(m n k:Nat):List (Nat×Nat):=(aiB n).flatMap (λy=>(aiB m).map (f y))++(aiB k).map (f n)
def fI(W H:Nat):List (Nat×Nat):=bH (dP W) ((W-1)/4) H 0++bH (fX W) ((H-1)/4) W 0
def dg(L:Int)(es:List (Nat×Nat))(xs:List Int):List Int:=es.foldl (tc L) xs
def rP(f:Nat->Nat->Nat×Nat)(m n k:Nat):bH f m n (k+1)=bH f m n k++[f n k]:=by unfold bH;rw[aju,List.map_append,List.append_assoc];rfl
def rR(f:Nat->Nat->Nat×Nat)(m n:Nat):bH f m (n+1) 0=bH f m n m:=by unfold bH;rw[aju,List.flatMap_append];simp
def Pe(f:Nat->Nat->Nat×Nat)(m:Nat):bH f m 0 0=[]:=rfl
def Pf(f:Nat->Nat->Nat×Nat)(m n:Nat):∀d,bH f m n 0<+:bH f m (n+d) 0
 |0=>List.prefix_refl _
 |d+1=>(Pf f m n d).trans ⟨(aiB m).map (f (n+d)),by
   rw[show n+(d+1)=(n+d)+1 by omega,rR];unfold bH;simp⟩
def Qj{f:Nat->Nat->Nat×Nat}{m N:Nat}(b:n<N)(d:k<=m):bH f m n k<+:bH f m N 0:=by
 have h1:bH f m n k<+:bH f m (n+1) 0:=by rw[rR];refine(List.prefix_append_right_inj _).2 ?_;refine⟨(List.range' k (m-k)).map (f n),?_⟩;rw[<-List.map_append];congr 1;have:=List.range'_append (s:=0) (m:=k) (n:=m-k) (step:=1);rw[List.range_eq_range',List.range_eq_range'];rw[show m=k+(m-k) by omega];simpa using this
 have a:=Pf f m (n+1) (N-(n+1));rw[show n+1+(N-(n+1))=N by omega] at a;exact h1.trans a
def Qk{f:Nat->Nat->Nat×Nat}{m N:Nat}(h:p∈bH f m N 0):∃y k,y<N/\k<m/\p=f y k:=by unfold bH at h;rw[List.range_zero,List.map_nil,List.append_nil,List.mem_flatMap] at h;obtain⟨y,a,h⟩:=h;obtain⟨k,b,rfl⟩:=nS.1 h;exact⟨y,k,fz.1 a,fz.1 b,rfl⟩
def jS(W H:Nat)(p:Nat×Nat):Prop:=1<=p.2/\p.2<=W/\2*p.2<=p.1/\p.1+p.2<H*W
def Ql{a b:Nat}(h:a<b):a*W+W<=b*W:=by have:=yz W (show a+1<=b from h);rw[Nat.succ_mul] at this;exact this
def ae4{y:Nat}(hw:W%4=0)(a:y<H)(b:k<(W-1)/4):jS W H (dP W y k):=by have:=Ql (W:=W) a;unfold jS dP;omega
def ae5{x:Nat}(a:H%4=0)(b:x<W)(d:k<(H-1)/4):jS W H (fX W x k):=by have h1:=Ql (W:=W) (show 4*(k+1)+1<H by omega);have e:=yz W (show 2<=4*(k+1) by omega);rw[Nat.succ_mul] at h1;unfold jS fX;omega
def Ad(hw:W%4=0)(d:H%4=0)(h:p∈fI W H):jS W H p:=by
 rcases List.mem_append.1 h with h|h
 ·obtain⟨y,k,a,b,rfl⟩:=Qk h;exact ae4 hw a b
 ·obtain⟨y,k,a,b,rfl⟩:=Qk h;exact ae5 d a b
def Qm{L:Int}:(tc L xs p).length=xs.length:=by unfold tc;rw[List.length_set,List.length_set]
def aaH(L:Int)(es:List (Nat×Nat))(p:Nat×Nat)(xs:List Int):dg L (es++[p]) xs=tc L (dg L es xs) p:=by unfold dg;rw[List.foldl_append];rfl
def E8(L:Int)(xs:List Int):∀es:List (Nat×Nat),(dg L es xs).length=xs.length:=λes=>by induction es generalizing xs with|nil=>rfl|cons p es a=>rw[dg,List.foldl_cons];exact(a _).trans Qm
def aco(L:Int)(h:cZ xs=true)(i:xs.length=H*W)(e:jS W H p):cZ (tc L xs p)=true:=by unfold jS at e;have f:=pz h (p.1-p.2) aa;have hc:=pz h p.1 aa;have b:=ae0 (a:=xs[p.1-2*p.2]?.getD 0) (d:=xs[p.1+p.2]?.getD 0) (L:=L) f hc;exact FD (FD h b.1.1 b.1.2) b.2.1 b.2.2
def E9{W H:Nat}(L:Int):∀(es:List (Nat×Nat)){xs:List Int},cZ xs=true->xs.length=H*W->(∀p∈es,jS W H p)->cZ (dg L es xs)=true
 |[],_,h,_,_=>h
 |p::es,_,h,a,b=>E9 L es (aco L h a (b p aj)) (by rw[Qm];exact a) (λq hq=>b q (by simp[hq]))
end
section
open Go.RowKit
def iA(I:Bool)(W H a b:Int)(xs:List Int):Bool:=I||(bS a b xs&&(a==W&&b==H))
def Yp(W H:Int)(I:Bool)(q:Int)(S:rl)(a b:Int)(c:Nat)(l:Rd w B A xs)(r:B<=w.heap.size)(u:Hid (xs.length=n))(hm:n<=9223372036854775807):
  UL Gz.prog 41 #[a5 #[U O W,U O H,a9 I,U O q,S],a5 #[U O a,U O b,Y A n c]] w λe w'=>e=be (a9 (iA I W H a b xs))/\Q w w':=by
 have d:Q w ((w.alloc (ac #[U O W,U O H,a9 I,U O q,S] 33)).alloc (ac #[U O a,U O b,Y A n c] 30)):=aR;have z:=(ak.new w 33 #[U O W,U O H,a9 I,U O q,S]).alloc (ac #[U O a,U O b,Y A n c] 30);have v:=ak.new (w.alloc (ac #[U O W,U O H,a9 I,U O q,S] 33)) 30 #[U O a,U O b,Y A n c];rw[BE] at v;have x:=af (l.q d r);have f:=aJ r d.size;clear l;cases I with
 |true=>have h:iA true W H a b xs=true:=rfl;rw[h];go_enter Gz.gf func41,ntmps41;go_wp2;go_ret;exact⟨rfl,d⟩
 |false=>
  obtain⟨t,i⟩:∃t,bS a b xs=t:=⟨_,rfl⟩;have y:=af i;have h:iA false W H a b xs=(t&&(a==W&&b==H)):=by unfold iA;rw[i];rfl
  rw[h];obtain⟨s,j⟩:∃s,(a==W&&b==H)=s:=⟨_,rfl⟩;rw[j];have C:=af j;clear i j h;cases t with
  |false=>go_enter Gz.gf func41,ntmps41;go_wp2;refine(Ca c x.out f u hm y).mono ?_;rintro e D⟨rfl,q1⟩;go_wp2;go_ret;exact⟨aj,d.trans q1⟩
  |true=>go_enter Gz.gf func41,ntmps41;go_wp2;refine(Ca c x.out f u hm y).mono ?_;rintro e D⟨rfl,q1⟩;have F:=(z.q q1).cell;have G:=(v.q q1).cell;go_wp2;refine(XS false q S C).mono ?_;rintro e J⟨rfl,E⟩;go_wp2;go_ret;exact⟨aj,(d.trans q1).trans E⟩
def aaI(W H:Int)(I:Bool)(q:Int)(S:rl)(a b:Int)(c:Nat)(r:Rd w B A xs)(u:B<=w.heap.size)(hn:Hid (xs.length=n))(hm:n<=9223372036854775807):
  UL Gz.prog 18 #[a5 #[U O W,U O H,a9 I,U O q,S],a5 #[U O a,U O b,Y A n c]] w λe w'=>e=be (a9 (iA I W H a b xs))/\Q w w':=by
 have q0:Q w ((w.alloc (ac #[U O W,U O H,a9 I,U O q,S] 33)).alloc (ac #[U O a,U O b,Y A n c] 30)):=aR;have bc:=(ak.new w 33 #[U O W,U O H,a9 I,U O q,S]).alloc (ac #[U O a,U O b,Y A n c] 30);have bp:=ak.new (w.alloc (ac #[U O W,U O H,a9 I,U O q,S] 33)) 30 #[U O a,U O b,Y A n c];rw[BE] at bp;have HX:=af (r.q q0 u);have Hx:=aJ u q0.size;clear r;cases I with
 |true=>have h:iA true W H a b xs=true:=rfl;rw[h];go_enter Gz.gf func18,ntmps18;go_wp2;go_ret;exact⟨rfl,q0⟩
 |false=>
  obtain⟨t,i⟩:∃t,bS a b xs=t:=⟨_,rfl⟩;have HT:=af i;have h:iA false W H a b xs=(t&&(a==W&&b==H)):=by unfold iA;rw[i];rfl
  rw[h];obtain⟨s,j⟩:∃s,(a==W&&b==H)=s:=⟨_,rfl⟩;rw[j];have l:=af j;clear i j h;cases t with
  |false=>go_enter Gz.gf func18,ntmps18;go_wp2;refine(JH c HX.out Hx hn hm HT).mono ?_;rintro e y⟨rfl,q1⟩;go_wp2;go_ret;exact⟨aj,q0.trans q1⟩
  |true=>
   by_cases h1:a=W
   ·by_cases f:b=H
    ·have d:s=true:=by rw[<-l.out];simp[h1,f]
     subst d h1 f;exact Dd
    ·have d:s=false:=by rw[<-l.out];simp[f]
     have v:(b==H)=false:=by rw[beq_eq_false_iff_ne];exact f
     subst d h1;clear f;exact Dd
   ·have d:s=false:=by rw[<-l.out];simp[h1]
    have x:(a==W)=false:=by rw[beq_eq_false_iff_ne];exact h1
    subst d;clear h1;exact Dd
end
section
open Go.RowKit Go.WideShapes Go.ChangeShapes
def Ti(n:Int)(I:Bool)(a:bytes xs):iR xs n I=eW xs n I:=(abq xs n I).trans (adm n I a).symm
def acp{cnt:Nat}{L:List Int}(h:eW xs cnt I=some L):fR I L cnt=true:=by
 unfold eW at h;split at h
 ·split at h
  ·cases h
  ·rename_i b d;split at h
   ·rename_i ys a;split at h
    ·injection h with h;unfold ew at a;split at a
     ·simp_all
     ·cases a
    ·cases h
   ·cases h
 ·cases h
def Rl{cnt:Nat}{L:List Int}(h:eW xs cnt I=some L)(k:Nat)(b:k<cnt):df (aO L k)=true/\(I=true->nth (aO L k) 0=2):=by have h1:=Fp (acp h) b;unfold dN at h1;rw[OF] at h1;refine⟨h1.1,λd=>?_⟩;have a:=h1.2;rw[d,Bool.not_true,Bool.false_or,beq_iff_eq] at a;exact a
def dt(W H:Int)(I:Bool)(q:Int)(ls:List (List Int))(RW RH:Int)(ref:List Int):Bool:=ie W H q ls.length&&(iA I W H RW RH ref&&(aiB ls.length).all λi=>(eW (aU ls i) (W/8) I).isSome)
def il(W:Int)(I:Bool)(ls:List (List Int))(i:Nat):List Int:=(eW (aU ls i) (W/8) I).getD []
def kJ(W H:Int)(I:Bool)(q:Int)(ls:List (List Int))(ref:List Int):List Int:=ic W.toNat H.toNat ref (il W I ls) q ls.length (an (W.toNat*H.toNat) 128)
def jw(W H:Int)(I:Bool)(q:Int)(ls:List (List Int))(ref:List Int):List Int:=dg (fH q.toNat) (fI W.toNat H.toNat) (kJ W H I q ls ref)
def Qn{W H:Int}{q:Int}(h:ie W H q ls.length=false):dt W H I q ls RW RH ref=false:=by unfold dt;rw[h];rfl
def Qo{W H:Int}{q:Int}(h:iA I W H RW RH ref=false):dt W H I q ls RW RH ref=false:=by unfold dt;rw[h,Bool.false_and,akt]
theorem Pg{W H:Int}{q:Int}{i:Nat}(hi:i<ls.length)(h:eW (aU ls i) (W/8) I=none):dt W H I q ls RW RH ref=false:=by have:((aiB ls.length).all λi=>(eW (aU ls i) (W/8) I).isSome)=false:=eO;unfold dt;rw[this,akt,akt]
def Ph{W H:Int}{q:Int}(h1:ie W H q ls.length=true)(a:iA I W H RW RH ref=true)(b:∀i,i<ls.length->∃L,eW (aU ls i) (W/8) I=some L):dt W H I q ls RW RH ref=true:=by unfold dt;rw[h1,a,Bool.true_and,Bool.true_and,aiE];intro i hi;obtain⟨L,d⟩:=b i (fz.1 hi);rw[d];rfl
def Sp{W H:Int}(h:iA I W H RW RH ref=true)(a:I=false):RW=W/\RH=H/\bS W H ref=true:=by unfold iA at h;rw[a,Bool.false_or,OF,OF,beq_iff_eq,beq_iff_eq] at h;obtain⟨h1,b,d⟩:=h;subst b d;exact⟨rfl,rfl,h1⟩
theorem af9(W H:Int)(I:Bool)(q:Int)(c:Nat){f h:aiI}(r:dz w B A ls)(s:B<=w.heap.size)(t:ls.length=n)(he:gx w f h B)(u:dx w f)(v:dx w h):
  UL Gz.prog 40 #[a5 #[U O W,U O H,a9 I,U O q,Y A n c]] w λe w'=>Q w w'/\
   ((∃b,∃cnt:Nat,e=be (dl #[a5 #[U O W,U O H,a9 I,U O q,Y A n c,Y (some ⟨b,0,none⟩) n n],a9 true])/\ie W H q n=true/\W/8=(cnt:Int)/\
    (∀i,i<n->∃L gl cl,eW (aU ls i) cnt I=some L/\w'.cell? ⟨b,i,none⟩=some (Y (some ⟨gl,0,none⟩) cnt cl)/\az 85 71 w' w.heap.size (Y (some ⟨gl,0,none⟩) cnt cl) cnt L))\/
   (e=be (dl #[a5 #[U O 0,U O 0,a9 false,U O 0,Y none 0 0,Y none 0 0],a9 false])/\∀RW RH ref,dt W H I q ls RW RH ref=false)):=by
 subst t;cases a:ie W H q ls.length with
 |false=>exact(adZ I A c w a).mono λe w'⟨h1,d⟩=>⟨d,.inr ⟨h1,λ_ _ _=>Qn a⟩⟩
 |true=>
  obtain⟨⟨x,y,w3⟩,_,_,_⟩:=nT a;obtain⟨cnt,hc⟩:∃cnt:Nat,W/8=(cnt:Int):=⟨(W/8).toNat,aa⟩;refine(ach I c a r s rfl he u v hc).mono λe w'⟨h1,d⟩=>⟨h1,?_⟩;rcases d with⟨b,j,l⟩|⟨j,i,hi,l⟩
  ·grind
  ·exact .inr ⟨j,λ_ _ _=>Pg hi (by rw[hc];exact l)⟩
end
section
open Go.RowKit
def ae6(v:rl)(w:ns):(ajj (em 185 v) 183 185 true).run Gz.prog w=.ok (dl #[v,a9 true]) w:=aC
def ae7(v:rl)(w:ns):(ajj (em 186 v) 183 186 true).run Gz.prog w=.ok (dl #[v,a9 true]) w:=aC
def Zy(v:rl)(w:ns):(ajj (em 185 v) 183 186 true).run Gz.prog w=.ok (dl #[a5 (arr (an 71 0)),a9 false]) w:=aC
def Zz(v:rl)(w:ns):(ajj (em 186 v) 183 185 true).run Gz.prog w=.ok (dl #[a5 (arr (an 71 0)),a9 false]) w:=aC
def ZA(v:rl)(w:ns):(ajj (em 219 v) 183 185 true).run Gz.prog w=.ok (dl #[a5 (arr (an 71 0)),a9 false]) w:=aC
def ZB(v:rl)(w:ns):(ajj (em 219 v) 183 186 true).run Gz.prog w=.ok (dl #[a5 (arr (an 71 0)),a9 false]) w:=aC
end
section
open Go.RowKit
theorem Sq(q:m.length=71)(b:df m=true):(nth m 0=0\/nth m 0=1\/nth m 0=2)/\(-16<=nth m 1/\nth m 1<=16)/\(-16<=nth m 2/\nth m 2<=16)/\(nth m 0=2->∀k,k<4->0<=nth m (3+k)/\nth m (3+k)<=4)/\aS (sub m 7 64) 4080=true:=by
 unfold df kD jP at b;simp only[OF,decide_eq_true_eq] at b;obtain⟨⟨h1,f,h⟩,i⟩:=b;have d:∀j,al m j=nth m j:=λ_=>rfl;simp only[d] at h1 f h;refine⟨?_,f,h,λh0 k hk=>?_,i⟩
 ·grind
 ·rw[if_neg aa,if_neg aa,if_pos h0,OF] at h1
  have l:=gY.1 h1.1 (nth m (3+k)) (by
   have e:=fP m 3 4 k hk;have a:k<(sub m 3 4).length:=Ce
   rw[show nth m (3+k)=(sub m 3 4)[k] by
    unfold nth;rw[<-e,List.getElem?_eq_getElem a];rfl]
   exact rk a)
  simpa using l
def ae8(h:aS (sub m 7 64) 4080=true)(k:Nat)(a:k<4):aS (lvl m k) 4080=true:=by rw[<-z7 m a];unfold aS at h⊢;rw[aiE] at h⊢;exactλx b=>h x (List.drop_subset _ _ (List.take_subset _ _ b))
def Rm(a:m.length=71)(b:k<4):(lvl m k).length=16:=bP aa
structure kK(o:Nat)(w wr:ns)(W H g n c B:Nat)(xs m:List Int)(mv:rl)(ms:List Int):Prop where
 own:Own wr B (Y (some ⟨g,0,none⟩) n c) n xs
 aw:av [g] w wr
 jB:ak wr (w.heap.size+o) 30 #[U O W,U O H,Y (some ⟨g,0,none⟩) n c]
 aO:Nb 85 71 wr (w.heap.size+2) m
 tb:Tb wr
 xo:nth m 0≠2->∃b c',mv=Y (some ⟨b,0,none⟩) 64 c'/\b≠g/\b<wr.heap.size/\∀i,i<64->wr.cell? ⟨b,i,none⟩=some (U O (ms[i]?.getD 0))
variable{o:Nat}{w wr w':ns}{W H g n c B:Nat}{xs m ys:List Int}{mv:rl}{ms:List Int}
def kK.q(h:kK o w wr W H g n c B xs m mv ms)(q:Q wr w'):kK o w w' W H g n c B xs m mv ms:=
 ⟨h.own.q q,h.aw.q q,h.jB.q q,h.aO.q q,h.tb.q q,λhm=>by obtain⟨b,c',e,h1,a,d⟩:=h.xo hm;exact⟨b,c',e,h1,cG a q.size,λi hi=>(q.cell b i a).trans (d i hi)⟩⟩
def kK.put(h:kK o w wr W H g n c B xs m mv ms)(k:Own w' B (Y (some ⟨g,0,none⟩) n c) n ys)(x:av [g] wr w')(f:g<w.heap.size)(h0:g≠2):kK o w w' W H g n c B ys m mv ms:=
 ⟨k,h.aw.trans x,h.jB.aw x aA,h.aO.aw x aA,h.tb.aw x aA,λhm=>by obtain⟨b,c',e,h1,a,d⟩:=h.xo hm;exact⟨b,c',e,h1,cG a x.size,λi hi=>(mR x a (by simpa using h1)).trans (d i hi)⟩⟩
def kK.rd(h:kK o w wr W H g n c B xs m mv ms)(hm:nth m 0≠2)(f:ms.length=64):∃b c',mv=Y (some ⟨b,0,none⟩) 64 c'/\b<wr.heap.size/\Rd wr wr.heap.size (some ⟨b,0,none⟩) ms:=by obtain⟨b,c',e,_,a,d⟩:=h.xo hm;exact⟨b,c',e,a,λ_=>⟨b,0,rfl,a,λi hi=>by rw[Nat.zero_add];exact d i aa⟩⟩
def Ws{P:Program}{b:Array Oper}{S:ns->Prop}{f:Oper}{a:Act}{t:EV}{h i off:Nat}{e:List Int}(hw:Region.wanted f (yielded b a.tmps)=true){ty:EV}{x:Operand}(l:f.op=.load ty x)(q:a.eval x=ci (some ⟨i,off,none⟩))(r:off+k<=h){d:TypeDesc}(hS:∀w,S w->Nb t h w i e)(s:e.length=h)
  (hu:P.underlying ty=some d)(hd:d.isRow=true)(hi:(P.info? ty).map (·.size)=some k):YieldsIf P b S f (a5 (arr (sub e off k))) a:=
 yieldsIf_load_mid hw ty x l i off q ((sub e off k).map (Value.int .i64)) d (λw j=>(hS w j).range off k r) hu hd (by rw[ajA,bP (by omega)];exact hi)
def Wf{P:Program}{b:Array Oper}{S:ns->Prop}{h:Oper}{a:Act}{t:EV}{s e l q i off:Nat}{f:List Int}(hw:Region.wanted h (yielded b a.tmps)=true){ty:EV}{x:Operand}(r:h.op=.load ty x)(u:a.eval x=ci (some ⟨i,off,none⟩))(v:off+k<=e*s){d:TypeDesc}(hS:∀w,S w->az t s w l (Y (some ⟨i,0,none⟩) e q) e f)(y:f.length=e*s)
  (hu:P.underlying ty=some d)(hd:d.isRow=true)(hi:(P.info? ty).map (·.size)=some k):YieldsIf P b S h (a5 (arr (sub f off k))) a:=
 yieldsIf_load_mid hw ty x r i off u ((sub f off k).map (Value.int .i64)) d (λw j=>(hS w j).range off k v) hu hd (by rw[ajA,bP (by omega)];exact hi)
theorem AF{W H n:Nat}{xs:List Int}(h:(xs.length:Int)=(W:Int)*(H:Int))(a:xs.length=n):n=H*W:=eO
def Sr{W H x y a k b d:Nat}{ref xs m:List Int}(h:nth m 0=2)(e:x+k%2*4=b)(f:y+k/2*4=d):j2 W H ref xs x y a m k=
  lQ (nth m (3+k)).toNat (eA W H xs b d (decide (a<d))) (eL W H xs b d (decide (0<b))) (eC W H xs b d (decide (a<d)) (decide (0<b))) (decide (a<d)) (decide (0<b)):=by
 subst e f;unfold j2;rw[if_pos h]
def Ss{W H x y a k i j:Nat}{ref xs m:List Int}(h:nth m 0≠2)(hi:k%2*4=i)(b:k/2*4=j):j2 W H ref xs x y a m k=lF (kI W H ref x y (nth m 1) (nth m 2)) i j:=by subst hi b;unfold j2;rw[if_neg h]
def aga(w:ns):(binOp .eql 25 (Y none 0 0) (Y none 0 0)).run Gz.prog w=.ok (a9 true) w:=aC
def agb{g:aiI}{n c:Nat}(w:ns):(binOp .eql 25 (Y (some g) n c) (Y none 0 0)).run Gz.prog w=.ok (a9 false) w:=aC
def agc(w:ns):(eqGuard .eql 25 (.tmp 46) (.const (Y none 0 0)) (Y none 0 0) (Y none 0 0)).run Gz.prog w=.ok () w:=aC
def agd{g:aiI}{n c:Nat}(w:ns):(eqGuard .eql 25 (.tmp 46) (.const (Y none 0 0)) (Y (some g) n c) (Y none 0 0)).run Gz.prog w=.ok () w:=aC
end
section
open Go.RowKit
def XL{x y:Nat}(a:Nat){g c:Nat}(L c' B':Nat)(M:Option aiI)(ref:List Int)(q RW RH:Int)(ho:Own w B (Y (some ⟨g,0,none⟩) n c) n xs)(hB:2<B)(hp:bS W H xs=true)(hl:m.length=71)(hv:df m=true)
  (hx:x+8<=W)(hy:y+8<=H)(hT:Tb w)(hr:nth m 0≠2->RW=W/\RH=H/\Rd w B' M ref/\B'<=w.heap.size/\ref.length=L/\bS W H ref=true):
  UL Gz.prog 113 #[a5 #[U O W,U O H,Y (some ⟨g,0,none⟩) n c],a5 #[U O RW,U O RH,Y M L c'],U O x,U O y,a5 (arr m),U O q,U O a] w λe w'=>e=be (dl #[])/\Own w' B (Y (some ⟨g,0,none⟩) n c) n (dT W H ref x y a m q 4 xs)/\av [g] w w':=by
 obtain⟨k0,⟨v1,v2⟩,⟨v3,v4⟩,km,kl⟩:=Sq hl hv;obtain⟨t7,U'⟩:=ho.block;have Jl:g≠2:=aa;obtain⟨⟨p1,p2,p3⟩,⟨p4,p5,p6⟩,p7,p8⟩:=jH hp;have tQ:=ho.1;have qS:=af λk=>pL hp (zI W H ref x y a m q xs k) (zJ W H ref x y a m q p8 k);have hn:n=H*W:=AF p7 tQ;have mt:n<=1024:=by rw[hn];exact fO (show H<=32 by omega) (show W<=32 by omega)
 have EQ:=af hn;clear hn;have hV:sub m 1 2=[nth m 1,nth m 2]:=kW m 1 aa;have VB:(sub m 7 64).length=64:=bP aa;have TK:=af λz=>kindOf m z hl;have bq:=Nb.new 85 71 ((w.alloc (ac (#[U O W,U O H,Y (some ⟨g,0,none⟩) n c]:Array rl) 30)).alloc (ac #[U O RW,U O RH,Y M L c'] 30)) m hl;simp only[BE] at bq;have q0:Q w (((w.alloc (ac (#[U O W,U O H,Y (some ⟨g,0,none⟩) n c]:Array rl) 30)).alloc (ac #[U O RW,U O RH,Y M L c'] 30)).alloc (ac (arr m) 85)):=aR;have bp:=((ak.new w 30 (#[U O W,U O H,Y (some ⟨g,0,none⟩) n c]:Array rl)).alloc (ac #[U O RW,U O RH,Y M L c'] 30)).alloc (ac (arr m) 85);have br:=(ak.new (w.alloc (ac (#[U O W,U O H,Y (some ⟨g,0,none⟩) n c]:Array rl) 30)) 30 #[U O RW,U O RH,Y M L c']).alloc (ac (arr m) 85);rw[BE] at br;have HR:=af hr;have KM:=af km;clear hr km hv p7 p8;go_enter Gz.gf func113,ntmps113;go_wp2_with((with_reducible refine eQ (n:=71) rfl _ _ rfl _ rfl _ aG _ (Gz.gu underlying85) rfl fY ?_));generalize(((w.alloc (ac (#[U O W,U O H,Y (some ⟨g,0,none⟩) n c]:Array rl) 30)).alloc (ac #[U O RW,U O RH,Y M L c'] 30)).alloc (ac (arr m) 85))=w0 at q0 bp br bq⊢;refine(TK.out _).mono ?_;rintro e w1⟨rfl,q1⟩;replace bq:=bq.q q1;replace bp:=bp.q q1;replace br:=br.q q1;replace q0:=q0.trans q1;have gt:=ho.q q0;have BX:=hT.q q0;clear q1 TK;generalize xn:kx m=kv
 go_upto_block 0 with fail
 go_cut[14] (λs wx=>(nth m 0=2->s=Y none 0 0)/\Hid (kK 0 w wx W H g n c B xs m s (kI W H ref x y (nth m 1) (nth m 2))))
 case first=>
  rcases k0 with h0|h0|h0
  case inr.inr=>
   obtain rfl:kv=em 219 (a5 (arr m)):=by have e:al m 0=2:=h0;rw[<-xn];unfold kx;rw[e];rfl
   have f1:=ZA (a5 (arr m));have f2:=ZB (a5 (arr m));clear xn;go_wp2;go_meet;exact⟨λ_=>rfl,gt,av.gQ _ q0,bp,bq,BX,λe=>absurd h0 e⟩
  case inl=>
   obtain rfl:kv=em 185 (a5 (arr m)):=by have e:al m 0=0:=h0;rw[<-xn];unfold kx;rw[e];rfl
   have f1:=ae6 (a5 (arr m));have f2:=Zy (a5 (arr m));exact Lq
  case inr.inl=>
   obtain rfl:kv=em 186 (a5 (arr m)):=by have e:al m 0=1:=h0;rw[<-xn];unfold kx;rw[e];rfl
   have f1:=Zz (a5 (arr m));have f2:=ae7 (a5 (arr m));exact Lq
 case rest=>
  obtain⟨D,hS⟩:=hcut;have bq:=hS.out.aO;go_wp2_with((with_reducible refine dY (ty:=83) _ 7 ?_ ?_ _ bq 64 ?_ _ (Gz.gu underlying83) ?_ uW ?_);exact rfl;exact rfl;omega;exact rfl);clear bq;go_loopw[37] (λi wr=>∃k:Nat,k<=4/\i=U O k/\Hid (kK 0 w wr W H g n c B (dT W H ref x y a m q k xs) m u14 (kI W H ref x y (nth m 1) (nth m 2)))) (λi _=>4-(intOf i).toNat)
  case atStart=>exact⟨0,aa,rfl,hS⟩
  case round=>
   clear hS;obtain⟨k,hk,rfl,hK⟩:=hrel;by_cases l:k<4
   ·have ka:(k:Int)<4:=by omega
    have he:∀w,(Instr.index 83 (a5 (arr (sub m 7 64))) (U O (k:Int))).run Gz.prog w=.ok (a5 (arr (lvl m k))) w:=λw=>by have h:=Dk VB l w;rw[z7 m l] at h;exact h
    have DE:=Rm hl l;have T1:=af λz=>partAt k z l;obtain⟨i,hi⟩:∃i,k%2*4=i:=⟨_,rfl⟩;obtain⟨j,hj⟩:∃j,k/2*4=j:=⟨_,rfl⟩;have VC:i<=4:=aa;have Bp:j<=4:=aa;have HX:=af (qS.out k);have HS:Hid (dT W H ref x y a m q (k+1) xs=ik W (x+k%2*4) (y+k/2*4) (j2 W H ref (dT W H ref x y a m q k xs) x y a m k) (gE (lvl m k) q) 16 (dT W H ref x y a m q k xs)):=rfl;have N:=af (Qi W H ref (dT W H ref x y a m q k xs) x y a m k);have qD:=af (Rk (W:=W) (H:=H) (ref:=ref) x y a (m:=m) k HX.out λe=>(HR.out e).2.2.2.2.2);obtain⟨xi,r⟩:∃z,x+k%2*4=z:=⟨_,rfl⟩;obtain⟨yj,t⟩:∃z,y+k/2*4=z:=⟨_,rfl⟩;have P:=af λh=>@Sr W H x y a k xi yj ref (dT W H ref x y a m q k xs) m h r t;have xp:=af λh=>@Ss W H x y a k i j ref (dT W H ref x y a m q k xs) m h hi hj;rw[r,t] at HS;generalize j2 W H ref (dT W H ref x y a m q k xs) x y a m k=pb at HS N qD P xp;generalize dT W H ref x y a m q k xs=ys at HX HS P hK;rw[hi] at r;rw[hj] at t;rw[hi,hj] at T1;have tx:AS.wrap ((x:Int)+(i:Int))=(xi:Int):=by rw[<-r];exact aB _ ⟨by omega,by omega⟩
    have ty:AS.wrap ((y:Int)+(j:Int))=(yj:Int):=by rw[<-t];exact aB _ ⟨by omega,by omega⟩
    have oY:xi+4<=W:=aa;have oZ:yj+4<=H:=aa
    have he2:∀w,(binOp .eql 25 u14 (Y none 0 0)).run Gz.prog w=.ok (a9 (decide (nth m 0=2))) w:=λw=>by
     by_cases f:nth m 0=2
     ·rw[D f,decide_eq_true f];exact aga w
     ·obtain⟨b,c',e,_⟩:=hK.out.xo f;rw[e,decide_eq_false f];exact agb w
    have he3:∀w,(eqGuard .eql 25 (.tmp 46) (.const (Y none 0 0)) u14 (Y none 0 0)).run Gz.prog w=.ok () w:=λw=>by
     by_cases f:nth m 0=2
     ·rw[D f];exact agc w
     ·obtain⟨b,c',e,_⟩:=hK.out.xo f;rw[e];exact agd w
    obtain⟨bb,R⟩:∃z,decide (nth m 0=2)=z:=⟨_,rfl⟩;rw[R] at he2;have Do:=af R;have Bm:=af D;have bz:=Bl.zero wr;have HXY:Hid (x+i=xi/\y+j=yj):=⟨r,t⟩;clear hi hj r t R D;go_wp2_with((refine iH rfl _ _ rfl _ rfl _ _ rfl dh aG ?_;intro K b9 g9 s9));refine(T1.out _).mono ?_;rintro e w9'⟨rfl,rfl⟩;have q9:Q wr K:=Q.grown ((Q.refl wr).alloc _) g9 (λk e=>by have:=aL e;omega);rw[BE] at s9;have C:Bl (K.alloc (ac (#[U O 0,U O 0,U O 0,U O 0,U O 0,U O 0,U O 0,U O 0,U O 0,U O 0,U O 0,U O 0,U O 0,U O 0,U O 0,U O 0]:Array rl) 82)) K.heap.size (an 16 0):=Bl.zero K;have E:Bl (K.alloc (ac (#[U O 0,U O 0,U O 0,U O 0,U O 0,U O 0,U O 0,U O 0,U O 0,U O 0,U O 0,U O 0,U O 0,U O 0,U O 0,U O 0]:Array rl) 82)) wr.heap.size (lvl m k):=b9.alloc _;have qb:Q wr (K.alloc (ac (#[U O 0,U O 0,U O 0,U O 0,U O 0,U O 0,U O 0,U O 0,U O 0,U O 0,U O 0,U O 0,U O 0,U O 0,U O 0,U O 0]:Array rl) 82)):=q9.alloc _;have szb:(K.alloc (ac (#[U O 0,U O 0,U O 0,U O 0,U O 0,U O 0,U O 0,U O 0,U O 0,U O 0,U O 0,U O 0,U O 0,U O 0,U O 0,U O 0]:Array rl) 82)).heap.size=wr.heap.size+2:=by rw[BE,s9]
    rw[s9] at C;clear b9 g9 bz he T1
    go_upto_if 47 with fail
    generalize K.alloc (ac (#[U O 0,U O 0,U O 0,U O 0,U O 0,U O 0,U O 0,U O 0,U O 0,U O 0,U O 0,U O 0,U O 0,U O 0,U O 0,U O 0]:Array rl) 82)=wb at C E qb szb⊢;clear s9 q9;go_cut[] from 48 to 65 (λwx=>Hid (Q wr wx/\Bl wx wr.heap.size (lvl m k)/\Bl wx (wr.heap.size+1) pb))
    case first=>
     cases bb with
     |true=>
      have f:nth m 0=2:=of_decide_eq_true Do.out;have F:=hK.out.q qb;obtain⟨md,S⟩:∃z:Nat,nth m (3+k)=(z:Int):=⟨(nth m (3+k)).toNat,by have:=KM.out f k l;omega⟩;have Hc:md<5:=by have:=KM.out f k l;omega
      have cm:wb.cell? ⟨w.heap.size+1+1,3+k,none⟩=some (U O (nth m (3+k))):=F.aO.at (3+k) aa;have G:=P.out f;rw[S] at cm G;rw[Int.toNat_natCast] at G;have Bh:=af G;have u:=af F;have pc:=F.jB.cell;have xq:=af S;clear G F S;go_wp2;refine et (λJ=>Q wb J/\(∀i,J.cell? ⟨w.heap.size,i,none⟩=(#[U O W,U O H,Y (some ⟨g,0,none⟩) n c]:Array rl)[i]?)/\J.cell? ⟨w.heap.size+1+1,3+k,none⟩=some (U O (md:Int))) (λj=>decide (14<=j)) ai ⟨(Q.refl _).drew,pc,cm⟩ λhS=>?_;refine ah 0 (h:=ah 1 (h:=ah 2 (h:=ah 3 (h:=ah 4 (h:=ah 5 (h:=ah 6 (h:=ah 7 (h:=ah 9 (h:=ah 10 (h:=ah 11 (h:=ah 12 (h:=?_))))))))))));refine bh (k:=8) ai rfl rfl λT d=>?_;go_simp;refine(Zt xi yj a c (u.out.q hS.1).own.rd (au _) (u.out.own.1) HX aa aa).mono ?_;rintro e w3⟨rfl,q3⟩;have y3:=hS.1.trans q3;refine d.out _ _ ⟨y3,(u.out.q y3).jB.cell,(u.out.aO.q y3).at (3+k) aa|>.trans (congrArg (λz=>some (Value.int .i64 z)) xq.out)⟩ λhS=>?_;clear d T;refine aV ?_;refine bh (k:=13) ai rfl rfl λT d=>?_;go_simp;refine(XK Hc (GA HX.out xi yj)).mono ?_;rintro e w4⟨rfl,q4⟩;rw[<-Bh.out];have y4:=y3.trans q4;refine d.out _ _ ⟨y4,(u.out.q y4).jB.cell,(u.out.aO.q y4).at (3+k) aa|>.trans (congrArg (λz=>some (Value.int .i64 z)) xq.out)⟩ λhS=>?_;clear d T;refine aV ?_;refine iu [14] 14 ai aq rfl ?_;have b5:=C.q y4;have Hd:=N.out;refine iH rfl _ _ rfl _ rfl _ _ rfl Hd b5 ?_;intro w6 b6 g6 s6;go_wp2;go_meet;have q6:=(qb.trans y4).grown g6 (λk e=>by have:=aL e;omega);exact⟨q6,(E.q y4).grown g6 (λe=>by have:=aL e;omega),b6⟩
     |false=>have f:nth m 0≠2:=of_decide_eq_false Do.out;obtain⟨bm,cm,rfl,hbm,oH⟩:=(hK.out.q qb).rd f vj;go_wp2;refine(partOf i j _ cm _ _ wb oH (au _) vj VC Bp).mono ?_;rintro e w5⟨rfl,q5⟩;rw[<-xp.out f];have b5:=C.q q5;go_wp2_with((refine iH rfl _ _ rfl _ rfl _ _ rfl dh aG ?_;intro w6 b6 g6 s6));go_meet;have q6:=(qb.trans q5).grown g6 (λk e=>by have:=aL e;omega);exact⟨q6,(E.q q5).grown g6 (λe=>by have:=aL e;omega),b6⟩
    case rest=>
     obtain⟨qc,bc1,bc2⟩:=hcut.out;have V:=hK.out.q qc;have pc:=V.jB.cell;have BY:=af V;clear hcut C E qb V;go_wp2;refine et (λJ=>(∀i,J.cell? ⟨w.heap.size,i,none⟩=(#[U O W,U O H,Y (some ⟨g,0,none⟩) n c]:Array rl)[i]?)/\Bl J wr.heap.size (lvl m k)/\Bl J (wr.heap.size+1) pb) (λ_=>false) ai ⟨pc,bc1.drew,bc2.drew⟩ λhS=>?_;refine ah 0 (h:=ah 1 (h:=ah 2 (h:=ah 3 (h:=ah 4 (h:=ah 5 (h:=ah 6 (h:=ah 9 (h:=?_))))))));refine po (i:=7) (v:=a5 (arr ?UL)) rfl ai ai ai ai (λ_ _ _ h=>h) (xC aD rfl rfl λJ X=>?hz1) hS ?SZ;case hz1=>((try dsimp only at X);go_split_ands;assumption)
     try simp only[Act.put,aix,aiG,aiQ]
     refine po (i:=8) (v:=a5 (arr ?xv2)) rfl ai ai ai ai (λ_ _ _ h=>h) (xC aD rfl rfl λJ X=>?hz2) hS ?ahM;case hz2=>((try dsimp only at X);go_split_ands;assumption)
     try simp only[Act.put,aix,aiG,aiQ]
     refine bh (k:=10) ai rfl rfl λT d=>?_;go_simp;have y0:Q wc wc.drew:=(Q.refl _).drew;refine(Wp q (BY.out.q y0).tb DE).mono ?_;rintro e w5⟨rfl,q5⟩;have y5:=y0.trans q5;have Z:=af (BY.out.q y5);have Jm:=bc1.q y5;have Jn:=bc2.q y5;refine d.out _ _ ⟨Z.out.jB.cell,Jm,Jn⟩ λhS=>?_;clear d T;refine aV ?_;have xt:=af (ack (gE (lvl m k) q) Z.out.own EQ.out mt aa aa oY oZ N.out Qc qD.out Rj);rw[<-HS.out] at xt;refine bh (k:=11) ai rfl rfl λT d=>?_;go_simp;refine xt.out.mono ?_;rintro e w6⟨rfl,o6,x6⟩;have Z6:=af (Z.out.put o6 x6 U' Jl);have hsr:=hK.out.aw.size;refine d.out _ _ ⟨Z6.out.jB.cell,Jm.aw x6 aA,Jn.aw x6 aA⟩ λhS=>?_;clear d T;refine aV ?_;refine kg ai ?_ _;clear hS o6 x6 y5 bc1 bc2 pc Jm Jn;exact Lr
   ·have ST:k=4:=by omega
    subst ST;go_wp2;exact bodyPost_end (v:=dl #[]) (by simp[results,results113,go_sem]) rfl ⟨rfl,hK.out.own,hK.out.aw⟩
end
section
open Go.RowKit
def XM{f g:Nat->Int}{c:Int}{u v:Bool}{m:Nat}(hm:m<5)(R:EB f g c):
  UL Gz.prog 85 #[U O m,a5 (aM f g c u v)] w λe w'=>e=be (a5 (arr (lQ m f g c u v)))/\Q w w':=by
 have C:=((ak.new w 125 (aM f g c u v)).alloc (ac (arr (an 16 0)) 82)).alloc (ac (arr (an 16 0)) 82);have D:=(Bl.zero (w.alloc (ac (aM f g c u v) 125))).alloc (ac (arr (an 16 0)) 82);have E:=Bl.zero ((w.alloc (ac (aM f g c u v) 125)).alloc (ac (arr (an 16 0)) 82));have L:Q w (((w.alloc (ac (aM f g c u v) 125)).alloc (ac (arr (an 16 0)) 82)).alloc (ac (arr (an 16 0)) 82)):=aR;simp only[BE] at D E;have d0:∀i,(((w.alloc (ac (aM f g c u v) 125)).alloc (ac #[U O 0,U O 0,U O 0,U O 0,U O 0,U O 0,U O 0,U O 0,U O 0,U O 0,U O 0,U O 0,U O 0,U O 0,U O 0,U O 0] 82)).alloc (ac #[U O 0,U O 0,U O 0,U O 0,U O 0,U O 0,U O 0,U O 0,U O 0,U O 0,U O 0,U O 0,U O 0,U O 0,U O 0,U O 0] 82)).cell? ⟨w.heap.size,i,none⟩=(#[U O (f 0),U O (f 1),U O (f 2),U O (f 3),U O (g 0),U O (g 1),U O (g 2),U O (g 3),U O c,a9 u,a9 v]:Array rl)[i]?:=C.cell;have r:=af R;have TM:=af λz=>aaD f g u v z R;have S:=af λk z M=>Xb f g c u v k z M;clear R;go_enter Gz.gf func85,ntmps85;go_wp2;refine(TM.out _).mono ?_;rintro e N⟨rfl,q1⟩;replace C:=C.q q1;replace D:=D.q q1;replace E:=E.q q1;replace L:=L.trans q1;have K0:Hid (Q w N/\ak N w.heap.size 125 (aM f g c u v)/\Bl N (w.heap.size+1) cn/\Bl N (w.heap.size+1+1) cn):=⟨L,C,D,E⟩;clear L C D E q1 d0;obtain⟨s,l⟩:∃z,mb f g u v=z:=⟨_,rfl⟩;rw[l];have T:=af l;clear l;go_wp2;go_loopw[7] (λi wr=>∃y:Nat,y<=4/\i=U O y/\Hid (Q w wr/\ak wr w.heap.size 125 (aM f g c u v)/\Bl wr (w.heap.size+1) cn/\Bl wr (w.heap.size+1+1) (a6 (λj=>if j<4*y then lP m f g c u v j else 0) 16))) (λi _=>4-(intOf i).toNat)
 case atStart=>exact⟨0,aa,rfl,by rw[rX];exact K0⟩
 case round=>
  obtain⟨y,hy,rfl,hK⟩:=hrel;clear K0;by_cases X:y<4
  ·have Z:(y:Int)<4:=by omega
   have hyd:decide ((y:Int)<4)=true:=decide_eq_true Z;go_wp2;go_loopw[8] (λi wr=>∃x:Nat,x<=4/\i=U O x/\Hid (Q w wr/\ak wr w.heap.size 125 (aM f g c u v)/\Bl wr (w.heap.size+1) cn/\Bl wr (w.heap.size+1+1) (a6 (λj=>if j<4*y+x then lP m f g c u v j else 0) 16))) (λi _=>4-(intOf i).toNat)
   case atStart=>exact⟨0,aa,rfl,hK⟩
   case round=>
    obtain⟨x,hx,rfl,hL⟩:=hrel;clear hK;by_cases wj:x<4
    ·have UU:(x:Int)<4:=by omega
     obtain⟨k1,k2,k3,k5⟩:=hL.out;clear hL;have f9:=sf (lP m f g c u v) (4*y+x) aa
     have hF:lP m f g c u v (4*y+x)=jZ m f g c u v x y:=by unfold lP;rw[show(4*y+x)%4=x by omega,show(4*y+x)/4=y by omega]
     rw[hF] at f9;clear hF;have d0:∀i,wr.cell? ⟨w.heap.size,i,none⟩=(#[U O (f 0),U O (f 1),U O (f 2),U O (f 3),U O (g 0),U O (g 1),U O (g 2),U O (g 3),U O c,a9 u,a9 v]:Array rl)[i]?:=k2.cell;have F:=k5.at (4*y+x) aa;have f3:=k5.free (4*y+x);rw[sB aa (Nat.le_refl _)] at F;have cx:=(k2.cell x).trans (pJ f g c u v x wj);have cy:=(k2.cell (4+y)).trans (pK f g c u v y X);have d8:wr.cell? ⟨w.heap.size,8,none⟩=some (U O c):=k2.cell 8;have pi:((4:Int)*(y:Int)+(x:Int)).toNat=4*y+x:=aa;have hM:Hid (mb f g u v=s):=T;rcases(show m=0\/m=1\/m=2\/m=3\/m=4 by omega) with rfl|rfl|rfl|rfl|rfl
     ·have a:jZ 0 f g c u v x y=s:=hM.out;rw[a] at f9;clear a;(have jn:=af f9;clear f9;have n1:=af (k1.set (p:=⟨w.heap.size+1+1,4*y+x,none⟩) qU (U O s));have n2:=af (k2.aN (p:=⟨w.heap.size+1+1,4*y+x,none⟩) tY (U O s));have n3:=af (k3.aN (p:=⟨w.heap.size+1+1,4*y+x,none⟩) qT (U O s));have n5:=af (k5.set (4*y+x) s);rw[jn.out] at n5;clear k1 k2 k3 k5)
      go_wp2;go_roundw;case rel=>first|exact⟨x+1,aa,aH,n1.out,n2.out,n3.out,n5.out⟩|exact⟨x+1,aa,aH,n1.out.drew,n2.out,n3.out.q (Q.refl _).drew,n5.out.q (Q.refl _).drew⟩
      case measure=>exact bg
     ·have a:jZ 1 f g c u v x y=f x:=rfl;rw[a] at f9;clear a;obtain⟨V,b⟩:∃z,f x=z:=⟨_,rfl⟩;rw[b] at cx f9;clear b d0;exact ym
     ·have a:jZ 2 f g c u v x y=g y:=rfl;rw[a] at f9;clear a;obtain⟨V,b⟩:∃z,g y=z:=⟨_,rfl⟩;rw[b] at cy f9;clear b d0;exact ym
     ·have a:jZ 3 f g c u v x y=oD f g c (4+x-y):=rfl;rw[a] at f9;clear a;obtain⟨k,M⟩:∃k,4+x-y=k:=⟨_,rfl⟩;rw[M] at f9;obtain⟨j,hj⟩:∃j,k=j+1:=⟨k-1,aa⟩;have hD:oD f g c k=(fU f g c j+2*fU f g c k+fU f g c (k+1)+2)/4:=by unfold oD;rw[hj];rfl
      rw[hD] at f9;clear hD;obtain⟨a0,a1⟩:=m9 r.out j;obtain⟨b0,b1⟩:=m9 r.out k;obtain⟨c0,c1⟩:=m9 r.out (k+1);have T1:=af λz=>S.out j z aa;have T2:=af λz=>S.out k z aa;have T3:=af λz=>S.out (k+1) z aa;generalize fU f g c j=s1 at f9 T1 a0 a1;generalize fU f g c k=s2 at f9 T2 b0 b1;generalize fU f g c (k+1)=d at f9 T3 c0 c1;obtain⟨kA,hA⟩:∃z,(j:Int)=z:=⟨_,rfl⟩;obtain⟨t,hI⟩:∃z,(k:Int)=z:=⟨_,rfl⟩;obtain⟨kB,hB⟩:∃z,((k+1:Nat):Int)=z:=⟨_,rfl⟩;rw[hA] at T1;rw[hI] at T2;rw[hB] at T3;have ek:(4:Int)+(x:Int)-(y:Int)=t:=aa;have mx:max (0:Int) (t-1)=kA:=aa;have mn:min (8:Int) (t+1)=kB:=aa;have kl:1<=t/\t<=7:=aa;obtain⟨kl1,kl2⟩:=kl;have t1:AS.wrap (2*s2)=2*s2:=aB _ ⟨aa,aa⟩;have t2:AS.wrap (s1+2*s2)=s1+2*s2:=aB _ ⟨aa,aa⟩;have t3:AS.wrap (s1+2*s2+d)=s1+2*s2+d:=aB _ ⟨aa,aa⟩;have t4:AS.wrap (s1+2*s2+d+2)=s1+2*s2+d+2:=aB _ ⟨aa,aa⟩;have t5:(s1+2*s2+d+2).tdiv 4=(s1+2*s2+d+2)/4:=jF aa;have t6:AS.wrap ((s1+2*s2+d+2)/4)=(s1+2*s2+d+2)/4:=aB _ ⟨aa,aa⟩;have ba:∀(z:iF wr)(i:Nat),z.at_.cell? ⟨w.heap.size,i,none⟩=(#[U O (f 0),U O (f 1),U O (f 2),U O (f 3),U O (g 0),U O (g 1),U O (g 2),U O (g 3),U O c,a9 u,a9 v]:Array rl)[i]?:=k2.fL;clear M hj hA hI hB cx cy d8 F f3;go_wp2;refine uA ai ai ?_;repeat(go_big_quiet_step (first|(go_at_call_of 126 kA;exact Calls.fL (T1.out _))|(go_at_call_of 126 kB;exact Calls.fL (T3.out _))|(go_at_call_of 126 t;exact Calls.fL (T2.out _))))
      refine wpQuiet_nil ?_;rintro _⟨⟨w7,P⟩,rfl⟩;replace k1:=k1.trans P;replace k2:=k2.q P;replace k3:=k3.q P;replace k5:=k5.q P;have F:=k5.at (4*y+x) aa;have f3:=k5.free (4*y+x);obtain⟨V,b⟩:∃z,(s1+2*s2+d+2)/4=z:=⟨_,rfl⟩;rw[b] at f9⊢;clear b t1 t2 t3 t4 t5 t6 ba ek mx mn;exact ym
     ·have a:jZ 4 f g c u v x y=dA (f x+g y-c) 0 255:=rfl;rw[a] at f9;clear a d0;obtain⟨a0,a1⟩:=r.out.1 x;obtain⟨b0,b1⟩:=r.out.2.1 y;obtain⟨e0,e1⟩:=r.out.2.2;obtain⟨fx,G⟩:∃z,f x=z:=⟨_,rfl⟩;obtain⟨gy,J⟩:∃z,g y=z:=⟨_,rfl⟩;rw[G] at cx f9 a0 a1;rw[J] at cy f9 b0 b1;clear G J;have TC:=af λz=>vF (fx+gy-c) 0 255 z aq;obtain⟨V,b⟩:∃z,dA (fx+gy-c) 0 255=z:=⟨_,rfl⟩;rw[b] at f9 TC;clear b;clear F f3;go_wp2
      go_quiet((go_at_call 57;exact nO ((TC.out _).mono λ_ _ h=>⟨h.1,h.2.symm⟩)))
      replace k1:=k1.drewN nq;replace k2:=k2.drewN nq;replace k3:=k3.q ((Q.refl _).drewN nq);replace k5:=k5.q ((Q.refl _).drewN nq);have F:=k5.at (4*y+x) aa;have f3:=k5.free (4*y+x);exact ym
    ·have Uh:x=4:=by omega
     subst Uh;go_wp2;go_roundw;case rel=>exact⟨y+1,aa,aH,hL⟩
     case measure=>exact bg
  ·have Ug:y=4:=by omega
   subst Ug;obtain⟨k1,k2,k3,k5⟩:=hK.out;clear hK;rw[rV] at k5;have ul:=Qf m f g c u v;change Bl wr (w.heap.size+1+1) (lQ m f g c u v) at k5;generalize K:lQ m f g c u v=vs at k5 ul⊢;have I':=af K;clear K;have K4:=af k1;clear k1 k2;exact yl
end
section
open Go.RowKit
def Xe{q:Int}(hx:xs.length=16)(P:aS xs 4080=true)(hq:qB q=true):
  UL Gz.prog 89 #[a5 (arr xs),U O q] w λe w'=>e=be (a5 (arr (gE xs q)))/\Q w w':=by
 have s1:=bO xs;rw[hx] at s1;have R:0<=q/\q<=15:=of_decide_eq_true hq;obtain⟨n,rfl⟩:∃n:Nat,q=(n:Int):=⟨q.toNat,aa⟩;have HV:Hid (gE xs (n:Int)=jW (a6 (gC xs (step n)) 16)):=by unfold Hid gE;rw[P,hq];rfl
 rw[HV.out];have y:n<16:=aa;have HI:=af λk hk=>mU P k hk;have HM:Hid (aS (a6 (gC xs (step n)) 16) 4080=true):=Rf λk _=>Gd aa;clear hq P R;go_enter Gz.gf func89,ntmps89;go_wp2_with(first|refine eY rfl rfl rfl aG ?_|refine eX aD rfl rfl aG ?_);have QQ:Q w (((w.alloc (ac (arr xs) 82)).alloc (ac (arr (an 16 0)) 82)).alloc (ac (arr (an 16 0)) 82)):=aR;have ba:=((Bl.new w xs hx).alloc (ac (arr (an 16 0)) 82)).alloc (ac (arr (an 16 0)) 82);have S:=(Bl.zero (w.alloc (ac (arr xs) 82))).alloc (ac (arr (an 16 0)) 82);have T:=Bl.zero ((w.alloc (ac (arr xs) 82)).alloc (ac (arr (an 16 0)) 82));simp only[BE] at S T;go_loopw[6] (λi wr=>∃k:Nat,k<=16/\i=U O k/\Hid (Bl wr w.heap.size xs/\Bl wr (w.heap.size+1) cn/\Q w wr/\Bl wr (w.heap.size+1+1) (a6 (λj=>if j<k then gC xs (step n) j else 0) 16))) (λi _=>16-(intOf i).toNat)
 case atStart=>exact⟨0,aa,rfl,ba,S,QQ,by rw[rX];exact T⟩
 case round=>
  obtain⟨k,hk,rfl,hK⟩:=hrel;obtain⟨J,K,u,L⟩:=hK.out;clear hK ba S T QQ;by_cases d:k<16
  ·have f:(k:Int)<16:=by omega
   have l:=sf (gC xs (step n)) k d;have M:=J.at k d;obtain⟨a1,a2⟩:=HI.out k aa;have T1:=af λz=>LO (n:Int) z rfl y;have b:gC xs (step n) k=cl (xs[k]?.getD 0*step n) 4080:=rfl;obtain⟨e1,e2⟩:=uZ y;generalize gC xs (step n) k=r at l b;obtain⟨V,C⟩:∃z,step n=z:=⟨_,rfl⟩;rw[C] at T1 b e1 e2;clear C;generalize xs[k]?.getD 0=x at M a1 a2 b;obtain⟨p1,p2⟩:=Rw a1 a2 e1 e2;obtain⟨p,X⟩:∃p,x*V=p:=⟨_,rfl⟩;rw[X] at p1 p2 b;have w1:AS.wrap (x*V)=p:=by rw[X];exact aB _ ⟨by omega,by omega⟩
   have w2:wrap64 (x*V)=p:=xA;have T3:=af λz=>afx p z;rw[<-b] at T3;have Z:=af l;have K1:=af J;have s:=af u;have K3:=af L;have K4:=af K;have z0:=J.lt;clear l b J u L K X;go_wp2;refine et (λww=>Q wr ww/\ww.cell? ⟨w.heap.size,k,none⟩=some (U O x)) (λj=>decide (9<=j)) ai ⟨(Q.refl _).drew,M⟩ λhS=>?_;refine ah 0 (h:=ah 1 (h:=ah 2 (h:=ah 3 (h:=ah 4 (h:=?_)))));refine bh (k:=5) ai rfl rfl λs a=>?_;go_simp;refine(T1.out _).mono ?_;rintro e wa⟨rfl,q1⟩;have t:=hS.1.trans q1;refine a.out _ _ ⟨t,(t.cell _ _ aa).trans M⟩ λhS=>?_;clear a s;refine aV ?_;refine ah 6 (h:=?_);refine bh (k:=7) ai rfl rfl λs a=>?_;go_simp;refine(T3.out _).mono ?_;rintro e wc⟨rfl,rfl⟩;refine a.out _ _ hS λhS=>?_;clear a s;refine aV ?_;refine bh (k:=8) ai rfl rfl λs a=>?_;go_simp;refine a.out _ _ hS λhS=>?_;clear a s;refine aV ?_;refine iu [9] 9 ai aq rfl ?_;have N:=K3.out.q t;have c3:=N.at k d;have f3:=N.free k;rw[sB d (Nat.le_refl _)] at c3;have n5:=af (N.set k r);rw[Z.out] at n5;have n1:=af ((K1.out.q t).aN (p:=⟨w.heap.size+1+1,k,none⟩) tY (U O r));have n2:=af ((K4.out.q t).aN (p:=⟨w.heap.size+1+1,k,none⟩) qT (U O r));have n4:=af ((s.out.trans t).set (p:=⟨w.heap.size+1+1,k,none⟩) qU (U O r));clear N t q1 hS M;go_wp2;go_roundw;case rel=>exact⟨k+1,aa,aH,n1.out,n2.out,n4.out,n5.out⟩
   case measure=>exact bg
  ·have f:k=16:=by omega
   subst f;rw[rV] at L;have D:(a6 (gC xs (step n)) 16).length=16:=DO;generalize E:a6 (gC xs (step n)) 16=ms at L HM D;have Ji:=af E;clear E;have F:=zB ms;go_wp2_with(first|refine eY rfl rfl rfl aG ?_|refine eX aD rfl rfl aG ?_);refine(Z0 D HM).mono ?_;rintro e wv⟨rfl,q1⟩;replace K:=K.q q1;replace u:=u.trans q1;have K4:=af u;clear u q1;generalize G:jW ms=vs at F⊢;have I':=af G;clear G;go_wp2_with(first|(first|refine eY rfl rfl rfl aG ?_|refine eX aD rfl rfl aG ?_)|(refine iH rfl _ _ rfl _ rfl _ _ rfl dh aG ?_;intro w9 b9 g9 s9));refine bodyPost_ret (v:=a5 (arr _)) (results_cell_row aD _ _ _ _ _ _ _ aD (Bl.blk b9) (Gz.gu underlying82) rfl (by rw[bO,F];exact mP)) rfl ⟨by rw[Ji.out,I'.out],K4.out.grown g9 λk e=>by have:=aL e;omega⟩
end
end Go.Proofs.Q0
