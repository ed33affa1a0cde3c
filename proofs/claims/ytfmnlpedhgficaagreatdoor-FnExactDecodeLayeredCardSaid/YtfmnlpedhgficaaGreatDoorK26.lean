import Derived.Test.YtfmnlpedhgficaaGreatDoorK25
import Derived.Deep.CutBlock
set_option maxRecDepth 100000
set_option maxHeartbeats 8000000
set_option linter.all false
open Go.Value renaming int->U,slice->Y,bool->a5,agg->a9,pointer->bi,tuple->ci,iface->em
open Go.IntKind renaming i64->O
open Go.Obj renaming cells->ac
open Go.Ending renaming returned->be
open Bool renaming and_eq_true->aft,and_false->ama,false->Bz,true->AT,true_and->alH
open Go renaming Addr->ajF,Calls->aiK,TypeId->TO,Value->so,World->AS
open Go.Instr renaming typeAssert->akc
open Go.IntKind renaming i64->EV
open Go.World renaming size_alloc->OF
open List renaming all_eq_true->aju,length_map->ako,range->ajv,range_succ->akq,replicate->rl,setIfInBounds_toArray->ajt,set_cons_succ->ajJ,set_cons_zero->ajx
open Option renaming none->ns,some->an
namespace Go.Proofs
def DK{p:Prop}(h:p:=by go_enter Gz.gf func30,ntmps30;go_wp2;refine(Ke c HX.out IA hn hm HT).mono ?_;rintro e w1⟨rfl,q1⟩;have cc:=(bc.q q1).cell;have cp:=(bp.q q1).cell;go_wp2;go_ret;exact⟨aj,q0.trans q1⟩):p:=h
def MH{p:Prop}(h:p:=by(clear yi;obtain⟨rfl,rfl,rd,rB,rn,rp⟩:=HR.out aa;have rc:=br.cell;go_wp2_with((with_reducible refine ep (ty:=92) _ 1 ?_ ?_ _ bq 2 ?_ _ (Gz.gu underlying92) ?_ jR ?_);exact rfl;exact rfl;omega;exact rfl;rw[hV]);refine(aac x y c' (rd.q q0 rB) (aI rB q0.size) rn rp aa aa aa aa v1 v2 v3 v4).mono ?_;rintro e w5⟨v,rfl,o5,q5⟩;rcases o5.dE with⟨_,h⟩|⟨g',c5,rfl,hB5,JL,_⟩;(exact absurd h al);go_wp2;go_meet;exact⟨λe=>absurd e aa,ip.q q5,(au.gV _ q0).q q5,bp.q q5,bq.q q5,CL.q q5,λ_=>⟨g',c5,rfl,by have:=q0.size;omega,JL,λi hi=>o5.at i hi⟩⟩)):p:=h
def LU{p:Prop}(h:p:=by
  go_wp2;go_roundw;case rel=>exact⟨k+1,aa,aF,Z6.out⟩
  case measure=>simp[intOf];omega):p:=h
def zk{p:Prop}(h:p:=by
  (have jt:=af f9;clear f9;have n1:=af (k1.set (p:=⟨w.heap.size+1+1,4*y+x,none⟩) rO (U O V));have n2:=af (k2.aN (p:=⟨w.heap.size+1+1,4*y+x,none⟩) uT (U O V));have n3:=af (k3.aN (p:=⟨w.heap.size+1+1,4*y+x,none⟩) rN (U O V));have n5:=af (k5.set (4*y+x) V);rw[jt.out] at n5;clear k1 k2 k3 k5)
  go_wp2;go_roundw;case rel=>first|exact⟨x+1,aa,aF,n1.out,n2.out,n3.out,n5.out⟩|exact⟨x+1,aa,aF,n1.out.drew,n2.out,n3.out.q (Q.refl _).drew,n5.out.q (Q.refl _).drew⟩
  case measure=>simp[intOf];omega):p:=h
end Go.Proofs
namespace Go.Proofs.Q0
open Go.Proofs.Tryz
variable{n k W H B:Nat}{p:Nat×Nat}{xs ref m:List Int}{w:AS}{A:Option ajF}{I:Bool}{RW RH:Int}{ls:List (List Int)}
section
open Go.RowKit
def tO(L:Int)(xs:List Int)(p:Nat×Nat):List Int:=
 (xs.set (p.1-p.2) (fM (xs[p.1-2*p.2]?.getD 0) (xs[p.1-p.2]?.getD 0) (xs[p.1]?.getD 0) (xs[p.1+p.2]?.getD 0) L)).set p.1
  (fN (xs[p.1-2*p.2]?.getD 0) (xs[p.1-p.2]?.getD 0) (xs[p.1]?.getD 0) (xs[p.1+p.2]?.getD 0) L)
def dU(W y k:Nat):Nat×Nat:=(y*W+4*(k+1),1)
def gL(W x k:Nat):Nat×Nat:=(4*(k+1)*W+x,W)
def bK(f:Nat->Nat->Nat×Nat)(m n k:Nat):List (Nat×Nat):=(ajv n).flatMap (λy=>(ajv m).map (f y))++(ajv k).map (f n)
def fY(W H:Nat):List (Nat×Nat):=bK (dU W) ((W-1)/4) H 0++bK (gL W) ((H-1)/4) W 0
def du(L:Int)(es:List (Nat×Nat))(xs:List Int):List Int:=es.foldl (tO L) xs
def sO(f:Nat->Nat->Nat×Nat)(m n k:Nat):bK f m n (k+1)=bK f m n k++[f n k]:=by unfold bK;rw[akq,List.map_append,List.append_assoc];rfl
def sP(f:Nat->Nat->Nat×Nat)(m n:Nat):bK f m (n+1) 0=bK f m n m:=by unfold bK;rw[akq,List.flatMap_append];simp
def PE(f:Nat->Nat->Nat×Nat)(m:Nat):bK f m 0 0=[]:=rfl
def PF(f:Nat->Nat->Nat×Nat)(m n:Nat):∀d,bK f m n 0<+:bK f m (n+d) 0
 |0=>List.prefix_refl _
 |d+1=>(PF f m n d).trans ⟨(ajv m).map (f (n+d)),by
   rw[show n+(d+1)=(n+d)+1 by omega,sP];unfold bK;simp⟩
def QH{f:Nat->Nat->Nat×Nat}{m N:Nat}(b:n<N)(d:k<=m):bK f m n k<+:bK f m N 0:=by
 have h1:bK f m n k<+:bK f m (n+1) 0:=by rw[sP];refine(List.prefix_append_right_inj _).2 ?_;refine⟨(List.range' k (m-k)).map (f n),?_⟩;rw[<-List.map_append];congr 1;have:=List.range'_append (s:=0) (m:=k) (n:=m-k) (step:=1);rw[List.range_eq_range',List.range_eq_range'];rw[show m=k+(m-k) by omega];simpa using this
 have a:=PF f m (n+1) (N-(n+1));rw[show n+1+(N-(n+1))=N by omega] at a;exact h1.trans a
def QI{f:Nat->Nat->Nat×Nat}{m N:Nat}(h:p∈bK f m N 0):∃y k,y<N/\k<m/\p=f y k:=by unfold bK at h;rw[List.range_zero,List.map_nil,List.append_nil,List.mem_flatMap] at h;obtain⟨y,a,h⟩:=h;obtain⟨k,b,rfl⟩:=oR.1 h;exact⟨y,k,fR.1 a,fR.1 b,rfl⟩
def kD(W H:Nat)(p:Nat×Nat):Prop:=1<=p.2/\p.2<=W/\2*p.2<=p.1/\p.1+p.2<H*W
def QJ{a b:Nat}(h:a<b):a*W+W<=b*W:=by have:=pN W (show a+1<=b from h);rw[Nat.succ_mul] at this;exact this
def afN{y:Nat}(hw:W%4=0)(a:y<H)(b:k<(W-1)/4):kD W H (dU W y k):=by have:=QJ (W:=W) a;unfold kD dU;omega
def afO{x:Nat}(a:H%4=0)(b:x<W)(d:k<(H-1)/4):kD W H (gL W x k):=by have h1:=QJ (W:=W) (show 4*(k+1)+1<H by omega);have e:=pN W (show 2<=4*(k+1) by omega);rw[Nat.succ_mul] at h1;unfold kD gL;omega
def Bd(hw:W%4=0)(d:H%4=0)(h:p∈fY W H):kD W H p:=by
 rcases vB.1 h with h|h
 ·obtain⟨y,k,a,b,rfl⟩:=QI h;exact afN hw a b
 ·obtain⟨y,k,a,b,rfl⟩:=QI h;exact afO d a b
def QK{L:Int}:(tO L xs p).length=xs.length:=by unfold tO;rw[List.length_set,List.length_set]
def abo(L:Int)(es:List (Nat×Nat))(p:Nat×Nat)(xs:List Int):du L (es++[p]) xs=tO L (du L es xs) p:=by unfold du;rw[List.foldl_append];rfl
def FM(L:Int)(xs:List Int):∀es:List (Nat×Nat),(du L es xs).length=xs.length:=λes=>by induction es generalizing xs with|nil=>rfl|cons p es a=>rw[du,List.foldl_cons];exact(a _).trans QK
def ac4(L:Int)(h:dm xs=AT)(i:xs.length=H*W)(e:kD W H p):dm (tO L xs p)=AT:=by unfold kD at e;have f:=pZ h (p.1-p.2) aa;have hc:=pZ h p.1 aa;have b:=afJ (a:=xs[p.1-2*p.2]?.getD 0) (d:=xs[p.1+p.2]?.getD 0) (L:=L) f hc;exact Gg (Gg h b.1.1 b.1.2) b.2.1 b.2.2
def FN{W H:Nat}(L:Int):∀(es:List (Nat×Nat)){xs:List Int},dm xs=AT->xs.length=H*W->(∀p∈es,kD W H p)->dm (du L es xs)=AT
 |[],_,h,_,_=>h
 |p::es,_,h,a,b=>FN L es (ac4 L h a (b p aj)) (by rw[QK];exact a) (λq hq=>b q (by simp[hq]))
end
section
open Go.RowKit
def iY(I:Bool)(W H a b:Int)(xs:List Int):Bool:=I||(bU a b xs&&(a==W&&b==H))
def Zd(W H:Int)(I:Bool)(q:Int)(S:so)(a b:Int)(c:Nat)(l:Rd w B A xs)(r:B<=w.heap.size)(u:Hid (xs.length=n))(hm:n<=9223372036854775807):
  aiK Gz.prog 54 #[a9 #[U O W,U O H,a5 I,U O q,S],a9 #[U O a,U O b,Y A n c]] w λe w'=>e=be (a5 (iY I W H a b xs))/\Q w w':=by
 have d:Q w ((w.alloc (ac #[U O W,U O H,a5 I,U O q,S] 44)).alloc (ac #[U O a,U O b,Y A n c] 40)):=aU;have z:=(ak.new w 44 #[U O W,U O H,a5 I,U O q,S]).alloc (ac #[U O a,U O b,Y A n c] 40);have v:=ak.new (w.alloc (ac #[U O W,U O H,a5 I,U O q,S] 44)) 40 #[U O a,U O b,Y A n c];rw[OF] at v;have x:=af (l.q d r);have f:=aI r d.size;clear l;cases I with
 |true=>have h:iY AT W H a b xs=AT:=rfl;rw[h];go_enter Gz.gf func54,ntmps54;go_wp2;go_ret;exact⟨rfl,d⟩
 |false=>
  obtain⟨t,i⟩:∃t,bU a b xs=t:=⟨_,rfl⟩;have y:=af i;have h:iY Bz W H a b xs=(t&&(a==W&&b==H)):=by unfold iY;rw[i];rfl
  rw[h];obtain⟨s,j⟩:∃s,(a==W&&b==H)=s:=⟨_,rfl⟩;rw[j];have C:=af j;clear i j h;cases t with
  |false=>go_enter Gz.gf func54,ntmps54;go_wp2;refine(CU c x.out f u hm y).mono ?_;rintro e D⟨rfl,q1⟩;go_wp2;go_ret;exact⟨aj,d.trans q1⟩
  |true=>go_enter Gz.gf func54,ntmps54;go_wp2;refine(CU c x.out f u hm y).mono ?_;rintro e D⟨rfl,q1⟩;have F:=(z.q q1).cell;have G:=(v.q q1).cell;go_wp2;refine(YA Bz q S C).mono ?_;rintro e J⟨rfl,E⟩;go_wp2;go_ret;exact⟨aj,(d.trans q1).trans E⟩
def abp(W H:Int)(I:Bool)(q:Int)(S:so)(a b:Int)(c:Nat)(r:Rd w B A xs)(u:B<=w.heap.size)(hn:Hid (xs.length=n))(hm:n<=9223372036854775807):
  aiK Gz.prog 30 #[a9 #[U O W,U O H,a5 I,U O q,S],a9 #[U O a,U O b,Y A n c]] w λe w'=>e=be (a5 (iY I W H a b xs))/\Q w w':=by
 have q0:Q w ((w.alloc (ac #[U O W,U O H,a5 I,U O q,S] 44)).alloc (ac #[U O a,U O b,Y A n c] 40)):=aU;have bc:=(ak.new w 44 #[U O W,U O H,a5 I,U O q,S]).alloc (ac #[U O a,U O b,Y A n c] 40);have bp:=ak.new (w.alloc (ac #[U O W,U O H,a5 I,U O q,S] 44)) 40 #[U O a,U O b,Y A n c];rw[OF] at bp;have HX:=af (r.q q0 u);have IA:=aI u q0.size;clear r;cases I with
 |true=>have h:iY AT W H a b xs=AT:=rfl;rw[h];go_enter Gz.gf func30,ntmps30;go_wp2;go_ret;exact⟨rfl,q0⟩
 |false=>
  obtain⟨t,i⟩:∃t,bU a b xs=t:=⟨_,rfl⟩;have HT:=af i;have h:iY Bz W H a b xs=(t&&(a==W&&b==H)):=by unfold iY;rw[i];rfl
  rw[h];obtain⟨s,j⟩:∃s,(a==W&&b==H)=s:=⟨_,rfl⟩;rw[j];have l:=af j;clear i j h;cases t with
  |false=>go_enter Gz.gf func30,ntmps30;go_wp2;refine(Ke c HX.out IA hn hm HT).mono ?_;rintro e y⟨rfl,q1⟩;go_wp2;go_ret;exact⟨aj,q0.trans q1⟩
  |true=>
   by_cases h1:a=W
   ·by_cases f:b=H
    ·have d:s=AT:=by rw[<-l.out];simp[h1,f]
     subst d h1 f;exact DK
    ·have d:s=Bz:=by rw[<-l.out];simp[f]
     have v:(b==H)=Bz:=by rw[beq_eq_false_iff_ne];exact f
     subst d h1;clear f;exact DK
   ·have d:s=Bz:=by rw[<-l.out];simp[h1]
    have x:(a==W)=Bz:=by rw[beq_eq_false_iff_ne];exact h1
    subst d;clear h1;exact DK
end
section
open Go.RowKit Go.WideShapes Go.ChangeShapes
def T4(n:Int)(I:Bool)(a:bytes xs):jv xs n I=fj xs n I:=(ab0 xs n I).trans (ad6 n I a).symm
def ac5{cnt:Nat}{L:List Int}(h:fj xs cnt I=an L):gx I L cnt=AT:=by
 unfold fj at h;split at h
 ·split at h
  ·cases h
  ·rename_i b d;split at h
   ·rename_i ys a;split at h
    ·injection h with h;unfold eI at a;split at a
     ·simp_all
     ·cases a
    ·cases h
   ·cases h
 ·cases h
def R5{cnt:Nat}{L:List Int}(h:fj xs cnt I=an L)(k:Nat)(b:k<cnt):dt (aO L k)=AT/\(I=AT->nth (aO L k) 0=2):=by have h1:=F2 (ac5 h) b;unfold dS at h1;rw[aft] at h1;refine⟨h1.1,λd=>?_⟩;have a:=h1.2;rw[d,Bool.not_true,Bool.false_or,beq_iff_eq] at a;exact a
def dv(W H:Int)(I:Bool)(q:Int)(ls:List (List Int))(RW RH:Int)(ref:List Int):Bool:=iK W H q ls.length&&(iY I W H RW RH ref&&(ajv ls.length).all λi=>(fj (aR ls i) (W/8) I).isSome)
def iP(W:Int)(I:Bool)(ls:List (List Int))(i:Nat):List Int:=(fj (aR ls i) (W/8) I).getD []
def lH(W H:Int)(I:Bool)(q:Int)(ls:List (List Int))(ref:List Int):List Int:=iJ W.toNat H.toNat ref (iP W I ls) q ls.length (rl (W.toNat*H.toNat) 128)
def jy(W H:Int)(I:Bool)(q:Int)(ls:List (List Int))(ref:List Int):List Int:=du (fX q.toNat) (fY W.toNat H.toNat) (lH W H I q ls ref)
def QL{W H:Int}{q:Int}(h:iK W H q ls.length=Bz):dv W H I q ls RW RH ref=Bz:=by unfold dv;rw[h];rfl
def QM{W H:Int}{q:Int}(h:iY I W H RW RH ref=Bz):dv W H I q ls RW RH ref=Bz:=by unfold dv;rw[h,Bool.false_and,ama]
theorem PG{W H:Int}{q:Int}{i:Nat}(hi:i<ls.length)(h:fj (aR ls i) (W/8) I=ns):dv W H I q ls RW RH ref=Bz:=by have:((ajv ls.length).all λi=>(fj (aR ls i) (W/8) I).isSome)=Bz:=fu;unfold dv;rw[this,ama,ama]
def PI{W H:Int}{q:Int}(h1:iK W H q ls.length=AT)(a:iY I W H RW RH ref=AT)(b:∀i,i<ls.length->∃L,fj (aR ls i) (W/8) I=an L):dv W H I q ls RW RH ref=AT:=by unfold dv;rw[h1,a,alH,alH,aju];intro i hi;obtain⟨L,d⟩:=b i (fR.1 hi);rw[d];rfl
def S2{W H:Int}(h:iY I W H RW RH ref=AT)(a:I=Bz):RW=W/\RH=H/\bU W H ref=AT:=by unfold iY at h;rw[a,Bool.false_or,aft,aft,beq_iff_eq,beq_iff_eq] at h;obtain⟨h1,b,d⟩:=h;subst b d;exact⟨rfl,rfl,h1⟩
theorem agT(W H:Int)(I:Bool)(q:Int)(c:Nat){f h:ajF}(r:dH w B A ls)(s:B<=w.heap.size)(t:ls.length=n)(he:gw w f h B)(u:dz w f)(v:dz w h):
  aiK Gz.prog 53 #[a9 #[U O W,U O H,a5 I,U O q,Y A n c]] w λe w'=>Q w w'/\
   ((∃b,∃cnt:Nat,e=be (ci #[a9 #[U O W,U O H,a5 I,U O q,Y A n c,Y (an ⟨b,0,ns⟩) n n],a5 AT])/\iK W H q n=AT/\W/8=(cnt:Int)/\
    (∀i,i<n->∃L gl cl,fj (aR ls i) cnt I=an L/\w'.cell? ⟨b,i,ns⟩=an (Y (an ⟨gl,0,ns⟩) cnt cl)/\ay 97 71 w' w.heap.size (Y (an ⟨gl,0,ns⟩) cnt cl) cnt L))\/
   (e=be (ci #[a9 #[U O 0,U O 0,a5 Bz,U O 0,Y ns 0 0,Y ns 0 0],a5 Bz])/\∀RW RH ref,dv W H I q ls RW RH ref=Bz)):=by
 subst t;cases a:iK W H q ls.length with
 |false=>exact(aeI I A c w a).mono λe w'⟨h1,d⟩=>⟨d,.inr ⟨h1,λ_ _ _=>QL a⟩⟩
 |true=>
  obtain⟨⟨x,y,w3⟩,_,_,_⟩:=oT a;obtain⟨cnt,hc⟩:∃cnt:Nat,W/8=(cnt:Int):=⟨(W/8).toNat,aa⟩;refine(acY I c a r s rfl he u v hc).mono λe w'⟨h1,d⟩=>⟨h1,?_⟩;rcases d with⟨b,j,l⟩|⟨j,i,hi,l⟩
  ·grind
  ·exact .inr ⟨j,λ_ _ _=>PG hi (by rw[hc];exact l)⟩
end
section
open Go.RowKit
def afP(v:so)(w:AS):(akc (em 195 v) 193 195 AT).run Gz.prog w=.ok (ci #[v,a5 AT]) w:=aE
def afQ(v:so)(w:AS):(akc (em 196 v) 193 196 AT).run Gz.prog w=.ok (ci #[v,a5 AT]) w:=aE
def aae(v:so)(w:AS):(akc (em 195 v) 193 196 AT).run Gz.prog w=.ok (ci #[a9 (arr (rl 71 0)),a5 Bz]) w:=aE
def aaf(v:so)(w:AS):(akc (em 196 v) 193 195 AT).run Gz.prog w=.ok (ci #[a9 (arr (rl 71 0)),a5 Bz]) w:=aE
def aag(v:so)(w:AS):(akc (em 229 v) 193 195 AT).run Gz.prog w=.ok (ci #[a9 (arr (rl 71 0)),a5 Bz]) w:=aE
def aah(v:so)(w:AS):(akc (em 229 v) 193 196 AT).run Gz.prog w=.ok (ci #[a9 (arr (rl 71 0)),a5 Bz]) w:=aE
end
section
open Go.RowKit
theorem S3(q:m.length=71)(b:dt m=AT):(nth m 0=0\/nth m 0=1\/nth m 0=2)/\(-16<=nth m 1/\nth m 1<=16)/\(-16<=nth m 2/\nth m 2<=16)/\(nth m 0=2->∀k,k<4->0<=nth m (3+k)/\nth m (3+k)<=4)/\aS (sub m 7 64) 4080=AT:=by
 unfold dt lB kt at b;simp only[aft,decide_eq_true_eq] at b;obtain⟨⟨h1,f,h⟩,i⟩:=b;have d:∀j,aq m j=nth m j:=λ_=>rfl;simp only[d] at h1 f h;refine⟨?_,f,h,λh0 k hk=>?_,i⟩
 ·grind
 ·rw[if_neg aa,if_neg aa,if_pos h0,aft] at h1
  have l:=hU.1 h1.1 (nth m (3+k)) (by
   have e:=gq m 3 4 k hk;have a:k<(sub m 3 4).length:=C0
   rw[show nth m (3+k)=(sub m 3 4)[k] by
    unfold nth;rw[<-e,List.getElem?_eq_getElem a];rfl]
   exact sf a)
  simpa using l
def afR(h:aS (sub m 7 64) 4080=AT)(k:Nat)(a:k<4):aS (lvl m k) 4080=AT:=by rw[<-AZ m a];unfold aS at h⊢;rw[aju] at h⊢;exactλx b=>h x (List.drop_subset _ _ (List.take_subset _ _ b))
def R6(a:m.length=71)(b:k<4):(lvl m k).length=16:=bS aa
structure lI(o:Nat)(w wr:AS)(W H g n c B:Nat)(xs m:List Int)(mv:so)(ms:List Int):Prop where
 own:Own wr B (Y (an ⟨g,0,ns⟩) n c) n xs
 az:au [g] w wr
 j4:ak wr (w.heap.size+o) 40 #[U O W,U O H,Y (an ⟨g,0,ns⟩) n c]
 aO:Nb 97 71 wr (w.heap.size+2) m
 tb:Tb wr
 yk:nth m 0≠2->∃b c',mv=Y (an ⟨b,0,ns⟩) 64 c'/\b≠g/\b<wr.heap.size/\∀i,i<64->wr.cell? ⟨b,i,ns⟩=an (U O (ms[i]?.getD 0))
variable{o:Nat}{w wr w':AS}{W H g n c B:Nat}{xs m ys:List Int}{mv:so}{ms:List Int}
def lI.q(h:lI o w wr W H g n c B xs m mv ms)(q:Q wr w'):lI o w w' W H g n c B xs m mv ms:=
 ⟨h.own.q q,h.az.q q,h.j4.q q,h.aO.q q,h.tb.q q,λhm=>by obtain⟨b,c',e,h1,a,d⟩:=h.yk hm;exact⟨b,c',e,h1,bH a q.size,λi hi=>(q.cell b i a).trans (d i hi)⟩⟩
def lI.put(h:lI o w wr W H g n c B xs m mv ms)(k:Own w' B (Y (an ⟨g,0,ns⟩) n c) n ys)(x:au [g] wr w')(f:g<w.heap.size)(h0:g≠4):lI o w w' W H g n c B ys m mv ms:=
 ⟨k,h.az.trans x,h.j4.az x aA,h.aO.az x aA,h.tb.az x aA,λhm=>by obtain⟨b,c',e,h1,a,d⟩:=h.yk hm;exact⟨b,c',e,h1,bH a x.size,λi hi=>(nK x a (by simpa using h1)).trans (d i hi)⟩⟩
def lI.rd(h:lI o w wr W H g n c B xs m mv ms)(hm:nth m 0≠2)(f:ms.length=64):∃b c',mv=Y (an ⟨b,0,ns⟩) 64 c'/\b<wr.heap.size/\Rd wr wr.heap.size (an ⟨b,0,ns⟩) ms:=by obtain⟨b,c',e,_,a,d⟩:=h.yk hm;exact⟨b,c',e,a,λ_=>⟨b,0,rfl,a,λi hi=>by rw[Nat.zero_add];exact d i aa⟩⟩
def Xh{P:Program}{b:Array Oper}{S:AS->Prop}{f:Oper}{a:Act}{t:TO}{h i off:Nat}{e:List Int}(hw:Region.wanted f (yielded b a.tmps)=AT){ty:TO}{x:Operand}(l:f.op=.load ty x)(q:a.eval x=bi (an ⟨i,off,ns⟩))(r:off+k<=h){d:TypeDesc}(hS:∀w,S w->Nb t h w i e)(s:e.length=h)
  (hu:P.underlying ty=an d)(hd:d.isRow=AT)(hi:(P.info? ty).map (·.size)=an k):YieldsIf P b S f (a9 (arr (sub e off k))) a:=
 yieldsIf_load_mid hw ty x l i off q ((sub e off k).map (Value.int .i64)) d (λw j=>(hS w j).range off k r) hu hd (by rw[ako,bS (by omega)];exact hi)
def WZ{P:Program}{b:Array Oper}{S:AS->Prop}{h:Oper}{a:Act}{t:TO}{s e l q i off:Nat}{f:List Int}(hw:Region.wanted h (yielded b a.tmps)=AT){ty:TO}{x:Operand}(r:h.op=.load ty x)(u:a.eval x=bi (an ⟨i,off,ns⟩))(v:off+k<=e*s){d:TypeDesc}(hS:∀w,S w->ay t s w l (Y (an ⟨i,0,ns⟩) e q) e f)(y:f.length=e*s)
  (hu:P.underlying ty=an d)(hd:d.isRow=AT)(hi:(P.info? ty).map (·.size)=an k):YieldsIf P b S h (a9 (arr (sub f off k))) a:=
 yieldsIf_load_mid hw ty x r i off u ((sub f off k).map (Value.int .i64)) d (λw j=>(hS w j).range off k v) hu hd (by rw[ako,bS (by omega)];exact hi)
theorem BD{W H n:Nat}{xs:List Int}(h:(xs.length:Int)=(W:Int)*(H:Int))(a:xs.length=n):n=H*W:=fu
def S4{W H x y a k b d:Nat}{ref xs m:List Int}(h:nth m 0=2)(e:x+k%2*4=b)(f:y+k/2*4=d):kL W H ref xs x y a m k=
  mI (nth m (3+k)).toNat (eA W H xs b d (decide (a<d))) (eL W H xs b d (decide (0<b))) (eC W H xs b d (decide (a<d)) (decide (0<b))) (decide (a<d)) (decide (0<b)):=by
 subst e f;unfold kL;rw[if_pos h]
def S6{W H x y a k i j:Nat}{ref xs m:List Int}(h:nth m 0≠2)(hi:k%2*4=i)(b:k/2*4=j):kL W H ref xs x y a m k=mu (lG W H ref x y (nth m 1) (nth m 2)) i j:=by subst hi b;unfold kL;rw[if_neg h]
def agU(w:AS):(binOp .eql 38 (Y ns 0 0) (Y ns 0 0)).run Gz.prog w=.ok (a5 AT) w:=aE
def agV{g:ajF}{n c:Nat}(w:AS):(binOp .eql 38 (Y (an g) n c) (Y ns 0 0)).run Gz.prog w=.ok (a5 Bz) w:=aE
def agW(w:AS):(eqGuard .eql 38 (.tmp 46) (.const (Y ns 0 0)) (Y ns 0 0) (Y ns 0 0)).run Gz.prog w=.ok () w:=aE
def agX{g:ajF}{n c:Nat}(w:AS):(eqGuard .eql 38 (.tmp 46) (.const (Y ns 0 0)) (Y (an g) n c) (Y ns 0 0)).run Gz.prog w=.ok () w:=aE
end
section
open Go.RowKit
def Yw{x y:Nat}(a:Nat){g c:Nat}(L c' B':Nat)(M:Option ajF)(ref:List Int)(q RW RH:Int)(ho:Own w B (Y (an ⟨g,0,ns⟩) n c) n xs)(hB:4<B)(hp:bU W H xs=AT)(hl:m.length=71)(hv:dt m=AT)
  (hx:x+8<=W)(hy:y+8<=H)(hT:Tb w)(hr:nth m 0≠2->RW=W/\RH=H/\Rd w B' M ref/\B'<=w.heap.size/\ref.length=L/\bU W H ref=AT):
  aiK Gz.prog 124 #[a9 #[U O W,U O H,Y (an ⟨g,0,ns⟩) n c],a9 #[U O RW,U O RH,Y M L c'],U O x,U O y,a9 (arr m),U O q,U O a] w λe w'=>e=be (ci #[])/\Own w' B (Y (an ⟨g,0,ns⟩) n c) n (ef W H ref x y a m q 4 xs)/\au [g] w w':=by
 obtain⟨k0,⟨v1,v2⟩,⟨v3,v4⟩,km,kl⟩:=S3 hl hv;obtain⟨ut,rJ⟩:=ho.block;have JM:g≠4:=aa;obtain⟨⟨p1,p2,p3⟩,⟨p4,p5,p6⟩,p7,p8⟩:=kg hp;have uM:=ho.1;have rL:=af λk=>qo hp (Aw W H ref x y a m q xs k) (Ax W H ref x y a m q p8 k);have hn:n=H*W:=BD p7 uM;have S':n<=1024:=by rw[hn];exact gj (show H<=32 by omega) (show W<=32 by omega)
 have Do:=af hn;clear hn;have hV:sub m 1 2=[nth m 1,nth m 2]:=lW m 1 aa;have Wj:(sub m 7 64).length=64:=bS aa;have TK:=af λz=>kindOf m z hl;have bq:=Nb.new 97 71 ((w.alloc (ac (#[U O W,U O H,Y (an ⟨g,0,ns⟩) n c]:Array so) 40)).alloc (ac #[U O RW,U O RH,Y M L c'] 40)) m hl;simp only[OF] at bq;have q0:Q w (((w.alloc (ac (#[U O W,U O H,Y (an ⟨g,0,ns⟩) n c]:Array so) 40)).alloc (ac #[U O RW,U O RH,Y M L c'] 40)).alloc (ac (arr m) 97)):=aU;have bp:=((ak.new w 40 (#[U O W,U O H,Y (an ⟨g,0,ns⟩) n c]:Array so)).alloc (ac #[U O RW,U O RH,Y M L c'] 40)).alloc (ac (arr m) 97);have br:=(ak.new (w.alloc (ac (#[U O W,U O H,Y (an ⟨g,0,ns⟩) n c]:Array so) 40)) 40 #[U O RW,U O RH,Y M L c']).alloc (ac (arr m) 97);rw[OF] at br;have HR:=af hr;have KM:=af km;clear hr km hv p7 p8;go_enter Gz.gf func124,ntmps124;go_wp2_with((with_reducible refine e8 (n:=71) rfl _ _ rfl _ rfl _ aG _ (Gz.gu underlying97) rfl gN ?_));generalize(((w.alloc (ac (#[U O W,U O H,Y (an ⟨g,0,ns⟩) n c]:Array so) 40)).alloc (ac #[U O RW,U O RH,Y M L c'] 40)).alloc (ac (arr m) 97))=w0 at q0 bp br bq⊢;refine(TK.out _).mono ?_;rintro e w1⟨rfl,q1⟩;replace bq:=bq.q q1;replace bp:=bp.q q1;replace br:=br.q q1;replace q0:=q0.trans q1;have ip:=ho.q q0;have CL:=hT.q q0;clear q1 TK;generalize yi:lq m=kv
 go_upto_block 0 with fail
 go_cut[14] (λs wx=>(nth m 0=2->s=Y ns 0 0)/\Hid (lI 0 w wx W H g n c B xs m s (lG W H ref x y (nth m 1) (nth m 2))))
 case first=>
  rcases k0 with h0|h0|h0
  case inr.inr=>
   obtain rfl:kv=em 229 (a9 (arr m)):=by have e:aq m 0=2:=h0;rw[<-yi];unfold lq;rw[e];rfl
   have f1:=aag (a9 (arr m));have f2:=aah (a9 (arr m));clear yi;go_wp2;go_meet;exact⟨λ_=>rfl,ip,au.gV _ q0,bp,bq,CL,λe=>absurd h0 e⟩
  case inl=>
   obtain rfl:kv=em 195 (a9 (arr m)):=by have e:aq m 0=0:=h0;rw[<-yi];unfold lq;rw[e];rfl
   have f1:=afP (a9 (arr m));have f2:=aae (a9 (arr m));exact MH
  case inr.inl=>
   obtain rfl:kv=em 196 (a9 (arr m)):=by have e:aq m 0=1:=h0;rw[<-yi];unfold lq;rw[e];rfl
   have f1:=aaf (a9 (arr m));have f2:=afQ (a9 (arr m));exact MH
 case rest=>
  obtain⟨D,hS⟩:=hcut;have bq:=hS.out.aO;go_wp2_with((with_reducible refine ep (ty:=95) _ 7 ?_ ?_ _ bq 64 ?_ _ (Gz.gu underlying95) ?_ vV ?_);exact rfl;exact rfl;omega;exact rfl);clear bq;go_loopw[37] (λi wr=>∃k:Nat,k<=4/\i=U O k/\Hid (lI 0 w wr W H g n c B (ef W H ref x y a m q k xs) m u14 (lG W H ref x y (nth m 1) (nth m 2)))) (λi _=>4-(intOf i).toNat)
  case atStart=>exact⟨0,aa,rfl,hS⟩
  case round=>
   clear hS;obtain⟨k,hk,rfl,hK⟩:=hrel;by_cases l:k<4
   ·have i6:(k:Int)<4:=by omega
    have he:∀w,(Instr.index 95 (a9 (arr (sub m 7 64))) (U O (k:Int))).run Gz.prog w=.ok (a9 (arr (lvl m k))) w:=λw=>by have h:=DT Wj l w;rw[AZ m l] at h;exact h
    have Fd:=R6 hl l;have T1:=af λz=>partAt k z l;obtain⟨i,hi⟩:∃i,k%2*4=i:=⟨_,rfl⟩;obtain⟨j,hj⟩:∃j,k/2*4=j:=⟨_,rfl⟩;have Wk:i<=4:=aa;have Wl:j<=4:=aa;have HX:=af (rL.out k);have HS:Hid (ef W H ref x y a m q (k+1) xs=iO W (x+k%2*4) (y+k/2*4) (kL W H ref (ef W H ref x y a m q k xs) x y a m k) (gY (lvl m k) q) 16 (ef W H ref x y a m q k xs)):=rfl;have N:=af (QG W H ref (ef W H ref x y a m q k xs) x y a m k);have rh:=af (R4 (W:=W) (H:=H) (ref:=ref) x y a (m:=m) k HX.out λe=>(HR.out e).2.2.2.2.2);obtain⟨xi,r⟩:∃z,x+k%2*4=z:=⟨_,rfl⟩;obtain⟨yj,t⟩:∃z,y+k/2*4=z:=⟨_,rfl⟩;have P:=af λh=>@S4 W H x y a k xi yj ref (ef W H ref x y a m q k xs) m h r t;have yl:=af λh=>@S6 W H x y a k i j ref (ef W H ref x y a m q k xs) m h hi hj;rw[r,t] at HS;generalize kL W H ref (ef W H ref x y a m q k xs) x y a m k=pb at HS N rh P yl;generalize ef W H ref x y a m q k xs=ys at HX HS P hK;rw[hi] at r;rw[hj] at t;rw[hi,hj] at T1;have tx:EV.wrap ((x:Int)+(i:Int))=(xi:Int):=by rw[<-r];exact aB _ ⟨by omega,by omega⟩
    have ty:EV.wrap ((y:Int)+(j:Int))=(yj:Int):=by rw[<-t];exact aB _ ⟨by omega,by omega⟩
    have pJ:xi+4<=W:=aa;have pK:yj+4<=H:=aa
    have he2:∀w,(binOp .eql 38 u14 (Y ns 0 0)).run Gz.prog w=.ok (a5 (decide (nth m 0=2))) w:=λw=>by
     by_cases f:nth m 0=2
     ·rw[D f,decide_eq_true f];exact agU w
     ·obtain⟨b,c',e,_⟩:=hK.out.yk f;rw[e,decide_eq_false f];exact agV w
    have he3:∀w,(eqGuard .eql 38 (.tmp 46) (.const (Y ns 0 0)) u14 (Y ns 0 0)).run Gz.prog w=.ok () w:=λw=>by
     by_cases f:nth m 0=2
     ·rw[D f];exact agW w
     ·obtain⟨b,c',e,_⟩:=hK.out.yk f;rw[e];exact agX w
    obtain⟨bb,R⟩:∃z,decide (nth m 0=2)=z:=⟨_,rfl⟩;rw[R] at he2;have CD:=af R;have Cg:=af D;have bz:=Bl.zero wr;have HXY:Hid (x+i=xi/\y+j=yj):=⟨r,t⟩;clear hi hj r t R D;go_wp2_with((refine jg rfl _ _ rfl _ rfl _ _ rfl dw aG ?_;intro K b9 g9 s9));refine(T1.out _).mono ?_;rintro e w9'⟨rfl,rfl⟩;have q9:Q wr K:=Q.grown ((Q.refl wr).alloc _) g9 (λk e=>by have:=aJ e;omega);rw[OF] at s9;have C:Bl (K.alloc (ac (#[U O 0,U O 0,U O 0,U O 0,U O 0,U O 0,U O 0,U O 0,U O 0,U O 0,U O 0,U O 0,U O 0,U O 0,U O 0,U O 0]:Array so) 94)) K.heap.size (rl 16 0):=Bl.zero K;have E:Bl (K.alloc (ac (#[U O 0,U O 0,U O 0,U O 0,U O 0,U O 0,U O 0,U O 0,U O 0,U O 0,U O 0,U O 0,U O 0,U O 0,U O 0,U O 0]:Array so) 94)) wr.heap.size (lvl m k):=b9.alloc _;have qb:Q wr (K.alloc (ac (#[U O 0,U O 0,U O 0,U O 0,U O 0,U O 0,U O 0,U O 0,U O 0,U O 0,U O 0,U O 0,U O 0,U O 0,U O 0,U O 0]:Array so) 94)):=q9.alloc _;have szb:(K.alloc (ac (#[U O 0,U O 0,U O 0,U O 0,U O 0,U O 0,U O 0,U O 0,U O 0,U O 0,U O 0,U O 0,U O 0,U O 0,U O 0,U O 0]:Array so) 94)).heap.size=wr.heap.size+2:=by rw[OF,s9]
    rw[s9] at C;clear b9 g9 bz he T1
    go_upto_if 47 with fail
    generalize K.alloc (ac (#[U O 0,U O 0,U O 0,U O 0,U O 0,U O 0,U O 0,U O 0,U O 0,U O 0,U O 0,U O 0,U O 0,U O 0,U O 0,U O 0]:Array so) 94)=wb at C E qb szb⊢;clear s9 q9;go_cut[] from 48 to 65 (λwx=>Hid (Q wr wx/\Bl wx wr.heap.size (lvl m k)/\Bl wx (wr.heap.size+1) pb))
    case first=>
     cases bb with
     |true=>
      have f:nth m 0=2:=of_decide_eq_true CD.out;have F:=hK.out.q qb;obtain⟨md,S⟩:∃z:Nat,nth m (3+k)=(z:Int):=⟨(nth m (3+k)).toNat,by have:=KM.out f k l;omega⟩;have Ij:md<5:=by have:=KM.out f k l;omega
      have cm:wb.cell? ⟨w.heap.size+1+1,3+k,ns⟩=an (U O (nth m (3+k))):=F.aO.at (3+k) aa;have G:=P.out f;rw[S] at cm G;rw[Int.toNat_natCast] at G;have Cc:=af G;have u:=af F;have pc:=F.j4.cell;have ym:=af S;clear G F S;go_wp2;refine fe (λJ=>Q wb J/\(∀i,J.cell? ⟨w.heap.size,i,ns⟩=(#[U O W,U O H,Y (an ⟨g,0,ns⟩) n c]:Array so)[i]?)/\J.cell? ⟨w.heap.size+1+1,3+k,ns⟩=an (U O (md:Int))) (λj=>decide (14<=j)) ah ⟨(Q.refl _).drew,pc,cm⟩ λhS=>?_;refine ai 0 (h:=ai 1 (h:=ai 2 (h:=ai 3 (h:=ai 4 (h:=ai 5 (h:=ai 6 (h:=ai 7 (h:=ai 9 (h:=ai 10 (h:=ai 11 (h:=ai 12 (h:=?_))))))))))));refine bA (k:=8) ah rfl rfl λT d=>?_;go_simp;refine(Z9 xi yj a c (u.out.q hS.1).own.rd (av _) (u.out.own.1) HX aa aa).mono ?_;rintro e w3⟨rfl,q3⟩;have y3:=hS.1.trans q3;refine d.out _ _ ⟨y3,(u.out.q y3).j4.cell,(u.out.aO.q y3).at (3+k) aa|>.trans (congrArg (λz=>an (Value.int .i64 z)) ym.out)⟩ λhS=>?_;clear d T;refine bh ?_;refine bA (k:=13) ah rfl rfl λT d=>?_;go_simp;refine(Yv Ij (Hh HX.out xi yj)).mono ?_;rintro e w4⟨rfl,q4⟩;rw[<-Cc.out];have y4:=y3.trans q4;refine d.out _ _ ⟨y4,(u.out.q y4).j4.cell,(u.out.aO.q y4).at (3+k) aa|>.trans (congrArg (λz=>an (Value.int .i64 z)) ym.out)⟩ λhS=>?_;clear d T;refine bh ?_;refine iB [14] 14 ah al rfl ?_;have b5:=C.q y4;have Ik:=N.out;refine jg rfl _ _ rfl _ rfl _ _ rfl Ik b5 ?_;intro w6 b6 g6 s6;go_wp2;go_meet;have q6:=(qb.trans y4).grown g6 (λk e=>by have:=aJ e;omega);exact⟨q6,(E.q y4).grown g6 (λe=>by have:=aJ e;omega),b6⟩
     |false=>have f:nth m 0≠2:=of_decide_eq_false CD.out;obtain⟨bm,cm,rfl,hbm,V'⟩:=(hK.out.q qb).rd f wD;go_wp2;refine(partOf i j _ cm _ _ wb V' (av _) wD Wk Wl).mono ?_;rintro e w5⟨rfl,q5⟩;rw[<-yl.out f];have b5:=C.q q5;go_wp2_with((refine jg rfl _ _ rfl _ rfl _ _ rfl dw aG ?_;intro w6 b6 g6 s6));go_meet;have q6:=(qb.trans q5).grown g6 (λk e=>by have:=aJ e;omega);exact⟨q6,(E.q q5).grown g6 (λe=>by have:=aJ e;omega),b6⟩
    case rest=>
     obtain⟨qc,bc1,bc2⟩:=hcut.out;have V:=hK.out.q qc;have pc:=V.j4.cell;have CM:=af V;clear hcut C E qb V;go_wp2;refine fe (λJ=>(∀i,J.cell? ⟨w.heap.size,i,ns⟩=(#[U O W,U O H,Y (an ⟨g,0,ns⟩) n c]:Array so)[i]?)/\Bl J wr.heap.size (lvl m k)/\Bl J (wr.heap.size+1) pb) (λ_=>Bz) ah ⟨pc,bc1.drew,bc2.drew⟩ λhS=>?_;refine ai 0 (h:=ai 1 (h:=ai 2 (h:=ai 3 (h:=ai 4 (h:=ai 5 (h:=ai 6 (h:=ai 9 (h:=?_))))))));refine pU (i:=7) (v:=a9 (arr ?Vn)) rfl ah ah ah ah (λ_ _ _ h=>h) (yy aD rfl rfl λJ X=>?hz1) hS ?TE;case hz1=>((try dsimp only at X);go_split_ands;assumption)
     try simp only[Act.put,ajt,ajx,ajJ]
     refine pU (i:=8) (v:=a9 (arr ?xv2)) rfl ah ah ah ah (λ_ _ _ h=>h) (yy aD rfl rfl λJ X=>?hz2) hS ?aiK;case hz2=>((try dsimp only at X);go_split_ands;assumption)
     try simp only[Act.put,ajt,ajx,ajJ]
     refine bA (k:=10) ah rfl rfl λT d=>?_;go_simp;have y0:Q wc wc.drew:=(Q.refl _).drew;refine(Xe q (CM.out.q y0).tb Fd).mono ?_;rintro e w5⟨rfl,q5⟩;have y5:=y0.trans q5;have Z:=af (CM.out.q y5);have JN:=bc1.q y5;have JO:=bc2.q y5;refine d.out _ _ ⟨Z.out.j4.cell,JN,JO⟩ λhS=>?_;clear d T;refine bh ?_;have yn:=af (ac1 (gY (lvl m k) q) Z.out.own Do.out S' aa aa pJ pK N.out QA rh.out R3);rw[<-HS.out] at yn;refine bA (k:=11) ah rfl rfl λT d=>?_;go_simp;refine yn.out.mono ?_;rintro e w6⟨rfl,o6,x6⟩;have Z6:=af (Z.out.put o6 x6 rJ JM);have hsr:=hK.out.az.size;refine d.out _ _ ⟨Z6.out.j4.cell,JN.az x6 aA,JO.az x6 aA⟩ λhS=>?_;clear d T;refine bh ?_;refine lT ah ?_ _;clear hS o6 x6 y5 bc1 bc2 pc JN JO;exact LU
   ·have PJ:k=4:=by omega
    subst PJ;go_wp2;exact bodyPost_end (v:=ci #[]) (by simp[results,results124,go_sem]) rfl ⟨rfl,hK.out.own,hK.out.az⟩
end
section
open Go.RowKit
def Yx{f g:Nat->Int}{c:Int}{u v:Bool}{m:Nat}(hm:m<5)(R:EB f g c):
  aiK Gz.prog 96 #[U O m,a9 (aM f g c u v)] w λe w'=>e=be (a9 (arr (mI m f g c u v)))/\Q w w':=by
 have C:=((ak.new w 135 (aM f g c u v)).alloc (ac (arr (rl 16 0)) 94)).alloc (ac (arr (rl 16 0)) 94);have D:=(Bl.zero (w.alloc (ac (aM f g c u v) 135))).alloc (ac (arr (rl 16 0)) 94);have E:=Bl.zero ((w.alloc (ac (aM f g c u v) 135)).alloc (ac (arr (rl 16 0)) 94));have L:Q w (((w.alloc (ac (aM f g c u v) 135)).alloc (ac (arr (rl 16 0)) 94)).alloc (ac (arr (rl 16 0)) 94)):=aU;simp only[OF] at D E;have d0:∀i,(((w.alloc (ac (aM f g c u v) 135)).alloc (ac #[U O 0,U O 0,U O 0,U O 0,U O 0,U O 0,U O 0,U O 0,U O 0,U O 0,U O 0,U O 0,U O 0,U O 0,U O 0,U O 0] 94)).alloc (ac #[U O 0,U O 0,U O 0,U O 0,U O 0,U O 0,U O 0,U O 0,U O 0,U O 0,U O 0,U O 0,U O 0,U O 0,U O 0,U O 0] 94)).cell? ⟨w.heap.size,i,ns⟩=(#[U O (f 0),U O (f 1),U O (f 2),U O (f 3),U O (g 0),U O (g 1),U O (g 2),U O (g 3),U O c,a5 u,a5 v]:Array so)[i]?:=C.cell;have r:=af R;have TM:=af λz=>abk f g u v z R;have S:=af λk z M=>XV f g c u v k z M;clear R;go_enter Gz.gf func96,ntmps96;go_wp2;refine(TM.out _).mono ?_;rintro e N⟨rfl,q1⟩;replace C:=C.q q1;replace D:=D.q q1;replace E:=E.q q1;replace L:=L.trans q1;have K0:Hid (Q w N/\ak N w.heap.size 135 (aM f g c u v)/\Bl N (w.heap.size+1) cG/\Bl N (w.heap.size+1+1) cG):=⟨L,C,D,E⟩;clear L C D E q1 d0;obtain⟨s,l⟩:∃z,mX f g u v=z:=⟨_,rfl⟩;rw[l];have T:=af l;clear l;go_wp2;go_loopw[7] (λi wr=>∃y:Nat,y<=4/\i=U O y/\Hid (Q w wr/\ak wr w.heap.size 135 (aM f g c u v)/\Bl wr (w.heap.size+1) cG/\Bl wr (w.heap.size+1+1) (a6 (λj=>if j<4*y then mH m f g c u v j else 0) 16))) (λi _=>4-(intOf i).toNat)
 case atStart=>exact⟨0,aa,rfl,by rw[sT];exact K0⟩
 case round=>
  obtain⟨y,hy,rfl,hK⟩:=hrel;clear K0;by_cases X:y<4
  ·have Z:(y:Int)<4:=by omega
   have hyd:decide ((y:Int)<4)=AT:=decide_eq_true Z;go_wp2;go_loopw[8] (λi wr=>∃x:Nat,x<=4/\i=U O x/\Hid (Q w wr/\ak wr w.heap.size 135 (aM f g c u v)/\Bl wr (w.heap.size+1) cG/\Bl wr (w.heap.size+1+1) (a6 (λj=>if j<4*y+x then mH m f g c u v j else 0) 16))) (λi _=>4-(intOf i).toNat)
   case atStart=>exact⟨0,aa,rfl,hK⟩
   case round=>
    obtain⟨x,hx,rfl,hL⟩:=hrel;clear hK;by_cases tX:x<4
    ·have Vw:(x:Int)<4:=by omega
     obtain⟨k1,k2,k3,k5⟩:=hL.out;clear hL;have f9:=tc (mH m f g c u v) (4*y+x) aa
     have hF:mH m f g c u v (4*y+x)=kK m f g c u v x y:=by unfold mH;rw[show(4*y+x)%4=x by omega,show(4*y+x)/4=y by omega]
     rw[hF] at f9;clear hF;have d0:∀i,wr.cell? ⟨w.heap.size,i,ns⟩=(#[U O (f 0),U O (f 1),U O (f 2),U O (f 3),U O (g 0),U O (g 1),U O (g 2),U O (g 3),U O c,a5 u,a5 v]:Array so)[i]?:=k2.cell;have F:=k5.at (4*y+x) aa;have f3:=k5.free (4*y+x);rw[tl aa (Nat.le_refl _)] at F;have cx:=(k2.cell x).trans (qm f g c u v x tX);have cy:=(k2.cell (4+y)).trans (qn f g c u v y X);have d8:wr.cell? ⟨w.heap.size,8,ns⟩=an (U O c):=k2.cell 8;have pi:((4:Int)*(y:Int)+(x:Int)).toNat=4*y+x:=aa;have hM:Hid (mX f g u v=s):=T;rcases(show m=0\/m=1\/m=2\/m=3\/m=4 by omega) with rfl|rfl|rfl|rfl|rfl
     ·have a:kK 0 f g c u v x y=s:=hM.out;rw[a] at f9;clear a;(have jt:=af f9;clear f9;have n1:=af (k1.set (p:=⟨w.heap.size+1+1,4*y+x,ns⟩) rO (U O s));have n2:=af (k2.aN (p:=⟨w.heap.size+1+1,4*y+x,ns⟩) uT (U O s));have n3:=af (k3.aN (p:=⟨w.heap.size+1+1,4*y+x,ns⟩) rN (U O s));have n5:=af (k5.set (4*y+x) s);rw[jt.out] at n5;clear k1 k2 k3 k5)
      go_wp2;go_roundw;case rel=>first|exact⟨x+1,aa,aF,n1.out,n2.out,n3.out,n5.out⟩|exact⟨x+1,aa,aF,n1.out.drew,n2.out,n3.out.q (Q.refl _).drew,n5.out.q (Q.refl _).drew⟩
      case measure=>exact aT
     ·have a:kK 1 f g c u v x y=f x:=rfl;rw[a] at f9;clear a;obtain⟨V,b⟩:∃z,f x=z:=⟨_,rfl⟩;rw[b] at cx f9;clear b d0;exact zk
     ·have a:kK 2 f g c u v x y=g y:=rfl;rw[a] at f9;clear a;obtain⟨V,b⟩:∃z,g y=z:=⟨_,rfl⟩;rw[b] at cy f9;clear b d0;exact zk
     ·have a:kK 3 f g c u v x y=pz f g c (4+x-y):=rfl;rw[a] at f9;clear a;obtain⟨k,M⟩:∃k,4+x-y=k:=⟨_,rfl⟩;rw[M] at f9;obtain⟨j,hj⟩:∃j,k=j+1:=⟨k-1,aa⟩;have hD:pz f g c k=(gH f g c j+2*gH f g c k+gH f g c (k+1)+2)/4:=by unfold pz;rw[hj];rfl
      rw[hD] at f9;clear hD;obtain⟨a0,a1⟩:=nT r.out j;obtain⟨b0,b1⟩:=nT r.out k;obtain⟨c0,c1⟩:=nT r.out (k+1);have T1:=af λz=>S.out j z aa;have T2:=af λz=>S.out k z aa;have T3:=af λz=>S.out (k+1) z aa;generalize gH f g c j=s1 at f9 T1 a0 a1;generalize gH f g c k=s2 at f9 T2 b0 b1;generalize gH f g c (k+1)=d at f9 T3 c0 c1;obtain⟨kA,hA⟩:∃z,(j:Int)=z:=⟨_,rfl⟩;obtain⟨t,hI⟩:∃z,(k:Int)=z:=⟨_,rfl⟩;obtain⟨kB,hB⟩:∃z,((k+1:Nat):Int)=z:=⟨_,rfl⟩;rw[hA] at T1;rw[hI] at T2;rw[hB] at T3;have ek:(4:Int)+(x:Int)-(y:Int)=t:=aa;have mx:max (0:Int) (t-1)=kA:=aa;have mn:min (8:Int) (t+1)=kB:=aa;have kl:1<=t/\t<=7:=aa;obtain⟨kl1,kl2⟩:=kl;have t1:EV.wrap (2*s2)=2*s2:=aB _ ⟨aa,aa⟩;have t2:EV.wrap (s1+2*s2)=s1+2*s2:=aB _ ⟨aa,aa⟩;have t3:EV.wrap (s1+2*s2+d)=s1+2*s2+d:=aB _ ⟨aa,aa⟩;have t4:EV.wrap (s1+2*s2+d+2)=s1+2*s2+d+2:=aB _ ⟨aa,aa⟩;have t5:(s1+2*s2+d+2).tdiv 4=(s1+2*s2+d+2)/4:=j8 aa;have t6:EV.wrap ((s1+2*s2+d+2)/4)=(s1+2*s2+d+2)/4:=aB _ ⟨aa,aa⟩;have ba:∀(z:eM wr)(i:Nat),z.at_.cell? ⟨w.heap.size,i,ns⟩=(#[U O (f 0),U O (f 1),U O (f 2),U O (f 3),U O (g 0),U O (g 1),U O (g 2),U O (g 3),U O c,a5 u,a5 v]:Array so)[i]?:=k2.fG;clear M hj hA hI hB cx cy d8 F f3;go_wp2;refine pS ah ah ?_;repeat(go_big_quiet_step (first|(go_at_call_of 137 kA;exact Calls.fG (T1.out _))|(go_at_call_of 137 kB;exact Calls.fG (T3.out _))|(go_at_call_of 137 t;exact Calls.fG (T2.out _))))
      refine wpQuiet_nil ?_;rintro _⟨⟨w7,P⟩,rfl⟩;replace k1:=k1.trans P;replace k2:=k2.q P;replace k3:=k3.q P;replace k5:=k5.q P;have F:=k5.at (4*y+x) aa;have f3:=k5.free (4*y+x);obtain⟨V,b⟩:∃z,(s1+2*s2+d+2)/4=z:=⟨_,rfl⟩;rw[b] at f9⊢;clear b t1 t2 t3 t4 t5 t6 ba ek mx mn;exact zk
     ·have a:kK 4 f g c u v x y=dI (f x+g y-c) 0 255:=rfl;rw[a] at f9;clear a d0;obtain⟨a0,a1⟩:=r.out.1 x;obtain⟨b0,b1⟩:=r.out.2.1 y;obtain⟨e0,e1⟩:=r.out.2.2;obtain⟨fx,G⟩:∃z,f x=z:=⟨_,rfl⟩;obtain⟨gy,J⟩:∃z,g y=z:=⟨_,rfl⟩;rw[G] at cx f9 a0 a1;rw[J] at cy f9 b0 b1;clear G J;have TC:=af λz=>wV (fx+gy-c) 0 255 z al;obtain⟨V,b⟩:∃z,dI (fx+gy-c) 0 255=z:=⟨_,rfl⟩;rw[b] at f9 TC;clear b;clear F f3;go_wp2
      go_quiet((go_at_call 68;exact oN ((TC.out _).mono λ_ _ h=>⟨h.1,h.2.symm⟩)))
      replace k1:=k1.drewN nq;replace k2:=k2.drewN nq;replace k3:=k3.q ((Q.refl _).drewN nq);replace k5:=k5.q ((Q.refl _).drewN nq);have F:=k5.at (4*y+x) aa;have f3:=k5.free (4*y+x);exact zk
    ·have UX:x=4:=by omega
     subst UX;go_wp2;go_roundw;case rel=>exact⟨y+1,aa,aF,hL⟩
     case measure=>exact aT
  ·have UW:y=4:=by omega
   subst UW;obtain⟨k1,k2,k3,k5⟩:=hK.out;clear hK;rw[sQ] at k5;have t8:=QD m f g c u v;change Bl wr (w.heap.size+1+1) (mI m f g c u v) at k5;generalize K:mI m f g c u v=vs at k5 t8⊢;have If:=af K;clear K;have K4:=af k1;clear k1 k2;exact zj
end
section
open Go.RowKit
def XX{q:Int}(hx:xs.length=16)(P:aS xs 4080=AT)(hq:qB q=AT):
  aiK Gz.prog 100 #[a9 (arr xs),U O q] w λe w'=>e=be (a9 (arr (gY xs q)))/\Q w w':=by
 have s1:=bQ xs;rw[hx] at s1;have R:0<=q/\q<=15:=of_decide_eq_true hq;obtain⟨n,rfl⟩:∃n:Nat,q=(n:Int):=⟨q.toNat,aa⟩;have HV:Hid (gY xs (n:Int)=kG (a6 (gX xs (step n)) 16)):=by unfold Hid gY;rw[P,hq];rfl
 rw[HV.out];have y:n<16:=aa;have HI:=af λk hk=>nM P k hk;have HM:Hid (aS (a6 (gX xs (step n)) 16) 4080=AT):=RX λk _=>GO aa;clear hq P R;go_enter Gz.gf func100,ntmps100;go_wp2_with(first|refine fw rfl rfl rfl aG ?_|refine fq aD rfl rfl aG ?_);have QQ:Q w (((w.alloc (ac (arr xs) 94)).alloc (ac (arr (rl 16 0)) 94)).alloc (ac (arr (rl 16 0)) 94)):=aU;have ba:=((Bl.new w xs hx).alloc (ac (arr (rl 16 0)) 94)).alloc (ac (arr (rl 16 0)) 94);have S:=(Bl.zero (w.alloc (ac (arr xs) 94))).alloc (ac (arr (rl 16 0)) 94);have T:=Bl.zero ((w.alloc (ac (arr xs) 94)).alloc (ac (arr (rl 16 0)) 94));simp only[OF] at S T;go_loopw[6] (λi wr=>∃k:Nat,k<=16/\i=U O k/\Hid (Bl wr w.heap.size xs/\Bl wr (w.heap.size+1) cG/\Q w wr/\Bl wr (w.heap.size+1+1) (a6 (λj=>if j<k then gX xs (step n) j else 0) 16))) (λi _=>16-(intOf i).toNat)
 case atStart=>exact⟨0,aa,rfl,ba,S,QQ,by rw[sT];exact T⟩
 case round=>
  obtain⟨k,hk,rfl,hK⟩:=hrel;obtain⟨J,K,u,L⟩:=hK.out;clear hK ba S T QQ;by_cases d:k<16
  ·have f:(k:Int)<16:=by omega
   have l:=tc (gX xs (step n)) k d;have M:=J.at k d;obtain⟨a1,a2⟩:=HI.out k aa;have T1:=af λz=>Mk (n:Int) z rfl y;have b:gX xs (step n) k=cl (xs[k]?.getD 0*step n) 4080:=rfl;obtain⟨e1,e2⟩:=wh y;generalize gX xs (step n) k=r at l b;obtain⟨V,C⟩:∃z,step n=z:=⟨_,rfl⟩;rw[C] at T1 b e1 e2;clear C;generalize xs[k]?.getD 0=x at M a1 a2 b;obtain⟨p1,p2⟩:=Sj a1 a2 e1 e2;obtain⟨p,X⟩:∃p,x*V=p:=⟨_,rfl⟩;rw[X] at p1 p2 b;have w1:EV.wrap (x*V)=p:=by rw[X];exact aB _ ⟨by omega,by omega⟩
   have w2:wrap64 (x*V)=p:=yz;have T3:=af λz=>age p z;rw[<-b] at T3;have Z:=af l;have K1:=af J;have s:=af u;have K3:=af L;have K4:=af K;have z0:=J.lt;clear l b J u L K X;go_wp2;refine fe (λww=>Q wr ww/\ww.cell? ⟨w.heap.size,k,ns⟩=an (U O x)) (λj=>decide (9<=j)) ah ⟨(Q.refl _).drew,M⟩ λhS=>?_;refine ai 0 (h:=ai 1 (h:=ai 2 (h:=ai 3 (h:=ai 4 (h:=?_)))));refine bA (k:=5) ah rfl rfl λs a=>?_;go_simp;refine(T1.out _).mono ?_;rintro e wa⟨rfl,q1⟩;have t:=hS.1.trans q1;refine a.out _ _ ⟨t,(t.cell _ _ aa).trans M⟩ λhS=>?_;clear a s;refine bh ?_;refine ai 6 (h:=?_);refine bA (k:=7) ah rfl rfl λs a=>?_;go_simp;refine(T3.out _).mono ?_;rintro e wc⟨rfl,rfl⟩;refine a.out _ _ hS λhS=>?_;clear a s;refine bh ?_;refine bA (k:=8) ah rfl rfl λs a=>?_;go_simp;refine a.out _ _ hS λhS=>?_;clear a s;refine bh ?_;refine iB [9] 9 ah al rfl ?_;have N:=K3.out.q t;have c3:=N.at k d;have f3:=N.free k;rw[tl d (Nat.le_refl _)] at c3;have n5:=af (N.set k r);rw[Z.out] at n5;have n1:=af ((K1.out.q t).aN (p:=⟨w.heap.size+1+1,k,ns⟩) uT (U O r));have n2:=af ((K4.out.q t).aN (p:=⟨w.heap.size+1+1,k,ns⟩) rN (U O r));have n4:=af ((s.out.trans t).set (p:=⟨w.heap.size+1+1,k,ns⟩) rO (U O r));clear N t q1 hS M;go_wp2;go_roundw;case rel=>exact⟨k+1,aa,aF,n1.out,n2.out,n4.out,n5.out⟩
   case measure=>exact aT
  ·have f:k=16:=by omega
   subst f;rw[sQ] at L;have D:(a6 (gX xs (step n)) 16).length=16:=Ep;generalize E:a6 (gX xs (step n)) 16=ms at L HM D;have JJ:=af E;clear E;have F:=Aj ms;go_wp2_with(first|refine fw rfl rfl rfl aG ?_|refine fq aD rfl rfl aG ?_);refine(aaI D HM).mono ?_;rintro e wv⟨rfl,q1⟩;replace K:=K.q q1;replace u:=u.trans q1;have K4:=af u;clear u q1;generalize G:kG ms=vs at F⊢;have If:=af G;clear G;go_wp2_with(first|(first|refine fw rfl rfl rfl aG ?_|refine fq aD rfl rfl aG ?_)|(refine jg rfl _ _ rfl _ rfl _ _ rfl dw aG ?_;intro w9 b9 g9 s9));refine bodyPost_ret (v:=a9 (arr _)) (results_cell_row aD _ _ _ _ _ _ _ aD (Bl.blk b9) (Gz.gu underlying94) rfl (by rw[bQ,F];exact nI)) rfl ⟨by rw[JJ.out,If.out],K4.out.grown g9 λk e=>by have:=aJ e;omega⟩
end
end Go.Proofs.Q0
