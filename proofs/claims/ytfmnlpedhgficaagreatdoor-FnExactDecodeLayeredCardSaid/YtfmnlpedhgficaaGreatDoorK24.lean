import Derived.Test.YtfmnlpedhgficaaGreatDoorK23
set_option maxRecDepth 100000
set_option maxHeartbeats 8000000
set_option linter.all false
open Go.Value renaming int->U,slice->Y,bool->a5,agg->a9,pointer->bi,tuple->ci,iface->em
open Go.IntKind renaming i64->O
open Go.Obj renaming cells->ac
open Go.Ending renaming returned->be
open Bool renaming false->Bz,true->AT
open Go renaming Calls->aiK,Value->so,World->AS,bodyPost_ret->ajz,results_cell_row->akL
open Go.IntKind renaming i64->EV
open Go.World renaming size_alloc->OF
open Int renaming natCast_mul->alW
open List renaming replicate->rl,setIfInBounds_toArray->ajt,set_cons_succ->ajJ,set_cons_zero->ajx
open Nat renaming lt_irrefl->akC,not_lt_zero->akr,reduceAdd->akl,reduceLT->akM
open Option renaming none->ns,some->an
open True renaming intro->akT
namespace Go.Proofs
def LK{p:Prop}(h:p:=by(go_wp2_with(first|(first|refine fw rfl rfl rfl aG ?_|refine fq aD rfl rfl aG ?_)|(refine jg rfl _ _ rfl _ rfl _ _ rfl dw aG ?_;intro w9 b9 g9 s9)|(refine jg rfl _ _ rfl _ rfl _ (List.replicate 16 0) rfl rfl aG ?_;intro w9 b9 g9 s9));refine bodyPost_ret (v:=a9 (arr _)) (results_cell_row aD _ _ _ _ _ _ _ aD (Bl.blk b9) (Gz.gu underlying94) rfl (by rw[bQ,hz];exact nI)) rfl ⟨rfl,QQ.grown g9 λk e=>by have:=aJ e;omega⟩)):p:=h
def LL{p:Prop}(h:p:=by go_wp2;refine T1.out.mono ?_;rintro e w'⟨rfl,q1⟩;go_wp2;all_goals(go_ret;exact⟨by first|rfl|(simp;omega),q1⟩)):p:=h
def yK{p:Prop}(h:p:=by rw[<-z'];omega):p:=h
def yL{p:Prop}(h:p:=by rw[HE.out];unfold dI;omega):p:=h
def vh{p:Prop}(h:p:=by unfold gg;split<;>(try split)<;>omega):p:=h
def LO{p:Prop}(h:p:=by refine wpQuiet_nil ?_;rintro _⟨⟨w7,qq⟩,rfl⟩;go_wp2;go_ret;exact⟨rfl,q0.trans qq⟩):p:=h
def yM{p:Prop}(h:p:=by unfold Hid;simp[eA]):p:=h
def zb{p:Prop}(h:p:=by unfold Hid;simp[eL]):p:=h
def C8{p:Prop}(h:p:=by simp only[aM,hu,hl,mE,mF,mG,mq];rfl):p:=h
def zi{p:Prop}(h:p:=by rcases(show k=0\/k=1\/k=2\/k=3 by omega) with rfl|rfl|rfl|rfl<;>rfl):p:=h
def LP{p:Prop}(h:p:=by go_wp2;go_ret;exact⟨rfl,by have hq:=q0;exact aU⟩):p:=h
end Go.Proofs
namespace Go.Proofs.Q0
open Go.Proofs.Tryz
variable{xs:List Int}{w:AS}{n B x y:Nat}{a b c d W H:Int}{cs:Array so}{A:Option Addr}{u v:Bool}{f g:Nat->Int}
section
open Go.RowKit
def gX(xs:List Int)(s:Int)(k:Nat):Int:=BK (xs[k]?.getD 0) s
def gY(xs:List Int)(q:Int):List Int:=if(aS xs 4080&&qB q)=AT then kG (a6 (gX xs (step q.toNat)) 16) else cG
def QA{q:Int}:(gY xs q).length=16:=by
 unfold gY;split
 ·rfl
 ·rfl
def Xe(q:Int)(S:Tb w)(D:xs.length=16):
  aiK Gz.prog 158 #[a9 (arr xs),U O q] w λe w'=>e=be (a9 (arr (gY xs q)))/\Q w w':=by
 have s1:=bQ xs;rw[D] at s1;have QQ:Q w ((w.alloc (ac (arr xs) 94)).alloc (ac (arr (rl 16 0)) 94)):=aU;have E:=(Bl.new w xs D).alloc (ac (arr (rl 16 0)) 94);have m:=Bl.zero (w.alloc (ac (arr xs) 94));simp only[OF] at m;have F:=af (S.q QQ);have hz:cG.length=16:=rfl;have T:w.heap.size≠4:=by have:=S.pos;omega
 clear S;cases o:qB q
 ·have I:Hid (gY xs q=cG):=by unfold Hid gY;rw[o,Bool.and_false];rfl
  have HR:Hid (decide (0<=q/\q<=15)=Bz):=o;rw[I.out];clear o;go_enter Gz.gf func158,ntmps158;go_wp2_with(first|refine fw rfl rfl rfl aG ?_|refine fq aD rfl rfl aG ?_);refine(oQ _ HR).mono ?_;rintro e w'⟨rfl,rfl⟩;exact LK
 ·have HR:Hid (decide (0<=q/\q<=15)=AT):=o;have V:0<=q/\q<=15:=of_decide_eq_true o;cases t:aS xs 4080
  ·have I:Hid (gY xs q=cG):=by unfold Hid gY;rw[t];rfl
   have X:=af t;rw[I.out];clear o t;go_enter Gz.gf func158,ntmps158;go_wp2_with(first|refine fw rfl rfl rfl aG ?_|refine fq aD rfl rfl aG ?_);refine(oQ _ HR).mono ?_;rintro e w'⟨rfl,rfl⟩;go_wp2_with(first|refine fw rfl rfl rfl aG ?_|refine fq aD rfl rfl aG ?_);refine(zE D aa aa X).mono ?_;rintro e Z⟨rfl,q1⟩;(try replace E:=E.q q1);(try replace bb:=bb.q q1);(try replace m:=m.q q1);(try replace bd:=bd.q q1);(try replace F:=af (F.out.q q1));replace QQ:=QQ.trans q1;have sq:=q1.size;clear q1;exact LK
  ·have X:=af t;obtain⟨n,rfl⟩:∃n:Nat,q=(n:Int):=⟨q.toNat,aa⟩;have I:Hid (gY xs (n:Int)=kG (a6 (gX xs (step n)) 16)):=by unfold Hid gY;rw[t,o];rfl
   rw[I.out];have n16:n<16:=aa;have HI:=af λk hk=>nM t k hk;have HM:Hid (aS (a6 (gX xs (step n)) 16) 4080=AT):=RX λk _=>GO aa;clear o t V;go_enter Gz.gf func158,ntmps158;go_wp2_with(first|refine fw rfl rfl rfl aG ?_|refine fq aD rfl rfl aG ?_);refine(oQ _ HR).mono ?_;rintro e w'⟨rfl,rfl⟩;go_wp2_with(first|refine fw rfl rfl rfl aG ?_|refine fq aD rfl rfl aG ?_);refine(zE D aa aa X).mono ?_;rintro e Z⟨rfl,q1⟩;(try replace E:=E.q q1);(try replace bb:=bb.q q1);(try replace m:=m.q q1);(try replace bd:=bd.q q1);(try replace F:=af (F.out.q q1));replace QQ:=QQ.trans q1;have sq:=q1.size;clear q1;go_wp2_with(first|refine fw rfl rfl rfl aG ?_|refine fq aD rfl rfl aG ?_);have VM:w.heap.size+1<Z.heap.size:=m.lt;go_loopw[17] (λi wr=>∃k:Nat,k<=16/\i=U O k/\Hid (Bl wr w.heap.size (a6 (λj=>if j<k then gX xs (step n) j else xs[j]?.getD 0) 16)/\Bl wr (w.heap.size+1) cG/\Q w wr/\Tb wr)) (λi _=>16-(intOf i).toNat)
   case atStart=>exact⟨0,aa,rfl,by rw[FB D];exact E,m,QQ,F.out⟩
   case round=>
    obtain⟨k,hk,rfl,hK⟩:=hrel;obtain⟨h,P,G,k4⟩:=hK.out;clear hK E m QQ F;by_cases l:k<16
    ·have s:(k:Int)<16:=by omega
     have C:=F4 (gX xs (step n)) (λj=>xs[j]?.getD 0) l;have c1:=h.at k l;have f1:=h.free k;have he:=λw=>si xs D l w;rw[Gs l (Nat.le_refl _)] at c1;obtain⟨a1,a2⟩:=HI.out k aa;have R:=af λz hz=>Xl (xs[k]?.getD 0) (n:Int) n z hz rfl n16 a1 a2;have J:gX xs (step n) k=BK (xs[k]?.getD 0) (step n):=rfl;rw[<-J] at R;generalize gX xs (step n) k=r at C R;generalize xs[k]?.getD 0=x at he c1 R;have jt:=af C;have K1:=af h;have K2:=af P;have K3:=af G;have K4:=af k4;clear C J h P G k4 c1 f1;go_wp2;refine(R.out _ K4.out).mono ?_;rintro e wa⟨rfl,q1⟩;have h:=K1.out.q q1;have c3:=h.at k l;have f3:=h.free k;generalize(a6 (λj=>if j<k then gX xs (step n) j else xs[j]?.getD 0) 16)[k]?.getD 0=zz at c3;have n1:=af (h.set k r);rw[jt.out] at n1;have n2:=af ((K2.out.q q1).aN (p:=⟨w.heap.size,k,ns⟩) (by show w.heap.size+1≠w.heap.size;omega) (U O r));have n3:=af ((K3.out.trans q1).set (p:=⟨w.heap.size,k,ns⟩) (by show w.heap.size<=w.heap.size;omega) (U O r));have n4:=af (afI (K4.out.q q1) (p:=⟨w.heap.size,k,ns⟩) (by show w.heap.size≠4;exact T) (U O r));clear h q1;go_wp2;go_roundw;case rel=>exact⟨k+1,aa,aF,n1.out,n2.out,n3.out,n4.out⟩
     case measure=>exact aT
    ·have s:k=16:=by omega
     subst s;rw[FA] at h;have K:(a6 (gX xs (step n)) 16).length=16:=Ep;generalize L:a6 (gX xs (step n)) 16=ms at h HM K;have JJ:=af L;clear L;have M:=Aj ms;go_wp2_with(first|refine fw rfl rfl rfl aG ?_|refine fq aD rfl rfl aG ?_);refine(W7 K HM).mono ?_;rintro e Z⟨rfl,q1⟩;replace P:=P.q q1;replace G:=G.trans q1;have K3:=af G;clear G q1;generalize N:kG ms=vs at M⊢;have If:=af N;clear N;go_wp2_with(first|(first|refine fw rfl rfl rfl aG ?_|refine fq aD rfl rfl aG ?_)|(refine jg rfl _ _ rfl _ rfl _ _ rfl dw aG ?_;intro w9 b9 g9 s9));refine ajz (v:=a9 (arr _)) (akL aD _ _ _ _ _ _ _ aD (Bl.blk b9) (Gz.gu underlying94) rfl (by rw[bQ,M];exact nI)) rfl ⟨by rw[JJ.out,If.out],K3.out.grown g9 λk e=>by have:=aJ e;omega⟩
end
section
open Go.RowKit
def dI(n e hi:Int):Int:=min (max n e) hi
def wJ(n h hi:Int)(w:AS):
  aiK Gz.prog 85 #[U O n,U O h,U O hi] w λe w'=>e=be (U O (dI n h hi))/\w=w':=by
 go_enter Gz.gf func85,ntmps85;go_wp2;all_goals(go_ret;exact⟨by first|rfl|(simp[dI];omega),rfl⟩)
def wV(n i hi:Int)(w:AS)(h:i<=hi):
  aiK Gz.prog 68 #[U O n,U O i,U O hi] w λe w'=>e=be (U O (dI n i hi))/\w=w':=by
 have e:dI n i hi=max i (min hi n):=by unfold dI;omega
 go_enter Gz.gf func68,ntmps68;go_wp2;all_goals(go_ret;exact⟨by first|rfl|(simp;omega),rfl⟩)
end
section
open Go.RowKit
def XC(q:Int)(h:Tb w)(hq:q=(n:Int))(i:n<16):
  aiK Gz.prog 82 #[U O q] w λe w'=>e=be (U O (step n))/\Q w w':=by
 have k:=h.at_ n i;have j:Hid (decide (0<=(n:Int)/\(n:Int)<=15)=AT):=decide_eq_true ⟨aa,aa⟩;go_enter Gz.gf func82,ntmps82;go_wp2;refine(oQ _ j).mono ?_;rintro e w'⟨rfl,rfl⟩;go_wp2;go_ret;exact⟨rfl,Q.refl _⟩
def fX(n:Nat):Int:=min (step n/8) 12
def SV(h:n<16):0<=fX n/\fX n<=12:=by obtain⟨e,i⟩:=wh h;unfold fX;omega
def Xf(q:Int)(w:AS)(i:Tb w)(hq:q=(n:Int))(h:n<16):
  aiK Gz.prog 59 #[U O q] w λe w'=>e=be (U O (fX n))/\Q w w':=by
 have T1:=af (XC (n:Int) i rfl h);obtain⟨k,l⟩:=wh h;have j:Hid (fX n=min (step n/8) 12):=rfl;rw[j.out];go_enter Gz.gf func59,ntmps59;exact LL
def Xg(q:Int)(w:AS)(hq:q=(n:Int))(h:n<16):
  aiK Gz.prog 46 #[U O q] w λe w'=>e=be (U O (fX n))/\Q w w':=by
 have T1:=af (Mk (n:Int) w rfl h);obtain⟨j,k⟩:=wh h;have i:Hid (fX n=min 12 (step n/8)):=by unfold Hid fX;omega
 rw[i.out];go_enter Gz.gf func46,ntmps46;exact LL
end
section
open Go.RowKit
def nh(a b c d L:Int):Int:=dI ((4*(c-b)+a-d+4)/8) (-L) L
def fM(a b c d L:Int):Int:=if 4*L<=max (b-c) (-(b-c)) then b else dI (b+nh a b c d L) 0 255
def fN(a b c d L:Int):Int:=if 4*L<=max (b-c) (-(b-c)) then c else dI (c-nh a b c d L) 0 255
def afJ{L:Int}(e:0<=b/\b<=255)(hc:0<=c/\c<=255):(0<=fM a b c d L/\fM a b c d L<=255)/\0<=fN a b c d L/\fN a b c d L<=255:=by unfold fM fN dI;constructor<;>split<;>omega
def XT(L:Int)(w:AS)(l:0<=a/\a<=255)(o:0<=b/\b<=255)(hc:0<=c/\c<=255)(hd:0<=d/\d<=255)(p:0<=L/\L<=12):
  aiK Gz.prog 61 #[U O a,U O b,U O c,U O d,U O L] w λe w'=>e=be (ci #[U O (fM a b c d L),U O (fN a b c d L)])/\w=w':=by
 obtain⟨q,r⟩:=l;obtain⟨s,t⟩:=o;obtain⟨z,C⟩:=hc;obtain⟨d1,d2⟩:=hd;obtain⟨D,E⟩:=p;obtain⟨m,hm⟩:∃m,(if b-c<0 then -(b-c) else b-c)=m:=⟨_,rfl⟩;have z':max (b-c) (-(b-c))=m:=by rw[<-hm];split<;>omega
 have T:=af (aat (b-c) w aa aa);rw[hm] at T;have F:0<=m:=yK;have G:m<=255:=yK;by_cases h:4*L<=m
 ·have i:Hid (fM a b c d L=b):=by unfold Hid fM;rw[z',if_pos h]
  have j:Hid (fN a b c d L=c):=by unfold Hid fN;rw[z',if_pos h]
  rw[i.out,j.out];go_enter Gz.gf func61,ntmps61;go_wp2;refine T.out.mono ?_;rintro e w'⟨rfl,rfl⟩;go_wp2;exact ajz (v:=ci #[U O b,U O c]) (by simp[results,results61,go_sem]) rfl ⟨rfl,rfl⟩
 ·have i:Hid (fM a b c d L=dI (b+nh a b c d L) 0 255):=by unfold Hid fM;rw[z',if_neg h]
  have j:Hid (fN a b c d L=dI (c-nh a b c d L) 0 255):=by unfold Hid fN;rw[z',if_neg h]
  have HE:Hid (nh a b c d L=dI ((4*(c-b)+a-d+4)/8) (-L) L):=rfl;rw[i.out,j.out];have I:m<4*L:=aa;clear z' i j h;generalize nh a b c d L=e at HE⊢;have J: -L<=e:=yL;have K:e<=L:=yL;go_enter Gz.gf func61,ntmps61;go_wp2;refine T.out.mono ?_;rintro k w'⟨rfl,rfl⟩;go_wp2;refine(wJ _ _ _ _).mono ?_;rintro k w'⟨rfl,rfl⟩;rw[<-HE.out];clear HE;go_wp2;refine(wJ _ _ _ _).mono ?_;rintro k w'⟨rfl,rfl⟩;go_wp2;refine(wJ _ _ _ _).mono ?_;rintro k w'⟨rfl,rfl⟩;go_wp2;exact ajz (v:=ci #[U O (dI (b+e) 0 255),U O (dI (c-e) 0 255)]) (by simp[results,results61,go_sem]) rfl ⟨rfl,rfl⟩
def LQ(L:Int)(w:AS)(q:0<=a/\a<=255)(i:0<=b/\b<=255)(hc:0<=c/\c<=255)(hd:0<=d/\d<=255)(t:0<=L/\L<=12):
  aiK Gz.prog 47 #[U O a,U O b,U O c,U O d,U O L] w λe w'=>e=be (ci #[U O (fM a b c d L),U O (fN a b c d L)])/\w=w':=by
 have z:Hid (decide (0<=a/\a<=255)=AT):=decide_eq_true q;have j:Hid (decide (0<=b/\b<=255)=AT):=decide_eq_true i;have k:Hid (decide (0<=c/\c<=255)=AT):=decide_eq_true hc;have C:Hid (decide (0<=d/\d<=255)=AT):=decide_eq_true hd;have D:Hid (decide (0<=L/\L<=12)=AT):=decide_eq_true t;obtain⟨I,J⟩:=q;obtain⟨K,M⟩:=i;obtain⟨N,P⟩:=hc;obtain⟨d1,d2⟩:=hd;obtain⟨Q,R⟩:=t;obtain⟨m,hm⟩:∃m,max (b-c) (c-b)=m:=⟨_,rfl⟩;have z':max (b-c) (-(b-c))=m:=by rw[<-hm];omega
 have E:0<=m:=yK;have F:m<=255:=yK;by_cases h:4*L<=m
 ·have l:Hid (fM a b c d L=b):=by unfold Hid fM;rw[z',if_pos h]
  have o:Hid (fN a b c d L=c):=by unfold Hid fN;rw[z',if_pos h]
  rw[l.out,o.out];clear z' l o;have p:=af hm;have hq:decide (4*L<=max (b-c) (c-b))=AT:=by rw[hm];exact decide_eq_true h
  clear hm;go_enter Gz.gf func47,ntmps47;go_wp2;(go_at_call 14;(with_reducible refine(bZ _ z).mono ?_);rintro e w'⟨rfl,rfl⟩)
  go_wp2;(go_at_call 14;(with_reducible refine(bZ _ j).mono ?_);rintro e w'⟨rfl,rfl⟩)
  go_wp2;(go_at_call 14;(with_reducible refine(bZ _ k).mono ?_);rintro e w'⟨rfl,rfl⟩)
  go_wp2;(go_at_call 14;(with_reducible refine(bZ _ C).mono ?_);rintro e w'⟨rfl,rfl⟩)
  go_wp2;(go_at_call 14;(with_reducible refine(bZ _ D).mono ?_);rintro e w'⟨rfl,rfl⟩)
  go_wp2;all_goals first|exact ajz (v:=ci #[U O b,U O c]) (by simp[results,results47,go_sem]) rfl ⟨rfl,rfl⟩|(exfalso;have G:=p.out;rename_i q i;clear hq;(try split at q);(try split at i);all_goals omega)|(exfalso;have G:=p.out;rename_i i;clear hq;(try split at i);all_goals omega)
 ·have l:Hid (fM a b c d L=dI (b+nh a b c d L) 0 255):=by unfold Hid fM;rw[z',if_neg h]
  have o:Hid (fN a b c d L=dI (c-nh a b c d L) 0 255):=by unfold Hid fN;rw[z',if_neg h]
  have HE:Hid (nh a b c d L=dI ((4*(c-b)+a-d+4)/8) (-L) L):=rfl;rw[l.out,o.out];have h1:b-c<4*L:=aa;have S:c-b<4*L:=aa;clear hm z' l o h E F;have T:=af (FV (4*(c-b)+a-d+4) 8 w aa aa aa aa);generalize nh a b c d L=e at HE⊢;have V: -L<=e:=yL;have X:e<=L:=yL;have r: -L<=L:=aa;go_enter Gz.gf func47,ntmps47;go_wp2;(go_at_call 14;(with_reducible refine(bZ _ z).mono ?_);rintro e w'⟨rfl,rfl⟩)
  go_wp2;(go_at_call 14;(with_reducible refine(bZ _ j).mono ?_);rintro e w'⟨rfl,rfl⟩)
  go_wp2;(go_at_call 14;(with_reducible refine(bZ _ k).mono ?_);rintro e w'⟨rfl,rfl⟩)
  go_wp2;(go_at_call 14;(with_reducible refine(bZ _ C).mono ?_);rintro e w'⟨rfl,rfl⟩)
  go_wp2;(go_at_call 14;(with_reducible refine(bZ _ D).mono ?_);rintro e w'⟨rfl,rfl⟩)
  go_wp2
  all_goals
   refine T.out.mono ?_;rintro s w'⟨rfl,rfl⟩;go_wp2;refine(wV _ _ _ _ r).mono ?_;rintro s w'⟨rfl,rfl⟩;rw[<-HE.out];go_wp2;refine(wV _ _ _ _ aa).mono ?_;rintro s w'⟨rfl,rfl⟩;go_wp2;refine(wV _ _ _ _ aa).mono ?_;rintro s w'⟨rfl,rfl⟩;go_wp2;exact ajz (v:=ci #[U O (dI (b+e) 0 255),U O (dI (c-e) 0 255)]) (by simp[results,results47,go_sem]) rfl ⟨rfl,rfl⟩
end
section
open Go.RowKit
structure eM(w:AS) where
 at_:AS
 q:Q w at_
instance(w:AS):Nonempty (eM w):=⟨⟨w,Q.refl w⟩⟩
def pS{P:Program}{id:Nat}{e:Exit->Act->AS->Prop}{a:Act}{l:List Oper}(hm:P.follows .mixedOrders=AT)(i:Region.lexB .any l.toArray=AT)
  (h:wpQuiet P l.toArray (λw'=>∃x:eM w,w'=x.at_) (λa'=>∀w',(∃x:eM w,w'=x.at_)->e .normal a' w') l a):(Code.region id l.toArray AT).wp P e a w:=
 wp_region_quiet (C:=λw'=>∃x:eM w,w'=x.at_) hm i ⟨⟨_,(Q.refl w).drew⟩,rfl⟩ kU
def Calls.fG{P:Program}{f:FuncId}{args:Array so}{x:eM w}{v:so}
  (h:aiK P f args x.at_ λe w'=>e=be v/\Q x.at_ w'):aiK P f args x.at_ λe i=>e=be v/\∃y:eM w,i=y.at_:=
 h.mono λ_ w'⟨he,hq⟩=>⟨he,⟨w',x.q.trans hq⟩,rfl⟩
def ak.fG{g:Nat}{t:TypeId}(h:ak w g t cs):∀(x:eM w)(i:Nat),x.at_.cell? ⟨g,i,ns⟩=cs[i]?:=λx=>h.pe x.q
end
section
open Go.RowKit
def gg(n hi:Int):Int:=if n<0 then 0 else if hi<n then hi else n
def Bp(n:Int){hi:Int}(h:0<=hi):0<=gg n hi/\gg n hi<=hi:=vh
def bF(W H:Int)(xs:List Int)(x y:Int):Int:=xs[(gg y (H-1)*W+gg x (W-1)).toNat]?.getD 0
def nS(h:bU W H xs=AT)(x y:Int):0<=bF W H xs x y/\bF W H xs x y<=255:=by
 obtain⟨j,k,l,i⟩:=kg h;unfold bF;rcases dg (gg y (H-1)*W+gg x (W-1)).toNat xs.length with e|e
 ·exact pZ i _ e
 ·simp_all
def TW(h:a=b):Ending.returned (U O a)=be (U O b):=by rw[h]
def SW(n hi:Int)(w:AS)(h:0<=hi):aiK Gz.prog 85 #[U O n,U O 0,U O hi] w λe w'=>e=be (U O (gg n hi))/\w=w':=by have e:gg n hi=min (max n 0) hi:=vh;have E:=af e;clear e;go_enter Gz.gf func85,ntmps85;go_wp2;all_goals(go_ret;exact⟨TW (by rw[E.out];try omega),rfl⟩)
def TX(n hi:Int)(w:AS)(h:0<=hi):aiK Gz.prog 68 #[U O n,U O 0,U O hi] w λe w'=>e=be (U O (gg n hi))/\w=w':=by have e:gg n hi=max 0 (min hi n):=vh;have E:=af e;clear e;go_enter Gz.gf func68,ntmps68;go_wp2;all_goals(go_ret;exact⟨TW (by rw[E.out];try omega),rfl⟩)
theorem SY{h e:Int}(m:(n:Int)=W*H)(h1:8<=W)(j:W<=32)(k:8<=H)(l:H<=32)(o:0<=h/\h<=W-1)(i:0<=e/\e<=H-1):
  0<=e*W/\e*W<=1024/\0<=e*W+h/\e*W+h<n/\n<=1024:=by
 have p:e*W<=(H-1)*W:=zn i.2 aa;have q:0<=e*W:=Int.mul_nonneg i.1 aa;have r:(H-1)*W=W*H-W:=fu;have:=(FW h1 j k l).2;omega
def RY(x y:Int)(c:Nat)(D:Rd w B A xs)(I:B<=w.heap.size)(hn:Hid (xs.length=n))(J:Hid (bU W H xs=AT)):
  aiK Gz.prog 179 #[a9 #[U O W,U O H,Y A n c],U O x,U O y] w λe w'=>e=be (U O (bF W H xs x y))/\Q w w':=by
 (obtain⟨m,r,t,K⟩:=kg J.out;rw[hn.out] at t;have i:=Bp x (hi:=W-1) aa;have j:=Bp y (hi:=H-1) aa;have E:Hid (∀w:AS,aiK Gz.prog 85 #[U O y,U O 0,U O (H-1)] w λe w'=>e=be (U O (gg y (H-1)))/\Q w w'):=λw=>(SW y (H-1) w aa).mono λ_ _ h=>⟨h.1,by rw[h.2];exact Q.refl _⟩;have F:Hid (∀w:AS,aiK Gz.prog 85 #[U O x,U O 0,U O (W-1)] w λe w'=>e=be (U O (gg x (W-1)))/\Q w w'):=λw=>(SW x (W-1) w aa).mono λ_ _ h=>⟨h.1,by rw[h.2];exact Q.refl _⟩;unfold bF;generalize gg x (W-1)=C at i F⊢;generalize gg y (H-1)=l at j E⊢)
 (obtain⟨i1,i2,i3,i4,i5⟩:=SY t m.1 m.2.1 r.1 r.2.1 i j;have q0:Q w (w.alloc (ac #[U O W,U O H,Y A n c] 40)):=aU;have L:=(ak.new w 40 #[U O W,U O H,Y A n c]).fG;have G:=D.q q0 I;obtain⟨b,o,rfl,M,hc⟩:=G oI;have hq:∀z:eM (w.alloc (ac #[U O W,U O H,Y (an ⟨b,o,ns⟩) n c] 40)),z.at_.cell? ⟨b,o+(l*W+C).toNat,ns⟩=an (U O (xs[(l*W+C).toNat]?.getD 0)):=λz=>((z.q).cell b _ aA).trans (hc _ oI))
 generalize xs[(l*W+C).toNat]?.getD 0=s at hq⊢;obtain⟨p,k⟩:∃p,l*W=p:=⟨_,rfl⟩;rw[k] at i1 i2 i3 i4 hq;have t1:EV.wrap (l*W)=p:=by rw[k];exact aB _ ⟨by omega,by omega⟩
 have t4:EV.wrap (H-1)=H-1:=aB _ ⟨aa,aa⟩;have t5:EV.wrap (W-1)=W-1:=aB _ ⟨aa,aa⟩;clear k hc D G t m r i j K;go_enter Gz.gf func179,ntmps179;go_wp2;refine pS ah ah ?_;repeat(go_big_quiet_step (first|(go_at_call_of 85 x;exact Calls.fG (F.out _))|(go_at_call_of 85 y;exact Calls.fG (E.out _))))
 exact LO
def aeK(x y:Int)(c:Nat)(D:Rd w B A xs)(I:B<=w.heap.size)(hn:Hid (xs.length=n))(J:Hid (bU W H xs=AT)):
  aiK Gz.prog 160 #[a9 #[U O W,U O H,Y A n c],U O x,U O y] w λe w'=>e=be (U O (bF W H xs x y))/\Q w w':=by
 (obtain⟨m,r,t,K⟩:=kg J.out;rw[hn.out] at t;have i:=Bp x (hi:=W-1) aa;have j:=Bp y (hi:=H-1) aa;have E:Hid (∀w:AS,aiK Gz.prog 68 #[U O y,U O 0,U O (H-1)] w λe w'=>e=be (U O (gg y (H-1)))/\Q w w'):=λw=>(TX y (H-1) w aa).mono λ_ _ h=>⟨h.1,by rw[h.2];exact Q.refl _⟩;have F:Hid (∀w:AS,aiK Gz.prog 68 #[U O x,U O 0,U O (W-1)] w λe w'=>e=be (U O (gg x (W-1)))/\Q w w'):=λw=>(TX x (W-1) w aa).mono λ_ _ h=>⟨h.1,by rw[h.2];exact Q.refl _⟩;unfold bF;generalize gg x (W-1)=C at i F⊢;generalize gg y (H-1)=l at j E⊢)
 (obtain⟨i1,i2,i3,i4,i5⟩:=SY t m.1 m.2.1 r.1 r.2.1 i j;have q0:Q w (w.alloc (ac #[U O W,U O H,Y A n c] 40)):=aU;have L:=(ak.new w 40 #[U O W,U O H,Y A n c]).fG;have G:=D.q q0 I;obtain⟨b,o,rfl,M,hc⟩:=G oI;have hq:∀z:eM (w.alloc (ac #[U O W,U O H,Y (an ⟨b,o,ns⟩) n c] 40)),z.at_.cell? ⟨b,o+(l*W+C).toNat,ns⟩=an (U O (xs[(l*W+C).toNat]?.getD 0)):=λz=>((z.q).cell b _ aA).trans (hc _ oI))
 generalize xs[(l*W+C).toNat]?.getD 0=s at hq⊢;obtain⟨p,k⟩:∃p,l*W=p:=⟨_,rfl⟩;rw[k] at i1 i2 i3 i4 hq;have t1:EV.wrap (l*W)=p:=by rw[k];exact aB _ ⟨by omega,by omega⟩
 have t4:EV.wrap (H-1)=H-1:=aB _ ⟨aa,aa⟩;have t5:EV.wrap (W-1)=W-1:=aB _ ⟨aa,aa⟩;clear k hc D G t m r i j K;go_enter Gz.gf func160,ntmps160;go_wp2;refine pS ah ah ?_;repeat(go_big_quiet_step (first|(go_at_call_of 68 x;exact Calls.fG (F.out _))|(go_at_call_of 68 y;exact Calls.fG (E.out _))))
 exact LO
end
section
open Go.RowKit
def aM(f g:Nat->Int)(c:Int)(u v:Bool):Array so:=#[U O (f 0),U O (f 1),U O (f 2),U O (f 3),U O (g 0),U O (g 1),U O (g 2),U O (g 3),U O c,a5 u,a5 v]
def eA(W H:Int)(xs:List Int)(x y:Int)(up:Bool)(k:Nat):Int:=if up=AT then bF W H xs (x+(k:Int)) (y-1) else 128
def eL(W H:Int)(xs:List Int)(x y:Int)(e:Bool)(k:Nat):Int:=if e=AT then bF W H xs (x-1) (y+(k:Int)) else 128
def eC(W H:Int)(xs:List Int)(x y:Int)(up e:Bool):Int:=if up=AT/\e=AT then bF W H xs (x-1) (y-1) else 128
def B3(W H:Int)(xs:List Int)(x y e:Nat):Array so:=
 aM (eA W H xs x y (decide (e<y))) (eL W H xs x y (decide (0<x))) (eC W H xs x y (decide (e<y)) (decide (0<x))) (decide (e<y)) (decide (0<x))
def upto(f:Nat->Int)(k:Nat)(j:Nat):Int:=if j<k then f j else 0
def RZ(f g:Nat->Int)(c:Int)(u v:Bool):aM (upto f 4) (upto g 4) c u v=aM f g c u v:=rfl
def agP(h:bU W H xs=AT)(x y:Int)(up:Bool)(k:Nat):0<=eA W H xs x y up k/\eA W H xs x y up k<=255:=by have:=nS h (x+(k:Int)) (y-1);unfold eA;split<;>omega
def agQ(h:bU W H xs=AT)(x y:Int)(up:Bool)(k:Nat):0<=eL W H xs x y up k/\eL W H xs x y up k<=255:=by have:=nS h (x-1) (y+(k:Int));unfold eL;split<;>omega
def agR(h:bU W H xs=AT)(x y:Int)(up e:Bool):0<=eC W H xs x y up e/\eC W H xs x y up e<=255:=by have:=nS h (x-1) (y-1);unfold eC;split<;>omega
def aeL{W H:Nat}{u v:Nat}(hu:u<W)(i:v<H):bF W H xs u v=xs[v*W+u]?.getD 0:=by unfold bF;have e:gg (v:Int) ((H:Int)-1)=v:=vh;have h:gg (u:Int) ((W:Int)-1)=u:=vh;rw[e,h];have:((v:Int)*(W:Int)+(u:Int)).toNat=v*W+u:=aa;rw[this]
def Fh:((aM f g c u v).all λx=>x.oneCell')=AT:=by simp[aM,Value.oneCell']
def vZ:(Gz.prog.info? 135).map (·.size)=an (aM f g c u v).size:=aD
def mE(W H:Int)(xs:List Int)(x y:Int)(k:Nat):eA W H xs x y Bz k=128:=rfl
def mF(W H:Int)(xs:List Int)(x y:Int)(k:Nat):eL W H xs x y Bz k=128:=rfl
def mG(W H:Int)(xs:List Int)(x y:Int)(b:Bool):eC W H xs x y Bz b=128:=aE
def mq(W H:Int)(xs:List Int)(x y:Int)(b:Bool):eC W H xs x y b Bz=128:=by simp[eC]
structure lP(W H:Int)(S:so)(w wr:AS)(cs:Array so):Prop where
 q:Q w wr
 p:ak wr w.heap.size 40 #[U O W,U O H,S]
 r:ak wr (w.heap.size+1) 135 (aM (λ_=>0) (λ_=>0) 0 Bz Bz)
 e:ak wr (w.heap.size+1+1) 135 cs
def lP.set{S:so}{wr:AS}(h:lP W H S w wr cs)(i:Nat)(v:so):lP W H S w (wr.setCell ⟨w.heap.size+1+1,i,ns⟩ v) (cs.setIfInBounds i v):=
 ⟨h.q.set rO v,h.p.aN uT v,h.r.aN rN v,h.e.set i v⟩
def lP.to{S:so}{wr w':AS}(h:lP W H S w wr cs)(k:Q wr w'):lP W H S w w' cs:=⟨h.q.trans k,h.p.q k,h.r.q k,h.e.q k⟩
def lP.start(W H:Int)(S:so)(w:AS)(cs:Array so):lP W H S w (((w.alloc (ac #[U O W,U O H,S] 40)).alloc (ac (aM (λ_=>0) (λ_=>0) 0 Bz Bz) 135)).alloc (ac cs 135)) cs:=by
 refine⟨aU,((ak.new w _ _).alloc _).alloc _,?_,?_⟩
 ·have h:=(ak.new (w.alloc (ac #[U O W,U O H,S] 40)) 135 (aM (λ_=>0) (λ_=>0) 0 Bz Bz)).alloc (ac cs 135);rw[OF] at h;exact h
 ·have h:=ak.new ((w.alloc (ac #[U O W,U O H,S] 40)).alloc (ac (aM (λ_=>0) (λ_=>0) 0 Bz Bz) 135)) 135 cs;rw[OF,OF] at h;exact h
def Z9(x y o:Nat)(c:Nat)(hx:Rd w B A xs)(hB:B<=w.heap.size)(hn:Hid (xs.length=n))(hp:Hid (bU W H xs=AT))(x2:x<=32)(y2:y<=32):
  aiK Gz.prog 154 #[a9 #[U O W,U O H,Y A n c],U O x,U O y,U O o] w λe w'=>e=be (a9 (B3 W H xs x y o))/\Q w w':=by
 have T:Hid (∀(z:AS)(_:Q w z)(u v:Int),aiK Gz.prog 179 #[a9 #[U O W,U O H,Y A n c],U O u,U O v] z λe w'=>e=be (U O (bF W H xs u v))/\Q z w'):=λz q u v=>RY u v c (hx.q q hB) (aI hB q.size) hn hp;have I:Hid (bF W H xs (x:Int) ((y:Int)-1)=eA W H xs x y AT 0):=yM;have J:Hid (bF W H xs ((x:Int)+1) ((y:Int)-1)=eA W H xs x y AT 1):=yM;have L:Hid (bF W H xs ((x:Int)+2) ((y:Int)-1)=eA W H xs x y AT 2):=yM;have M:Hid (bF W H xs ((x:Int)+3) ((y:Int)-1)=eA W H xs x y AT 3):=yM;have N:Hid (bF W H xs ((x:Int)-1) (y:Int)=eL W H xs x y AT 0):=zb;have P:Hid (bF W H xs ((x:Int)-1) ((y:Int)+1)=eL W H xs x y AT 1):=zb;have R:Hid (bF W H xs ((x:Int)-1) ((y:Int)+2)=eL W H xs x y AT 2):=zb;have S:Hid (bF W H xs ((x:Int)-1) ((y:Int)+3)=eL W H xs x y AT 3):=zb;have V:Hid (bF W H xs ((x:Int)-1) ((y:Int)-1)=eC W H xs x y AT AT):=by unfold Hid;simp[eC]
 unfold B3;obtain⟨up,D⟩:∃up,decide (o<y)=up:=⟨_,rfl⟩;obtain⟨l,E⟩:∃l,decide (0<x)=l:=⟨_,rfl⟩;rw[D,E];have K0:=af (lP.start W H (Y A n c) w (aM (upto (eA W H xs x y up) 0) (upto (eL W H xs x y l) 0) 128 up l));clear hx;rcases(show up=AT\/up=Bz by cases up<;>simp) with hu|hu<;>rcases(show l=AT\/l=Bz by cases l<;>simp) with hl|hl
 all_goals
  rw[hu] at D;rw[hl] at E;go_enter Gz.gf func154,ntmps154;go_wp2;go_loopw[17] (λi wr=>∃k:Nat,k<=4/\i=U O k/\Hid (lP W H (Y A n c) w wr (aM (upto (eA W H xs x y up) k) (upto (eL W H xs x y l) k) 128 up l))) (λi _=>4-(intOf i).toNat)
  case atStart=>exact⟨0,aa,rfl,by have h:=K0;simp only[aM,hu,hl] at h⊢;exact h⟩
  case round=>
   obtain⟨k,hk,rfl,hK⟩:=hrel;have K:=hK.out;clear hK K0;by_cases h4:k=4
   ·subst h4;rw[RZ] at K;have j:=K.e;(simp only[aM,upto,hu,hl,mE,mF,mG,mq,akC,akM,akr,if_true,if_false,ajt,ajx,ajJ,akl] at j)
    have c0:=j.cell;have f0:=j.free;have s:=akT;have f1:=akT;have t:=akT;have f2:=akT;have C:=K.p.cell;go_wp2_with(refine eP (cs':=aM (eA W H xs x y up) (eL W H xs x y l) (eC W H xs x y up l) up l) rfl _ _ _ rfl rfl _ rfl C8 K.r rfl Fh vZ ?_;intro w9 b9 g9 s9);all_goals(try(refine(T.out _ K.q _ _).mono ?_;rintro e w7⟨rfl,F⟩;clear c0 f0 s f1 t f2 C;replace K:=K.to F;have j:=K.e;first|(rw[I.out];replace K:=K.set 0 (U O (eA W H xs x y AT 0)))|(rw[J.out];replace K:=K.set 1 (U O (eA W H xs x y AT 1)))|(rw[L.out];replace K:=K.set 2 (U O (eA W H xs x y AT 2)))|(rw[M.out];replace K:=K.set 3 (U O (eA W H xs x y AT 3)))|(rw[N.out];replace K:=K.set 4 (U O (eL W H xs x y AT 0)))|(rw[P.out];replace K:=K.set 5 (U O (eL W H xs x y AT 1)))|(rw[R.out];replace K:=K.set 6 (U O (eL W H xs x y AT 2)))|(rw[S.out];replace K:=K.set 7 (U O (eL W H xs x y AT 3)))|(rw[V.out];replace K:=K.set 8 (U O (eC W H xs x y AT AT)))))
    all_goals(try(have m:=K.e;(simp only[aM,upto,hu,hl,mE,mF,mG,mq,akC,akM,akr,if_true,if_false,ajt,ajx,ajJ,akl] at j m);have c0:=j.cell;have f0:=j.free;have s:=m.cell;have f1:=m.free;have t:=akT;have f2:=akT;have C:=K.p.cell))
    all_goals(try go_wp2_with(refine eP (cs':=aM (eA W H xs x y up) (eL W H xs x y l) (eC W H xs x y up l) up l) rfl _ _ _ rfl rfl _ rfl C8 K.r rfl Fh vZ ?_;intro w9 b9 g9 s9))
    refine ajz (v:=a9 (aM (eA W H xs x y up) (eL W H xs x y l) (eC W H xs x y up l) up l)) (akL aD _ _ _ _ _ _ _ aD b9 (Gz.gu underlying135) rfl vZ) rfl ⟨rfl,?_⟩;exact K.q.grown g9 (λk e=>by have:=aJ e;omega)
   ·have X:=K.set k (U O 128);have G:=X.set (4+k) (U O 128);rcases(show k=0\/k=1\/k=2\/k=3 by omega) with rfl|rfl|rfl|rfl
    all_goals
     clear hk h4;have j:=K.e;have m:=X.e;simp only[akl] at G;have Z:=G.e;(simp only[aM,upto,hu,hl,mE,mF,mG,mq,akC,akM,akr,if_true,if_false,ajt,ajx,ajJ,akl] at j m Z)
     have c0:=j.cell;have f0:=j.free;have s:=m.cell;have f1:=m.free;have t:=Z.cell;have f2:=Z.free;have C:=G.p.cell;clear K X;have K:=G;clear G;go_wp2;all_goals(try((refine(T.out _ K.q _ _).mono ?_;rintro e w7⟨rfl,F⟩;clear c0 f0 s f1 t f2 C;replace K:=K.to F;have j:=K.e;first|(rw[I.out];replace K:=K.set 0 (U O (eA W H xs x y AT 0)))|(rw[J.out];replace K:=K.set 1 (U O (eA W H xs x y AT 1)))|(rw[L.out];replace K:=K.set 2 (U O (eA W H xs x y AT 2)))|(rw[M.out];replace K:=K.set 3 (U O (eA W H xs x y AT 3)))|(rw[N.out];replace K:=K.set 4 (U O (eL W H xs x y AT 0)))|(rw[P.out];replace K:=K.set 5 (U O (eL W H xs x y AT 1)))|(rw[R.out];replace K:=K.set 6 (U O (eL W H xs x y AT 2)))|(rw[S.out];replace K:=K.set 7 (U O (eL W H xs x y AT 3)))|(rw[V.out];replace K:=K.set 8 (U O (eC W H xs x y AT AT))));(have m:=K.e;(simp only[aM,upto,hu,hl,mE,mF,mG,mq,akC,akM,akr,if_true,if_false,ajt,ajx,ajJ,akl] at j m);have c0:=j.cell;have f0:=j.free;have s:=m.cell;have f1:=m.free;have t:=akT;have f2:=akT;have C:=K.p.cell);go_wp2))
     all_goals(try((refine(T.out _ K.q _ _).mono ?_;rintro e w7⟨rfl,F⟩;clear c0 f0 s f1 t f2 C;replace K:=K.to F;have j:=K.e;first|(rw[I.out];replace K:=K.set 0 (U O (eA W H xs x y AT 0)))|(rw[J.out];replace K:=K.set 1 (U O (eA W H xs x y AT 1)))|(rw[L.out];replace K:=K.set 2 (U O (eA W H xs x y AT 2)))|(rw[M.out];replace K:=K.set 3 (U O (eA W H xs x y AT 3)))|(rw[N.out];replace K:=K.set 4 (U O (eL W H xs x y AT 0)))|(rw[P.out];replace K:=K.set 5 (U O (eL W H xs x y AT 1)))|(rw[R.out];replace K:=K.set 6 (U O (eL W H xs x y AT 2)))|(rw[S.out];replace K:=K.set 7 (U O (eL W H xs x y AT 3)))|(rw[V.out];replace K:=K.set 8 (U O (eC W H xs x y AT AT))));(have m:=K.e;(simp only[aM,upto,hu,hl,mE,mF,mG,mq,akC,akM,akr,if_true,if_false,ajt,ajx,ajJ,akl] at j m);have c0:=j.cell;have f0:=j.free;have s:=m.cell;have f1:=m.free;have t:=akT;have f2:=akT;have C:=K.p.cell);go_wp2))
     go_roundw;case rel=>first|exact⟨1,al,rfl,by have h:=K;(simp only[aM,upto,hu,hl,mE,mF,mG,mq,akC,akM,akr,if_true,if_false,ajt,ajx,ajJ,akl] at h⊢);exact h⟩|exact⟨2,al,rfl,by have h:=K;(simp only[aM,upto,hu,hl,mE,mF,mG,mq,akC,akM,akr,if_true,if_false,ajt,ajx,ajJ,akl] at h⊢);exact h⟩|exact⟨3,al,rfl,by have h:=K;(simp only[aM,upto,hu,hl,mE,mF,mG,mq,akC,akM,akr,if_true,if_false,ajt,ajx,ajJ,akl] at h⊢);exact h⟩|exact⟨4,al,rfl,by have h:=K;(simp only[aM,upto,hu,hl,mE,mF,mG,mq,akC,akM,akr,if_true,if_false,ajt,ajx,ajJ,akl] at h⊢);exact h⟩
     case measure=>simp[intOf]
end
section
open Go.RowKit
def oG(f:Nat->Int)(k:Nat)(a:Int)(j:Nat):Int:=if j=k then a else f j
def QB{k:Nat}(h:k<4):(aM f g c u v).setIfInBounds k (U O a)=aM (oG f k a) g c u v:=by exact zi
def QC{k:Nat}(h:k<4):(aM f g c u v).setIfInBounds (4+k) (U O a)=aM f (oG g k a) c u v:=by exact zi
def qm(f g:Nat->Int)(c:Int)(u v:Bool)(k:Nat)(h:k<4):(aM f g c u v)[k]?=an (U O (f k)):=by exact zi
def qn(f g:Nat->Int)(c:Int)(u v:Bool)(k:Nat)(h:k<4):(aM f g c u v)[4+k]?=an (U O (g k)):=by exact zi
def acZ(f:Nat->Int)(k:Nat)(a:Int):oG (oG (upto f k) k a) k (f k)=upto f (k+1):=by
 funext j;unfold oG upto;by_cases h:j=k
 ·simp_all
 ·omega
def PC(f:Nat->Int)(k:Nat):oG (upto f k) k (f k)=upto f (k+1):=by
 funext j;unfold oG upto;by_cases h:j=k
 ·simp_all
 ·omega
def upA(W H:Int)(xs:List Int)(x y:Int)(k:Nat):oG (upto (eA W H xs x y Bz) k) k 128=upto (eA W H xs x y Bz) (k+1):=PC (eA W H xs x y Bz) k
def upL(W H:Int)(xs:List Int)(x y:Int)(k:Nat):oG (upto (eL W H xs x y Bz) k) k 128=upto (eL W H xs x y Bz) (k+1):=PC (eL W H xs x y Bz) k
def SZ{W H:Nat}(e:n=H*W)(h:x<W)(i:y<H):y*W+x<n:=by rw[e];exact Sg y W H x i h
def aaa{W H:Nat}(L:Nat)(c:Nat)(hx:Rd w B A xs)(hB:B<=w.heap.size)(hn:xs.length=n)(hm:n=H*W)(hW:W<=32)(hH:H<=32)(x4:x+4<=W)(y4:y+4<=H):
  aiK Gz.prog 97 #[a9 #[U O W,U O H,Y A n c],U O x,U O y,U O L] w λe w'=>e=be (a9 (B3 W H xs x y L))/\Q w w':=by
 have n1:n<=1024:=by rw[hm];exact gj hH hW
 have n0:0<n:=by have:=SZ (x:=0) (y:=0) hm (by omega) (by omega);omega
 obtain⟨b,o,rfl,hb,hc⟩:=hx aa
 have S:Hid (∀(z:AS)(_:Q w z)(v u p:Nat),u<W->v<H->v*W+u=p->p<n/\z.cell? ⟨b,o+p,ns⟩=an (U O (bF W H xs u v))):=by intro z q v u p hu hv hp;have M:=SZ hm hu hv;rw[hp] at M;exact⟨M,(q.cell b _ aa).trans (by rw[hc p (by omega),aeL hu hv,hp])⟩
 unfold B3;obtain⟨up,F⟩:∃up,decide (L<y)=up:=⟨_,rfl⟩;obtain⟨t,G⟩:∃t,decide (0<x)=t:=⟨_,rfl⟩;rw[F,G]
 have EA:Hid (∀k l:Nat,y=l+1->bF W H xs ((x+k:Nat):Int) (l:Int)=eA W H xs x y AT k):=λk l h=>by unfold eA;rw[if_pos rfl,Int.natCast_add,show(y:Int)-1=(l:Int) by omega]
 have EL:Hid (∀k m:Nat,x=m+1->bF W H xs (m:Int) ((y+k:Nat):Int)=eL W H xs x y AT k):=λk m h=>by unfold eL;rw[if_pos rfl,Int.natCast_add,show(x:Int)-1=(m:Int) by omega]
 have EC:Hid (∀m l:Nat,x=m+1->y=l+1->bF W H xs (m:Int) (l:Int)=eC W H xs x y AT AT):=λm l h h'=>by unfold eC;rw[if_pos ⟨rfl,rfl⟩,show(x:Int)-1=(m:Int) by omega,show(y:Int)-1=(l:Int) by omega]
 have K0:=af (lP.start W H (Y (an ⟨b,o,ns⟩) n c) w (aM (upto (eA W H xs x y up) 0) (upto (eL W H xs x y t) 0) 128 up t));have JK:(W:Int)<=32:=aa;have Wf:(y:Int)<=32:=aa;have Wh:(x:Int)<=32:=aa;have HM:=af hm;have HN:=af hn;clear hx hc hm hn;rcases(show up=AT\/up=Bz by cases up<;>simp) with hu|hu<;>rcases(show t=AT\/t=Bz by cases t<;>simp) with hl|hl
 all_goals
  rw[hu] at F;rw[hl] at G;go_enter Gz.gf func97,ntmps97;go_wp2;go_loopw[10] (λi wr=>∃k:Nat,k<=4/\i=U O k/\Hid (lP W H (Y (an ⟨b,o,ns⟩) n c) w wr (aM (upto (eA W H xs x y up) k) (upto (eL W H xs x y t) k) 128 up t))) (λi _=>4-(intOf i).toNat)
  case atStart=>exact⟨0,aa,rfl,by have h:=K0;simp only[aM,hu,hl] at h⊢;exact h⟩
  case round=>
   obtain⟨k,hk,rfl,hK⟩:=hrel;have K:=hK.out;clear hK K0;by_cases h4:k=4
   ·subst h4;rw[RZ] at K;have T:=K.e;have pa:=K.p.cell;have KK:=K;(first|(have y0:0<y:=(by rw[decide_eq_true_eq] at F;omega);have x0:0<x:=(by rw[decide_eq_true_eq] at G;omega);obtain⟨l,C⟩:∃l,y=l+1:=⟨y-1,aa⟩;obtain⟨m,D⟩:∃m,x=m+1:=⟨x-1,aa⟩;obtain⟨j,s⟩:∃j,l*W=j:=⟨_,rfl⟩;have E:((y:Int)-1)*(W:Int)=(j:Int):=(by rw[show(y:Int)-1=(l:Int) by omega,<-s,alW]);obtain⟨la,sa⟩:=S.out _ KK.q l m (j+m) aa aa (by rw[s]);rw[EC.out m l D C] at sa;replace KK:=KK.set 8 (U O (eC W H xs x y AT AT));have ua:((j:Int)+(x:Int)-1).toNat=j+m:=aa;have ub:(j:Int)+(x:Int)-1<(n:Int):=aa;have uc:0<=(j:Int)+(x:Int)-1:=aa;have ud:EV.wrap ((j:Int)+(x:Int))=(j:Int)+(x:Int):=aB _ ⟨aa,aa⟩;have ue:EV.wrap ((j:Int)+(x:Int)-1)=(j:Int)+(x:Int)-1:=aB _ ⟨aa,aa⟩;have uf:EV.wrap (((y:Int)-1)*(W:Int))=(j:Int):=(by rw[E];exact aB _ ⟨by omega,by omega⟩);clear E;have V:=af s;have X:=af C;have Z:=af D;clear s C D)|skip)
    have b1:=KK.e;simp only[aM,hu,hl,mE,mF,mG,mq,ajt,ajx,ajJ] at T b1;have c0:=T.cell;have f0:=T.free;have c1:=b1.cell;clear K;go_wp2_with(refine eP (cs':=aM (eA W H xs x y up) (eL W H xs x y t) (eC W H xs x y up t) up t) rfl _ _ _ rfl rfl _ rfl C8 KK.r rfl Fh vZ ?_;intro w9 b9 g9 s9);refine ajz (v:=a9 (aM (eA W H xs x y up) (eL W H xs x y t) (eC W H xs x y up t) up t)) (akL aD _ _ _ _ _ _ _ aD b9 (Gz.gu underlying135) rfl vZ) rfl ⟨rfl,?_⟩;exact KK.q.grown g9 (λk e=>by have:=aJ e;omega)
   ·have J:k<4:=by omega
    have i6:(k:Int)<4:=aa;have ca:=(K.e.cell k).trans (qm _ _ _ _ _ k J);have fa:=K.e.free k;have N:=K.set k (U O 128);rw[QB J] at N;have cb:=(N.e.cell (4+k)).trans (qn _ _ _ _ _ k J);have fb:=N.e.free (4+k);have P:=N.set (4+k) (U O 128);rw[QC J] at P;have cc:=P.e.cell 9;have pa:=P.p.cell;have KK:=P;(try(have y0:0<y:=(by rw[decide_eq_true_eq] at F;omega);obtain⟨l,C⟩:∃l,y=l+1:=⟨y-1,aa⟩;obtain⟨j,s⟩:∃j,l*W=j:=⟨_,rfl⟩;have E:((y:Int)-1)*(W:Int)=(j:Int):=(by rw[show(y:Int)-1=(l:Int) by omega,<-s,alW]);obtain⟨la,sa⟩:=S.out _ KK.q l (x+k) (j+x+k) aa aa (by rw[s];omega);rw[EA.out k l C] at sa;have da:=(KK.e.cell k).trans (qm _ _ _ _ _ k J);have ga:=KK.e.free k;replace KK:=KK.set k (U O (eA W H xs x y AT k));rw[QB J] at KK;have ua:((j:Int)+(x:Int)+(k:Int)).toNat=j+x+k:=aa;have ub:(j:Int)+(x:Int)+(k:Int)<(n:Int):=aa;have uc:0<=(j:Int)+(x:Int)+(k:Int):=aa;have ud:EV.wrap ((j:Int)+(x:Int))=(j:Int)+(x:Int):=aB _ ⟨aa,aa⟩;have ue:EV.wrap ((j:Int)+(x:Int)+(k:Int))=(j:Int)+(x:Int)+(k:Int):=aB _ ⟨aa,aa⟩;have uf:EV.wrap (((y:Int)-1)*(W:Int))=(j:Int):=(by rw[E];exact aB _ ⟨by omega,by omega⟩);have pc:=KK.p.cell;clear E;have V:=af s;have X:=af C;clear s C))
    have cd:=KK.e.cell 10;(try(have x0:0<x:=(by rw[decide_eq_true_eq] at G;omega);obtain⟨m,D⟩:∃m,x=m+1:=⟨x-1,aa⟩;obtain⟨q1,I⟩:∃q1,(y+k)*W=q1:=⟨_,rfl⟩;have R:((y:Int)+(k:Int))*(W:Int)=(q1:Int):=(by rw[<-I,alW,Int.natCast_add]);obtain⟨lb,sb⟩:=S.out _ KK.q (y+k) m (q1+m) aa aa (by rw[I]);rw[EL.out k m D] at sb;have db:=(KK.e.cell (4+k)).trans (qn _ _ _ _ _ k J);have gb:=KK.e.free (4+k);replace KK:=KK.set (4+k) (U O (eL W H xs x y AT k));rw[QC J] at KK;have va:((q1:Int)+(x:Int)-1).toNat=q1+m:=aa;have vb:(q1:Int)+(x:Int)-1<(n:Int):=aa;have vc:0<=(q1:Int)+(x:Int)-1:=aa;have vd:EV.wrap ((q1:Int)+(x:Int))=(q1:Int)+(x:Int):=aB _ ⟨aa,aa⟩;have ve:EV.wrap ((q1:Int)+(x:Int)-1)=(q1:Int)+(x:Int)-1:=aB _ ⟨aa,aa⟩;have vf:EV.wrap (((y:Int)+(k:Int))*(W:Int))=(q1:Int):=(by rw[R];exact aB _ ⟨by omega,by omega⟩);clear R;have Wi:=af I;have Z:=af D;clear I D))
    simp only[aM,hu,hl] at cc cd;clear K N P;go_wp2;go_roundw;case rel=>refine⟨k+1,aa,aF,?_⟩;have h:=KK;simp only[hu,hl,acZ,upA,upL] at h⊢;exact h
    case measure=>exact aT
end
section
open Go.RowKit
def EB(f g:Nat->Int)(c:Int):Prop:=(∀k,0<=f k/\f k<=255)/\(∀k,0<=g k/\g k<=255)/\0<=c/\c<=255
def sm(f:Nat->Int):Nat->Int
 |0=>0
 |k+1=>sm f k+f k
def mT(f g:Nat->Int)(u v:Bool)(k:Nat):Int:=(if u=AT then sm f k else 0)+(if v=AT then sm g k else 0)
def mN(u v:Bool)(k:Nat):Int:=(if u=AT then(k:Int) else 0)+(if v=AT then(k:Int) else 0)
def mX(f g:Nat->Int)(u v:Bool):Int:=if mN u v 4=0 then 128 else(2*mT f g u v 4+mN u v 4)/(2*mN u v 4)
def abj(f g:Nat->Int)(u v:Bool){x y:so}(w:AS)(s:EB f g c):
  aiK Gz.prog 180 #[a9 (aM f g c u v),x,y] w λe w'=>e=be (.int .i64 (mX f g u v))/\Q w w':=by
 have M:Q w (w.alloc (ac (aM f g c u v) 135)):=aU;have j:=ak.new w 135 (aM f g c u v);have Z:(w.alloc (ac (aM f g c u v) 135)).cell? ⟨w.heap.size,9,ns⟩=an (a5 u):=j.cell 9;have CV:(w.alloc (ac (aM f g c u v) 135)).cell? ⟨w.heap.size,10,ns⟩=an (a5 v):=j.cell 10;have CF:Hid (∀k,k<4->(w.alloc (ac (aM f g c u v) 135)).cell? ⟨w.heap.size,k,ns⟩=an (.int .i64 (f k))):=λk l=>(j.cell k).trans (qm f g c u v k l);have CG:Hid (∀k,k<4->(w.alloc (ac (aM f g c u v) 135)).cell? ⟨w.heap.size,4+k,ns⟩=an (.int .i64 (g k))):=λk l=>(j.cell (4+k)).trans (qn f g c u v k l);have z:=af s;clear j s;obtain⟨U,m⟩:∃U,Hid (U=u):=⟨u,rfl⟩;obtain⟨V,o⟩:∃V,Hid (V=v):=⟨v,rfl⟩;cases u<;>cases v
 all_goals
  go_enter Gz.gf func180,ntmps180;go_wp2;go_loop[7,8,10] (λt n i=>∃k:Nat,∃T N:Int,k<=4/\t=.int .i64 T/\n=.int .i64 N/\i=.int .i64 k/\Hid (T=mT f g U V k/\N=mN U V k/\0<=T/\T<=510*k/\0<=N/\N<=2*k)) (λ_ _ i=>4-(intOf i).toNat)
  case atStart=>exact⟨0,0,0,aa,rfl,rfl,rfl,by simp[mT,sm],by simp[mN],aa,aa,aa,aa⟩
  case round=>
   obtain⟨k,T,N,l,rfl,rfl,rfl,C⟩:=hrel;obtain⟨D,E,r3,r4,r5,r6⟩:=C.out;have F:=af D;have p:=af E;clear C D E;by_cases G:k<4
   ·have P:(k:Int)<4:=by omega
    have R:=CF.out k G;have cb:=CG.out k G;obtain⟨f0,f1⟩:=z.out.1 k;obtain⟨S,X⟩:=z.out.2.1 k;have I:Hid (sm f (k+1)=sm f k+f k):=rfl;have J:Hid (sm g (k+1)=sm g k+g k):=rfl;generalize f k=fk at R f0 f1 I;generalize g k=gk at cb S X J;go_wp2;go_round;case rel=>exact⟨k+1,_,_,aa,rfl,rfl,aF,by rw[F.out];simp[mT,m.out,o.out,I.out,J.out];try omega,by rw[p.out];simp[mN,m.out,o.out];try omega,aa,aa,aa,aa⟩
    case measure=>exact aT
   ·have q:k=4:=by omega
    subst q;have K:Hid (mX f g U V=if N=0 then 128 else(2*T+N)/(2*N)):=by unfold Hid mX;rw[<-F.out,<-p.out]
    have h:=K.out;rw[m.out,o.out] at h;have r:=af h;clear h K;have L:=p.out;simp[mN,m.out,o.out] at L;subst L;go_wp2;all_goals(try(refine(adC aa aa aa aa).mono ?_;rintro e w'⟨rfl,rfl⟩;go_wp2))
    go_ret;exact⟨by rw[r.out];simp,M⟩
def abk(f g:Nat->Int)(u v:Bool)(w:AS)(s:EB f g c):
  aiK Gz.prog 136 #[a9 (aM f g c u v)] w λe w'=>e=be (.int .i64 (mX f g u v))/\Q w w':=by
 have M:Q w (w.alloc (ac (aM f g c u v) 135)):=aU;have j:=ak.new w 135 (aM f g c u v);have Z:(w.alloc (ac (aM f g c u v) 135)).cell? ⟨w.heap.size,9,ns⟩=an (a5 u):=j.cell 9;have CV:(w.alloc (ac (aM f g c u v) 135)).cell? ⟨w.heap.size,10,ns⟩=an (a5 v):=j.cell 10;have CF:Hid (∀k,k<4->(w.alloc (ac (aM f g c u v) 135)).cell? ⟨w.heap.size,k,ns⟩=an (.int .i64 (f k))):=λk l=>(j.cell k).trans (qm f g c u v k l);have CG:Hid (∀k,k<4->(w.alloc (ac (aM f g c u v) 135)).cell? ⟨w.heap.size,4+k,ns⟩=an (.int .i64 (g k))):=λk l=>(j.cell (4+k)).trans (qn f g c u v k l);have z:=af s;clear j s;obtain⟨U,m⟩:∃U,Hid (U=u):=⟨u,rfl⟩;obtain⟨V,o⟩:∃V,Hid (V=v):=⟨v,rfl⟩;cases u<;>cases v
 all_goals
  go_enter Gz.gf func136,ntmps136;go_wp2;go_loop[3,4,5] (λt n i=>∃k:Nat,∃T N:Int,k<=4/\t=.int .i64 T/\n=.int .i64 N/\i=.int .i64 k/\Hid (T=mT f g U V k/\N=mN U V k/\0<=T/\T<=510*k/\0<=N/\N<=2*k)) (λ_ _ i=>4-(intOf i).toNat)
  case atStart=>exact⟨0,0,0,aa,rfl,rfl,rfl,by simp[mT,sm],by simp[mN],aa,aa,aa,aa⟩
  case round=>
   obtain⟨k,T,N,l,rfl,rfl,rfl,C⟩:=hrel;obtain⟨D,E,r3,r4,r5,r6⟩:=C.out;have F:=af D;have p:=af E;clear C D E;by_cases G:k<4
   ·have P:(k:Int)<4:=by omega
    have R:=CF.out k G;have cb:=CG.out k G;obtain⟨f0,f1⟩:=z.out.1 k;obtain⟨S,X⟩:=z.out.2.1 k;have I:Hid (sm f (k+1)=sm f k+f k):=rfl;have J:Hid (sm g (k+1)=sm g k+g k):=rfl;generalize f k=fk at R f0 f1 I;generalize g k=gk at cb S X J;go_wp2;go_round;case rel=>exact⟨k+1,_,_,aa,rfl,rfl,aF,by rw[F.out];simp[mT,m.out,o.out,I.out,J.out];try omega,by rw[p.out];simp[mN,m.out,o.out];try omega,aa,aa,aa,aa⟩
    case measure=>exact aT
   ·have q:k=4:=by omega
    subst q;have K:Hid (mX f g U V=if N=0 then 128 else(2*T+N)/(2*N)):=by unfold Hid mX;rw[<-F.out,<-p.out]
    have h:=K.out;rw[m.out,o.out] at h;have r:=af h;clear h K;have L:=p.out;simp[mN,m.out,o.out] at L;subst L;go_wp2;go_ret;exact⟨by rw[r.out];(first|rfl|(congr 2;simp;try omega)),M⟩
def XU(f g:Nat->Int)(c:Int)(u v:Bool){y:so}(w:AS)(h:x<4):
  aiK Gz.prog 181 #[a9 (aM f g c u v),U O x,y] w λe w'=>e=be (U O (f x))/\Q w w':=by
 have i:Q w (w.alloc (ac (aM f g c u v) 135)):=aU;have j:=ak.new w 135 (aM f g c u v);have k:=(j.cell x).trans (qm f g c u v x h);go_enter Gz.gf func181,ntmps181;go_wp2;go_ret;exact⟨rfl,i⟩
def Xu(f g:Nat->Int)(c:Int)(u v:Bool){x:so}(w:AS)(h:y<4):
  aiK Gz.prog 182 #[a9 (aM f g c u v),x,U O y] w λe w'=>e=be (U O (g y))/\Q w w':=by
 have i:Q w (w.alloc (ac (aM f g c u v) 135)):=aU;have j:=ak.new w 135 (aM f g c u v);have k:=(j.cell (4+y)).trans (qn f g c u v y h);go_enter Gz.gf func182,ntmps182;go_wp2;go_ret;exact⟨rfl,i⟩
def gH(f g:Nat->Int)(c:Int)(j:Nat):Int:=if j<4 then g (3-j) else if j=4 then c else f (j-5)
def pz(f g:Nat->Int)(c:Int)(k:Nat):Int:=(gH f g c (k-1)+2*gH f g c k+gH f g c (k+1)+2)/4
def nT(h:EB f g c)(j:Nat):0<=gH f g c j/\gH f g c j<=255:=by
 unfold gH;split
 ·exact h.2.1 _
 ·split
  ·exact h.2.2
  ·exact h.1 _
def agS(f g:Nat->Int)(c:Int):Array so:=#[U O (g 3),U O (g 2),U O (g 1),U O (g 0),U O c,U O (f 0),U O (f 1),U O (f 2),U O (f 3)]
def GF(f g:Nat->Int)(c:Int)(j:Nat)(h:j<9):(agS f g c)[j]?=an (U O (gH f g c j)):=by rcases(show j=0\/j=1\/j=2\/j=3\/j=4\/j=5\/j=6\/j=7\/j=8 by omega) with rfl|rfl|rfl|rfl|rfl|rfl|rfl|rfl|rfl<;>rfl
def XV(f g:Nat->Int)(c:Int)(u v:Bool)(k:Nat)(w:AS)(l:k<9):
  aiK Gz.prog 137 #[a9 (aM f g c u v),U O k] w λe w'=>e=be (U O (gH f g c k))/\Q w w':=by
 have j:Q w (w.alloc (ac (aM f g c u v) 135)):=aU;have h:=ak.new w 135 (aM f g c u v);have m:∀i,(w.alloc (ac (aM f g c u v) 135)).cell? ⟨w.heap.size,i,ns⟩=(#[U O (f 0),U O (f 1),U O (f 2),U O (f 3),U O (g 0),U O (g 1),U O (g 2),U O (g 3),U O c,a5 u,a5 v]:Array so)[i]?:=h.cell;rcases(show k=0\/k=1\/k=2\/k=3\/k=4\/k=5\/k=6\/k=7\/k=8 by omega) with rfl|rfl|rfl|rfl|rfl|rfl|rfl|rfl|rfl
 all_goals
  clear h;go_enter Gz.gf func137,ntmps137;go_wp2;go_ret;exact⟨rfl,j⟩
def XW(f g:Nat->Int)(u v:Bool)(w:AS)(D:x<4)(E:y<4)(m:EB f g c):
  aiK Gz.prog 183 #[a9 (aM f g c u v),U O x,U O y] w λe w'=>e=be (U O (pz f g c (4+x-y)))/\Q w w':=by
 have q0:Q w ((w.alloc (ac (aM f g c u v) 135)).alloc (ac (#[U O (g 3),U O (g 2),U O (g 1),U O (g 0),U O c,U O (f 0),U O (f 1),U O (f 2),U O (f 3)]:Array so) 236)):=aU;have F:∀i,(w.alloc (ac (aM f g c u v) 135)).cell? ⟨w.heap.size,i,ns⟩=(#[U O (f 0),U O (f 1),U O (f 2),U O (f 3),U O (g 0),U O (g 1),U O (g 2),U O (g 3),U O c,a5 u,a5 v]:Array so)[i]?:=(ak.new w 135 (aM f g c u v)).cell;have j:=ak.new (w.alloc (ac (aM f g c u v) 135)) 236 (#[U O (g 3),U O (g 2),U O (g 1),U O (g 0),U O c,U O (f 0),U O (f 1),U O (f 2),U O (f 3)]:Array so);rw[OF] at j;obtain⟨k,o⟩:∃k,4+x-y=k:=⟨_,rfl⟩;rw[o];have G:(4:Int)+(x:Int)-(y:Int)=(k:Int):=aa;obtain⟨h,l⟩:∃h,k=h+1:=⟨k-1,aa⟩;have q:(k:Int)-1=(h:Int):=aa;have d1:=(j.cell h).trans (GF f g c h aa);have d2:=(j.cell k).trans (GF f g c k aa);have d3:=(j.cell (k+1)).trans (GF f g c (k+1) aa);have p:Hid (pz f g c k=(gH f g c h+2*gH f g c k+gH f g c (k+1)+2)/4):=by unfold Hid pz;rw[l];rfl
 rw[p.out];obtain⟨r,s⟩:=nT m h;obtain⟨t,z⟩:=nT m k;obtain⟨c0,C⟩:=nT m (k+1);generalize gH f g c h=s1 at d1 r s⊢;generalize gH f g c k=s2 at d2 t z⊢;generalize gH f g c (k+1)=I at d3 c0 C⊢;have J:(h:Int)<9:=aa;have K:(k:Int)<9:=aa;have L:(k:Int)+1<9:=aa;clear o l p m j;go_enter Gz.gf func183,ntmps183;go_wp2
 go_quiet(fail)
 exact LP
end
end Go.Proofs.Q0
