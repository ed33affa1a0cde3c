import Derived.Test.YtjjdeakghpmpfaaGreatDoorK25
set_option maxRecDepth 100000
set_option maxHeartbeats 8000000
set_option linter.all false
open Go.Value renaming int->U,slice->Y,bool->a9,agg->a5,pointer->ci,tuple->dl,iface->em
open Go.IntKind renaming i64->O
open Go.Obj renaming cells->ac
open Go.Ending renaming returned->be
open Go renaming Calls->UL,Value->rl,World->ns,bodyPost_ret->aiA,results_cell_row->akj
open Go.IntKind renaming i64->AS
open Go.World renaming size_alloc->BE
open Int renaming natCast_mul->ali
open List renaming replicate->an,setIfInBounds_toArray->aix,set_cons_succ->aiQ,set_cons_zero->aiG
open Nat renaming lt_irrefl->ajG,not_lt_zero->ajv,reduceAdd->ajp,reduceLT->ajT
open True renaming intro->akb
namespace Go.Proofs
def Lk{p:Prop}(h:p:=by(go_wp2_with(first|(first|refine eY rfl rfl rfl aG ?_|refine eX aD rfl rfl aG ?_)|(refine iH rfl _ _ rfl _ rfl _ _ rfl dh aG ?_;intro w9 b9 g9 s9)|(refine iH rfl _ _ rfl _ rfl _ (List.replicate 16 0) rfl rfl aG ?_;intro w9 b9 g9 s9));refine bodyPost_ret (v:=a5 (arr _)) (results_cell_row aD _ _ _ _ _ _ _ aD (Bl.blk b9) (Gz.gu underlying82) rfl (by rw[bO,hz];exact mP)) rfl ⟨rfl,QQ.grown g9 λk e=>by have:=aL e;omega⟩)):p:=h
def Ll{p:Prop}(h:p:=by go_wp2;refine T1.out.mono ?_;rintro e w'⟨rfl,q1⟩;go_wp2;all_goals(go_ret;exact⟨by first|rfl|(simp;omega),q1⟩)):p:=h
def xN{p:Prop}(h:p:=by rw[<-z9];omega):p:=h
def xO{p:Prop}(h:p:=by rw[HE.out];unfold dA;omega):p:=h
def uj{p:Prop}(h:p:=by unfold fK;split<;>(try split)<;>omega):p:=h
def Lm{p:Prop}(h:p:=by refine wpQuiet_nil ?_;rintro _⟨⟨w7,qq⟩,rfl⟩;go_wp2;go_ret;exact⟨rfl,q0.trans qq⟩):p:=h
def xP{p:Prop}(h:p:=by unfold Hid;simp[eA]):p:=h
def x7{p:Prop}(h:p:=by unfold Hid;simp[eL]):p:=h
def Co{p:Prop}(h:p:=by simp only[aM,hu,hl,lM,lN,lO,lE];rfl):p:=h
def yk{p:Prop}(h:p:=by rcases(show k=0\/k=1\/k=2\/k=3 by omega) with rfl|rfl|rfl|rfl<;>rfl):p:=h
def Ln{p:Prop}(h:p:=by go_wp2;go_ret;exact⟨rfl,by have hq:=q0;exact aR⟩):p:=h
end Go.Proofs
namespace Go.Proofs.Q0
open Go.Proofs.Tryz
variable{xs:List Int}{w:ns}{n B x y:Nat}{a b c d W H:Int}{cs:Array rl}{A:Option Addr}{u v:Bool}{f g:Nat->Int}
section
open Go.RowKit
def gC(xs:List Int)(s:Int)(k:Nat):Int:=AJ (xs[k]?.getD 0) s
def gE(xs:List Int)(q:Int):List Int:=if(aS xs 4080&&qB q)=true then jW (a6 (gC xs (step q.toNat)) 16) else cn
def Qc{q:Int}:(gE xs q).length=16:=by
 unfold gE;split
 ·rfl
 ·rfl
def Wp(q:Int)(S:Tb w)(D:xs.length=16):
  UL Gz.prog 147 #[a5 (arr xs),U O q] w λe w'=>e=be (a5 (arr (gE xs q)))/\Q w w':=by
 have s1:=bO xs;rw[D] at s1;have QQ:Q w ((w.alloc (ac (arr xs) 82)).alloc (ac (arr (an 16 0)) 82)):=aR;have E:=(Bl.new w xs D).alloc (ac (arr (an 16 0)) 82);have m:=Bl.zero (w.alloc (ac (arr xs) 82));simp only[BE] at m;have F:=af (S.q QQ);have hz:cn.length=16:=rfl;have T:w.heap.size≠2:=by have:=S.pos;omega
 clear S;cases o:qB q
 ·have I:Hid (gE xs q=cn):=by unfold Hid gE;rw[o,Bool.and_false];rfl
  have HR:Hid (decide (0<=q/\q<=15)=false):=o;rw[I.out];clear o;go_enter Gz.gf func147,ntmps147;go_wp2_with(first|refine eY rfl rfl rfl aG ?_|refine eX aD rfl rfl aG ?_);refine(nR _ HR).mono ?_;rintro e w'⟨rfl,rfl⟩;exact Lk
 ·have HR:Hid (decide (0<=q/\q<=15)=true):=o;have V:0<=q/\q<=15:=of_decide_eq_true o;cases t:aS xs 4080
  ·have I:Hid (gE xs q=cn):=by unfold Hid gE;rw[t];rfl
   have X:=af t;rw[I.out];clear o t;go_enter Gz.gf func147,ntmps147;go_wp2_with(first|refine eY rfl rfl rfl aG ?_|refine eX aD rfl rfl aG ?_);refine(nR _ HR).mono ?_;rintro e w'⟨rfl,rfl⟩;go_wp2_with(first|refine eY rfl rfl rfl aG ?_|refine eX aD rfl rfl aG ?_);refine(yR D aa aa X).mono ?_;rintro e Z⟨rfl,q1⟩;(try replace E:=E.q q1);(try replace bb:=bb.q q1);(try replace m:=m.q q1);(try replace bd:=bd.q q1);(try replace F:=af (F.out.q q1));replace QQ:=QQ.trans q1;have sq:=q1.size;clear q1;exact Lk
  ·have X:=af t;obtain⟨n,rfl⟩:∃n:Nat,q=(n:Int):=⟨q.toNat,aa⟩;have I:Hid (gE xs (n:Int)=jW (a6 (gC xs (step n)) 16)):=by unfold Hid gE;rw[t,o];rfl
   rw[I.out];have n16:n<16:=aa;have HI:=af λk hk=>mU t k hk;have HM:Hid (aS (a6 (gC xs (step n)) 16) 4080=true):=Rf λk _=>Gd aa;clear o t V;go_enter Gz.gf func147,ntmps147;go_wp2_with(first|refine eY rfl rfl rfl aG ?_|refine eX aD rfl rfl aG ?_);refine(nR _ HR).mono ?_;rintro e w'⟨rfl,rfl⟩;go_wp2_with(first|refine eY rfl rfl rfl aG ?_|refine eX aD rfl rfl aG ?_);refine(yR D aa aa X).mono ?_;rintro e Z⟨rfl,q1⟩;(try replace E:=E.q q1);(try replace bb:=bb.q q1);(try replace m:=m.q q1);(try replace bd:=bd.q q1);(try replace F:=af (F.out.q q1));replace QQ:=QQ.trans q1;have sq:=q1.size;clear q1;go_wp2_with(first|refine eY rfl rfl rfl aG ?_|refine eX aD rfl rfl aG ?_);have U9:w.heap.size+1<Z.heap.size:=m.lt;go_loopw[17] (λi wr=>∃k:Nat,k<=16/\i=U O k/\Hid (Bl wr w.heap.size (a6 (λj=>if j<k then gC xs (step n) j else xs[j]?.getD 0) 16)/\Bl wr (w.heap.size+1) cn/\Q w wr/\Tb wr)) (λi _=>16-(intOf i).toNat)
   case atStart=>exact⟨0,aa,rfl,by rw[EX D];exact E,m,QQ,F.out⟩
   case round=>
    obtain⟨k,hk,rfl,hK⟩:=hrel;obtain⟨h,P,G,k4⟩:=hK.out;clear hK E m QQ F;by_cases l:k<16
    ·have s:(k:Int)<16:=by omega
     have C:=Fs (gC xs (step n)) (λj=>xs[j]?.getD 0) l;have c1:=h.at k l;have f1:=h.free k;have he:=λw=>rq xs D l w;rw[FO l (Nat.le_refl _)] at c1;obtain⟨a1,a2⟩:=HI.out k aa;have R:=af λz hz=>Ww (xs[k]?.getD 0) (n:Int) n z hz rfl n16 a1 a2;have J:gC xs (step n) k=AJ (xs[k]?.getD 0) (step n):=rfl;rw[<-J] at R;generalize gC xs (step n) k=r at C R;generalize xs[k]?.getD 0=x at he c1 R;have jn:=af C;have K1:=af h;have K2:=af P;have K3:=af G;have K4:=af k4;clear C J h P G k4 c1 f1;go_wp2;refine(R.out _ K4.out).mono ?_;rintro e wa⟨rfl,q1⟩;have h:=K1.out.q q1;have c3:=h.at k l;have f3:=h.free k;generalize(a6 (λj=>if j<k then gC xs (step n) j else xs[j]?.getD 0) 16)[k]?.getD 0=zz at c3;have n1:=af (h.set k r);rw[jn.out] at n1;have n2:=af ((K2.out.q q1).aN (p:=⟨w.heap.size,k,none⟩) (by show w.heap.size+1≠w.heap.size;omega) (U O r));have n3:=af ((K3.out.trans q1).set (p:=⟨w.heap.size,k,none⟩) (by show w.heap.size<=w.heap.size;omega) (U O r));have n4:=af (aeZ (K4.out.q q1) (p:=⟨w.heap.size,k,none⟩) (by show w.heap.size≠2;exact T) (U O r));clear h q1;go_wp2;go_roundw;case rel=>exact⟨k+1,aa,aH,n1.out,n2.out,n3.out,n4.out⟩
     case measure=>exact bg
    ·have s:k=16:=by omega
     subst s;rw[EW] at h;have K:(a6 (gC xs (step n)) 16).length=16:=DO;generalize L:a6 (gC xs (step n)) 16=ms at h HM K;have Ji:=af L;clear L;have M:=zB ms;go_wp2_with(first|refine eY rfl rfl rfl aG ?_|refine eX aD rfl rfl aG ?_);refine(Wl K HM).mono ?_;rintro e Z⟨rfl,q1⟩;replace P:=P.q q1;replace G:=G.trans q1;have K3:=af G;clear G q1;generalize N:jW ms=vs at M⊢;have I':=af N;clear N;go_wp2_with(first|(first|refine eY rfl rfl rfl aG ?_|refine eX aD rfl rfl aG ?_)|(refine iH rfl _ _ rfl _ rfl _ _ rfl dh aG ?_;intro w9 b9 g9 s9));refine aiA (v:=a5 (arr _)) (akj aD _ _ _ _ _ _ _ aD (Bl.blk b9) (Gz.gu underlying82) rfl (by rw[bO,M];exact mP)) rfl ⟨by rw[Ji.out,I'.out],K3.out.grown g9 λk e=>by have:=aL e;omega⟩
end
section
open Go.RowKit
def dA(n e hi:Int):Int:=min (max n e) hi
def vr(n h hi:Int)(w:ns):
  UL Gz.prog 74 #[U O n,U O h,U O hi] w λe w'=>e=be (U O (dA n h hi))/\w=w':=by
 go_enter Gz.gf func74,ntmps74;go_wp2;all_goals(go_ret;exact⟨by first|rfl|(simp[dA];omega),rfl⟩)
def vF(n i hi:Int)(w:ns)(h:i<=hi):
  UL Gz.prog 57 #[U O n,U O i,U O hi] w λe w'=>e=be (U O (dA n i hi))/\w=w':=by
 have e:dA n i hi=max i (min hi n):=by unfold dA;omega
 go_enter Gz.gf func57,ntmps57;go_wp2;all_goals(go_ret;exact⟨by first|rfl|(simp;omega),rfl⟩)
end
section
open Go.RowKit
def WJ(q:Int)(h:Tb w)(hq:q=(n:Int))(i:n<16):
  UL Gz.prog 71 #[U O q] w λe w'=>e=be (U O (step n))/\Q w w':=by
 have k:=h.at_ n i;have j:Hid (decide (0<=(n:Int)/\(n:Int)<=15)=true):=decide_eq_true ⟨aa,aa⟩;go_enter Gz.gf func71,ntmps71;go_wp2;refine(nR _ j).mono ?_;rintro e w'⟨rfl,rfl⟩;go_wp2;go_ret;exact⟨rfl,Q.refl _⟩
def fH(n:Nat):Int:=min (step n/8) 12
def Sk(h:n<16):0<=fH n/\fH n<=12:=by obtain⟨e,i⟩:=uZ h;unfold fH;omega
def Wq(q:Int)(w:ns)(i:Tb w)(hq:q=(n:Int))(h:n<16):
  UL Gz.prog 46 #[U O q] w λe w'=>e=be (U O (fH n))/\Q w w':=by
 have T1:=af (WJ (n:Int) i rfl h);obtain⟨k,l⟩:=uZ h;have j:Hid (fH n=min (step n/8) 12):=rfl;rw[j.out];go_enter Gz.gf func46,ntmps46;exact Ll
def Wr(q:Int)(w:ns)(hq:q=(n:Int))(h:n<16):
  UL Gz.prog 35 #[U O q] w λe w'=>e=be (U O (fH n))/\Q w w':=by
 have T1:=af (LO (n:Int) w rfl h);obtain⟨j,k⟩:=uZ h;have i:Hid (fH n=min 12 (step n/8)):=by unfold Hid fH;omega
 rw[i.out];go_enter Gz.gf func35,ntmps35;exact Ll
end
section
open Go.RowKit
def my(a b c d L:Int):Int:=dA ((4*(c-b)+a-d+4)/8) (-L) L
def fi(a b c d L:Int):Int:=if 4*L<=max (b-c) (-(b-c)) then b else dA (b+my a b c d L) 0 255
def fj(a b c d L:Int):Int:=if 4*L<=max (b-c) (-(b-c)) then c else dA (c-my a b c d L) 0 255
def ae0{L:Int}(e:0<=b/\b<=255)(hc:0<=c/\c<=255):(0<=fi a b c d L/\fi a b c d L<=255)/\0<=fj a b c d L/\fj a b c d L<=255:=by unfold fi fj dA;constructor<;>split<;>omega
def W9(L:Int)(w:ns)(l:0<=a/\a<=255)(o:0<=b/\b<=255)(hc:0<=c/\c<=255)(hd:0<=d/\d<=255)(p:0<=L/\L<=12):
  UL Gz.prog 48 #[U O a,U O b,U O c,U O d,U O L] w λe w'=>e=be (dl #[U O (fi a b c d L),U O (fj a b c d L)])/\w=w':=by
 obtain⟨q,r⟩:=l;obtain⟨s,t⟩:=o;obtain⟨z,C⟩:=hc;obtain⟨d1,d2⟩:=hd;obtain⟨D,E⟩:=p;obtain⟨m,hm⟩:∃m,(if b-c<0 then -(b-c) else b-c)=m:=⟨_,rfl⟩;have z9:max (b-c) (-(b-c))=m:=by rw[<-hm];split<;>omega
 have T:=af (ZL (b-c) w aa aa);rw[hm] at T;have F:0<=m:=xN;have G:m<=255:=xN;by_cases h:4*L<=m
 ·have i:Hid (fi a b c d L=b):=by unfold Hid fi;rw[z9,if_pos h]
  have j:Hid (fj a b c d L=c):=by unfold Hid fj;rw[z9,if_pos h]
  rw[i.out,j.out];go_enter Gz.gf func48,ntmps48;go_wp2;refine T.out.mono ?_;rintro e w'⟨rfl,rfl⟩;go_wp2;exact aiA (v:=dl #[U O b,U O c]) (by simp[results,results48,go_sem]) rfl ⟨rfl,rfl⟩
 ·have i:Hid (fi a b c d L=dA (b+my a b c d L) 0 255):=by unfold Hid fi;rw[z9,if_neg h]
  have j:Hid (fj a b c d L=dA (c-my a b c d L) 0 255):=by unfold Hid fj;rw[z9,if_neg h]
  have HE:Hid (my a b c d L=dA ((4*(c-b)+a-d+4)/8) (-L) L):=rfl;rw[i.out,j.out];have I:m<4*L:=aa;clear z9 i j h;generalize my a b c d L=e at HE⊢;have J: -L<=e:=xO;have K:e<=L:=xO;go_enter Gz.gf func48,ntmps48;go_wp2;refine T.out.mono ?_;rintro k w'⟨rfl,rfl⟩;go_wp2;refine(vr _ _ _ _).mono ?_;rintro k w'⟨rfl,rfl⟩;rw[<-HE.out];clear HE;go_wp2;refine(vr _ _ _ _).mono ?_;rintro k w'⟨rfl,rfl⟩;go_wp2;refine(vr _ _ _ _).mono ?_;rintro k w'⟨rfl,rfl⟩;go_wp2;exact aiA (v:=dl #[U O (dA (b+e) 0 255),U O (dA (c-e) 0 255)]) (by simp[results,results48,go_sem]) rfl ⟨rfl,rfl⟩
def Lo(L:Int)(w:ns)(q:0<=a/\a<=255)(i:0<=b/\b<=255)(hc:0<=c/\c<=255)(hd:0<=d/\d<=255)(t:0<=L/\L<=12):
  UL Gz.prog 36 #[U O a,U O b,U O c,U O d,U O L] w λe w'=>e=be (dl #[U O (fi a b c d L),U O (fj a b c d L)])/\w=w':=by
 have z:Hid (decide (0<=a/\a<=255)=true):=decide_eq_true q;have j:Hid (decide (0<=b/\b<=255)=true):=decide_eq_true i;have k:Hid (decide (0<=c/\c<=255)=true):=decide_eq_true hc;have C:Hid (decide (0<=d/\d<=255)=true):=decide_eq_true hd;have D:Hid (decide (0<=L/\L<=12)=true):=decide_eq_true t;obtain⟨I,J⟩:=q;obtain⟨K,M⟩:=i;obtain⟨N,P⟩:=hc;obtain⟨d1,d2⟩:=hd;obtain⟨Q,R⟩:=t;obtain⟨m,hm⟩:∃m,max (b-c) (c-b)=m:=⟨_,rfl⟩;have z9:max (b-c) (-(b-c))=m:=by rw[<-hm];omega
 have E:0<=m:=xN;have F:m<=255:=xN;by_cases h:4*L<=m
 ·have l:Hid (fi a b c d L=b):=by unfold Hid fi;rw[z9,if_pos h]
  have o:Hid (fj a b c d L=c):=by unfold Hid fj;rw[z9,if_pos h]
  rw[l.out,o.out];clear z9 l o;have p:=af hm;have hq:decide (4*L<=max (b-c) (c-b))=true:=by rw[hm];exact decide_eq_true h
  clear hm;go_enter Gz.gf func36,ntmps36;go_wp2;(go_at_call 51;(with_reducible refine(cj _ z).mono ?_);rintro e w'⟨rfl,rfl⟩)
  go_wp2;(go_at_call 51;(with_reducible refine(cj _ j).mono ?_);rintro e w'⟨rfl,rfl⟩)
  go_wp2;(go_at_call 51;(with_reducible refine(cj _ k).mono ?_);rintro e w'⟨rfl,rfl⟩)
  go_wp2;(go_at_call 51;(with_reducible refine(cj _ C).mono ?_);rintro e w'⟨rfl,rfl⟩)
  go_wp2;(go_at_call 51;(with_reducible refine(cj _ D).mono ?_);rintro e w'⟨rfl,rfl⟩)
  go_wp2;all_goals first|exact aiA (v:=dl #[U O b,U O c]) (by simp[results,results36,go_sem]) rfl ⟨rfl,rfl⟩|(exfalso;have G:=p.out;rename_i q i;clear hq;(try split at q);(try split at i);all_goals omega)|(exfalso;have G:=p.out;rename_i i;clear hq;(try split at i);all_goals omega)
 ·have l:Hid (fi a b c d L=dA (b+my a b c d L) 0 255):=by unfold Hid fi;rw[z9,if_neg h]
  have o:Hid (fj a b c d L=dA (c-my a b c d L) 0 255):=by unfold Hid fj;rw[z9,if_neg h]
  have HE:Hid (my a b c d L=dA ((4*(c-b)+a-d+4)/8) (-L) L):=rfl;rw[l.out,o.out];have h1:b-c<4*L:=aa;have S:c-b<4*L:=aa;clear hm z9 l o h E F;have T:=af (Fh (4*(c-b)+a-d+4) 8 w aa aa aa aa);generalize my a b c d L=e at HE⊢;have V: -L<=e:=xO;have X:e<=L:=xO;have r: -L<=L:=aa;go_enter Gz.gf func36,ntmps36;go_wp2;(go_at_call 51;(with_reducible refine(cj _ z).mono ?_);rintro e w'⟨rfl,rfl⟩)
  go_wp2;(go_at_call 51;(with_reducible refine(cj _ j).mono ?_);rintro e w'⟨rfl,rfl⟩)
  go_wp2;(go_at_call 51;(with_reducible refine(cj _ k).mono ?_);rintro e w'⟨rfl,rfl⟩)
  go_wp2;(go_at_call 51;(with_reducible refine(cj _ C).mono ?_);rintro e w'⟨rfl,rfl⟩)
  go_wp2;(go_at_call 51;(with_reducible refine(cj _ D).mono ?_);rintro e w'⟨rfl,rfl⟩)
  go_wp2
  all_goals
   refine T.out.mono ?_;rintro s w'⟨rfl,rfl⟩;go_wp2;refine(vF _ _ _ _ r).mono ?_;rintro s w'⟨rfl,rfl⟩;rw[<-HE.out];go_wp2;refine(vF _ _ _ _ aa).mono ?_;rintro s w'⟨rfl,rfl⟩;go_wp2;refine(vF _ _ _ _ aa).mono ?_;rintro s w'⟨rfl,rfl⟩;go_wp2;exact aiA (v:=dl #[U O (dA (b+e) 0 255),U O (dA (c-e) 0 255)]) (by simp[results,results36,go_sem]) rfl ⟨rfl,rfl⟩
end
section
open Go.RowKit
structure iF(w:ns) where
 at_:ns
 q:Q w at_
instance(w:ns):Nonempty (iF w):=⟨⟨w,Q.refl w⟩⟩
def uA{P:Program}{id:Nat}{e:Exit->Act->ns->Prop}{a:Act}{l:List Oper}(hm:P.follows .mixedOrders=true)(i:Region.lexB .any l.toArray=true)
  (h:wpQuiet P l.toArray (λw'=>∃x:iF w,w'=x.at_) (λa'=>∀w',(∃x:iF w,w'=x.at_)->e .normal a' w') l a):(Code.region id l.toArray true).wp P e a w:=
 wp_region_quiet (C:=λw'=>∃x:iF w,w'=x.at_) hm i ⟨⟨_,(Q.refl w).drew⟩,rfl⟩ lV
def Calls.fL{P:Program}{f:FuncId}{args:Array rl}{x:iF w}{v:rl}
  (h:UL P f args x.at_ λe w'=>e=be v/\Q x.at_ w'):UL P f args x.at_ λe i=>e=be v/\∃y:iF w,i=y.at_:=
 h.mono λ_ w'⟨he,hq⟩=>⟨he,⟨w',x.q.trans hq⟩,rfl⟩
def ak.fL{g:Nat}{t:TypeId}(h:ak w g t cs):∀(x:iF w)(i:Nat),x.at_.cell? ⟨g,i,none⟩=cs[i]?:=λx=>h.oj x.q
end
section
open Go.RowKit
def fK(n hi:Int):Int:=if n<0 then 0 else if hi<n then hi else n
def Al(n:Int){hi:Int}(h:0<=hi):0<=fK n hi/\fK n hi<=hi:=uj
def bD(W H:Int)(xs:List Int)(x y:Int):Int:=xs[(fK y (H-1)*W+fK x (W-1)).toNat]?.getD 0
def m8(h:bS W H xs=true)(x y:Int):0<=bD W H xs x y/\bD W H xs x y<=255:=by
 obtain⟨j,k,l,i⟩:=jH h;unfold bD;rcases de (fK y (H-1)*W+fK x (W-1)).toNat xs.length with e|e
 ·exact pz i _ e
 ·simp_all
def Tf(h:a=b):Ending.returned (U O a)=be (U O b):=by rw[h]
def Sl(n hi:Int)(w:ns)(h:0<=hi):UL Gz.prog 74 #[U O n,U O 0,U O hi] w λe w'=>e=be (U O (fK n hi))/\w=w':=by have e:fK n hi=min (max n 0) hi:=uj;have E:=af e;clear e;go_enter Gz.gf func74,ntmps74;go_wp2;all_goals(go_ret;exact⟨Tf (by rw[E.out];try omega),rfl⟩)
def Tg(n hi:Int)(w:ns)(h:0<=hi):UL Gz.prog 57 #[U O n,U O 0,U O hi] w λe w'=>e=be (U O (fK n hi))/\w=w':=by have e:fK n hi=max 0 (min hi n):=uj;have E:=af e;clear e;go_enter Gz.gf func57,ntmps57;go_wp2;all_goals(go_ret;exact⟨Tf (by rw[E.out];try omega),rfl⟩)
theorem Sm{h e:Int}(m:(n:Int)=W*H)(h1:8<=W)(j:W<=32)(k:8<=H)(l:H<=32)(o:0<=h/\h<=W-1)(i:0<=e/\e<=H-1):
  0<=e*W/\e*W<=1024/\0<=e*W+h/\e*W+h<n/\n<=1024:=by
 have p:e*W<=(H-1)*W:=yA i.2 aa;have q:0<=e*W:=Int.mul_nonneg i.1 aa;have r:(H-1)*W=W*H-W:=eO;have:=(Fi h1 j k l).2;omega
def Rg(x y:Int)(c:Nat)(D:Rd w B A xs)(I:B<=w.heap.size)(hn:Hid (xs.length=n))(J:Hid (bS W H xs=true)):
  UL Gz.prog 168 #[a5 #[U O W,U O H,Y A n c],U O x,U O y] w λe w'=>e=be (U O (bD W H xs x y))/\Q w w':=by
 (obtain⟨m,r,t,K⟩:=jH J.out;rw[hn.out] at t;have i:=Al x (hi:=W-1) aa;have j:=Al y (hi:=H-1) aa;have E:Hid (∀w:ns,UL Gz.prog 74 #[U O y,U O 0,U O (H-1)] w λe w'=>e=be (U O (fK y (H-1)))/\Q w w'):=λw=>(Sl y (H-1) w aa).mono λ_ _ h=>⟨h.1,by rw[h.2];exact Q.refl _⟩;have F:Hid (∀w:ns,UL Gz.prog 74 #[U O x,U O 0,U O (W-1)] w λe w'=>e=be (U O (fK x (W-1)))/\Q w w'):=λw=>(Sl x (W-1) w aa).mono λ_ _ h=>⟨h.1,by rw[h.2];exact Q.refl _⟩;unfold bD;generalize fK x (W-1)=C at i F⊢;generalize fK y (H-1)=l at j E⊢)
 (obtain⟨i1,i2,i3,i4,i5⟩:=Sm t m.1 m.2.1 r.1 r.2.1 i j;have q0:Q w (w.alloc (ac #[U O W,U O H,Y A n c] 30)):=aR;have L:=(ak.new w 30 #[U O W,U O H,Y A n c]).fL;have G:=D.q q0 I;obtain⟨b,o,rfl,M,hc⟩:=G nJ;have hq:∀z:iF (w.alloc (ac #[U O W,U O H,Y (some ⟨b,o,none⟩) n c] 30)),z.at_.cell? ⟨b,o+(l*W+C).toNat,none⟩=some (U O (xs[(l*W+C).toNat]?.getD 0)):=λz=>((z.q).cell b _ aA).trans (hc _ nJ))
 generalize xs[(l*W+C).toNat]?.getD 0=s at hq⊢;obtain⟨p,k⟩:∃p,l*W=p:=⟨_,rfl⟩;rw[k] at i1 i2 i3 i4 hq;have t1:AS.wrap (l*W)=p:=by rw[k];exact aB _ ⟨by omega,by omega⟩
 have t4:AS.wrap (H-1)=H-1:=aB _ ⟨aa,aa⟩;have t5:AS.wrap (W-1)=W-1:=aB _ ⟨aa,aa⟩;clear k hc D G t m r i j K;go_enter Gz.gf func168,ntmps168;go_wp2;refine uA ai ai ?_;repeat(go_big_quiet_step (first|(go_at_call_of 74 x;exact Calls.fL (F.out _))|(go_at_call_of 74 y;exact Calls.fL (E.out _))))
 exact Lm
def ad1(x y:Int)(c:Nat)(D:Rd w B A xs)(I:B<=w.heap.size)(hn:Hid (xs.length=n))(J:Hid (bS W H xs=true)):
  UL Gz.prog 149 #[a5 #[U O W,U O H,Y A n c],U O x,U O y] w λe w'=>e=be (U O (bD W H xs x y))/\Q w w':=by
 (obtain⟨m,r,t,K⟩:=jH J.out;rw[hn.out] at t;have i:=Al x (hi:=W-1) aa;have j:=Al y (hi:=H-1) aa;have E:Hid (∀w:ns,UL Gz.prog 57 #[U O y,U O 0,U O (H-1)] w λe w'=>e=be (U O (fK y (H-1)))/\Q w w'):=λw=>(Tg y (H-1) w aa).mono λ_ _ h=>⟨h.1,by rw[h.2];exact Q.refl _⟩;have F:Hid (∀w:ns,UL Gz.prog 57 #[U O x,U O 0,U O (W-1)] w λe w'=>e=be (U O (fK x (W-1)))/\Q w w'):=λw=>(Tg x (W-1) w aa).mono λ_ _ h=>⟨h.1,by rw[h.2];exact Q.refl _⟩;unfold bD;generalize fK x (W-1)=C at i F⊢;generalize fK y (H-1)=l at j E⊢)
 (obtain⟨i1,i2,i3,i4,i5⟩:=Sm t m.1 m.2.1 r.1 r.2.1 i j;have q0:Q w (w.alloc (ac #[U O W,U O H,Y A n c] 30)):=aR;have L:=(ak.new w 30 #[U O W,U O H,Y A n c]).fL;have G:=D.q q0 I;obtain⟨b,o,rfl,M,hc⟩:=G nJ;have hq:∀z:iF (w.alloc (ac #[U O W,U O H,Y (some ⟨b,o,none⟩) n c] 30)),z.at_.cell? ⟨b,o+(l*W+C).toNat,none⟩=some (U O (xs[(l*W+C).toNat]?.getD 0)):=λz=>((z.q).cell b _ aA).trans (hc _ nJ))
 generalize xs[(l*W+C).toNat]?.getD 0=s at hq⊢;obtain⟨p,k⟩:∃p,l*W=p:=⟨_,rfl⟩;rw[k] at i1 i2 i3 i4 hq;have t1:AS.wrap (l*W)=p:=by rw[k];exact aB _ ⟨by omega,by omega⟩
 have t4:AS.wrap (H-1)=H-1:=aB _ ⟨aa,aa⟩;have t5:AS.wrap (W-1)=W-1:=aB _ ⟨aa,aa⟩;clear k hc D G t m r i j K;go_enter Gz.gf func149,ntmps149;go_wp2;refine uA ai ai ?_;repeat(go_big_quiet_step (first|(go_at_call_of 57 x;exact Calls.fL (F.out _))|(go_at_call_of 57 y;exact Calls.fL (E.out _))))
 exact Lm
end
section
open Go.RowKit
def aM(f g:Nat->Int)(c:Int)(u v:Bool):Array rl:=#[U O (f 0),U O (f 1),U O (f 2),U O (f 3),U O (g 0),U O (g 1),U O (g 2),U O (g 3),U O c,a9 u,a9 v]
def eA(W H:Int)(xs:List Int)(x y:Int)(up:Bool)(k:Nat):Int:=if up=true then bD W H xs (x+(k:Int)) (y-1) else 128
def eL(W H:Int)(xs:List Int)(x y:Int)(e:Bool)(k:Nat):Int:=if e=true then bD W H xs (x-1) (y+(k:Int)) else 128
def eC(W H:Int)(xs:List Int)(x y:Int)(up e:Bool):Int:=if up=true/\e=true then bD W H xs (x-1) (y-1) else 128
def A7(W H:Int)(xs:List Int)(x y e:Nat):Array rl:=
 aM (eA W H xs x y (decide (e<y))) (eL W H xs x y (decide (0<x))) (eC W H xs x y (decide (e<y)) (decide (0<x))) (decide (e<y)) (decide (0<x))
def upto(f:Nat->Int)(k:Nat)(j:Nat):Int:=if j<k then f j else 0
def Rh(f g:Nat->Int)(c:Int)(u v:Bool):aM (upto f 4) (upto g 4) c u v=aM f g c u v:=rfl
def af5(h:bS W H xs=true)(x y:Int)(up:Bool)(k:Nat):0<=eA W H xs x y up k/\eA W H xs x y up k<=255:=by have:=m8 h (x+(k:Int)) (y-1);unfold eA;split<;>omega
def af6(h:bS W H xs=true)(x y:Int)(up:Bool)(k:Nat):0<=eL W H xs x y up k/\eL W H xs x y up k<=255:=by have:=m8 h (x-1) (y+(k:Int));unfold eL;split<;>omega
def af7(h:bS W H xs=true)(x y:Int)(up e:Bool):0<=eC W H xs x y up e/\eC W H xs x y up e<=255:=by have:=m8 h (x-1) (y-1);unfold eC;split<;>omega
def ad2{W H:Nat}{u v:Nat}(hu:u<W)(i:v<H):bD W H xs u v=xs[v*W+u]?.getD 0:=by unfold bD;have e:fK (v:Int) ((H:Int)-1)=v:=uj;have h:fK (u:Int) ((W:Int)-1)=u:=uj;rw[e,h];have:((v:Int)*(W:Int)+(u:Int)).toNat=v*W+u:=aa;rw[this]
def Ew:((aM f g c u v).all λx=>x.oneCell')=true:=by simp[aM,Value.oneCell']
def uY:(Gz.prog.info? 125).map (·.size)=some (aM f g c u v).size:=aD
def lM(W H:Int)(xs:List Int)(x y:Int)(k:Nat):eA W H xs x y false k=128:=rfl
def lN(W H:Int)(xs:List Int)(x y:Int)(k:Nat):eL W H xs x y false k=128:=rfl
def lO(W H:Int)(xs:List Int)(x y:Int)(b:Bool):eC W H xs x y false b=128:=aC
def lE(W H:Int)(xs:List Int)(x y:Int)(b:Bool):eC W H xs x y b false=128:=by simp[eC]
structure kQ(W H:Int)(S:rl)(w wr:ns)(cs:Array rl):Prop where
 q:Q w wr
 p:ak wr w.heap.size 30 #[U O W,U O H,S]
 r:ak wr (w.heap.size+1) 125 (aM (λ_=>0) (λ_=>0) 0 false false)
 e:ak wr (w.heap.size+1+1) 125 cs
def kQ.set{S:rl}{wr:ns}(h:kQ W H S w wr cs)(i:Nat)(v:rl):kQ W H S w (wr.setCell ⟨w.heap.size+1+1,i,none⟩ v) (cs.setIfInBounds i v):=
 ⟨h.q.set qU v,h.p.aN tY v,h.r.aN qT v,h.e.set i v⟩
def kQ.to{S:rl}{wr w':ns}(h:kQ W H S w wr cs)(k:Q wr w'):kQ W H S w w' cs:=⟨h.q.trans k,h.p.q k,h.r.q k,h.e.q k⟩
def kQ.start(W H:Int)(S:rl)(w:ns)(cs:Array rl):kQ W H S w (((w.alloc (ac #[U O W,U O H,S] 30)).alloc (ac (aM (λ_=>0) (λ_=>0) 0 false false) 125)).alloc (ac cs 125)) cs:=by
 refine⟨aR,((ak.new w _ _).alloc _).alloc _,?_,?_⟩
 ·have h:=(ak.new (w.alloc (ac #[U O W,U O H,S] 30)) 125 (aM (λ_=>0) (λ_=>0) 0 false false)).alloc (ac cs 125);rw[BE] at h;exact h
 ·have h:=ak.new ((w.alloc (ac #[U O W,U O H,S] 30)).alloc (ac (aM (λ_=>0) (λ_=>0) 0 false false) 125)) 125 cs;rw[BE,BE] at h;exact h
def Zt(x y o:Nat)(c:Nat)(hx:Rd w B A xs)(hB:B<=w.heap.size)(hn:Hid (xs.length=n))(hp:Hid (bS W H xs=true))(x2:x<=32)(y2:y<=32):
  UL Gz.prog 143 #[a5 #[U O W,U O H,Y A n c],U O x,U O y,U O o] w λe w'=>e=be (a5 (A7 W H xs x y o))/\Q w w':=by
 have T:Hid (∀(z:ns)(_:Q w z)(u v:Int),UL Gz.prog 168 #[a5 #[U O W,U O H,Y A n c],U O u,U O v] z λe w'=>e=be (U O (bD W H xs u v))/\Q z w'):=λz q u v=>Rg u v c (hx.q q hB) (aJ hB q.size) hn hp;have I:Hid (bD W H xs (x:Int) ((y:Int)-1)=eA W H xs x y true 0):=xP;have J:Hid (bD W H xs ((x:Int)+1) ((y:Int)-1)=eA W H xs x y true 1):=xP;have L:Hid (bD W H xs ((x:Int)+2) ((y:Int)-1)=eA W H xs x y true 2):=xP;have M:Hid (bD W H xs ((x:Int)+3) ((y:Int)-1)=eA W H xs x y true 3):=xP;have N:Hid (bD W H xs ((x:Int)-1) (y:Int)=eL W H xs x y true 0):=x7;have P:Hid (bD W H xs ((x:Int)-1) ((y:Int)+1)=eL W H xs x y true 1):=x7;have R:Hid (bD W H xs ((x:Int)-1) ((y:Int)+2)=eL W H xs x y true 2):=x7;have S:Hid (bD W H xs ((x:Int)-1) ((y:Int)+3)=eL W H xs x y true 3):=x7;have V:Hid (bD W H xs ((x:Int)-1) ((y:Int)-1)=eC W H xs x y true true):=by unfold Hid;simp[eC]
 unfold A7;obtain⟨up,D⟩:∃up,decide (o<y)=up:=⟨_,rfl⟩;obtain⟨l,E⟩:∃l,decide (0<x)=l:=⟨_,rfl⟩;rw[D,E];have K0:=af (kQ.start W H (Y A n c) w (aM (upto (eA W H xs x y up) 0) (upto (eL W H xs x y l) 0) 128 up l));clear hx;rcases(show up=true\/up=false by cases up<;>simp) with hu|hu<;>rcases(show l=true\/l=false by cases l<;>simp) with hl|hl
 all_goals
  rw[hu] at D;rw[hl] at E;go_enter Gz.gf func143,ntmps143;go_wp2;go_loopw[17] (λi wr=>∃k:Nat,k<=4/\i=U O k/\Hid (kQ W H (Y A n c) w wr (aM (upto (eA W H xs x y up) k) (upto (eL W H xs x y l) k) 128 up l))) (λi _=>4-(intOf i).toNat)
  case atStart=>exact⟨0,aa,rfl,by have h:=K0;simp only[aM,hu,hl] at h⊢;exact h⟩
  case round=>
   obtain⟨k,hk,rfl,hK⟩:=hrel;have K:=hK.out;clear hK K0;by_cases h4:k=4
   ·subst h4;rw[Rh] at K;have j:=K.e;(simp only[aM,upto,hu,hl,lM,lN,lO,lE,ajG,ajT,ajv,if_true,if_false,aix,aiG,aiQ,ajp] at j)
    have c0:=j.cell;have f0:=j.free;have s:=akb;have f1:=akb;have t:=akb;have f2:=akb;have C:=K.p.cell;go_wp2_with(refine fw (cs':=aM (eA W H xs x y up) (eL W H xs x y l) (eC W H xs x y up l) up l) rfl _ _ _ rfl rfl _ rfl Co K.r rfl Ew uY ?_;intro w9 b9 g9 s9);all_goals(try(refine(T.out _ K.q _ _).mono ?_;rintro e w7⟨rfl,F⟩;clear c0 f0 s f1 t f2 C;replace K:=K.to F;have j:=K.e;first|(rw[I.out];replace K:=K.set 0 (U O (eA W H xs x y true 0)))|(rw[J.out];replace K:=K.set 1 (U O (eA W H xs x y true 1)))|(rw[L.out];replace K:=K.set 2 (U O (eA W H xs x y true 2)))|(rw[M.out];replace K:=K.set 3 (U O (eA W H xs x y true 3)))|(rw[N.out];replace K:=K.set 4 (U O (eL W H xs x y true 0)))|(rw[P.out];replace K:=K.set 5 (U O (eL W H xs x y true 1)))|(rw[R.out];replace K:=K.set 6 (U O (eL W H xs x y true 2)))|(rw[S.out];replace K:=K.set 7 (U O (eL W H xs x y true 3)))|(rw[V.out];replace K:=K.set 8 (U O (eC W H xs x y true true)))))
    all_goals(try(have m:=K.e;(simp only[aM,upto,hu,hl,lM,lN,lO,lE,ajG,ajT,ajv,if_true,if_false,aix,aiG,aiQ,ajp] at j m);have c0:=j.cell;have f0:=j.free;have s:=m.cell;have f1:=m.free;have t:=akb;have f2:=akb;have C:=K.p.cell))
    all_goals(try go_wp2_with(refine fw (cs':=aM (eA W H xs x y up) (eL W H xs x y l) (eC W H xs x y up l) up l) rfl _ _ _ rfl rfl _ rfl Co K.r rfl Ew uY ?_;intro w9 b9 g9 s9))
    refine aiA (v:=a5 (aM (eA W H xs x y up) (eL W H xs x y l) (eC W H xs x y up l) up l)) (akj aD _ _ _ _ _ _ _ aD b9 (Gz.gu underlying125) rfl uY) rfl ⟨rfl,?_⟩;exact K.q.grown g9 (λk e=>by have:=aL e;omega)
   ·have X:=K.set k (U O 128);have G:=X.set (4+k) (U O 128);rcases(show k=0\/k=1\/k=2\/k=3 by omega) with rfl|rfl|rfl|rfl
    all_goals
     clear hk h4;have j:=K.e;have m:=X.e;simp only[ajp] at G;have Z:=G.e;(simp only[aM,upto,hu,hl,lM,lN,lO,lE,ajG,ajT,ajv,if_true,if_false,aix,aiG,aiQ,ajp] at j m Z)
     have c0:=j.cell;have f0:=j.free;have s:=m.cell;have f1:=m.free;have t:=Z.cell;have f2:=Z.free;have C:=G.p.cell;clear K X;have K:=G;clear G;go_wp2;all_goals(try((refine(T.out _ K.q _ _).mono ?_;rintro e w7⟨rfl,F⟩;clear c0 f0 s f1 t f2 C;replace K:=K.to F;have j:=K.e;first|(rw[I.out];replace K:=K.set 0 (U O (eA W H xs x y true 0)))|(rw[J.out];replace K:=K.set 1 (U O (eA W H xs x y true 1)))|(rw[L.out];replace K:=K.set 2 (U O (eA W H xs x y true 2)))|(rw[M.out];replace K:=K.set 3 (U O (eA W H xs x y true 3)))|(rw[N.out];replace K:=K.set 4 (U O (eL W H xs x y true 0)))|(rw[P.out];replace K:=K.set 5 (U O (eL W H xs x y true 1)))|(rw[R.out];replace K:=K.set 6 (U O (eL W H xs x y true 2)))|(rw[S.out];replace K:=K.set 7 (U O (eL W H xs x y true 3)))|(rw[V.out];replace K:=K.set 8 (U O (eC W H xs x y true true))));(have m:=K.e;(simp only[aM,upto,hu,hl,lM,lN,lO,lE,ajG,ajT,ajv,if_true,if_false,aix,aiG,aiQ,ajp] at j m);have c0:=j.cell;have f0:=j.free;have s:=m.cell;have f1:=m.free;have t:=akb;have f2:=akb;have C:=K.p.cell);go_wp2))
     all_goals(try((refine(T.out _ K.q _ _).mono ?_;rintro e w7⟨rfl,F⟩;clear c0 f0 s f1 t f2 C;replace K:=K.to F;have j:=K.e;first|(rw[I.out];replace K:=K.set 0 (U O (eA W H xs x y true 0)))|(rw[J.out];replace K:=K.set 1 (U O (eA W H xs x y true 1)))|(rw[L.out];replace K:=K.set 2 (U O (eA W H xs x y true 2)))|(rw[M.out];replace K:=K.set 3 (U O (eA W H xs x y true 3)))|(rw[N.out];replace K:=K.set 4 (U O (eL W H xs x y true 0)))|(rw[P.out];replace K:=K.set 5 (U O (eL W H xs x y true 1)))|(rw[R.out];replace K:=K.set 6 (U O (eL W H xs x y true 2)))|(rw[S.out];replace K:=K.set 7 (U O (eL W H xs x y true 3)))|(rw[V.out];replace K:=K.set 8 (U O (eC W H xs x y true true))));(have m:=K.e;(simp only[aM,upto,hu,hl,lM,lN,lO,lE,ajG,ajT,ajv,if_true,if_false,aix,aiG,aiQ,ajp] at j m);have c0:=j.cell;have f0:=j.free;have s:=m.cell;have f1:=m.free;have t:=akb;have f2:=akb;have C:=K.p.cell);go_wp2))
     go_roundw;case rel=>first|exact⟨1,aq,rfl,by have h:=K;(simp only[aM,upto,hu,hl,lM,lN,lO,lE,ajG,ajT,ajv,if_true,if_false,aix,aiG,aiQ,ajp] at h⊢);exact h⟩|exact⟨2,aq,rfl,by have h:=K;(simp only[aM,upto,hu,hl,lM,lN,lO,lE,ajG,ajT,ajv,if_true,if_false,aix,aiG,aiQ,ajp] at h⊢);exact h⟩|exact⟨3,aq,rfl,by have h:=K;(simp only[aM,upto,hu,hl,lM,lN,lO,lE,ajG,ajT,ajv,if_true,if_false,aix,aiG,aiQ,ajp] at h⊢);exact h⟩|exact⟨4,aq,rfl,by have h:=K;(simp only[aM,upto,hu,hl,lM,lN,lO,lE,ajG,ajT,ajv,if_true,if_false,aix,aiG,aiQ,ajp] at h⊢);exact h⟩
     case measure=>simp[intOf]
end
section
open Go.RowKit
def nH(f:Nat->Int)(k:Nat)(a:Int)(j:Nat):Int:=if j=k then a else f j
def Qd{k:Nat}(h:k<4):(aM f g c u v).setIfInBounds k (U O a)=aM (nH f k a) g c u v:=by exact yk
def Qe{k:Nat}(h:k<4):(aM f g c u v).setIfInBounds (4+k) (U O a)=aM f (nH g k a) c u v:=by exact yk
def pJ(f g:Nat->Int)(c:Int)(u v:Bool)(k:Nat)(h:k<4):(aM f g c u v)[k]?=some (U O (f k)):=by exact yk
def pK(f g:Nat->Int)(c:Int)(u v:Bool)(k:Nat)(h:k<4):(aM f g c u v)[4+k]?=some (U O (g k)):=by exact yk
def aci(f:Nat->Int)(k:Nat)(a:Int):nH (nH (upto f k) k a) k (f k)=upto f (k+1):=by
 funext j;unfold nH upto;by_cases h:j=k
 ·simp_all
 ·omega
def Pc(f:Nat->Int)(k:Nat):nH (upto f k) k (f k)=upto f (k+1):=by
 funext j;unfold nH upto;by_cases h:j=k
 ·simp_all
 ·omega
def upA(W H:Int)(xs:List Int)(x y:Int)(k:Nat):nH (upto (eA W H xs x y false) k) k 128=upto (eA W H xs x y false) (k+1):=Pc (eA W H xs x y false) k
def upL(W H:Int)(xs:List Int)(x y:Int)(k:Nat):nH (upto (eL W H xs x y false) k) k 128=upto (eL W H xs x y false) (k+1):=Pc (eL W H xs x y false) k
def Sn{W H:Nat}(e:n=H*W)(h:x<W)(i:y<H):y*W+x<n:=by rw[e];exact Ru y W H x i h
def Zu{W H:Nat}(L:Nat)(c:Nat)(hx:Rd w B A xs)(hB:B<=w.heap.size)(hn:xs.length=n)(hm:n=H*W)(hW:W<=32)(hH:H<=32)(x4:x+4<=W)(y4:y+4<=H):
  UL Gz.prog 86 #[a5 #[U O W,U O H,Y A n c],U O x,U O y,U O L] w λe w'=>e=be (a5 (A7 W H xs x y L))/\Q w w':=by
 have n1:n<=1024:=by rw[hm];exact fO hH hW
 have n0:0<n:=by have:=Sn (x:=0) (y:=0) hm (by omega) (by omega);omega
 obtain⟨b,o,rfl,hb,hc⟩:=hx aa
 have S:Hid (∀(z:ns)(_:Q w z)(v u p:Nat),u<W->v<H->v*W+u=p->p<n/\z.cell? ⟨b,o+p,none⟩=some (U O (bD W H xs u v))):=by intro z q v u p hu hv hp;have M:=Sn hm hu hv;rw[hp] at M;exact⟨M,(q.cell b _ aa).trans (by rw[hc p (by omega),ad2 hu hv,hp])⟩
 unfold A7;obtain⟨up,F⟩:∃up,decide (L<y)=up:=⟨_,rfl⟩;obtain⟨t,G⟩:∃t,decide (0<x)=t:=⟨_,rfl⟩;rw[F,G]
 have EA:Hid (∀k l:Nat,y=l+1->bD W H xs ((x+k:Nat):Int) (l:Int)=eA W H xs x y true k):=λk l h=>by unfold eA;rw[if_pos rfl,Int.natCast_add,show(y:Int)-1=(l:Int) by omega]
 have EL:Hid (∀k m:Nat,x=m+1->bD W H xs (m:Int) ((y+k:Nat):Int)=eL W H xs x y true k):=λk m h=>by unfold eL;rw[if_pos rfl,Int.natCast_add,show(x:Int)-1=(m:Int) by omega]
 have EC:Hid (∀m l:Nat,x=m+1->y=l+1->bD W H xs (m:Int) (l:Int)=eC W H xs x y true true):=λm l h h'=>by unfold eC;rw[if_pos ⟨rfl,rfl⟩,show(x:Int)-1=(m:Int) by omega,show(y:Int)-1=(l:Int) by omega]
 have K0:=af (kQ.start W H (Y (some ⟨b,o,none⟩) n c) w (aM (upto (eA W H xs x y up) 0) (upto (eL W H xs x y t) 0) 128 up t));have Jj:(W:Int)<=32:=aa;have Vy:(y:Int)<=32:=aa;have Vz:(x:Int)<=32:=aa;have HM:=af hm;have HN:=af hn;clear hx hc hm hn;rcases(show up=true\/up=false by cases up<;>simp) with hu|hu<;>rcases(show t=true\/t=false by cases t<;>simp) with hl|hl
 all_goals
  rw[hu] at F;rw[hl] at G;go_enter Gz.gf func86,ntmps86;go_wp2;go_loopw[10] (λi wr=>∃k:Nat,k<=4/\i=U O k/\Hid (kQ W H (Y (some ⟨b,o,none⟩) n c) w wr (aM (upto (eA W H xs x y up) k) (upto (eL W H xs x y t) k) 128 up t))) (λi _=>4-(intOf i).toNat)
  case atStart=>exact⟨0,aa,rfl,by have h:=K0;simp only[aM,hu,hl] at h⊢;exact h⟩
  case round=>
   obtain⟨k,hk,rfl,hK⟩:=hrel;have K:=hK.out;clear hK K0;by_cases h4:k=4
   ·subst h4;rw[Rh] at K;have T:=K.e;have pa:=K.p.cell;have KK:=K;(first|(have y0:0<y:=(by rw[decide_eq_true_eq] at F;omega);have x0:0<x:=(by rw[decide_eq_true_eq] at G;omega);obtain⟨l,C⟩:∃l,y=l+1:=⟨y-1,aa⟩;obtain⟨m,D⟩:∃m,x=m+1:=⟨x-1,aa⟩;obtain⟨j,s⟩:∃j,l*W=j:=⟨_,rfl⟩;have E:((y:Int)-1)*(W:Int)=(j:Int):=(by rw[show(y:Int)-1=(l:Int) by omega,<-s,ali]);obtain⟨la,sa⟩:=S.out _ KK.q l m (j+m) aa aa (by rw[s]);rw[EC.out m l D C] at sa;replace KK:=KK.set 8 (U O (eC W H xs x y true true));have ua:((j:Int)+(x:Int)-1).toNat=j+m:=aa;have ub:(j:Int)+(x:Int)-1<(n:Int):=aa;have uc:0<=(j:Int)+(x:Int)-1:=aa;have ud:AS.wrap ((j:Int)+(x:Int))=(j:Int)+(x:Int):=aB _ ⟨aa,aa⟩;have ue:AS.wrap ((j:Int)+(x:Int)-1)=(j:Int)+(x:Int)-1:=aB _ ⟨aa,aa⟩;have uf:AS.wrap (((y:Int)-1)*(W:Int))=(j:Int):=(by rw[E];exact aB _ ⟨by omega,by omega⟩);clear E;have V:=af s;have X:=af C;have Z:=af D;clear s C D)|skip)
    have b1:=KK.e;simp only[aM,hu,hl,lM,lN,lO,lE,aix,aiG,aiQ] at T b1;have c0:=T.cell;have f0:=T.free;have c1:=b1.cell;clear K;go_wp2_with(refine fw (cs':=aM (eA W H xs x y up) (eL W H xs x y t) (eC W H xs x y up t) up t) rfl _ _ _ rfl rfl _ rfl Co KK.r rfl Ew uY ?_;intro w9 b9 g9 s9);refine aiA (v:=a5 (aM (eA W H xs x y up) (eL W H xs x y t) (eC W H xs x y up t) up t)) (akj aD _ _ _ _ _ _ _ aD b9 (Gz.gu underlying125) rfl uY) rfl ⟨rfl,?_⟩;exact KK.q.grown g9 (λk e=>by have:=aL e;omega)
   ·have J:k<4:=by omega
    have ka:(k:Int)<4:=aa;have ca:=(K.e.cell k).trans (pJ _ _ _ _ _ k J);have fa:=K.e.free k;have N:=K.set k (U O 128);rw[Qd J] at N;have cb:=(N.e.cell (4+k)).trans (pK _ _ _ _ _ k J);have fb:=N.e.free (4+k);have P:=N.set (4+k) (U O 128);rw[Qe J] at P;have cc:=P.e.cell 9;have pa:=P.p.cell;have KK:=P;(try(have y0:0<y:=(by rw[decide_eq_true_eq] at F;omega);obtain⟨l,C⟩:∃l,y=l+1:=⟨y-1,aa⟩;obtain⟨j,s⟩:∃j,l*W=j:=⟨_,rfl⟩;have E:((y:Int)-1)*(W:Int)=(j:Int):=(by rw[show(y:Int)-1=(l:Int) by omega,<-s,ali]);obtain⟨la,sa⟩:=S.out _ KK.q l (x+k) (j+x+k) aa aa (by rw[s];omega);rw[EA.out k l C] at sa;have da:=(KK.e.cell k).trans (pJ _ _ _ _ _ k J);have ga:=KK.e.free k;replace KK:=KK.set k (U O (eA W H xs x y true k));rw[Qd J] at KK;have ua:((j:Int)+(x:Int)+(k:Int)).toNat=j+x+k:=aa;have ub:(j:Int)+(x:Int)+(k:Int)<(n:Int):=aa;have uc:0<=(j:Int)+(x:Int)+(k:Int):=aa;have ud:AS.wrap ((j:Int)+(x:Int))=(j:Int)+(x:Int):=aB _ ⟨aa,aa⟩;have ue:AS.wrap ((j:Int)+(x:Int)+(k:Int))=(j:Int)+(x:Int)+(k:Int):=aB _ ⟨aa,aa⟩;have uf:AS.wrap (((y:Int)-1)*(W:Int))=(j:Int):=(by rw[E];exact aB _ ⟨by omega,by omega⟩);have pc:=KK.p.cell;clear E;have V:=af s;have X:=af C;clear s C))
    have cd:=KK.e.cell 10;(try(have x0:0<x:=(by rw[decide_eq_true_eq] at G;omega);obtain⟨m,D⟩:∃m,x=m+1:=⟨x-1,aa⟩;obtain⟨q1,I⟩:∃q1,(y+k)*W=q1:=⟨_,rfl⟩;have R:((y:Int)+(k:Int))*(W:Int)=(q1:Int):=(by rw[<-I,ali,Int.natCast_add]);obtain⟨lb,sb⟩:=S.out _ KK.q (y+k) m (q1+m) aa aa (by rw[I]);rw[EL.out k m D] at sb;have db:=(KK.e.cell (4+k)).trans (pK _ _ _ _ _ k J);have gb:=KK.e.free (4+k);replace KK:=KK.set (4+k) (U O (eL W H xs x y true k));rw[Qe J] at KK;have va:((q1:Int)+(x:Int)-1).toNat=q1+m:=aa;have vb:(q1:Int)+(x:Int)-1<(n:Int):=aa;have vc:0<=(q1:Int)+(x:Int)-1:=aa;have vd:AS.wrap ((q1:Int)+(x:Int))=(q1:Int)+(x:Int):=aB _ ⟨aa,aa⟩;have ve:AS.wrap ((q1:Int)+(x:Int)-1)=(q1:Int)+(x:Int)-1:=aB _ ⟨aa,aa⟩;have vf:AS.wrap (((y:Int)+(k:Int))*(W:Int))=(q1:Int):=(by rw[R];exact aB _ ⟨by omega,by omega⟩);clear R;have VA:=af I;have Z:=af D;clear I D))
    simp only[aM,hu,hl] at cc cd;clear K N P;go_wp2;go_roundw;case rel=>refine⟨k+1,aa,aH,?_⟩;have h:=KK;simp only[hu,hl,aci,upA,upL] at h⊢;exact h
    case measure=>exact bg
end
section
open Go.RowKit
def EB(f g:Nat->Int)(c:Int):Prop:=(∀k,0<=f k/\f k<=255)/\(∀k,0<=g k/\g k<=255)/\0<=c/\c<=255
def sm(f:Nat->Int):Nat->Int
 |0=>0
 |k+1=>sm f k+f k
def mT(f g:Nat->Int)(u v:Bool)(k:Nat):Int:=(if u=true then sm f k else 0)+(if v=true then sm g k else 0)
def mN(u v:Bool)(k:Nat):Int:=(if u=true then(k:Int) else 0)+(if v=true then(k:Int) else 0)
def mb(f g:Nat->Int)(u v:Bool):Int:=if mN u v 4=0 then 128 else(2*mT f g u v 4+mN u v 4)/(2*mN u v 4)
def aaC(f g:Nat->Int)(u v:Bool){x y:rl}(w:ns)(s:EB f g c):
  UL Gz.prog 169 #[a5 (aM f g c u v),x,y] w λe w'=>e=be (.int .i64 (mb f g u v))/\Q w w':=by
 have M:Q w (w.alloc (ac (aM f g c u v) 125)):=aR;have j:=ak.new w 125 (aM f g c u v);have Z:(w.alloc (ac (aM f g c u v) 125)).cell? ⟨w.heap.size,9,none⟩=some (a9 u):=j.cell 9;have CV:(w.alloc (ac (aM f g c u v) 125)).cell? ⟨w.heap.size,10,none⟩=some (a9 v):=j.cell 10;have CF:Hid (∀k,k<4->(w.alloc (ac (aM f g c u v) 125)).cell? ⟨w.heap.size,k,none⟩=some (.int .i64 (f k))):=λk l=>(j.cell k).trans (pJ f g c u v k l);have CG:Hid (∀k,k<4->(w.alloc (ac (aM f g c u v) 125)).cell? ⟨w.heap.size,4+k,none⟩=some (.int .i64 (g k))):=λk l=>(j.cell (4+k)).trans (pK f g c u v k l);have z:=af s;clear j s;obtain⟨U,m⟩:∃U,Hid (U=u):=⟨u,rfl⟩;obtain⟨V,o⟩:∃V,Hid (V=v):=⟨v,rfl⟩;cases u<;>cases v
 all_goals
  go_enter Gz.gf func169,ntmps169;go_wp2;go_loop[7,8,10] (λt n i=>∃k:Nat,∃T N:Int,k<=4/\t=.int .i64 T/\n=.int .i64 N/\i=.int .i64 k/\Hid (T=mT f g U V k/\N=mN U V k/\0<=T/\T<=510*k/\0<=N/\N<=2*k)) (λ_ _ i=>4-(intOf i).toNat)
  case atStart=>exact⟨0,0,0,aa,rfl,rfl,rfl,by simp[mT,sm],by simp[mN],aa,aa,aa,aa⟩
  case round=>
   obtain⟨k,T,N,l,rfl,rfl,rfl,C⟩:=hrel;obtain⟨D,E,r3,r4,r5,r6⟩:=C.out;have F:=af D;have p:=af E;clear C D E;by_cases G:k<4
   ·have P:(k:Int)<4:=by omega
    have R:=CF.out k G;have cb:=CG.out k G;obtain⟨f0,f1⟩:=z.out.1 k;obtain⟨S,X⟩:=z.out.2.1 k;have I:Hid (sm f (k+1)=sm f k+f k):=rfl;have J:Hid (sm g (k+1)=sm g k+g k):=rfl;generalize f k=fk at R f0 f1 I;generalize g k=gk at cb S X J;go_wp2;go_round;case rel=>exact⟨k+1,_,_,aa,rfl,rfl,aH,by rw[F.out];simp[mT,m.out,o.out,I.out,J.out];try omega,by rw[p.out];simp[mN,m.out,o.out];try omega,aa,aa,aa,aa⟩
    case measure=>exact bg
   ·have q:k=4:=by omega
    subst q;have K:Hid (mb f g U V=if N=0 then 128 else(2*T+N)/(2*N)):=by unfold Hid mb;rw[<-F.out,<-p.out]
    have h:=K.out;rw[m.out,o.out] at h;have r:=af h;clear h K;have L:=p.out;simp[mN,m.out,o.out] at L;subst L;go_wp2;all_goals(try(refine(acQ aa aa aa aa).mono ?_;rintro e w'⟨rfl,rfl⟩;go_wp2))
    go_ret;exact⟨by rw[r.out];simp,M⟩
def aaD(f g:Nat->Int)(u v:Bool)(w:ns)(s:EB f g c):
  UL Gz.prog 125 #[a5 (aM f g c u v)] w λe w'=>e=be (.int .i64 (mb f g u v))/\Q w w':=by
 have M:Q w (w.alloc (ac (aM f g c u v) 125)):=aR;have j:=ak.new w 125 (aM f g c u v);have Z:(w.alloc (ac (aM f g c u v) 125)).cell? ⟨w.heap.size,9,none⟩=some (a9 u):=j.cell 9;have CV:(w.alloc (ac (aM f g c u v) 125)).cell? ⟨w.heap.size,10,none⟩=some (a9 v):=j.cell 10;have CF:Hid (∀k,k<4->(w.alloc (ac (aM f g c u v) 125)).cell? ⟨w.heap.size,k,none⟩=some (.int .i64 (f k))):=λk l=>(j.cell k).trans (pJ f g c u v k l);have CG:Hid (∀k,k<4->(w.alloc (ac (aM f g c u v) 125)).cell? ⟨w.heap.size,4+k,none⟩=some (.int .i64 (g k))):=λk l=>(j.cell (4+k)).trans (pK f g c u v k l);have z:=af s;clear j s;obtain⟨U,m⟩:∃U,Hid (U=u):=⟨u,rfl⟩;obtain⟨V,o⟩:∃V,Hid (V=v):=⟨v,rfl⟩;cases u<;>cases v
 all_goals
  go_enter Gz.gf func125,ntmps125;go_wp2;go_loop[3,4,5] (λt n i=>∃k:Nat,∃T N:Int,k<=4/\t=.int .i64 T/\n=.int .i64 N/\i=.int .i64 k/\Hid (T=mT f g U V k/\N=mN U V k/\0<=T/\T<=510*k/\0<=N/\N<=2*k)) (λ_ _ i=>4-(intOf i).toNat)
  case atStart=>exact⟨0,0,0,aa,rfl,rfl,rfl,by simp[mT,sm],by simp[mN],aa,aa,aa,aa⟩
  case round=>
   obtain⟨k,T,N,l,rfl,rfl,rfl,C⟩:=hrel;obtain⟨D,E,r3,r4,r5,r6⟩:=C.out;have F:=af D;have p:=af E;clear C D E;by_cases G:k<4
   ·have P:(k:Int)<4:=by omega
    have R:=CF.out k G;have cb:=CG.out k G;obtain⟨f0,f1⟩:=z.out.1 k;obtain⟨S,X⟩:=z.out.2.1 k;have I:Hid (sm f (k+1)=sm f k+f k):=rfl;have J:Hid (sm g (k+1)=sm g k+g k):=rfl;generalize f k=fk at R f0 f1 I;generalize g k=gk at cb S X J;go_wp2;go_round;case rel=>exact⟨k+1,_,_,aa,rfl,rfl,aH,by rw[F.out];simp[mT,m.out,o.out,I.out,J.out];try omega,by rw[p.out];simp[mN,m.out,o.out];try omega,aa,aa,aa,aa⟩
    case measure=>exact bg
   ·have q:k=4:=by omega
    subst q;have K:Hid (mb f g U V=if N=0 then 128 else(2*T+N)/(2*N)):=by unfold Hid mb;rw[<-F.out,<-p.out]
    have h:=K.out;rw[m.out,o.out] at h;have r:=af h;clear h K;have L:=p.out;simp[mN,m.out,o.out] at L;subst L;go_wp2;go_ret;exact⟨by rw[r.out];(first|rfl|(congr 2;simp;try omega)),M⟩
def Xa(f g:Nat->Int)(c:Int)(u v:Bool){y:rl}(w:ns)(h:x<4):
  UL Gz.prog 170 #[a5 (aM f g c u v),U O x,y] w λe w'=>e=be (U O (f x))/\Q w w':=by
 have i:Q w (w.alloc (ac (aM f g c u v) 125)):=aR;have j:=ak.new w 125 (aM f g c u v);have k:=(j.cell x).trans (pJ f g c u v x h);go_enter Gz.gf func170,ntmps170;go_wp2;go_ret;exact⟨rfl,i⟩
def WC(f g:Nat->Int)(c:Int)(u v:Bool){x:rl}(w:ns)(h:y<4):
  UL Gz.prog 171 #[a5 (aM f g c u v),x,U O y] w λe w'=>e=be (U O (g y))/\Q w w':=by
 have i:Q w (w.alloc (ac (aM f g c u v) 125)):=aR;have j:=ak.new w 125 (aM f g c u v);have k:=(j.cell (4+y)).trans (pK f g c u v y h);go_enter Gz.gf func171,ntmps171;go_wp2;go_ret;exact⟨rfl,i⟩
def fU(f g:Nat->Int)(c:Int)(j:Nat):Int:=if j<4 then g (3-j) else if j=4 then c else f (j-5)
def oD(f g:Nat->Int)(c:Int)(k:Nat):Int:=(fU f g c (k-1)+2*fU f g c k+fU f g c (k+1)+2)/4
def m9(h:EB f g c)(j:Nat):0<=fU f g c j/\fU f g c j<=255:=by
 unfold fU;split
 ·exact h.2.1 _
 ·split
  ·exact h.2.2
  ·exact h.1 _
def af8(f g:Nat->Int)(c:Int):Array rl:=#[U O (g 3),U O (g 2),U O (g 1),U O (g 0),U O c,U O (f 0),U O (f 1),U O (f 2),U O (f 3)]
def F4(f g:Nat->Int)(c:Int)(j:Nat)(h:j<9):(af8 f g c)[j]?=some (U O (fU f g c j)):=by rcases(show j=0\/j=1\/j=2\/j=3\/j=4\/j=5\/j=6\/j=7\/j=8 by omega) with rfl|rfl|rfl|rfl|rfl|rfl|rfl|rfl|rfl<;>rfl
def Xb(f g:Nat->Int)(c:Int)(u v:Bool)(k:Nat)(w:ns)(l:k<9):
  UL Gz.prog 126 #[a5 (aM f g c u v),U O k] w λe w'=>e=be (U O (fU f g c k))/\Q w w':=by
 have j:Q w (w.alloc (ac (aM f g c u v) 125)):=aR;have h:=ak.new w 125 (aM f g c u v);have m:∀i,(w.alloc (ac (aM f g c u v) 125)).cell? ⟨w.heap.size,i,none⟩=(#[U O (f 0),U O (f 1),U O (f 2),U O (f 3),U O (g 0),U O (g 1),U O (g 2),U O (g 3),U O c,a9 u,a9 v]:Array rl)[i]?:=h.cell;rcases(show k=0\/k=1\/k=2\/k=3\/k=4\/k=5\/k=6\/k=7\/k=8 by omega) with rfl|rfl|rfl|rfl|rfl|rfl|rfl|rfl|rfl
 all_goals
  clear h;go_enter Gz.gf func126,ntmps126;go_wp2;go_ret;exact⟨rfl,j⟩
def Xd(f g:Nat->Int)(u v:Bool)(w:ns)(D:x<4)(E:y<4)(m:EB f g c):
  UL Gz.prog 172 #[a5 (aM f g c u v),U O x,U O y] w λe w'=>e=be (U O (oD f g c (4+x-y)))/\Q w w':=by
 have q0:Q w ((w.alloc (ac (aM f g c u v) 125)).alloc (ac (#[U O (g 3),U O (g 2),U O (g 1),U O (g 0),U O c,U O (f 0),U O (f 1),U O (f 2),U O (f 3)]:Array rl) 227)):=aR;have F:∀i,(w.alloc (ac (aM f g c u v) 125)).cell? ⟨w.heap.size,i,none⟩=(#[U O (f 0),U O (f 1),U O (f 2),U O (f 3),U O (g 0),U O (g 1),U O (g 2),U O (g 3),U O c,a9 u,a9 v]:Array rl)[i]?:=(ak.new w 125 (aM f g c u v)).cell;have j:=ak.new (w.alloc (ac (aM f g c u v) 125)) 227 (#[U O (g 3),U O (g 2),U O (g 1),U O (g 0),U O c,U O (f 0),U O (f 1),U O (f 2),U O (f 3)]:Array rl);rw[BE] at j;obtain⟨k,o⟩:∃k,4+x-y=k:=⟨_,rfl⟩;rw[o];have G:(4:Int)+(x:Int)-(y:Int)=(k:Int):=aa;obtain⟨h,l⟩:∃h,k=h+1:=⟨k-1,aa⟩;have q:(k:Int)-1=(h:Int):=aa;have d1:=(j.cell h).trans (F4 f g c h aa);have d2:=(j.cell k).trans (F4 f g c k aa);have d3:=(j.cell (k+1)).trans (F4 f g c (k+1) aa);have p:Hid (oD f g c k=(fU f g c h+2*fU f g c k+fU f g c (k+1)+2)/4):=by unfold Hid oD;rw[l];rfl
 rw[p.out];obtain⟨r,s⟩:=m9 m h;obtain⟨t,z⟩:=m9 m k;obtain⟨c0,C⟩:=m9 m (k+1);generalize fU f g c h=s1 at d1 r s⊢;generalize fU f g c k=s2 at d2 t z⊢;generalize fU f g c (k+1)=I at d3 c0 C⊢;have J:(h:Int)<9:=aa;have K:(k:Int)<9:=aa;have L:(k:Int)+1<9:=aa;clear o l p m j;go_enter Gz.gf func172,ntmps172;go_wp2
 go_quiet(fail)
 exact Ln
end
end Go.Proofs.Q0
