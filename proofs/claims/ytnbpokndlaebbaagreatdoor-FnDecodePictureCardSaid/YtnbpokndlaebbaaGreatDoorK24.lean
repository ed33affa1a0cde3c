import Derived.Test.YtnbpokndlaebbaaGreatDoorK23
set_option maxRecDepth 100000
set_option maxHeartbeats 8000000
set_option linter.all false
open Go.Value renaming int->U,slice->Y,bool->ci,agg->bi,pointer->d9,tuple->em,iface->gc
open Go.IntKind renaming i64->O
open Go.Obj renaming cells->ap
open Go.Ending renaming returned->dl
open Bool renaming false->Ba,true->AT
open Go renaming Calls->ahR,Value->AS,World->rl,bodyPost_ret->ahX,results_cell_row->aiO
open Go.IntKind renaming i64->EV
open Go.World renaming size_alloc->NO
open Int renaming natCast_mul->akE
open List renaming replicate->so,setIfInBounds_toArray->ahZ,set_cons_succ->aip,set_cons_zero->ain
open Nat renaming lt_irrefl->ajl,not_lt_zero->aiV,reduceAdd->aiP,reduceLT->aju
open Option renaming none->ns,some->an
open True renaming intro->ajD
namespace Go.Proofs
def KX{p:Prop}(h:p:=by(go_wp2_with(first|(first|refine eY rfl rfl rfl aE ?_|refine eU aC rfl rfl aE ?_)|(refine iG rfl _ _ rfl _ rfl _ _ rfl dn aE ?_;intro w9 b9 g9 s9)|(refine iG rfl _ _ rfl _ rfl _ (List.replicate 16 0) rfl rfl aE ?_;intro w9 b9 g9 s9));refine bodyPost_ret (v:=bi (arr _)) (results_cell_row aC _ _ _ _ _ _ _ aC (Bl.blk b9) (Gz.gu underlying97) rfl (by rw[bP,hz];exact lD)) rfl ⟨rfl,QQ.grown g9 λk e=>by have:=aH e;omega⟩)):p:=h
def KY{p:Prop}(h:p:=by go_wp2;refine T1.out.mono ?_;rintro e w'⟨rfl,q1⟩;go_wp2;all_goals(go_ret;exact⟨by first|rfl|(simp;omega),q1⟩)):p:=h
def ym{p:Prop}(h:p:=by rw[<-rt];omega):p:=h
def yn{p:Prop}(h:p:=by rw[HE.out];unfold dG;omega):p:=h
def uM{p:Prop}(h:p:=by unfold fY;split<;>(try split)<;>omega):p:=h
def La{p:Prop}(h:p:=by refine wpQuiet_nil ?_;rintro _⟨⟨w7,qq⟩,rfl⟩;go_wp2;go_ret;exact⟨rfl,q0.trans qq⟩):p:=h
def yo{p:Prop}(h:p:=by unfold Hid;simp[eA]):p:=h
def yI{p:Prop}(h:p:=by unfold Hid;simp[eL]):p:=h
def CU{p:Prop}(h:p:=by simp only[aN,hu,hl,l9,mb,mg,lV];rfl):p:=h
def yP{p:Prop}(h:p:=by rcases(show k=0\/k=1\/k=2\/k=3 by omega) with rfl|rfl|rfl|rfl<;>rfl):p:=h
def Lb{p:Prop}(h:p:=by go_wp2;go_ret;exact⟨rfl,by have hq:=q0;exact aU⟩):p:=h
end Go.Proofs
namespace Go.Proofs.Q0
open Go.Proofs.Tryz
variable{xs:List Int}{w:rl}{n B x y:Nat}{a b c d W H:Int}{cs:Array AS}{A:Option Addr}{u v:Bool}{f g:Nat->Int}
section
open Go.RowKit
def gT(xs:List Int)(s:Int)(k:Nat):Int:=Bo (xs[k]?.getD 0) s
def gU(xs:List Int)(q:Int):List Int:=if(aW xs 4080&&qB q)=AT then ki (bk (gT xs (step q.toNat)) 16) else cJ
def PR{q:Int}:(gU xs q).length=16:=by
 unfold gU;split
 ·rfl
 ·rfl
def Wc(q:Int)(S:Tb w)(D:xs.length=16):
  ahR Gz.prog 128 #[bi (arr xs),U O q] w λe w'=>e=dl (bi (arr (gU xs q)))/\Q w w':=by
 have s1:=bP xs;rw[D] at s1;have QQ:Q w ((w.alloc (ap (arr xs) 97)).alloc (ap (arr (so 16 0)) 97)):=aU;have E:=(Bl.new w xs D).alloc (ap (arr (so 16 0)) 97);have m:=Bl.zero (w.alloc (ap (arr xs) 97));simp only[NO] at m;have F:=ag (S.q QQ);have hz:cJ.length=16:=rfl;have T:w.heap.size≠0:=by have:=S.pos;omega
 clear S;cases o:qB q
 ·have I:Hid (gU xs q=cJ):=by unfold Hid gU;rw[o,Bool.and_false];rfl
  have HR:Hid (decide (0<=q/\q<=15)=Ba):=o;rw[I.out];clear o;go_enter Gz.gf func128,ntmps128;go_wp2_with(first|refine eY rfl rfl rfl aE ?_|refine eU aC rfl rfl aE ?_);refine(oB _ HR).mono ?_;rintro e w'⟨rfl,rfl⟩;exact KX
 ·have HR:Hid (decide (0<=q/\q<=15)=AT):=o;have V:0<=q/\q<=15:=of_decide_eq_true o;cases t:aW xs 4080
  ·have I:Hid (gU xs q=cJ):=by unfold Hid gU;rw[t];rfl
   have X:=ag t;rw[I.out];clear o t;go_enter Gz.gf func128,ntmps128;go_wp2_with(first|refine eY rfl rfl rfl aE ?_|refine eU aC rfl rfl aE ?_);refine(oB _ HR).mono ?_;rintro e w'⟨rfl,rfl⟩;go_wp2_with(first|refine eY rfl rfl rfl aE ?_|refine eU aC rfl rfl aE ?_);refine(zr D aa aa X).mono ?_;rintro e Z⟨rfl,q1⟩;(try replace E:=E.q q1);(try replace bb:=bb.q q1);(try replace m:=m.q q1);(try replace bd:=bd.q q1);(try replace F:=ag (F.out.q q1));replace QQ:=QQ.trans q1;have sq:=q1.size;clear q1;exact KX
  ·have X:=ag t;obtain⟨n,rfl⟩:∃n:Nat,q=(n:Int):=⟨q.toNat,aa⟩;have I:Hid (gU xs (n:Int)=ki (bk (gT xs (step n)) 16)):=by unfold Hid gU;rw[t,o];rfl
   rw[I.out];have n16:n<16:=aa;have HI:=ag λk hk=>nz t k hk;have HM:Hid (aW (bk (gT xs (step n)) 16) 4080=AT):=QW λk _=>Gh aa;clear o t V;go_enter Gz.gf func128,ntmps128;go_wp2_with(first|refine eY rfl rfl rfl aE ?_|refine eU aC rfl rfl aE ?_);refine(oB _ HR).mono ?_;rintro e w'⟨rfl,rfl⟩;go_wp2_with(first|refine eY rfl rfl rfl aE ?_|refine eU aC rfl rfl aE ?_);refine(zr D aa aa X).mono ?_;rintro e Z⟨rfl,q1⟩;(try replace E:=E.q q1);(try replace bb:=bb.q q1);(try replace m:=m.q q1);(try replace bd:=bd.q q1);(try replace F:=ag (F.out.q q1));replace QQ:=QQ.trans q1;have sq:=q1.size;clear q1;go_wp2_with(first|refine eY rfl rfl rfl aE ?_|refine eU aC rfl rfl aE ?_);have UY:w.heap.size+1<Z.heap.size:=m.lt;go_loopw[17] (λi wr=>∃k:Nat,k<=16/\i=U O k/\Hid (Bl wr w.heap.size (bk (λj=>if j<k then gT xs (step n) j else xs[j]?.getD 0) 16)/\Bl wr (w.heap.size+1) cJ/\Q w wr/\Tb wr)) (λi _=>16-(intOf i).toNat)
   case atStart=>exact⟨0,aa,rfl,by rw[Fa D];exact E,m,QQ,F.out⟩
   case round=>
    obtain⟨k,hk,rfl,hK⟩:=hrel;obtain⟨h,P,G,k4⟩:=hK.out;clear hK E m QQ F;by_cases l:k<16
    ·have s:(k:Int)<16:=by omega
     have C:=Fy (gT xs (step n)) (λj=>xs[j]?.getD 0) l;have c1:=h.at k l;have f1:=h.free k;have he:=λw=>rX xs D l w;rw[FV l (Nat.le_refl _)] at c1;obtain⟨a1,a2⟩:=HI.out k aa;have R:=ag λz hz=>Wj (xs[k]?.getD 0) (n:Int) n z hz rfl n16 a1 a2;have J:gT xs (step n) k=Bo (xs[k]?.getD 0) (step n):=rfl;rw[<-J] at R;generalize gT xs (step n) k=r at C R;generalize xs[k]?.getD 0=x at he c1 R;have kc:=ag C;have K1:=ag h;have K2:=ag P;have K3:=ag G;have K4:=ag k4;clear C J h P G k4 c1 f1;go_wp2;refine(R.out _ K4.out).mono ?_;rintro e wa⟨rfl,q1⟩;have h:=K1.out.q q1;have c3:=h.at k l;have f3:=h.free k;generalize(bk (λj=>if j<k then gT xs (step n) j else xs[j]?.getD 0) 16)[k]?.getD 0=zz at c3;have n1:=ag (h.set k r);rw[kc.out] at n1;have n2:=ag ((K2.out.q q1).aL (p:=⟨w.heap.size,k,ns⟩) (by show w.heap.size+1≠w.heap.size;omega) (U O r));have n3:=ag ((K3.out.trans q1).set (p:=⟨w.heap.size,k,ns⟩) (by show w.heap.size<=w.heap.size;omega) (U O r));have n4:=ag (aeo (K4.out.q q1) (p:=⟨w.heap.size,k,ns⟩) (by show w.heap.size≠0;exact T) (U O r));clear h q1;go_wp2;go_roundw;case rel=>exact⟨k+1,aa,aJ,n1.out,n2.out,n3.out,n4.out⟩
     case measure=>exact bj
    ·have s:k=16:=by omega
     subst s;rw[E9] at h;have K:(bk (gT xs (step n)) 16).length=16:=D6;generalize L:bk (gT xs (step n)) 16=ms at h HM K;have Je:=ag L;clear L;have M:=zX ms;go_wp2_with(first|refine eY rfl rfl rfl aE ?_|refine eU aC rfl rfl aE ?_);refine(V6 K HM).mono ?_;rintro e Z⟨rfl,q1⟩;replace P:=P.q q1;replace G:=G.trans q1;have K3:=ag G;clear G q1;generalize N:ki ms=vs at M⊢;have JT:=ag N;clear N;go_wp2_with(first|(first|refine eY rfl rfl rfl aE ?_|refine eU aC rfl rfl aE ?_)|(refine iG rfl _ _ rfl _ rfl _ _ rfl dn aE ?_;intro w9 b9 g9 s9));refine ahX (v:=bi (arr _)) (aiO aC _ _ _ _ _ _ _ aC (Bl.blk b9) (Gz.gu underlying97) rfl (by rw[bP,M];exact lD)) rfl ⟨by rw[Je.out,JT.out],K3.out.grown g9 λk e=>by have:=aH e;omega⟩
end
section
open Go.RowKit
def dG(n e hi:Int):Int:=min (max n e) hi
def vY(n h hi:Int)(w:rl):
  ahR Gz.prog 48 #[U O n,U O h,U O hi] w λe w'=>e=dl (U O (dG n h hi))/\w=w':=by
 go_enter Gz.gf func48,ntmps48;go_wp2;all_goals(go_ret;exact⟨by first|rfl|(simp[dG];omega),rfl⟩)
def wD(n i hi:Int)(w:rl)(h:i<=hi):
  ahR Gz.prog 67 #[U O n,U O i,U O hi] w λe w'=>e=dl (U O (dG n i hi))/\w=w':=by
 have e:dG n i hi=max i (min hi n):=by unfold dG;omega
 go_enter Gz.gf func67,ntmps67;go_wp2;all_goals(go_ret;exact⟨by first|rfl|(simp;omega),rfl⟩)
end
section
open Go.RowKit
def Wv(q:Int)(h:Tb w)(hq:q=(n:Int))(i:n<16):
  ahR Gz.prog 45 #[U O q] w λe w'=>e=dl (U O (step n))/\Q w w':=by
 have k:=h.at_ n i;have j:Hid (decide (0<=(n:Int)/\(n:Int)<=15)=AT):=decide_eq_true ⟨aa,aa⟩;go_enter Gz.gf func45,ntmps45;go_wp2;refine(oB _ j).mono ?_;rintro e w'⟨rfl,rfl⟩;go_wp2;go_ret;exact⟨rfl,Q.refl _⟩
def fV(n:Nat):Int:=min (step n/8) 12
def R5(h:n<16):0<=fV n/\fV n<=12:=by obtain⟨e,i⟩:=vJ h;unfold fV;omega
def Wd(q:Int)(w:rl)(i:Tb w)(hq:q=(n:Int))(h:n<16):
  ahR Gz.prog 24 #[U O q] w λe w'=>e=dl (U O (fV n))/\Q w w':=by
 have T1:=ag (Wv (n:Int) i rfl h);obtain⟨k,l⟩:=vJ h;have j:Hid (fV n=min (step n/8) 12):=rfl;rw[j.out];go_enter Gz.gf func24,ntmps24;exact KY
def We(q:Int)(w:rl)(hq:q=(n:Int))(h:n<16):
  ahR Gz.prog 40 #[U O q] w λe w'=>e=dl (U O (fV n))/\Q w w':=by
 have T1:=ag (Ly (n:Int) w rfl h);obtain⟨j,k⟩:=vJ h;have i:Hid (fV n=min 12 (step n/8)):=by unfold Hid fV;omega
 rw[i.out];go_enter Gz.gf func40,ntmps40;exact KY
end
section
open Go.RowKit
def mR(a b c d L:Int):Int:=dG ((4*(c-b)+a-d+4)/8) (-L) L
def fH(a b c d L:Int):Int:=if 4*L<=max (b-c) (-(b-c)) then b else dG (b+mR a b c d L) 0 255
def fI(a b c d L:Int):Int:=if 4*L<=max (b-c) (-(b-c)) then c else dG (c-mR a b c d L) 0 255
def aep{L:Int}(e:0<=b/\b<=255)(hc:0<=c/\c<=255):(0<=fH a b c d L/\fH a b c d L<=255)/\0<=fI a b c d L/\fI a b c d L<=255:=by unfold fH fI dG;constructor<;>split<;>omega
def WO(L:Int)(w:rl)(l:0<=a/\a<=255)(o:0<=b/\b<=255)(hc:0<=c/\c<=255)(hd:0<=d/\d<=255)(p:0<=L/\L<=12):
  ahR Gz.prog 26 #[U O a,U O b,U O c,U O d,U O L] w λe w'=>e=dl (em #[U O (fH a b c d L),U O (fI a b c d L)])/\w=w':=by
 obtain⟨q,r⟩:=l;obtain⟨s,t⟩:=o;obtain⟨z,C⟩:=hc;obtain⟨d1,d2⟩:=hd;obtain⟨D,E⟩:=p;obtain⟨m,hm⟩:∃m,(if b-c<0 then -(b-c) else b-c)=m:=⟨_,rfl⟩;have rt:max (b-c) (-(b-c))=m:=by rw[<-hm];split<;>omega
 have T:=ag (Zs (b-c) w aa aa);rw[hm] at T;have F:0<=m:=ym;have G:m<=255:=ym;by_cases h:4*L<=m
 ·have i:Hid (fH a b c d L=b):=by unfold Hid fH;rw[rt,if_pos h]
  have j:Hid (fI a b c d L=c):=by unfold Hid fI;rw[rt,if_pos h]
  rw[i.out,j.out];go_enter Gz.gf func26,ntmps26;go_wp2;refine T.out.mono ?_;rintro e w'⟨rfl,rfl⟩;go_wp2;exact ahX (v:=em #[U O b,U O c]) (by simp[results,results26,go_sem]) rfl ⟨rfl,rfl⟩
 ·have i:Hid (fH a b c d L=dG (b+mR a b c d L) 0 255):=by unfold Hid fH;rw[rt,if_neg h]
  have j:Hid (fI a b c d L=dG (c-mR a b c d L) 0 255):=by unfold Hid fI;rw[rt,if_neg h]
  have HE:Hid (mR a b c d L=dG ((4*(c-b)+a-d+4)/8) (-L) L):=rfl;rw[i.out,j.out];have I:m<4*L:=aa;clear rt i j h;generalize mR a b c d L=e at HE⊢;have J: -L<=e:=yn;have K:e<=L:=yn;go_enter Gz.gf func26,ntmps26;go_wp2;refine T.out.mono ?_;rintro k w'⟨rfl,rfl⟩;go_wp2;refine(vY _ _ _ _).mono ?_;rintro k w'⟨rfl,rfl⟩;rw[<-HE.out];clear HE;go_wp2;refine(vY _ _ _ _).mono ?_;rintro k w'⟨rfl,rfl⟩;go_wp2;refine(vY _ _ _ _).mono ?_;rintro k w'⟨rfl,rfl⟩;go_wp2;exact ahX (v:=em #[U O (dG (b+e) 0 255),U O (dG (c-e) 0 255)]) (by simp[results,results26,go_sem]) rfl ⟨rfl,rfl⟩
def Lc(L:Int)(w:rl)(q:0<=a/\a<=255)(i:0<=b/\b<=255)(hc:0<=c/\c<=255)(hd:0<=d/\d<=255)(t:0<=L/\L<=12):
  ahR Gz.prog 41 #[U O a,U O b,U O c,U O d,U O L] w λe w'=>e=dl (em #[U O (fH a b c d L),U O (fI a b c d L)])/\w=w':=by
 have z:Hid (decide (0<=a/\a<=255)=AT):=decide_eq_true q;have j:Hid (decide (0<=b/\b<=255)=AT):=decide_eq_true i;have k:Hid (decide (0<=c/\c<=255)=AT):=decide_eq_true hc;have C:Hid (decide (0<=d/\d<=255)=AT):=decide_eq_true hd;have D:Hid (decide (0<=L/\L<=12)=AT):=decide_eq_true t;obtain⟨I,J⟩:=q;obtain⟨K,M⟩:=i;obtain⟨N,P⟩:=hc;obtain⟨d1,d2⟩:=hd;obtain⟨Q,R⟩:=t;obtain⟨m,hm⟩:∃m,max (b-c) (c-b)=m:=⟨_,rfl⟩;have rt:max (b-c) (-(b-c))=m:=by rw[<-hm];omega
 have E:0<=m:=ym;have F:m<=255:=ym;by_cases h:4*L<=m
 ·have l:Hid (fH a b c d L=b):=by unfold Hid fH;rw[rt,if_pos h]
  have o:Hid (fI a b c d L=c):=by unfold Hid fI;rw[rt,if_pos h]
  rw[l.out,o.out];clear rt l o;have p:=ag hm;have hq:decide (4*L<=max (b-c) (c-b))=AT:=by rw[hm];exact decide_eq_true h
  clear hm;go_enter Gz.gf func41,ntmps41;go_wp2;(go_at_call 62;(with_reducible refine(cG _ z).mono ?_);rintro e w'⟨rfl,rfl⟩)
  go_wp2;(go_at_call 62;(with_reducible refine(cG _ j).mono ?_);rintro e w'⟨rfl,rfl⟩)
  go_wp2;(go_at_call 62;(with_reducible refine(cG _ k).mono ?_);rintro e w'⟨rfl,rfl⟩)
  go_wp2;(go_at_call 62;(with_reducible refine(cG _ C).mono ?_);rintro e w'⟨rfl,rfl⟩)
  go_wp2;(go_at_call 62;(with_reducible refine(cG _ D).mono ?_);rintro e w'⟨rfl,rfl⟩)
  go_wp2;all_goals first|exact ahX (v:=em #[U O b,U O c]) (by simp[results,results41,go_sem]) rfl ⟨rfl,rfl⟩|(exfalso;have G:=p.out;rename_i q i;clear hq;(try split at q);(try split at i);all_goals omega)|(exfalso;have G:=p.out;rename_i i;clear hq;(try split at i);all_goals omega)
 ·have l:Hid (fH a b c d L=dG (b+mR a b c d L) 0 255):=by unfold Hid fH;rw[rt,if_neg h]
  have o:Hid (fI a b c d L=dG (c-mR a b c d L) 0 255):=by unfold Hid fI;rw[rt,if_neg h]
  have HE:Hid (mR a b c d L=dG ((4*(c-b)+a-d+4)/8) (-L) L):=rfl;rw[l.out,o.out];have h1:b-c<4*L:=aa;have S:c-b<4*L:=aa;clear hm rt l o h E F;have T:=ag (Fq (4*(c-b)+a-d+4) 8 w aa aa aa aa);generalize mR a b c d L=e at HE⊢;have V: -L<=e:=yn;have X:e<=L:=yn;have r: -L<=L:=aa;go_enter Gz.gf func41,ntmps41;go_wp2;(go_at_call 62;(with_reducible refine(cG _ z).mono ?_);rintro e w'⟨rfl,rfl⟩)
  go_wp2;(go_at_call 62;(with_reducible refine(cG _ j).mono ?_);rintro e w'⟨rfl,rfl⟩)
  go_wp2;(go_at_call 62;(with_reducible refine(cG _ k).mono ?_);rintro e w'⟨rfl,rfl⟩)
  go_wp2;(go_at_call 62;(with_reducible refine(cG _ C).mono ?_);rintro e w'⟨rfl,rfl⟩)
  go_wp2;(go_at_call 62;(with_reducible refine(cG _ D).mono ?_);rintro e w'⟨rfl,rfl⟩)
  go_wp2
  all_goals
   refine T.out.mono ?_;rintro s w'⟨rfl,rfl⟩;go_wp2;refine(wD _ _ _ _ r).mono ?_;rintro s w'⟨rfl,rfl⟩;rw[<-HE.out];go_wp2;refine(wD _ _ _ _ aa).mono ?_;rintro s w'⟨rfl,rfl⟩;go_wp2;refine(wD _ _ _ _ aa).mono ?_;rintro s w'⟨rfl,rfl⟩;go_wp2;exact ahX (v:=em #[U O (dG (b+e) 0 255),U O (dG (c-e) 0 255)]) (by simp[results,results41,go_sem]) rfl ⟨rfl,rfl⟩
end
section
open Go.RowKit
structure iW(w:rl) where
 at_:rl
 q:Q w at_
instance(w:rl):Nonempty (iW w):=⟨⟨w,Q.refl w⟩⟩
def uY{P:Program}{id:Nat}{e:Exit->Act->rl->Prop}{a:Act}{l:List Oper}(hm:P.follows .mixedOrders=AT)(i:Region.lexB .any l.toArray=AT)
  (h:wpQuiet P l.toArray (λw'=>∃x:iW w,w'=x.at_) (λa'=>∀w',(∃x:iW w,w'=x.at_)->e .normal a' w') l a):(Code.region id l.toArray AT).wp P e a w:=
 wp_region_quiet (C:=λw'=>∃x:iW w,w'=x.at_) hm i ⟨⟨_,(Q.refl w).drew⟩,rfl⟩ mu
def Calls.fZ{P:Program}{f:FuncId}{args:Array AS}{x:iW w}{v:AS}
  (h:ahR P f args x.at_ λe w'=>e=dl v/\Q x.at_ w'):ahR P f args x.at_ λe i=>e=dl v/\∃y:iW w,i=y.at_:=
 h.mono λ_ w'⟨he,hq⟩=>⟨he,⟨w',x.q.trans hq⟩,rfl⟩
def ak.fZ{g:Nat}{t:TypeId}(h:ak w g t cs):∀(x:iW w)(i:Nat),x.at_.cell? ⟨g,i,ns⟩=cs[i]?:=λx=>h.oP x.q
end
section
open Go.RowKit
def fY(n hi:Int):Int:=if n<0 then 0 else if hi<n then hi else n
def AP(n:Int){hi:Int}(h:0<=hi):0<=fY n hi/\fY n hi<=hi:=uM
def bJ(W H:Int)(xs:List Int)(x y:Int):Int:=xs[(fY y (H-1)*W+fY x (W-1)).toNat]?.getD 0
def nH(h:bV W H xs=AT)(x y:Int):0<=bJ W H xs x y/\bJ W H xs x y<=255:=by
 obtain⟨j,k,l,i⟩:=jU h;unfold bJ;rcases cZ (fY y (H-1)*W+fY x (W-1)).toNat xs.length with e|e
 ·exact pY i _ e
 ·simp_all
def S3(h:a=b):Ending.returned (U O a)=dl (U O b):=by rw[h]
def R6(n hi:Int)(w:rl)(h:0<=hi):ahR Gz.prog 48 #[U O n,U O 0,U O hi] w λe w'=>e=dl (U O (fY n hi))/\w=w':=by have e:fY n hi=min (max n 0) hi:=uM;have E:=ag e;clear e;go_enter Gz.gf func48,ntmps48;go_wp2;all_goals(go_ret;exact⟨S3 (by rw[E.out];try omega),rfl⟩)
def S4(n hi:Int)(w:rl)(h:0<=hi):ahR Gz.prog 67 #[U O n,U O 0,U O hi] w λe w'=>e=dl (U O (fY n hi))/\w=w':=by have e:fY n hi=max 0 (min hi n):=uM;have E:=ag e;clear e;go_enter Gz.gf func67,ntmps67;go_wp2;all_goals(go_ret;exact⟨S3 (by rw[E.out];try omega),rfl⟩)
theorem R7{h e:Int}(m:(n:Int)=W*H)(h1:8<=W)(j:W<=32)(k:8<=H)(l:H<=32)(o:0<=h/\h<=W-1)(i:0<=e/\e<=H-1):
  0<=e*W/\e*W<=1024/\0<=e*W+h/\e*W+h<n/\n<=1024:=by
 have p:e*W<=(H-1)*W:=zb i.2 aa;have q:0<=e*W:=Int.mul_nonneg i.1 aa;have r:(H-1)*W=W*H-W:=eW;have:=(Fs h1 j k l).2;omega
def QX(x y:Int)(c:Nat)(D:Rd w B A xs)(I:B<=w.heap.size)(hn:Hid (xs.length=n))(J:Hid (bV W H xs=AT)):
  ahR Gz.prog 161 #[bi #[U O W,U O H,Y A n c],U O x,U O y] w λe w'=>e=dl (U O (bJ W H xs x y))/\Q w w':=by
 (obtain⟨m,r,t,K⟩:=jU J.out;rw[hn.out] at t;have i:=AP x (hi:=W-1) aa;have j:=AP y (hi:=H-1) aa;have E:Hid (∀w:rl,ahR Gz.prog 48 #[U O y,U O 0,U O (H-1)] w λe w'=>e=dl (U O (fY y (H-1)))/\Q w w'):=λw=>(R6 y (H-1) w aa).mono λ_ _ h=>⟨h.1,by rw[h.2];exact Q.refl _⟩;have F:Hid (∀w:rl,ahR Gz.prog 48 #[U O x,U O 0,U O (W-1)] w λe w'=>e=dl (U O (fY x (W-1)))/\Q w w'):=λw=>(R6 x (W-1) w aa).mono λ_ _ h=>⟨h.1,by rw[h.2];exact Q.refl _⟩;unfold bJ;generalize fY x (W-1)=C at i F⊢;generalize fY y (H-1)=l at j E⊢)
 (obtain⟨i1,i2,i3,i4,i5⟩:=R7 t m.1 m.2.1 r.1 r.2.1 i j;have q0:Q w (w.alloc (ap #[U O W,U O H,Y A n c] 28)):=aU;have L:=(ak.new w 28 #[U O W,U O H,Y A n c]).fZ;have G:=D.q q0 I;obtain⟨b,o,rfl,M,hc⟩:=G oq;have hq:∀z:iW (w.alloc (ap #[U O W,U O H,Y (an ⟨b,o,ns⟩) n c] 28)),z.at_.cell? ⟨b,o+(l*W+C).toNat,ns⟩=an (U O (xs[(l*W+C).toNat]?.getD 0)):=λz=>((z.q).cell b _ av).trans (hc _ oq))
 generalize xs[(l*W+C).toNat]?.getD 0=s at hq⊢;obtain⟨p,k⟩:∃p,l*W=p:=⟨_,rfl⟩;rw[k] at i1 i2 i3 i4 hq;have t1:EV.wrap (l*W)=p:=by rw[k];exact aD _ ⟨by omega,by omega⟩
 have t4:EV.wrap (H-1)=H-1:=aD _ ⟨aa,aa⟩;have t5:EV.wrap (W-1)=W-1:=aD _ ⟨aa,aa⟩;clear k hc D G t m r i j K;go_enter Gz.gf func161,ntmps161;go_wp2;refine uY aj aj ?_;repeat(go_big_quiet_step (first|(go_at_call_of 48 x;exact Calls.fZ (F.out _))|(go_at_call_of 48 y;exact Calls.fZ (E.out _))))
 exact La
def adx(x y:Int)(c:Nat)(D:Rd w B A xs)(I:B<=w.heap.size)(hn:Hid (xs.length=n))(J:Hid (bV W H xs=AT)):
  ahR Gz.prog 170 #[bi #[U O W,U O H,Y A n c],U O x,U O y] w λe w'=>e=dl (U O (bJ W H xs x y))/\Q w w':=by
 (obtain⟨m,r,t,K⟩:=jU J.out;rw[hn.out] at t;have i:=AP x (hi:=W-1) aa;have j:=AP y (hi:=H-1) aa;have E:Hid (∀w:rl,ahR Gz.prog 67 #[U O y,U O 0,U O (H-1)] w λe w'=>e=dl (U O (fY y (H-1)))/\Q w w'):=λw=>(S4 y (H-1) w aa).mono λ_ _ h=>⟨h.1,by rw[h.2];exact Q.refl _⟩;have F:Hid (∀w:rl,ahR Gz.prog 67 #[U O x,U O 0,U O (W-1)] w λe w'=>e=dl (U O (fY x (W-1)))/\Q w w'):=λw=>(S4 x (W-1) w aa).mono λ_ _ h=>⟨h.1,by rw[h.2];exact Q.refl _⟩;unfold bJ;generalize fY x (W-1)=C at i F⊢;generalize fY y (H-1)=l at j E⊢)
 (obtain⟨i1,i2,i3,i4,i5⟩:=R7 t m.1 m.2.1 r.1 r.2.1 i j;have q0:Q w (w.alloc (ap #[U O W,U O H,Y A n c] 28)):=aU;have L:=(ak.new w 28 #[U O W,U O H,Y A n c]).fZ;have G:=D.q q0 I;obtain⟨b,o,rfl,M,hc⟩:=G oq;have hq:∀z:iW (w.alloc (ap #[U O W,U O H,Y (an ⟨b,o,ns⟩) n c] 28)),z.at_.cell? ⟨b,o+(l*W+C).toNat,ns⟩=an (U O (xs[(l*W+C).toNat]?.getD 0)):=λz=>((z.q).cell b _ av).trans (hc _ oq))
 generalize xs[(l*W+C).toNat]?.getD 0=s at hq⊢;obtain⟨p,k⟩:∃p,l*W=p:=⟨_,rfl⟩;rw[k] at i1 i2 i3 i4 hq;have t1:EV.wrap (l*W)=p:=by rw[k];exact aD _ ⟨by omega,by omega⟩
 have t4:EV.wrap (H-1)=H-1:=aD _ ⟨aa,aa⟩;have t5:EV.wrap (W-1)=W-1:=aD _ ⟨aa,aa⟩;clear k hc D G t m r i j K;go_enter Gz.gf func170,ntmps170;go_wp2;refine uY aj aj ?_;repeat(go_big_quiet_step (first|(go_at_call_of 67 x;exact Calls.fZ (F.out _))|(go_at_call_of 67 y;exact Calls.fZ (E.out _))))
 exact La
end
section
open Go.RowKit
def aN(f g:Nat->Int)(c:Int)(u v:Bool):Array AS:=#[U O (f 0),U O (f 1),U O (f 2),U O (f 3),U O (g 0),U O (g 1),U O (g 2),U O (g 3),U O c,ci u,ci v]
def eA(W H:Int)(xs:List Int)(x y:Int)(up:Bool)(k:Nat):Int:=if up=AT then bJ W H xs (x+(k:Int)) (y-1) else 128
def eL(W H:Int)(xs:List Int)(x y:Int)(e:Bool)(k:Nat):Int:=if e=AT then bJ W H xs (x-1) (y+(k:Int)) else 128
def eC(W H:Int)(xs:List Int)(x y:Int)(up e:Bool):Int:=if up=AT/\e=AT then bJ W H xs (x-1) (y-1) else 128
def BD(W H:Int)(xs:List Int)(x y e:Nat):Array AS:=
 aN (eA W H xs x y (decide (e<y))) (eL W H xs x y (decide (0<x))) (eC W H xs x y (decide (e<y)) (decide (0<x))) (decide (e<y)) (decide (0<x))
def upto(f:Nat->Int)(k:Nat)(j:Nat):Int:=if j<k then f j else 0
def QY(f g:Nat->Int)(c:Int)(u v:Bool):aN (upto f 4) (upto g 4) c u v=aN f g c u v:=rfl
def afp(h:bV W H xs=AT)(x y:Int)(up:Bool)(k:Nat):0<=eA W H xs x y up k/\eA W H xs x y up k<=255:=by have:=nH h (x+(k:Int)) (y-1);unfold eA;split<;>omega
def afq(h:bV W H xs=AT)(x y:Int)(up:Bool)(k:Nat):0<=eL W H xs x y up k/\eL W H xs x y up k<=255:=by have:=nH h (x-1) (y+(k:Int));unfold eL;split<;>omega
def afr(h:bV W H xs=AT)(x y:Int)(up e:Bool):0<=eC W H xs x y up e/\eC W H xs x y up e<=255:=by have:=nH h (x-1) (y-1);unfold eC;split<;>omega
def ady{W H:Nat}{u v:Nat}(hu:u<W)(i:v<H):bJ W H xs u v=xs[v*W+u]?.getD 0:=by unfold bJ;have e:fY (v:Int) ((H:Int)-1)=v:=uM;have h:fY (u:Int) ((W:Int)-1)=u:=uM;rw[e,h];have:((v:Int)*(W:Int)+(u:Int)).toNat=v*W+u:=aa;rw[this]
def EN:((aN f g c u v).all λx=>x.oneCell')=AT:=by simp[aN,Value.oneCell']
def vG:(Gz.prog.info? 145).map (·.size)=an (aN f g c u v).size:=aC
def l9(W H:Int)(xs:List Int)(x y:Int)(k:Nat):eA W H xs x y Ba k=128:=rfl
def mb(W H:Int)(xs:List Int)(x y:Int)(k:Nat):eL W H xs x y Ba k=128:=rfl
def mg(W H:Int)(xs:List Int)(x y:Int)(b:Bool):eC W H xs x y Ba b=128:=aF
def lV(W H:Int)(xs:List Int)(x y:Int)(b:Bool):eC W H xs x y b Ba=128:=by simp[eC]
structure lz(W H:Int)(S:AS)(w wr:rl)(cs:Array AS):Prop where
 q:Q w wr
 p:ak wr w.heap.size 28 #[U O W,U O H,S]
 r:ak wr (w.heap.size+1) 145 (aN (λ_=>0) (λ_=>0) 0 Ba Ba)
 e:ak wr (w.heap.size+1+1) 145 cs
def lz.set{S:AS}{wr:rl}(h:lz W H S w wr cs)(i:Nat)(v:AS):lz W H S w (wr.setCell ⟨w.heap.size+1+1,i,ns⟩ v) (cs.setIfInBounds i v):=
 ⟨h.q.set uG v,h.p.aL uF v,h.r.aL uE v,h.e.set i v⟩
def lz.to{S:AS}{wr w':rl}(h:lz W H S w wr cs)(k:Q wr w'):lz W H S w w' cs:=⟨h.q.trans k,h.p.q k,h.r.q k,h.e.q k⟩
def lz.start(W H:Int)(S:AS)(w:rl)(cs:Array AS):lz W H S w (((w.alloc (ap #[U O W,U O H,S] 28)).alloc (ap (aN (λ_=>0) (λ_=>0) 0 Ba Ba) 145)).alloc (ap cs 145)) cs:=by
 refine⟨aU,((ak.new w _ _).alloc _).alloc _,?_,?_⟩
 ·have h:=(ak.new (w.alloc (ap #[U O W,U O H,S] 28)) 145 (aN (λ_=>0) (λ_=>0) 0 Ba Ba)).alloc (ap cs 145);rw[NO] at h;exact h
 ·have h:=ak.new ((w.alloc (ap #[U O W,U O H,S] 28)).alloc (ap (aN (λ_=>0) (λ_=>0) 0 Ba Ba) 145)) 145 cs;rw[NO,NO] at h;exact h
def Za(x y o:Nat)(c:Nat)(hx:Rd w B A xs)(hB:B<=w.heap.size)(hn:Hid (xs.length=n))(hp:Hid (bV W H xs=AT))(x2:x<=32)(y2:y<=32):
  ahR Gz.prog 124 #[bi #[U O W,U O H,Y A n c],U O x,U O y,U O o] w λe w'=>e=dl (bi (BD W H xs x y o))/\Q w w':=by
 have T:Hid (∀(z:rl)(_:Q w z)(u v:Int),ahR Gz.prog 161 #[bi #[U O W,U O H,Y A n c],U O u,U O v] z λe w'=>e=dl (U O (bJ W H xs u v))/\Q z w'):=λz q u v=>QX u v c (hx.q q hB) (aQ hB q.size) hn hp;have I:Hid (bJ W H xs (x:Int) ((y:Int)-1)=eA W H xs x y AT 0):=yo;have J:Hid (bJ W H xs ((x:Int)+1) ((y:Int)-1)=eA W H xs x y AT 1):=yo;have L:Hid (bJ W H xs ((x:Int)+2) ((y:Int)-1)=eA W H xs x y AT 2):=yo;have M:Hid (bJ W H xs ((x:Int)+3) ((y:Int)-1)=eA W H xs x y AT 3):=yo;have N:Hid (bJ W H xs ((x:Int)-1) (y:Int)=eL W H xs x y AT 0):=yI;have P:Hid (bJ W H xs ((x:Int)-1) ((y:Int)+1)=eL W H xs x y AT 1):=yI;have R:Hid (bJ W H xs ((x:Int)-1) ((y:Int)+2)=eL W H xs x y AT 2):=yI;have S:Hid (bJ W H xs ((x:Int)-1) ((y:Int)+3)=eL W H xs x y AT 3):=yI;have V:Hid (bJ W H xs ((x:Int)-1) ((y:Int)-1)=eC W H xs x y AT AT):=by unfold Hid;simp[eC]
 unfold BD;obtain⟨up,D⟩:∃up,decide (o<y)=up:=⟨_,rfl⟩;obtain⟨l,E⟩:∃l,decide (0<x)=l:=⟨_,rfl⟩;rw[D,E];have K0:=ag (lz.start W H (Y A n c) w (aN (upto (eA W H xs x y up) 0) (upto (eL W H xs x y l) 0) 128 up l));clear hx;rcases(show up=AT\/up=Ba by cases up<;>simp) with hu|hu<;>rcases(show l=AT\/l=Ba by cases l<;>simp) with hl|hl
 all_goals
  rw[hu] at D;rw[hl] at E;go_enter Gz.gf func124,ntmps124;go_wp2;go_loopw[17] (λi wr=>∃k:Nat,k<=4/\i=U O k/\Hid (lz W H (Y A n c) w wr (aN (upto (eA W H xs x y up) k) (upto (eL W H xs x y l) k) 128 up l))) (λi _=>4-(intOf i).toNat)
  case atStart=>exact⟨0,aa,rfl,by have h:=K0;simp only[aN,hu,hl] at h⊢;exact h⟩
  case round=>
   obtain⟨k,hk,rfl,hK⟩:=hrel;have K:=hK.out;clear hK K0;by_cases h4:k=4
   ·subst h4;rw[QY] at K;have j:=K.e;(simp only[aN,upto,hu,hl,l9,mb,mg,lV,ajl,aju,aiV,if_true,if_false,ahZ,ain,aip,aiP] at j)
    have c0:=j.cell;have f0:=j.free;have s:=ajD;have f1:=ajD;have t:=ajD;have f2:=ajD;have C:=K.p.cell;go_wp2_with(refine eH (cs':=aN (eA W H xs x y up) (eL W H xs x y l) (eC W H xs x y up l) up l) rfl _ _ _ rfl rfl _ rfl CU K.r rfl EN vG ?_;intro w9 b9 g9 s9);all_goals(try(refine(T.out _ K.q _ _).mono ?_;rintro e w7⟨rfl,F⟩;clear c0 f0 s f1 t f2 C;replace K:=K.to F;have j:=K.e;first|(rw[I.out];replace K:=K.set 0 (U O (eA W H xs x y AT 0)))|(rw[J.out];replace K:=K.set 1 (U O (eA W H xs x y AT 1)))|(rw[L.out];replace K:=K.set 2 (U O (eA W H xs x y AT 2)))|(rw[M.out];replace K:=K.set 3 (U O (eA W H xs x y AT 3)))|(rw[N.out];replace K:=K.set 4 (U O (eL W H xs x y AT 0)))|(rw[P.out];replace K:=K.set 5 (U O (eL W H xs x y AT 1)))|(rw[R.out];replace K:=K.set 6 (U O (eL W H xs x y AT 2)))|(rw[S.out];replace K:=K.set 7 (U O (eL W H xs x y AT 3)))|(rw[V.out];replace K:=K.set 8 (U O (eC W H xs x y AT AT)))))
    all_goals(try(have m:=K.e;(simp only[aN,upto,hu,hl,l9,mb,mg,lV,ajl,aju,aiV,if_true,if_false,ahZ,ain,aip,aiP] at j m);have c0:=j.cell;have f0:=j.free;have s:=m.cell;have f1:=m.free;have t:=ajD;have f2:=ajD;have C:=K.p.cell))
    all_goals(try go_wp2_with(refine eH (cs':=aN (eA W H xs x y up) (eL W H xs x y l) (eC W H xs x y up l) up l) rfl _ _ _ rfl rfl _ rfl CU K.r rfl EN vG ?_;intro w9 b9 g9 s9))
    refine ahX (v:=bi (aN (eA W H xs x y up) (eL W H xs x y l) (eC W H xs x y up l) up l)) (aiO aC _ _ _ _ _ _ _ aC b9 (Gz.gu underlying145) rfl vG) rfl ⟨rfl,?_⟩;exact K.q.grown g9 (λk e=>by have:=aH e;omega)
   ·have X:=K.set k (U O 128);have G:=X.set (4+k) (U O 128);rcases(show k=0\/k=1\/k=2\/k=3 by omega) with rfl|rfl|rfl|rfl
    all_goals
     clear hk h4;have j:=K.e;have m:=X.e;simp only[aiP] at G;have Z:=G.e;(simp only[aN,upto,hu,hl,l9,mb,mg,lV,ajl,aju,aiV,if_true,if_false,ahZ,ain,aip,aiP] at j m Z)
     have c0:=j.cell;have f0:=j.free;have s:=m.cell;have f1:=m.free;have t:=Z.cell;have f2:=Z.free;have C:=G.p.cell;clear K X;have K:=G;clear G;go_wp2;all_goals(try((refine(T.out _ K.q _ _).mono ?_;rintro e w7⟨rfl,F⟩;clear c0 f0 s f1 t f2 C;replace K:=K.to F;have j:=K.e;first|(rw[I.out];replace K:=K.set 0 (U O (eA W H xs x y AT 0)))|(rw[J.out];replace K:=K.set 1 (U O (eA W H xs x y AT 1)))|(rw[L.out];replace K:=K.set 2 (U O (eA W H xs x y AT 2)))|(rw[M.out];replace K:=K.set 3 (U O (eA W H xs x y AT 3)))|(rw[N.out];replace K:=K.set 4 (U O (eL W H xs x y AT 0)))|(rw[P.out];replace K:=K.set 5 (U O (eL W H xs x y AT 1)))|(rw[R.out];replace K:=K.set 6 (U O (eL W H xs x y AT 2)))|(rw[S.out];replace K:=K.set 7 (U O (eL W H xs x y AT 3)))|(rw[V.out];replace K:=K.set 8 (U O (eC W H xs x y AT AT))));(have m:=K.e;(simp only[aN,upto,hu,hl,l9,mb,mg,lV,ajl,aju,aiV,if_true,if_false,ahZ,ain,aip,aiP] at j m);have c0:=j.cell;have f0:=j.free;have s:=m.cell;have f1:=m.free;have t:=ajD;have f2:=ajD;have C:=K.p.cell);go_wp2))
     all_goals(try((refine(T.out _ K.q _ _).mono ?_;rintro e w7⟨rfl,F⟩;clear c0 f0 s f1 t f2 C;replace K:=K.to F;have j:=K.e;first|(rw[I.out];replace K:=K.set 0 (U O (eA W H xs x y AT 0)))|(rw[J.out];replace K:=K.set 1 (U O (eA W H xs x y AT 1)))|(rw[L.out];replace K:=K.set 2 (U O (eA W H xs x y AT 2)))|(rw[M.out];replace K:=K.set 3 (U O (eA W H xs x y AT 3)))|(rw[N.out];replace K:=K.set 4 (U O (eL W H xs x y AT 0)))|(rw[P.out];replace K:=K.set 5 (U O (eL W H xs x y AT 1)))|(rw[R.out];replace K:=K.set 6 (U O (eL W H xs x y AT 2)))|(rw[S.out];replace K:=K.set 7 (U O (eL W H xs x y AT 3)))|(rw[V.out];replace K:=K.set 8 (U O (eC W H xs x y AT AT))));(have m:=K.e;(simp only[aN,upto,hu,hl,l9,mb,mg,lV,ajl,aju,aiV,if_true,if_false,ahZ,ain,aip,aiP] at j m);have c0:=j.cell;have f0:=j.free;have s:=m.cell;have f1:=m.free;have t:=ajD;have f2:=ajD;have C:=K.p.cell);go_wp2))
     go_roundw;case rel=>first|exact⟨1,aw,rfl,by have h:=K;(simp only[aN,upto,hu,hl,l9,mb,mg,lV,ajl,aju,aiV,if_true,if_false,ahZ,ain,aip,aiP] at h⊢);exact h⟩|exact⟨2,aw,rfl,by have h:=K;(simp only[aN,upto,hu,hl,l9,mb,mg,lV,ajl,aju,aiV,if_true,if_false,ahZ,ain,aip,aiP] at h⊢);exact h⟩|exact⟨3,aw,rfl,by have h:=K;(simp only[aN,upto,hu,hl,l9,mb,mg,lV,ajl,aju,aiV,if_true,if_false,ahZ,ain,aip,aiP] at h⊢);exact h⟩|exact⟨4,aw,rfl,by have h:=K;(simp only[aN,upto,hu,hl,l9,mb,mg,lV,ajl,aju,aiV,if_true,if_false,ahZ,ain,aip,aiP] at h⊢);exact h⟩
     case measure=>simp[intOf]
end
section
open Go.RowKit
def oj(f:Nat->Int)(k:Nat)(a:Int)(j:Nat):Int:=if j=k then a else f j
def PT{k:Nat}(h:k<4):(aN f g c u v).setIfInBounds k (U O a)=aN (oj f k a) g c u v:=by exact yP
def PU{k:Nat}(h:k<4):(aN f g c u v).setIfInBounds (4+k) (U O a)=aN f (oj g k a) c u v:=by exact yP
def qk(f g:Nat->Int)(c:Int)(u v:Bool)(k:Nat)(h:k<4):(aN f g c u v)[k]?=an (U O (f k)):=by exact yP
def ql(f g:Nat->Int)(c:Int)(u v:Bool)(k:Nat)(h:k<4):(aN f g c u v)[4+k]?=an (U O (g k)):=by exact yP
def abO(f:Nat->Int)(k:Nat)(a:Int):oj (oj (upto f k) k a) k (f k)=upto f (k+1):=by
 funext j;unfold oj upto;by_cases h:j=k
 ·simp_all
 ·omega
def OO(f:Nat->Int)(k:Nat):oj (upto f k) k (f k)=upto f (k+1):=by
 funext j;unfold oj upto;by_cases h:j=k
 ·simp_all
 ·omega
def upA(W H:Int)(xs:List Int)(x y:Int)(k:Nat):oj (upto (eA W H xs x y Ba) k) k 128=upto (eA W H xs x y Ba) (k+1):=OO (eA W H xs x y Ba) k
def upL(W H:Int)(xs:List Int)(x y:Int)(k:Nat):oj (upto (eL W H xs x y Ba) k) k 128=upto (eL W H xs x y Ba) (k+1):=OO (eL W H xs x y Ba) k
def R8{W H:Nat}(e:n=H*W)(h:x<W)(i:y<H):y*W+x<n:=by rw[e];exact FO y W H x i h
def Zb{W H:Nat}(L:Nat)(c:Nat)(hx:Rd w B A xs)(hB:B<=w.heap.size)(hn:xs.length=n)(hm:n=H*W)(hW:W<=32)(hH:H<=32)(x4:x+4<=W)(y4:y+4<=H):
  ahR Gz.prog 105 #[bi #[U O W,U O H,Y A n c],U O x,U O y,U O L] w λe w'=>e=dl (bi (BD W H xs x y L))/\Q w w':=by
 have n1:n<=1024:=by rw[hm];exact eZ hH hW
 have n0:0<n:=by have:=R8 (x:=0) (y:=0) hm (by omega) (by omega);omega
 obtain⟨b,o,rfl,hb,hc⟩:=hx aa
 have S:Hid (∀(z:rl)(_:Q w z)(v u p:Nat),u<W->v<H->v*W+u=p->p<n/\z.cell? ⟨b,o+p,ns⟩=an (U O (bJ W H xs u v))):=by intro z q v u p hu hv hp;have M:=R8 hm hu hv;rw[hp] at M;exact⟨M,(q.cell b _ aa).trans (by rw[hc p (by omega),ady hu hv,hp])⟩
 unfold BD;obtain⟨up,F⟩:∃up,decide (L<y)=up:=⟨_,rfl⟩;obtain⟨t,G⟩:∃t,decide (0<x)=t:=⟨_,rfl⟩;rw[F,G]
 have EA:Hid (∀k l:Nat,y=l+1->bJ W H xs ((x+k:Nat):Int) (l:Int)=eA W H xs x y AT k):=λk l h=>by unfold eA;rw[if_pos rfl,Int.natCast_add,show(y:Int)-1=(l:Int) by omega]
 have EL:Hid (∀k m:Nat,x=m+1->bJ W H xs (m:Int) ((y+k:Nat):Int)=eL W H xs x y AT k):=λk m h=>by unfold eL;rw[if_pos rfl,Int.natCast_add,show(x:Int)-1=(m:Int) by omega]
 have EC:Hid (∀m l:Nat,x=m+1->y=l+1->bJ W H xs (m:Int) (l:Int)=eC W H xs x y AT AT):=λm l h h'=>by unfold eC;rw[if_pos ⟨rfl,rfl⟩,show(x:Int)-1=(m:Int) by omega,show(y:Int)-1=(l:Int) by omega]
 have K0:=ag (lz.start W H (Y (an ⟨b,o,ns⟩) n c) w (aN (upto (eA W H xs x y up) 0) (upto (eL W H xs x y t) 0) 128 up t));have Jf:(W:Int)<=32:=aa;have Vq:(y:Int)<=32:=aa;have Vr:(x:Int)<=32:=aa;have HM:=ag hm;have HN:=ag hn;clear hx hc hm hn;rcases(show up=AT\/up=Ba by cases up<;>simp) with hu|hu<;>rcases(show t=AT\/t=Ba by cases t<;>simp) with hl|hl
 all_goals
  rw[hu] at F;rw[hl] at G;go_enter Gz.gf func105,ntmps105;go_wp2;go_loopw[10] (λi wr=>∃k:Nat,k<=4/\i=U O k/\Hid (lz W H (Y (an ⟨b,o,ns⟩) n c) w wr (aN (upto (eA W H xs x y up) k) (upto (eL W H xs x y t) k) 128 up t))) (λi _=>4-(intOf i).toNat)
  case atStart=>exact⟨0,aa,rfl,by have h:=K0;simp only[aN,hu,hl] at h⊢;exact h⟩
  case round=>
   obtain⟨k,hk,rfl,hK⟩:=hrel;have K:=hK.out;clear hK K0;by_cases h4:k=4
   ·subst h4;rw[QY] at K;have T:=K.e;have pa:=K.p.cell;have KK:=K;(first|(have y0:0<y:=(by rw[decide_eq_true_eq] at F;omega);have x0:0<x:=(by rw[decide_eq_true_eq] at G;omega);obtain⟨l,C⟩:∃l,y=l+1:=⟨y-1,aa⟩;obtain⟨m,D⟩:∃m,x=m+1:=⟨x-1,aa⟩;obtain⟨j,s⟩:∃j,l*W=j:=⟨_,rfl⟩;have E:((y:Int)-1)*(W:Int)=(j:Int):=(by rw[show(y:Int)-1=(l:Int) by omega,<-s,akE]);obtain⟨la,sa⟩:=S.out _ KK.q l m (j+m) aa aa (by rw[s]);rw[EC.out m l D C] at sa;replace KK:=KK.set 8 (U O (eC W H xs x y AT AT));have ua:((j:Int)+(x:Int)-1).toNat=j+m:=aa;have ub:(j:Int)+(x:Int)-1<(n:Int):=aa;have uc:0<=(j:Int)+(x:Int)-1:=aa;have ud:EV.wrap ((j:Int)+(x:Int))=(j:Int)+(x:Int):=aD _ ⟨aa,aa⟩;have ue:EV.wrap ((j:Int)+(x:Int)-1)=(j:Int)+(x:Int)-1:=aD _ ⟨aa,aa⟩;have uf:EV.wrap (((y:Int)-1)*(W:Int))=(j:Int):=(by rw[E];exact aD _ ⟨by omega,by omega⟩);clear E;have V:=ag s;have X:=ag C;have Z:=ag D;clear s C D)|skip)
    have b1:=KK.e;simp only[aN,hu,hl,l9,mb,mg,lV,ahZ,ain,aip] at T b1;have c0:=T.cell;have f0:=T.free;have c1:=b1.cell;clear K;go_wp2_with(refine eH (cs':=aN (eA W H xs x y up) (eL W H xs x y t) (eC W H xs x y up t) up t) rfl _ _ _ rfl rfl _ rfl CU KK.r rfl EN vG ?_;intro w9 b9 g9 s9);refine ahX (v:=bi (aN (eA W H xs x y up) (eL W H xs x y t) (eC W H xs x y up t) up t)) (aiO aC _ _ _ _ _ _ _ aC b9 (Gz.gu underlying145) rfl vG) rfl ⟨rfl,?_⟩;exact KK.q.grown g9 (λk e=>by have:=aH e;omega)
   ·have J:k<4:=by omega
    have mp:(k:Int)<4:=aa;have ca:=(K.e.cell k).trans (qk _ _ _ _ _ k J);have fa:=K.e.free k;have N:=K.set k (U O 128);rw[PT J] at N;have cb:=(N.e.cell (4+k)).trans (ql _ _ _ _ _ k J);have fb:=N.e.free (4+k);have P:=N.set (4+k) (U O 128);rw[PU J] at P;have cc:=P.e.cell 9;have pa:=P.p.cell;have KK:=P;(try(have y0:0<y:=(by rw[decide_eq_true_eq] at F;omega);obtain⟨l,C⟩:∃l,y=l+1:=⟨y-1,aa⟩;obtain⟨j,s⟩:∃j,l*W=j:=⟨_,rfl⟩;have E:((y:Int)-1)*(W:Int)=(j:Int):=(by rw[show(y:Int)-1=(l:Int) by omega,<-s,akE]);obtain⟨la,sa⟩:=S.out _ KK.q l (x+k) (j+x+k) aa aa (by rw[s];omega);rw[EA.out k l C] at sa;have da:=(KK.e.cell k).trans (qk _ _ _ _ _ k J);have ga:=KK.e.free k;replace KK:=KK.set k (U O (eA W H xs x y AT k));rw[PT J] at KK;have ua:((j:Int)+(x:Int)+(k:Int)).toNat=j+x+k:=aa;have ub:(j:Int)+(x:Int)+(k:Int)<(n:Int):=aa;have uc:0<=(j:Int)+(x:Int)+(k:Int):=aa;have ud:EV.wrap ((j:Int)+(x:Int))=(j:Int)+(x:Int):=aD _ ⟨aa,aa⟩;have ue:EV.wrap ((j:Int)+(x:Int)+(k:Int))=(j:Int)+(x:Int)+(k:Int):=aD _ ⟨aa,aa⟩;have uf:EV.wrap (((y:Int)-1)*(W:Int))=(j:Int):=(by rw[E];exact aD _ ⟨by omega,by omega⟩);have pc:=KK.p.cell;clear E;have V:=ag s;have X:=ag C;clear s C))
    have cd:=KK.e.cell 10;(try(have x0:0<x:=(by rw[decide_eq_true_eq] at G;omega);obtain⟨m,D⟩:∃m,x=m+1:=⟨x-1,aa⟩;obtain⟨q1,I⟩:∃q1,(y+k)*W=q1:=⟨_,rfl⟩;have R:((y:Int)+(k:Int))*(W:Int)=(q1:Int):=(by rw[<-I,akE,Int.natCast_add]);obtain⟨lb,sb⟩:=S.out _ KK.q (y+k) m (q1+m) aa aa (by rw[I]);rw[EL.out k m D] at sb;have db:=(KK.e.cell (4+k)).trans (ql _ _ _ _ _ k J);have gb:=KK.e.free (4+k);replace KK:=KK.set (4+k) (U O (eL W H xs x y AT k));rw[PU J] at KK;have va:((q1:Int)+(x:Int)-1).toNat=q1+m:=aa;have vb:(q1:Int)+(x:Int)-1<(n:Int):=aa;have vc:0<=(q1:Int)+(x:Int)-1:=aa;have vd:EV.wrap ((q1:Int)+(x:Int))=(q1:Int)+(x:Int):=aD _ ⟨aa,aa⟩;have ve:EV.wrap ((q1:Int)+(x:Int)-1)=(q1:Int)+(x:Int)-1:=aD _ ⟨aa,aa⟩;have vf:EV.wrap (((y:Int)+(k:Int))*(W:Int))=(q1:Int):=(by rw[R];exact aD _ ⟨by omega,by omega⟩);clear R;have Vs:=ag I;have Z:=ag D;clear I D))
    simp only[aN,hu,hl] at cc cd;clear K N P;go_wp2;go_roundw;case rel=>refine⟨k+1,aa,aJ,?_⟩;have h:=KK;simp only[hu,hl,abO,upA,upL] at h⊢;exact h
    case measure=>exact bj
end
section
open Go.RowKit
def EB(f g:Nat->Int)(c:Int):Prop:=(∀k,0<=f k/\f k<=255)/\(∀k,0<=g k/\g k<=255)/\0<=c/\c<=255
def sm(f:Nat->Int):Nat->Int
 |0=>0
 |k+1=>sm f k+f k
def mT(f g:Nat->Int)(u v:Bool)(k:Nat):Int:=(if u=AT then sm f k else 0)+(if v=AT then sm g k else 0)
def mN(u v:Bool)(k:Nat):Int:=(if u=AT then(k:Int) else 0)+(if v=AT then(k:Int) else 0)
def mH(f g:Nat->Int)(u v:Bool):Int:=if mN u v 4=0 then 128 else(2*mT f g u v 4+mN u v 4)/(2*mN u v 4)
def aah(f g:Nat->Int)(u v:Bool){x y:AS}(w:rl)(s:EB f g c):
  ahR Gz.prog 162 #[bi (aN f g c u v),x,y] w λe w'=>e=dl (.int .i64 (mH f g u v))/\Q w w':=by
 have M:Q w (w.alloc (ap (aN f g c u v) 145)):=aU;have j:=ak.new w 145 (aN f g c u v);have Z:(w.alloc (ap (aN f g c u v) 145)).cell? ⟨w.heap.size,9,ns⟩=an (ci u):=j.cell 9;have CV:(w.alloc (ap (aN f g c u v) 145)).cell? ⟨w.heap.size,10,ns⟩=an (ci v):=j.cell 10;have CF:Hid (∀k,k<4->(w.alloc (ap (aN f g c u v) 145)).cell? ⟨w.heap.size,k,ns⟩=an (.int .i64 (f k))):=λk l=>(j.cell k).trans (qk f g c u v k l);have CG:Hid (∀k,k<4->(w.alloc (ap (aN f g c u v) 145)).cell? ⟨w.heap.size,4+k,ns⟩=an (.int .i64 (g k))):=λk l=>(j.cell (4+k)).trans (ql f g c u v k l);have z:=ag s;clear j s;obtain⟨U,m⟩:∃U,Hid (U=u):=⟨u,rfl⟩;obtain⟨V,o⟩:∃V,Hid (V=v):=⟨v,rfl⟩;cases u<;>cases v
 all_goals
  go_enter Gz.gf func162,ntmps162;go_wp2;go_loop[7,8,10] (λt n i=>∃k:Nat,∃T N:Int,k<=4/\t=.int .i64 T/\n=.int .i64 N/\i=.int .i64 k/\Hid (T=mT f g U V k/\N=mN U V k/\0<=T/\T<=510*k/\0<=N/\N<=2*k)) (λ_ _ i=>4-(intOf i).toNat)
  case atStart=>exact⟨0,0,0,aa,rfl,rfl,rfl,by simp[mT,sm],by simp[mN],aa,aa,aa,aa⟩
  case round=>
   obtain⟨k,T,N,l,rfl,rfl,rfl,C⟩:=hrel;obtain⟨D,E,r3,r4,r5,r6⟩:=C.out;have F:=ag D;have p:=ag E;clear C D E;by_cases G:k<4
   ·have P:(k:Int)<4:=by omega
    have R:=CF.out k G;have cb:=CG.out k G;obtain⟨f0,f1⟩:=z.out.1 k;obtain⟨S,X⟩:=z.out.2.1 k;have I:Hid (sm f (k+1)=sm f k+f k):=rfl;have J:Hid (sm g (k+1)=sm g k+g k):=rfl;generalize f k=fk at R f0 f1 I;generalize g k=gk at cb S X J;go_wp2;go_round;case rel=>exact⟨k+1,_,_,aa,rfl,rfl,aJ,by rw[F.out];simp[mT,m.out,o.out,I.out,J.out];try omega,by rw[p.out];simp[mN,m.out,o.out];try omega,aa,aa,aa,aa⟩
    case measure=>exact bj
   ·have q:k=4:=by omega
    subst q;have K:Hid (mH f g U V=if N=0 then 128 else(2*T+N)/(2*N)):=by unfold Hid mH;rw[<-F.out,<-p.out]
    have h:=K.out;rw[m.out,o.out] at h;have r:=ag h;clear h K;have L:=p.out;simp[mN,m.out,o.out] at L;subst L;go_wp2;all_goals(try(refine(acp aa aa aa aa).mono ?_;rintro e w'⟨rfl,rfl⟩;go_wp2))
    go_ret;exact⟨by rw[r.out];simp,M⟩
def aai(f g:Nat->Int)(u v:Bool)(w:rl)(s:EB f g c):
  ahR Gz.prog 142 #[bi (aN f g c u v)] w λe w'=>e=dl (.int .i64 (mH f g u v))/\Q w w':=by
 have M:Q w (w.alloc (ap (aN f g c u v) 145)):=aU;have j:=ak.new w 145 (aN f g c u v);have Z:(w.alloc (ap (aN f g c u v) 145)).cell? ⟨w.heap.size,9,ns⟩=an (ci u):=j.cell 9;have CV:(w.alloc (ap (aN f g c u v) 145)).cell? ⟨w.heap.size,10,ns⟩=an (ci v):=j.cell 10;have CF:Hid (∀k,k<4->(w.alloc (ap (aN f g c u v) 145)).cell? ⟨w.heap.size,k,ns⟩=an (.int .i64 (f k))):=λk l=>(j.cell k).trans (qk f g c u v k l);have CG:Hid (∀k,k<4->(w.alloc (ap (aN f g c u v) 145)).cell? ⟨w.heap.size,4+k,ns⟩=an (.int .i64 (g k))):=λk l=>(j.cell (4+k)).trans (ql f g c u v k l);have z:=ag s;clear j s;obtain⟨U,m⟩:∃U,Hid (U=u):=⟨u,rfl⟩;obtain⟨V,o⟩:∃V,Hid (V=v):=⟨v,rfl⟩;cases u<;>cases v
 all_goals
  go_enter Gz.gf func142,ntmps142;go_wp2;go_loop[3,4,5] (λt n i=>∃k:Nat,∃T N:Int,k<=4/\t=.int .i64 T/\n=.int .i64 N/\i=.int .i64 k/\Hid (T=mT f g U V k/\N=mN U V k/\0<=T/\T<=510*k/\0<=N/\N<=2*k)) (λ_ _ i=>4-(intOf i).toNat)
  case atStart=>exact⟨0,0,0,aa,rfl,rfl,rfl,by simp[mT,sm],by simp[mN],aa,aa,aa,aa⟩
  case round=>
   obtain⟨k,T,N,l,rfl,rfl,rfl,C⟩:=hrel;obtain⟨D,E,r3,r4,r5,r6⟩:=C.out;have F:=ag D;have p:=ag E;clear C D E;by_cases G:k<4
   ·have P:(k:Int)<4:=by omega
    have R:=CF.out k G;have cb:=CG.out k G;obtain⟨f0,f1⟩:=z.out.1 k;obtain⟨S,X⟩:=z.out.2.1 k;have I:Hid (sm f (k+1)=sm f k+f k):=rfl;have J:Hid (sm g (k+1)=sm g k+g k):=rfl;generalize f k=fk at R f0 f1 I;generalize g k=gk at cb S X J;go_wp2;go_round;case rel=>exact⟨k+1,_,_,aa,rfl,rfl,aJ,by rw[F.out];simp[mT,m.out,o.out,I.out,J.out];try omega,by rw[p.out];simp[mN,m.out,o.out];try omega,aa,aa,aa,aa⟩
    case measure=>exact bj
   ·have q:k=4:=by omega
    subst q;have K:Hid (mH f g U V=if N=0 then 128 else(2*T+N)/(2*N)):=by unfold Hid mH;rw[<-F.out,<-p.out]
    have h:=K.out;rw[m.out,o.out] at h;have r:=ag h;clear h K;have L:=p.out;simp[mN,m.out,o.out] at L;subst L;go_wp2;go_ret;exact⟨by rw[r.out];(first|rfl|(congr 2;simp;try omega)),M⟩
def WQ(f g:Nat->Int)(c:Int)(u v:Bool){y:AS}(w:rl)(h:x<4):
  ahR Gz.prog 163 #[bi (aN f g c u v),U O x,y] w λe w'=>e=dl (U O (f x))/\Q w w':=by
 have i:Q w (w.alloc (ap (aN f g c u v) 145)):=aU;have j:=ak.new w 145 (aN f g c u v);have k:=(j.cell x).trans (qk f g c u v x h);go_enter Gz.gf func163,ntmps163;go_wp2;go_ret;exact⟨rfl,i⟩
def Wp(f g:Nat->Int)(c:Int)(u v:Bool){x:AS}(w:rl)(h:y<4):
  ahR Gz.prog 164 #[bi (aN f g c u v),x,U O y] w λe w'=>e=dl (U O (g y))/\Q w w':=by
 have i:Q w (w.alloc (ap (aN f g c u v) 145)):=aU;have j:=ak.new w 145 (aN f g c u v);have k:=(j.cell (4+y)).trans (ql f g c u v y h);go_enter Gz.gf func164,ntmps164;go_wp2;go_ret;exact⟨rfl,i⟩
def gC(f g:Nat->Int)(c:Int)(j:Nat):Int:=if j<4 then g (3-j) else if j=4 then c else f (j-5)
def ph(f g:Nat->Int)(c:Int)(k:Nat):Int:=(gC f g c (k-1)+2*gC f g c k+gC f g c (k+1)+2)/4
def nI(h:EB f g c)(j:Nat):0<=gC f g c j/\gC f g c j<=255:=by
 unfold gC;split
 ·exact h.2.1 _
 ·split
  ·exact h.2.2
  ·exact h.1 _
def afs(f g:Nat->Int)(c:Int):Array AS:=#[U O (g 3),U O (g 2),U O (g 1),U O (g 0),U O c,U O (f 0),U O (f 1),U O (f 2),U O (f 3)]
def F9(f g:Nat->Int)(c:Int)(j:Nat)(h:j<9):(afs f g c)[j]?=an (U O (gC f g c j)):=by rcases(show j=0\/j=1\/j=2\/j=3\/j=4\/j=5\/j=6\/j=7\/j=8 by omega) with rfl|rfl|rfl|rfl|rfl|rfl|rfl|rfl|rfl<;>rfl
def WT(f g:Nat->Int)(c:Int)(u v:Bool)(k:Nat)(w:rl)(l:k<9):
  ahR Gz.prog 143 #[bi (aN f g c u v),U O k] w λe w'=>e=dl (U O (gC f g c k))/\Q w w':=by
 have j:Q w (w.alloc (ap (aN f g c u v) 145)):=aU;have h:=ak.new w 145 (aN f g c u v);have m:∀i,(w.alloc (ap (aN f g c u v) 145)).cell? ⟨w.heap.size,i,ns⟩=(#[U O (f 0),U O (f 1),U O (f 2),U O (f 3),U O (g 0),U O (g 1),U O (g 2),U O (g 3),U O c,ci u,ci v]:Array AS)[i]?:=h.cell;rcases(show k=0\/k=1\/k=2\/k=3\/k=4\/k=5\/k=6\/k=7\/k=8 by omega) with rfl|rfl|rfl|rfl|rfl|rfl|rfl|rfl|rfl
 all_goals
  clear h;go_enter Gz.gf func143,ntmps143;go_wp2;go_ret;exact⟨rfl,j⟩
def WU(f g:Nat->Int)(u v:Bool)(w:rl)(D:x<4)(E:y<4)(m:EB f g c):
  ahR Gz.prog 165 #[bi (aN f g c u v),U O x,U O y] w λe w'=>e=dl (U O (ph f g c (4+x-y)))/\Q w w':=by
 have q0:Q w ((w.alloc (ap (aN f g c u v) 145)).alloc (ap (#[U O (g 3),U O (g 2),U O (g 1),U O (g 0),U O c,U O (f 0),U O (f 1),U O (f 2),U O (f 3)]:Array AS) 228)):=aU;have F:∀i,(w.alloc (ap (aN f g c u v) 145)).cell? ⟨w.heap.size,i,ns⟩=(#[U O (f 0),U O (f 1),U O (f 2),U O (f 3),U O (g 0),U O (g 1),U O (g 2),U O (g 3),U O c,ci u,ci v]:Array AS)[i]?:=(ak.new w 145 (aN f g c u v)).cell;have j:=ak.new (w.alloc (ap (aN f g c u v) 145)) 228 (#[U O (g 3),U O (g 2),U O (g 1),U O (g 0),U O c,U O (f 0),U O (f 1),U O (f 2),U O (f 3)]:Array AS);rw[NO] at j;obtain⟨k,o⟩:∃k,4+x-y=k:=⟨_,rfl⟩;rw[o];have G:(4:Int)+(x:Int)-(y:Int)=(k:Int):=aa;obtain⟨h,l⟩:∃h,k=h+1:=⟨k-1,aa⟩;have q:(k:Int)-1=(h:Int):=aa;have d1:=(j.cell h).trans (F9 f g c h aa);have d2:=(j.cell k).trans (F9 f g c k aa);have d3:=(j.cell (k+1)).trans (F9 f g c (k+1) aa);have p:Hid (ph f g c k=(gC f g c h+2*gC f g c k+gC f g c (k+1)+2)/4):=by unfold Hid ph;rw[l];rfl
 rw[p.out];obtain⟨r,s⟩:=nI m h;obtain⟨t,z⟩:=nI m k;obtain⟨c0,C⟩:=nI m (k+1);generalize gC f g c h=s1 at d1 r s⊢;generalize gC f g c k=s2 at d2 t z⊢;generalize gC f g c (k+1)=I at d3 c0 C⊢;have J:(h:Int)<9:=aa;have K:(k:Int)<9:=aa;have L:(k:Int)+1<9:=aa;clear o l p m j;go_enter Gz.gf func165,ntmps165;go_wp2
 go_quiet(fail)
 exact Lb
end
end Go.Proofs.Q0
