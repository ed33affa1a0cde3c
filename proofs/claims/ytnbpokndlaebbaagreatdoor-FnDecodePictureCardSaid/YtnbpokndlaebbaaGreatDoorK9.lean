import Derived.Test.YtnbpokndlaebbaaGreatDoorK8
import Derived.Deep.CutRange
set_option maxRecDepth 100000
set_option maxHeartbeats 8000000
set_option linter.all false
open Go.Value renaming int->U,slice->Y,bool->ci,agg->bi,pointer->d9,tuple->em,iface->gc
open Go.IntKind renaming i64->O
open Go.Obj renaming cells->ap
open Go.Ending renaming returned->dl
open Array renaming replicate_succ->akg,replicate_zero->akh
open Bool renaming false->Ba,true->AT
open Go renaming Addr->aic,Calls->ahR,Value->AS,World->rl,bodyPost_end->ajY
open Go.IntKind renaming i64->EV,u64->aiR,u8->akK
open Go.World renaming size_alloc->NO
open List renaming append_assoc->ait,append_toArray->akt,cons_append->aje,length_append->ahc,length_cons->ais,length_nil->ajF,nil_append->ajr,replicate->so,setIfInBounds_toArray->ahZ,set_cons_succ->aip,set_cons_zero->ain
open Option renaming none->ns,some->an
namespace Go.Proofs
def uH{p:Prop}(h:p:=by show W0.heap.size<=g;omega):p:=h
end Go.Proofs
namespace Go.Proofs.Q0
open Go.Proofs.Tryz
variable{w W0:rl}{bs m xs:List Int}{cnt B n cc c g:Nat}{A:Option aic}{ov:AS}
section
open Go.RowKit Go.WideShapes Go.ChangeShapes Go.Shelf
attribute [local go_sem] Oper.semAt_some
structure AM(w:rl)(v:AS)(m:List Int)(B:Nat)(W:rl)(u:AS)(c:Nat)(L:List Int):Prop where
 box:ak W w.heap.size 129 #[u]
 aP:Nb 100 71 W (w.heap.size+1) m
 own:az 180 2 W B u c L
 eK:bH v w u W
 ne:∀k,u.ownBlock=an k->k≠w.heap.size/\k≠w.heap.size+1
section
variable{w W W1 W':rl}{v u u':AS}{m L L':List Int}{B c c':Nat}
def AM.q(h:AM w v m B W u c L)(q:Q W W1):AM w v m B W1 u c L:=⟨h.box.q q,h.aP.q q,h.own.q q,h.eK.q q,h.ne⟩
def AM.size(h:AM w v m B W u c L):w.heap.size+2<=W.heap.size:=by have:=h.aP.lt;omega
theorem AM.app(h:AM w v m B W u c L)(g:bH u W u' W')(o:az 180 2 W' B u' c' L'):AM w v m B (W'.setCell ⟨w.heap.size,0,ns⟩ u') u' c' L':=by
 have f:=h.size
 have a:∀k,u'.ownBlock=an k->k≠w.heap.size/\k≠w.heap.size+1:=λk b=>by
  rcases g.own with e|⟨j,e,i⟩
  ·exact h.ne k (e.symm.trans b)
  ·grind
 have d:=h.box.eK g λe=>(h.ne _ e).1 rfl;refine⟨?_,(h.aP.eK g λe=>(h.ne _ e).2 rfl).aL au _,o.other (jV W' ⟨w.heap.size,0,ns⟩ _) (.inr λe=>(a _ e).1 rfl),(h.eK.trans g).set (ay _) _,a⟩;exact d.set 0 u'
def AM.bx(h:AM w v m B W u c L):W.cell? ⟨w.heap.size,0,ns⟩=an u:=h.box.cell 0
def AM.bf(h:AM w v m B W u c L):W.frozen? ⟨w.heap.size,0,ns⟩=Ba:=h.box.free 0
def AM.new(w:rl)(A:Option aic)(n cc:Nat)(m:List Int)(B:Nat)(L:List Int)(b:az 180 2 w B (Y A n cc) c L)(d:m.length=71):
  AM w (Y A n cc) m B ((w.alloc (ap #[Y A n cc] 129)).alloc (ap (arr m) 100)) (Y A n cc) c L:=by
 have hq:Q w ((w.alloc (ap #[Y A n cc] 129)).alloc (ap (arr m) 100)):=((Q.refl w).alloc _).alloc _;refine⟨(ak.new w _ _).alloc _,?_,b.q hq,bH.Ui _ hq,λk a=>?_⟩
 ·have:=Nb.new 100 71 (w.alloc (ap #[Y A n cc] 129)) m d;rw[NO] at this;exact this
 ·rcases b.dC with⟨e,_⟩|⟨g,_,e,_,f,_⟩
  ·rw[e] at a;cases a
  ·rw[e] at a;have:g=k:=aH a;omega
def AM.row{b:Nat}{row:Option Nat}(h:AM w v m B W u c L)(a:W.grownBy W' row)(hr:∀r,row=an r->b<=r/\∃o:Obj,W.heap[r]?=an o/\o.isCells=Ba)(d:w.heap.size<=b):AM w v m B W' u c L:=
 ⟨h.box.own a λr e=>(hr r e).2,h.aP.own a λr e=>(hr r e).2,h.own.owned a λr e=>(hr r e).2,h.eK.row a λr e=>by have:=(hr r e).1;omega,h.ne⟩
end
def Xd{be:Bool}(ho:az 180 2 w B (.slice A n cc) cnt bs)(hB:B<=w.heap.size)(hm:MV m)(hi:be=AT->ax m 0=2)(hs:¬(be=Ba/\ax m 0=0))(WP:cnt<=90000000):
  ahR Gz.prog 118 #[.slice A n cc,bi (arr m),ci be] w λe w'=>∃v' k,e=dl v'/\k<=5000/\az 180 2 w' B v' (cnt+k) (bs++fg be m)/\bH (.slice A n cc) w v' w':=by
 have s1:=bP m;rw[hm.len] at s1;have a0:=ag (AM.new w A n cc m B bs ho hm.len);have HO:=ag ho;have HS:=ag hs;clear ho;refine JH (Gz.gf func118) rfl ?_;simp only[ntmps118,List.size_toArray,ais,ajF,Nat.reduceAdd,Nat.reduceSub,akg,akh,List.push_toArray,akt,ajr,aje]
 go_upto_if 13 with fail
 go_cut[] from 12 (λwx=>∃u c2,c2<=cnt+2/\Hid (AM w (.slice A n cc) m B wx u c2 (bs++mL be m)))
 case first=>
  cases be with
  |true=>go_wp2;go_meet;exact⟨_,cnt,aa,by have h:=a0.out;rw[show bs=bs++mL AT m by simp[mL]] at h;exact h⟩
  |false=>
   have h0:ax m 0≠0:=λh=>hs ⟨rfl,h⟩;have c0:=a0.out.aP.at 0 aa;rw[sub_one] at c0;have bx:=a0.out.bx;have bf:=a0.out.bf;have o0:=a0.out.own;have dg:=a0.out.size;obtain⟨Z,I⟩:∃z,ax m 0=z:=⟨_,rfl⟩;have V:Z=1\/Z=2:=by have:=hm.kind;omega
   have HK:Hid (mL Ba m=[0,1,1,Z-1]):=by rw[Hid,<-I];rfl
   rw[I] at c0 h0;have h0b:(Z==0)=Ba:=by simp[h0]
   have wk:EV.wrap (Z-1)=Z-1:=aD _ ⟨aa,aa⟩
   have af1:∀j,j<[0,1,1,Z-1].length->(((w.alloc (ap #[.slice A n cc] 129)).alloc (ap (arr m) 100)).alloc (ap (arr [0,1,1,Z-1]) 180)).cell? ((⟨w.heap.size+1+1,0,ns⟩:aic).add j)=an (.int .i64 ([0,1,1,Z-1][j]?.getD 0)):=λj hj=>by have:=iK ((w.alloc (ap #[.slice A n cc] 129)).alloc (ap (arr m) 100)) [0,1,1,Z-1] 180 j hj;exact yM
   clear I h0 hs hi;go_wp2_with(at_builtin;go_loud (refine gh rfl rfl (Gz.gu underlying129) gZ rfl aw aw rfl (o0.alloc _) ⟨_,0,ns⟩ [0,1,1,Z-1] 2 rfl rfl ?_ ?_ af1 ?_;omega;(simp only[NO];omega);intro v3 w3 O3 G3;have A3:=ag ((a0.out.q ((Q.refl _).alloc _)).app G3 O3);have Uv:=(a0.out.q ((Q.refl _).alloc (ap (arr [0,1,1,Z-1]) 180))).box.eK G3 λe=>(a0.out.ne _ e).1 rfl;have bx4:=Uv.cell;have bf4:=Uv.free;obtain⟨A4,G,rfl⟩:=O3.form));go_meet;exact⟨_,cnt+2,aa,by rw[HK.out];exact A3.out⟩
 case rest=>
 obtain⟨u,c2,If,o⟩:=hcut
 have V:ax m 0=1\/ax m 0=2:=by
  have:=hm.kind;cases be with
  |true=>exact .inr (hi rfl)
  |false=>have h0:ax m 0≠0:=λh=>hs ⟨rfl,h⟩;omega
 have c0:=o.out.aP.at 0 aa;rw[sub_one] at c0;obtain⟨Z,I⟩:∃z,ax m 0=z:=⟨_,rfl⟩;rw[I] at c0 V;obtain⟨K0,Iq⟩:∃z,bs++mL be m=z:=⟨_,rfl⟩;rw[Iq] at o;have xg:=ag I;have S':=ag Iq;clear hs hi a0 I Iq
 go_upto_if 31 with fail
 clear c0;go_cut[8] from 12 (λs8 wx=>∃u c3,c3<=cnt+140/\Hid (AM w (.slice A n cc) m B wx u c3 (K0++preB m)))
 case first=>
  obtain⟨A2,T,rfl⟩:=o.out.own.form;rcases V with rfl|rfl
  ·have HP:Hid (preB m=dm (bE (ax m 1)) 2++dm (bE (ax m 2)) 2):=by unfold Hid preB;rw[if_pos xg.out]
   have Ir:=hm.vx;have It:=hm.vy;obtain⟨x1,BV⟩:∃z,ax m 1=z:=⟨_,rfl⟩;obtain⟨x2,BW⟩:∃z,ax m 2=z:=⟨_,rfl⟩;rw[BV] at Ir;rw[BW] at It;rw[BV,BW] at HP;obtain⟨i0,i1⟩:=sV Ir.1 Ir.2;obtain⟨j0,j1⟩:=sV It.1 It.2;have n1:=hQ i0 aa;have n2:=hQ j0 aa;have Uw:=ag BV;have Ux:=ag BW;clear BV BW
   go_upto_region 6 with fail
   go_cut[] from 12 (λwx=>∃u G,G<=cnt+33/\Hid (AM w (.slice A n cc) m B wx u G (K0++dm (bE x1) 2)))
   case first=>have cX:=(o.out.q ((Q.refl _).drew)).aP.at 1 aa;rw[sub_one,Uw.out] at cX;have bX:=(o.out.q ((Q.refl _).drew)).bx;refine eo (λww=>ww.cell? ⟨w.heap.size,0,ns⟩=an (.slice A2 c2 T)/\ww.cell? ⟨w.heap.size+1,1,ns⟩=an (.int .i64 x1)) (λj=>decide (6<=j)) aj ⟨bX,cX⟩ λhS=>?_;refine ai 0 (h:=ai 1 (h:=ai 2 (h:=ai 3 (h:=?_))));refine bw (k:=4) aj rfl rfl λP a=>?_;go_simp;refine(Dv x1 aa aa).mono ?_;rintro e w4⟨rfl,rfl⟩;refine a.out _ _ hS λhS=>?_;clear a P;refine bh ?_;refine bw (k:=5) aj rfl rfl λP a=>?_;go_simp;refine(r9 (bE x1) 2 B (o.out.q ((Q.refl _).drew)).own (by have:=(o.out.q ((Q.refl _).drew)).size;omega) aa aa aa aa).mono ?_;rintro e w5⟨v5,rfl,o5,N⟩;have C:=ag ((o.out.q ((Q.refl _).drew)).app N o5);have F:=(o.out.q ((Q.refl _).drew)).box.eK N λe=>(o.out.ne _ e).1 rfl;have xh:=((o.out.q ((Q.refl _).drew)).aP.eK N λe=>(o.out.ne _ e).2 rfl).at 1 aa;rw[sub_one,Uw.out] at xh;have xj:=F.cell;have Iu:=F.free;obtain⟨xk,xl,rfl⟩:=o5.form;refine a.out _ _ ⟨xj 0,xh⟩ λhS=>?_;clear a P;refine bh ?_;refine gi [6] 6 aj aw rfl ?_;go_wp2;go_meet;exact⟨_,c2+dN (bE x1),aa,by have h:=C.out;first|exact h|(rw[HP.out,<-ait];exact h)⟩
   case rest=>
   obtain⟨u,G,T',Iv⟩:=hcut;obtain⟨A2,T,rfl⟩:=Iv.out.own.form
   go_upto_region 7 with fail
   clear o If;have o:=Iv;clear Iv;have cX:=(o.out.q ((Q.refl _).drew)).aP.at 2 aa;rw[sub_one,Ux.out] at cX;have bX:=(o.out.q ((Q.refl _).drew)).bx;refine eo (λww=>ww.cell? ⟨w.heap.size,0,ns⟩=an (.slice A2 G T)/\ww.cell? ⟨w.heap.size+1,2,ns⟩=an (.int .i64 x2)) (λj=>decide (6<=j)) aj ⟨bX,cX⟩ λhS=>?_;refine ai 0 (h:=ai 1 (h:=ai 2 (h:=ai 3 (h:=?_))));refine bw (k:=4) aj rfl rfl λP a=>?_;go_simp;refine(Dv x2 aa aa).mono ?_;rintro e w4⟨rfl,rfl⟩;refine a.out _ _ hS λhS=>?_;clear a P;refine bh ?_;refine bw (k:=5) aj rfl rfl λP a=>?_;go_simp;refine(r9 (bE x2) 2 B (o.out.q ((Q.refl _).drew)).own (by have:=(o.out.q ((Q.refl _).drew)).size;omega) aa aa aa aa).mono ?_;rintro e w5⟨v5,rfl,o5,N⟩;have C:=ag ((o.out.q ((Q.refl _).drew)).app N o5);have F:=(o.out.q ((Q.refl _).drew)).box.eK N λe=>(o.out.ne _ e).1 rfl;have xh:=((o.out.q ((Q.refl _).drew)).aP.eK N λe=>(o.out.ne _ e).2 rfl).at 2 aa;rw[sub_one,Ux.out] at xh;have xj:=F.cell;have Iu:=F.free;obtain⟨xk,xl,rfl⟩:=o5.form;refine a.out _ _ ⟨xj 0,xh⟩ λhS=>?_;clear a P;refine bh ?_;refine gi [6] 6 aj aw rfl ?_;go_wp2;go_meet;exact⟨_,G+dN (bE x2),aa,by have h:=C.out;first|exact h|(rw[HP.out,<-ait];exact h)⟩
  ·have HP:Hid (preB m=jY (sub m 3 4)):=by unfold Hid preB;rw[if_neg (by rw[xg.out];decide)]
   have bq:=o.out.aP;have h4:(sub m 3 4).length=4:=bZ (by rw[hm.len];omega);have hmo:=ag hm.tu;go_wp2_with((with_reducible refine ep (ty:=96) _ 3 ?_ ?_ _ bq 4 ?_ _ (Gz.gu underlying96) ?_ nC ?_);exact rfl;exact rfl;omega;exact rfl);clear bq;go_loopw[8,46] (λs i wr=>∃(k G:Nat)(u:AS),k<=4/\i=.int .i64 k/\G<=cnt+2+31*k/\Hid (AM w (.slice A n cc) m B wr u G (K0++jY ((sub m 3 4).take k)))) (λ_ i _=>4-(intOf i).toNat)
   case atStart=>exact⟨0,c2,_,aa,rfl,aa,by have h:=o.out;rw[show K0=K0++jY ((sub m 3 4).take 0) by simp[jY]] at h;exact h⟩
   case round=>
    obtain⟨k,G,u,hk,rfl,T',M⟩:=hrel;clear o;by_cases H:k<4
    ·have mp:(k:Int)<4:=by omega
     have he:=λw=>MN h4 H w;rw[gj m 3 4 k H,sub_one] at he;obtain⟨e1,e2⟩:=hmo.out k H;have R:=ML hm.len H;generalize ax m (3+k)=md at he e1 e2 R;have hc9:=hQ e1 aa;have Ip:=ag R;obtain⟨A2,T,rfl⟩:=M.out.own.form;have bX:=M.out.bx;have AN:=ag (r9 md 9 B M.out.own (by have:=M.out.size;omega) e1 aa aa aa);clear R;go_wp2;refine AN.out.mono ?_;rintro e w5⟨v5,rfl,o5,N⟩;have C:=ag (M.out.app N o5);have F:=M.out.box.eK N λe=>(M.out.ne _ e).1 rfl;have xj:=F.cell;have Iu:=F.free;obtain⟨xk,xl,rfl⟩:=o5.form;go_wp2;go_roundw;case rel=>exact⟨k+1,G+dN md,_,aa,aJ,aa,by rw[Ip.out,<-ait];exact C.out⟩
     case measure=>exact bj
    ·have PB:k=4:=by omega
     subst PB;rw[List.take_of_length_le aa] at M;go_wp2;go_meet;exact⟨u,G,aa,by rw[HP.out];exact M⟩
 case rest=>
 obtain⟨u,c3,xm,o⟩:=hcut;obtain⟨K1,Iw⟩:∃z,K0++preB m=z:=⟨_,rfl⟩;rw[Iw] at o;have HK1:=ag Iw;have bq:=o.out.aP;have ul:=hm.len;have hsl:(sub m 7 64).length=64:=bZ aa;have BX:=ag hm;clear Iw hm V;go_wp2_with((with_reducible refine ep (ty:=98) _ 7 ?_ ?_ _ bq 64 ?_ _ (Gz.gu underlying98) ?_ vD ?_);exact rfl;exact rfl;omega;exact rfl);clear bq
 refine ZI 4 (λk y=>#[.slice A n cc,bi (arr m),ci be,d9 (an ⟨w.heap.size,0,ns⟩),d9 (an ⟨w.heap.size+1,0,ns⟩),undef,u6,undef,u8,undef,y 10,y 11,u12,u13,u14,u15,u16,u17,u18,u19,u20,u21,u22,u23,u24,u25,u26,u27,u28,u29,u30,u31,u32,u33,u34,u35,u36,u37,u38,u39,u40,u41,u42,u43,u44,u45,u46,u47,u48,u49,u50,u51,u52,d9 (an ⟨w.heap.size+1,7,ns⟩),bi (arr (sub m 7 64)),.int .i64 (k:Int),y 56,y 57,y 58,y 59,y 60,y 61,y 62,y 63,y 64,y 65,y 66,y 67,y 68,y 69,y 70,y 71,y 72,y 73,y 74,y 75,u76])
  (λk ds wr=>∃u G,k<=4/\G<=cnt+140+1100*k/\Hid (AM w (.slice A n cc) m B wr u G (K1++fQ m k)/\eM w.heap.size wr ds)) rfl ⟨u,c3,aa,aa,by have h:=o.out;rw[show K1=K1++fQ m 0 by simp[fQ]] at h;exact⟨h,trivial⟩⟩ ?_
 rintro k y ds wr⟨u,G,hk,T',Ix⟩ K hK;dsimp only;have J:=ag Ix.out.1;have HM:=ag Ix.out.2;clear Ix o;obtain⟨A2,T,rfl⟩:=J.out.own.form;have HKK:=ag hK;clear hK;by_cases H:k<4
 ·have mp:(k:Int)<4:=by omega
  have he:=λw=>Dw hsl H w;rw[AB m H] at he;obtain⟨hin,F'⟩:=BX.out.lvl k H;go_wp2_with((refine cP (n:=16) rfl _ _ _ rfl _ rfl _ _ aC (Nb.new 97 16 _ (so 16 0) rfl) F' cM ?_;intro w9 bl g9 s9;rw[NO] at s9));obtain⟨rs,tV⟩:∃z,dw (lvl m k)=z:=⟨_,rfl⟩;have af2:=Eo (lvl m k);rw[tV] at af2;have q9:Q wr w9:=((Q.refl wr).alloc _).grown g9 (λj e=>by have:=aH e;omega);have A9:=ag (J.out.q q9);have M9:=ag (HM.out.q q9);have B9:Bl w9 wr.heap.size (lvl m k):=⟨bl.blk,F'⟩;have dg:=J.out.size;have hu:(Value.slice A2 G T).ownBlock≠an wr.heap.size:=λe=>absurd (J.out.own.AX _ e) aa;have bX:=(A9.out.q ((Q.refl _).drew)).bx;have xn:=ag tV;clear HM J bl g9 q9 tV he;refine eo (λww=>ww.cell? ⟨w.heap.size,0,ns⟩=an (.slice A2 G T)/\Bl ww wr.heap.size (lvl m k)) (λj=>decide (4<=j)) aj ⟨bX,B9.drew⟩ λhS=>?_;refine ai 0 (h:=?_);refine pS (i:=1) (v:=bi (arr ?Uy)) rfl aj aj aj aj (λ_ _ _ h=>h) (yb aC rfl rfl λww hSw=>?hz1) hS ?SL;case hz1=>((try dsimp only at hSw);go_split_ands;assumption)
  try simp only[Act.put,ahZ,ain,aip]
  refine bw (k:=2) aj rfl rfl λP a=>?_;go_simp;refine(Xa F').mono ?_;rintro e w5⟨rfl,q5⟩;rw[xn.out];have C:=ag (A9.out.q ((Q.refl w9).drew.trans q5));have M5:=ag (M9.out.q ((Q.refl w9).drew.trans q5));have B5:=B9.drew.q q5;refine a.out _ _ ⟨C.out.bx,B5⟩ λhS=>?_;clear a P q5;refine bh ?_;refine bw (k:=3) aj rfl rfl λP a=>?_;go_simp;refine(r9 (rs.length:Int) 16 B C.out.own (by have:=C.out.size;omega) aa aa aa aa).mono ?_;rintro e w6⟨v6,rfl,o6,g6⟩;have A6:=ag (C.out.app g6 o6);have S:=C.out.box.eK g6 λe=>(C.out.ne _ e).1 rfl;have M6:=ag ((M5.out.eK C.out.own g6).set S v6);have B6:Bl w6 wr.heap.size (lvl m k):=⟨B5.blk.eK g6 hu,F'⟩;have BY:=S.cell;have Uz:=S.free;obtain⟨Iy,Iz,rfl⟩:=o6.form;refine a.out _ _ ⟨BY 0,B6⟩ λhS=>?_;clear a P g6 o6 C M5 A9 M9;refine bh ?_;refine gi [4] 4 aj aw rfl ?_;have b7:Nb 97 16 (w6.setCell ⟨w.heap.size,0,ns⟩ (.slice Iy (G+dN rs.length) Iz)) wr.heap.size (lvl m k):=Nb.aL ⟨B6.blk,F'⟩ (by show wr.heap.size≠w.heap.size;omega) _;go_wp2_with((with_reducible refine ew (n:=16) rfl _ _ rfl _ rfl _ b7 _ (Gz.gu underlying97) rfl cM ?_));refine(Rs F').mono ?_;rintro e w8⟨b,rfl,nl,rk,hB8,q8⟩;have G':∀j,(Value.slice Iy (G+dN rs.length) Iz).ownBlock=an j->j<b:=λj hj=>cC (A6.out.own.AX j hj) nl;have UA:b≠w.heap.size:=by have:=A6.out.size;omega
  have A8:=ag (A6.out.q q8);have M8:=ag (M6.out.q q8);have hc6:=hQ (n:=(rs.length:Int)) aa aa;obtain⟨c6,Tp⟩:∃z,G+dN rs.length=z:=⟨_,rfl⟩;obtain⟨L6,IA⟩:∃z,K1++fQ m k++dm rs.length 16=z:=⟨_,rfl⟩;have Tq:K1++fQ m k++dm rs.length ((16:Nat):Int)=L6:=IA;have HL6:=ag IA;rw[Tq,Tp] at A8;rw[Tp] at G';clear A6 M6 q8 IA Tq B6 b7 S BY Uz;go_wp2;have hw8:=A8.out.size
  refine acO (d:=11) (b:=b) (xs:=lvl m k) rfl rk hB8 hin (λpre W=>∃u c,c<=c6+62*pre.length/\AM w (.slice A n cc) m B W u c (L6++iN (kj pre))/\eM w.heap.size W ds/\(∀j,u.ownBlock=an j->j≠b)/\w8.heap.size<=W.heap.size)
   (λs X Y row⟨u,c,h1,h2,h3,h4,h5⟩ hg hr=>⟨u,c,h1,h2.row hg hr aa,h3.row M8.out.lt hg λr e=>(hr r e).1,h4,aQ h5 hg.size⟩) (λpre W⟨u,c,h1,h2,h3,h4,h5⟩=>h5)
   ⟨_,c6,aa,by have h:=A8.out;rw[show L6=L6++iN (kj []) by simp[kj,iN]] at h;exact h,M8.out,λj hj e=>by have:=G' j hj;omega,ay _⟩ ?assign ?body ?done
  case assign=>
   intro l x W K hK
   gi_wp2
   simpa using hK
  case body=>
   rintro l pre x W Bx⟨u,c,hc,o,hM,G',IB⟩ hBx BZ H;simp only[ahZ,ain,aip];obtain⟨A3,cc3,rfl⟩:=o.own.form;rw[xn.out] at H;obtain⟨⟨z,v⟩,z0,z1,v0,v1,vn⟩:=x;dsimp only at z0 z1 v0 v1 vn BZ⊢;obtain⟨i0,i1⟩:=FT v0 v1 vn;have n1:=hQ z0 aa;have n2:=hQ i0 aa;have af3:=o.own.FX BZ aw;have bX:=o.bx;have cx0:W.cell? ⟨Bx,0,ns⟩=an (.int .i64 z):=BZ.cell 0;have J:=ag o;have HM:=ag hM;have HU:=ag G';clear o hM G'
   gi_wp2
   refine⟨trivial,?_⟩;refine(CallsIn.inRound l (callsIn_wide.2 (r9 z 23 B J.out.own (by have:=J.out.size;omega) z0 aa aa aa))).mono ?_;rintro e w5⟨v5,rfl,o5,N⟩;have C:=ag (J.out.app N o5);have F:=J.out.box.eK N λe=>(J.out.ne _ e).1 rfl;have xj:=F.cell;have Iu:=F.free;have tW:=(BZ.eK N af3).aL (p:=⟨w.heap.size,0,ns⟩) (by show Bx≠w.heap.size;omega) v5;have PJ:b<W.heap.size:=cC rk IB;have IC:=ag ((KeepsOthers.Rt J.out.own N).trans (uZ w5 ⟨w.heap.size,0,ns⟩ v5));have UB:=ag ((Kb.bA N.bI PJ λe=>HU.out b e rfl).t (FW (W:=w5) v5 UA));have M5:=ag ((HM.out.eK J.out.own N).set F v5)
   have UC:Hid (∀j,v5.ownBlock=an j->j≠b):=λj hj=>by
    rcases N.own with e|⟨i,e,hi⟩
    ·exact HU.out j (e.symm.trans hj)
    ·rw[hj] at e;injection e with e;omega
   obtain⟨xk,xl,rfl⟩:=o5.form
   gi_wp2
   generalize w5.setCell ⟨w.heap.size,0,ns⟩ (.slice xk (c+dN z) xl)=W5 at C tW IC UB M5⊢;have bX5:=C.out.bx;have bF5:=C.out.bf;have wk1:wrap64 (bE v-1)=bE v-1:=ig ⟨aa,aa⟩;have wk2:EV.wrap (bE v-1)=bE v-1:=aD _ ⟨aa,aa⟩;have cx1:W5.cell? ⟨Bx,1,ns⟩=an (.int .i64 v):=tW.cell 1;refine Dz (λww=>ww.cell? ⟨w.heap.size,0,ns⟩=an (.slice xk (c+dN z) xl)/\ww.cell? ⟨Bx,1,ns⟩=an (.int .i64 v)) (λj=>decide (6<=j)) aj aj (λ⟨_,_,h⟩=>h) ⟨bX5,cx1⟩ λhS=>?_;refine ai 0 (h:=ai 1 (h:=ai 2 (h:=?_)));refine bw (k:=3) aj rfl rfl λP a=>?_;go_simp;refine(Dv v aa aa).mono ?_;rintro e w4⟨rfl,rfl⟩;refine a.out _ _ hS λhS=>?_;clear a P;refine bh ?_;refine bw (k:=4) aj rfl rfl λP a=>?_;go_simp;refine a.out _ _ hS λhS=>?_;clear a P;refine bh ?_;refine bw (k:=5) aj rfl rfl λP a=>?_;go_simp;refine(r9 (bE v-1) 30 B (C.out.q ((Q.refl _).drew)).own (by have:=(C.out.q ((Q.refl _).drew)).size;omega) aa aa aa aa).mono ?_;rintro e w6⟨v6,rfl,o6,g6⟩;have A6:=ag ((C.out.q ((Q.refl _).drew)).app g6 o6);have S:=(C.out.q ((Q.refl _).drew)).box.eK g6 λe=>(C.out.ne _ e).1 rfl;have cx6:w6.cell? ⟨Bx,1,ns⟩=an (.int .i64 v):=((tW.q ((Q.refl _).drew)).eK g6 (C.out.own.FX tW aw)).cell 1;have BY:=S.cell;have Uz:=S.free;have BN:=IC.out.size;have ID:Q W5 W5.drew:=(Q.refl _).drew;have UD:=ag (((IC.out.trans (KeepsOthers.drew W5)).trans (KeepsOthers.Rt (C.out.q ID).own g6)).trans (uZ w6 ⟨w.heap.size,0,ns⟩ v6));have kb6:=ag ((UB.out.t (show Kb b W5 w6 from Kb.bA (W:=W5.drew) g6.bI (show b<W5.heap.size by omega) λe=>UC.out b e rfl)).t (FW (W:=w6) v6 UA));have M6:=ag (((M5.out.q ID).eK (C.out.q ID).own g6).set S v6)
   have hu6:Hid (∀j,v6.ownBlock=an j->j≠b):=λj hj=>by
    rcases g6.own with e|⟨i,e,hi⟩
    ·exact UC.out j (e.symm.trans hj)
    ·rw[hj] at e;injection e with e;have:W5.drew.heap.size=W5.heap.size:=rfl;omega
   obtain⟨Iy,Iz,rfl⟩:=o6.form;refine a.out _ _ ⟨BY 0,cx6⟩ λhS=>?_;clear a P;refine bh ?_;refine gi [6] 6 aj aw rfl ?_;go_wp2;refine⟨UD.out.from _,kb6.out,_,c+dN z+dN (bE v-1),?_,?_,M6.out,hu6.out,aQ IB UD.out.size⟩
   ·rw[ahc,List.length_singleton];omega
   ·have h:=A6.out;rw[Ew,Yw,<-ait,<-ait];exact h
  case done=>
   rintro D ys W hD rq⟨u,c,hc,o,hM,G',IB⟩ hD'
   have hlen:ys.length=rs.length:=by have:=congrArg List.length rq;rw[xn.out] at this;simpa[kj] using this
   rw[hlen] at hc;rw[rq,xn.out,<-HL6.out] at o;have R:=Es m k;unfold lY at R;rw[xn.out] at R;have e:K1++fQ m k++dm rs.length 16++iN rs=K1++fQ m (k+1):=by rw[R];simp
   rw[e] at o;have J:=ag o
   have HM:=ag (hM.more (D:=D) (λd hd he=>by obtain⟨E,h1,h2⟩:=M8.out.lt d hd;rw[he] at h1;injection h1 with h1;omega) aa hD')
   clear o hM e R;dsimp only;go_wp2;exact HKK.out _ _ rfl ⟨u,c,aa,aa,J.out,HM.out⟩ H
 ·have PB:k=4:=by omega
  subst PB
  have pw:K1++fQ m 4=bs++fg be m:=by unfold fg;rw[if_neg HS.out,<-HK1.out,<-S'.out];simp
  rw[pw] at J;obtain⟨d4,hd4⟩:∃d,G=cnt+d:=⟨G-cnt,by have:=J.out.own.1;have:=HO.out.1;simp at*;omega⟩;subst hd4;have bX:=J.out.bx;clear pw;go_wp2;refine Mr wr ds wr HM.out (KD.refl _ _) HM.out.all λW' I=>⟨_,results_tmp rfl _ _ _,?_⟩;refine⟨_,rfl,d4,aa,?_,J.out.eK.kd I (ay _)⟩;exact J.out.own.Fz λg cs t' f hc _=>I.cells hc
def Xe(o:az 180 2 w B (Y A n cc) cnt bs)(x:B<=w.heap.size)(hm:MV m)(d:ax m 0=0)(f:cnt<=90000000):
  ahR Gz.prog 118 #[Y A n cc,bi (arr m),ci Ba] w λe w'=>∃v' k,e=dl v'/\k<=5000/\az 180 2 w' B v' (cnt+k) (bs++fg Ba m)/\bH (Y A n cc) w v' w':=by
 have a:=ag (AM.new w A n cc m B bs o hm.len);have h:Hid (fg Ba m=[0,0]):=by unfold Hid fg;rw[if_pos ⟨rfl,d⟩]
 have c0:=a.out.aP.at 0 aa;rw[sub_one,d] at c0;have y:=a.out.bx;have p:=a.out.own;have r:=a.out.size
 have b:∀j,j<[(0:Int),0].length->(((w.alloc (ap #[Y A n cc] 129)).alloc (ap (arr m) 100)).alloc (ap (arr [0,0]) 180)).cell? ((⟨w.heap.size+1+1,0,ns⟩:aic).add j)=an (U O ([(0:Int),0][j]?.getD 0)):=λj s=>by have:=iK ((w.alloc (ap #[Y A n cc] 129)).alloc (ap (arr m) 100)) [0,0] 180 j s;exact yM
 refine JH (Gz.gf func118) rfl ?_;simp only[ntmps118,List.size_toArray,ais,ajF,Nat.reduceAdd,Nat.reduceSub,akg,akh,List.push_toArray,akt,ajr,aje];go_wp2_with(at_builtin;go_loud (refine gh rfl rfl (Gz.gu underlying129) gZ rfl aw aw rfl (p.alloc _) ⟨_,0,ns⟩ [0,0] 1 rfl rfl ?_ ?_ b ?_;omega;(simp only[NO];omega);intro z w3 i t));have l:=ag ((a.out.eK.q ((Q.refl _).alloc (ap (arr [0,0]) 180))).trans t);refine⟨_,results_tmp rfl _ _ _,?_⟩
 first
  |exact⟨_,1,rfl,aa,by rw[h.out];exact i,l.out⟩
  |exact⟨_,rfl,1,aa,by rw[h.out];exact i,l.out⟩
def XN{be:Bool}(b:az 180 2 w B (Y A n cc) cnt bs)(d:B<=w.heap.size)(hm:MV m)(hi:be=AT->ax m 0=2)(a:cnt<=90000000):
  ahR Gz.prog 118 #[Y A n cc,bi (arr m),ci be] w λe w'=>∃v' k,e=dl v'/\k<=5000/\az 180 2 w' B v' (cnt+k) (bs++fg be m)/\bH (Y A n cc) w v' w':=by
 by_cases f:be=Ba/\ax m 0=0
 ·obtain⟨rfl,h0⟩:=f;exact Xe b d hm h0 a
 ·exact Xd b d hm hi f a
end
section
open Go.RowKit Go.WideShapes Go.ChangeShapes
abbrev wK(e:bg)(ov:AS):Array AS:=eE ⟨e.low,e.span,e.ch,[]⟩ ov
structure EI(w:rl)(g:Nat)(e:bg)(B:Nat)(ov:AS):Prop where
 blk:ak w g 218 (wK e ov)
 out:aK w B ov e.out.length e.out
 len:e.ch.length=40
 og:ov.ownBlock≠an g
 le:B<=g
section
variable{w w':rl}{g B:Nat}{e:bg}{ov:AS}
def EI.q(k:EI w g e B ov)(hq:Q w w'):EI w' g e B ov:=⟨k.blk.q hq,k.out.q hq,k.len,k.og,k.le⟩
def EI.low(k:EI w g e B ov):w.cell? ⟨g,0,ns⟩=an (.int .u64 e.low):=(k.blk.cell 0).trans FP
def EI.span(k:EI w g e B ov):w.cell? ⟨g,1,ns⟩=an (.int .u64 e.span):=(k.blk.cell 1).trans Rl
def EI.jC(k:EI w g e B ov)(i:Nat)(hi:i<40):w.cell? ⟨g,2+i,ns⟩=an (U O (e.ch[i]?.getD 0)):=(k.blk.cell (2+i)).trans (Rm k.len hi)
def EI.l6(k:EI w g e B ov):w.cell? ⟨g,42,ns⟩=an ov:=(k.blk.cell 42).trans (FR k.len)
def EI.free(k:EI w g e B ov)(i:Nat):w.frozen? ⟨g,i,ns⟩=Ba:=k.blk.free i
def EI.iA(k:EI w g e B ov)(x:Int):EI (w.setCell ⟨g,0,ns⟩ (.int .u64 x)) g {e with low:=x} B ov:=
 ⟨by have:=k.blk.set 0 (.int .u64 x);rw[NT] at this;exact this,k.out.other (jV w ⟨g,0,ns⟩ _) (.inr k.og),k.len,k.og,k.le⟩
def EI.fA(k:EI w g e B ov)(x:Int):EI (w.setCell ⟨g,1,ns⟩ (.int .u64 x)) g {e with span:=x} B ov:=
 ⟨by have:=k.blk.set 1 (.int .u64 x);rw[NU] at this;exact this,k.out.other (jV w ⟨g,1,ns⟩ _) (.inr k.og),k.len,k.og,k.le⟩
def EI.lX(k:EI w g e B ov)(i:Nat)(hi:i<40)(x:Int):EI (w.setCell ⟨g,2+i,ns⟩ (U O x)) g {e with ch:=e.ch.set i x} B ov:=
 ⟨by have:=k.blk.set (2+i) (U O x);rw[NV k.len hi] at this;exact this,k.out.other (jV w ⟨g,2+i,ns⟩ _) (.inr k.og),by simp[k.len],k.og,k.le⟩
def EI.wI{o:Nat}(k:EI w g {e with out:=xs} B (Y (an ⟨o,0,ns⟩) n c))(a:n=xs.length)(i:Nat)(x:Int):EI (w.setCell ⟨o,i,ns⟩ (.int .u8 x)) g {e with out:=xs.set i x} B (Y (an ⟨o,0,ns⟩) n c):=by subst a;have b:g≠o:=λe=>k.og (by rw[e];rfl);refine⟨k.blk.aL b _,?_,k.len,k.og,k.le⟩;have:=k.out.set i x;rw[List.length_set];exact this
def EI.je(k:EI w g e B ov):kQ w g=(16777216-e.span).toNat:=CH
end
def EI.appended{W d:rl}{a b:Nat}{e:bg}{x:Int}(o:e.out.length=n)(k:EI w g e B ov)(hq:Q w W)
  (f:d.ownsRow B 5 1 (Y (an ⟨a,0,ns⟩) (n+1) b) (n+1) (e.out.map (.int .u8)++[.int .u8 x]))(j:W.grownBy d ov.ownBlock)(h:ov.ownBlock=an a\/a=W.heap.size):
  EI (d.setCell ⟨g,42,ns⟩ (Y (an ⟨a,0,ns⟩) (n+1) b)) g {e with out:=e.out++[x]} B (Y (an ⟨a,0,ns⟩) (n+1) b):=by
 subst o;have p:=k.blk.lt;have r:=hq.size
 have i:a≠g:=by
  rcases h with l|l
  ·intro s;exact k.og (by rw[l,s])
  ·omega
 have t:=(k.blk.q hq).grown j λe=>k.og e.symm;have y:aK d B (Y (an ⟨a,0,ns⟩) (e.out.length+1) b) (e.out.length+1) (e.out++[x]):=⟨au,by simpa using f⟩;refine⟨by have:=t.set 42 (Y (an ⟨a,0,ns⟩) (e.out.length+1) b);rw[NX [] k.len] at this;exact this,?_,k.len,λe=>i mw,k.le⟩;have:=y.other (jV d ⟨g,42,ns⟩ (Y (an ⟨a,0,ns⟩) (e.out.length+1) b)) (.inr λe=>i mw);rw[ahc];exact this
def Tr{p:Prop}(h:p:=by go_region_law (refine step_append_lies _ rfl _ _ 22 rfl B 5 i0 (.int .u8 0) 1 1 (Gz.gu underlying22) wJ t7 hz1 hz2 rfl (by decide) (.slice AA nn cA) nn (e.out.map (.int .u8)) (by rfl) (by first|exact(KO.out.alloc _).2|exact(KO.out.alloc _).drew.2|exact(KO.out.drew.alloc _).2) ⟨w.heap.size,0,none⟩ 1 1 [.int .u8 hi] (by rfl) (by rfl) (cell_one_new _ _ _) (λu hu=>by simp at hu;rw[hu];rfl) (by decide) (by unfold maxLen;omega) (by omega) (by simp;omega) _ rfl ?_;intro x y z b a d j;have l:=ag (EI.appended xc.out K.out (by exact(by repeat(first|exact Q.refl _|assumption|refine Q.drewN ?_ _|refine Q.drew ?_|refine Q.alloc ?_ _|refine Q.trans ?_ (by assumption)|refine Q.set ?_ (by first|exact ay _|omega|(simp;done)|(simp;omega)) _))) b a d);have f:=(K.out.blk.q (by exact(by repeat(first|exact Q.refl _|assumption|refine Q.drewN ?_ _|refine Q.drew ?_|refine Q.alloc ?_ _|refine Q.trans ?_ (by assumption)|refine Q.set ?_ (by first|exact ay _|omega|(simp;done)|(simp;omega)) _)))).grown a λe=>K.out.og e.symm;have o:=(f.cell 0).trans FP;have i:=(f.cell 42).trans (FR K.out.len);have r:=f.free;have s:=ag (Q.grown (QQ.out.trans (by exact(by repeat(first|exact Q.refl _|assumption|refine Q.drewN ?_ _|refine Q.drew ?_|refine Q.alloc ?_ _|refine Q.trans ?_ (by assumption)|refine Q.set ?_ (by first|exact ay _|omega|(simp;done)|(simp;omega)) _)))) a λk t=>aQ hB (K.out.out.2.lt k t).1);clear b a d f);all_goals(go_wp2;rw[UE.out];refine bodyPost_end (v:=.tuple #[]) (by simp[results,results159,go_sem]) rfl ⟨rfl,⟨_,by rw[HP.out];exact l.out.iA (lo*256)⟩,(s.out.set (by have:=K.out.le;show W0.heap.size<=g;omega) _).set (by have:=K.out.le;show W0.heap.size<=g;omega) _⟩)):p:=h
def aa4{e:bg}(k:EI w g e B ov)(ok:cT e)(q:Q W0 w)(hB:W0.heap.size<=B)(y:e.low<4294967296)(p:e.out.length<=1000000):
  ahR Gz.prog 159 #[d9 (an ⟨g,0,ns⟩)] w λr w'=>r=dl (em #[])/\(∃d,EI w' g (cu e) B d)/\Q W0 w':=by
 have f:cu e={e with low:=e.low%16777216*256,out:=e.out++[e.low/16777216%256]}:=by unfold cu;rw[if_neg (by omega)]
 have c0:=k.low;have s:=k.l6;have C:=k.free;have l:=ok.l0;have D:=ok.l1;have o:=ok.lo;obtain⟨i0,wJ,t7,hz1,hz2⟩:=info_parts zE;have h:=Gi e.low l aa;obtain⟨hi,i⟩:∃z,e.low/16777216=z:=⟨_,rfl⟩;obtain⟨lo,a⟩:∃z,e.low%16777216=z:=⟨_,rfl⟩;have E:0<=hi/\hi<=255:=aa;have F:0<=lo/\lo<=16777215:=aa;have G:akK.wrap hi=hi:=yg;have wi:aiR.wrap hi=hi:=u64_in aa aa;have H:aiR.wrap (lo*256)=lo*256:=u64_in aa aa;rw[a] at h;rw[i,a,show hi%256=hi by omega] at f;obtain⟨AA,cA,rfl⟩:=k.out.form;obtain⟨nn,b⟩:∃z,e.out.length=z:=⟨_,rfl⟩;have j:=k.out;rw[b] at j s p k;have K:=ag k;have HP:=ag f;have QQ:=ag q;have t:B<=w.heap.size:=by have:=k.le;have:=k.blk.lt;omega
 have x:=k.blk.lt;have xc:=ag b;have KO:=ag j;have UE:=ag h;have AN:=ag (Sv l aa);clear k f q a j b h;go_enter Gz.gf func159,ntmps159;go_wp2;exact Tr
def aa5{e:bg}(k:EI w g e B ov)(ok:cT e)(q:Q W0 w)(hB:W0.heap.size<=B)(hl:4294967296<=e.low)(hn:e.out.length<=1000000):
  ahR Gz.prog 159 #[d9 (an ⟨g,0,ns⟩)] w λr w'=>r=dl (em #[])/\(∃Ii,EI w' g (cu e) B Ii)/\Q W0 w':=by
 have hP:cu e={e with low:=(e.low-4294967296)%16777216*256,out:=gE e.out++[(e.low-4294967296)/16777216%256]}:=by unfold cu;rw[if_pos (by omega)]
 have c0:=k.low;have N:=k.l6;have hf:=k.free;have l0:=ok.l0;have l1:=ok.l1;have afX:=ok.lo;obtain⟨i0,wJ,t7,hz1,hz2⟩:=info_parts zE;obtain⟨lw,l⟩:∃z,e.low-4294967296=z:=⟨_,rfl⟩;have aht:0<=lw/\lw<4294967296:=aa;rw[l] at hP;have wa:=Gi lw aa aa;obtain⟨hi,IE⟩:∃z,lw/16777216=z:=⟨_,rfl⟩;obtain⟨lo,D⟩:∃z,lw%16777216=z:=⟨_,rfl⟩;have b1:0<=hi/\hi<=255:=aa;have b2:0<=lo/\lo<=16777215:=aa;have wb:akK.wrap hi=hi:=yg;have wi:aiR.wrap hi=hi:=u64_in aa aa;rw[D] at wa;rw[IE,D,show hi%256=hi by omega] at hP;obtain⟨xr,P,Ij⟩:=ok.room hl
 have R:0<e.out.length:=by have:=List.length_pos_of_mem P;simpa using this
 rcases k.out.dC with⟨_,h0⟩|⟨o,co,rfl,Ur,BR,pv,Us⟩
 ·omega
 have K:=ag k;have QQ:=ag q;have HP:=ag hP;have S:=ag ok;have UE:=ag wa;obtain⟨n,b⟩:∃n,e.out.length=n:=⟨_,rfl⟩;rw[b] at N hn R pv;have hni:(0:Int)<(n:Int):=aa;have s:=ag b;have HLW:=ag l;have wlw:aiR.wrap (e.low-4294967296)=lw:=by rw[l];exact u64_in (by omega) (by omega)
 clear k q hP D ok b l wa;go_enter Gz.gf func159,ntmps159;go_wp2
 have E:Hid (EI (w.setCell ⟨g,0,ns⟩ (.int .u64 lw)) g {e with low:=lw} B (Y (an ⟨o,0,ns⟩) n co)):=by have:=K.out.iA lw;rw[s.out] at this;exact this
 have F:Hid (Q W0 (w.setCell ⟨g,0,ns⟩ (.int .u64 lw))):=QQ.out.set (by have:=K.out.le;show W0.heap.size<=g;omega) _;generalize w.setCell ⟨g,0,ns⟩ (.int .u64 lw)=w2 at E F⊢;clear BR c0 N hf;have T:Hid (∃x∈e.out.reverse,x≠255):=⟨xr,P,Ij⟩;have t:=ag S.out.out;go_loopw[2] (λi wr=>∃(j:Nat)(pre:List Int),j+pre.length=n/\i=U O ((n:Int)-1-(j:Int))/\Hid (e.out=pre++so j 255/\EI wr g {e with low:=lw,out:=pre++so j 0} B (Y (an ⟨o,0,ns⟩) n co)/\Q W0 wr)) (λi _=>(intOf i+1).toNat)
 case atStart=>exact⟨0,e.out,by rw[s.out];omega,au,au,by simpa using E.out,F.out⟩
 case round=>
  obtain⟨j,pre,hj,rfl,hK⟩:=hrel;obtain⟨k1,k2,k3⟩:=hK.out;clear hK E F;rcases List.eq_nil_or_concat pre with rfl|⟨jp,x,rfl⟩
  ·obtain⟨y,hy,hyn⟩:=T.out;rw[k1] at hy;simp at hy;omega
  ·rw[List.concat_eq_append] at k1 k2 hj;have hpl:jp.length+1+j=n:=by simp at hj;omega
   have ra:=t.out x (by rw[k1];simp);obtain⟨p,hp⟩:∃p,jp.length=p:=⟨_,rfl⟩;have V:(n:Int)-1-(j:Int)=(p:Int):=aa;have Uk:(p:Int)<(n:Int):=aa;have hlen:(jp++[x]++so j 0).length=n:=av;have N:=k2.l6
   have G:aK wr B (Y (an ⟨o,0,ns⟩) n co) n (jp++[x]++so j 0):=by have h:=k2.out;dsimp only at h;rw[hlen] at h;exact h
   have cx:=G.at p aa;have pr:(jp++[x]++so j 0)[p]?.getD 0=x:=by subst hp;simp
   rw[pr] at cx;have fo:=G.free p;have xd:o≠g:=λh=>k2.og (by rw[<-h];rfl);have K1:=ag k1;have K3:=ag k3;rw[V];by_cases hx:x=255
   ·subst hx;have tS:=EI.wI (e:={e with low:=lw}) (xs:=jp++[255]++so j 0) k2 hlen.symm p 0
    have ii:(jp++[255]++so j 0).set p 0=jp++so (j+1) (0:Int):=by subst hp;simp[List.replicate_succ]
    rw[ii] at tS;have Uo:=ag tS;have w8:akK.wrap (255+1)=0:=rfl;exact J4
   ·have C:gE e.out=jp++[x+1]++so j 0:=by rw[K1.out,Qw j jp hx]
    have w8:akK.wrap (x+1)=x+1:=by show(x+1)%256=x+1;omega
    have w9:(x+1 !=0)=AT:=av;have K2:=ag k2;have HG:=ag pr;clear k1 k2 k3 pr
    have X:(jp++[x]++so j 0).set p (x+1)=gE e.out:=by rw[C];subst hp;simp
    have a:=EI.wI (e:={e with low:=lw}) (xs:=jp++[x]++so j 0) K2.out hlen.symm p (x+1);rw[X] at a;have q5:Q W0 (wr.setCell ⟨o,p,ns⟩ (.int .u8 (x+1))):=K3.out.set CI _;have H:=ag a;have I:=ag q5;have Z:Hid ((gE e.out).length=n):=by rw[Hid,Ap,s.out]
    clear a q5 X C hlen G;go_wp2;generalize wr.setCell ⟨o,p,ns⟩ (.int .u8 (x+1))=w at H I⊢;have a:=H.out;have b:=Z.out;obtain⟨e1,d⟩:∃z:bg,{e with low:=lw,out:=gE e.out}=z:=⟨_,rfl⟩;have xe:cu e={{e1 with out:=e1.out++[hi]} with low:=lo*256}:=by rw[HP.out,<-d]
    have HP:=ag xe;have GU:e1.low=lw:=by rw[<-d]
    have f:e1.out.length=n:=by rw[<-d];exact b
    rw[d] at a;clear xe d b Z H S t T s HLW N;obtain⟨AA,J⟩:∃z:Option aic,an ⟨o,0,ns⟩=z:=⟨_,rfl⟩;rw[J] at a;(try rw[J])
    have K:=ag a;have QQ:=I;have c0:=a.low;rw[GU] at c0;have N:=a.l6;have hf:=a.free;have G:=a.out;rw[f] at G;have KO:=ag G;have xc:=ag f;have rh:=a.blk.lt;have hBs:B<=w.heap.size:=by have:=a.le;omega
    obtain⟨nn,M⟩:∃z,n=z:=⟨_,rfl⟩;subst M;obtain⟨nn,M⟩:∃z,z=n:=⟨_,rfl⟩;subst M;obtain⟨cA,Ik⟩:∃z,z=co:=⟨_,rfl⟩;subst Ik;obtain⟨e,Il⟩:∃z,z=e1:=⟨_,rfl⟩;subst Il;clear a G f J I fo cx;exact Tr
def FA{e:bg}(k:EI w g e B ov)(ok:cT e)(q:Q W0 w)(b:W0.heap.size<=B)(d:e.out.length<=1000000):
  ahR Gz.prog 159 #[d9 (an ⟨g,0,ns⟩)] w λr w'=>r=dl (em #[])/\(∃a,EI w' g (cu e) B a)/\Q W0 w':=by
 by_cases f:e.low<4294967296
 ·exact aa4 k ok q b f d
 ·exact aa5 k ok q b aa d
end
section
open Go.RowKit Go.WideShapes Go.ChangeShapes
def QB(x y:Int):arr [x,y]=#[U O x,U O y]:=rfl
def Yx(h:az 180 2 w B (Y (an ⟨g,0,ns⟩) n c) n xs)(f:ib xs=AT)(D:n<=20000):
  ahR Gz.prog 157 #[Y (an ⟨g,0,ns⟩) n c] w λe w'=>e=dl (ci AT)/\Q w w':=by
 have l:=ag (sO n xs h.1 f);have E:=h.1;have H:=ag h;have o:(n:Int)<=20000:=aa;have p:decide ((20000:Int)<(n:Int))=Ba:=decide_eq_false aa;clear h f;go_enter Gz.gf func157,ntmps157;go_wp2;go_loopw[10] (λi wr=>∃k:Nat,k<=n/\i=U O k/\Hid (Q w wr)) (λi _=>n-(intOf i).toNat)
 case atStart=>exact⟨0,aa,rfl,Q.refl _⟩
 case round=>
  obtain⟨k,F,rfl,hK⟩:=hrel;have hq:=hK.out;clear hK;by_cases b:k<n
  ·have r:(k:Int)<n:=by omega
   obtain⟨s,t,j⟩:=l.out k b;have z:=H.out.q hq;have a:=lE xs (k*2) aa;generalize xs[k*2]?.getD 0=x at s t a;generalize xs[k*2+1]?.getD 0=y at j a;have d1:decide (x<0)=Ba:=decide_eq_false aa;have d2:decide (40<=x)=Ba:=decide_eq_false aa;have C:=ag hq;clear hq;rcases j with rfl|rfl
   all_goals
    go_wp2_with(refine Di rfl rfl (k*2) rfl z aa (Gz.gu underlying180) rfl zD ?_;rw[a,QB]);go_roundw;case rel=>exact⟨k+1,aa,aJ,by have:=C.out;exact aU⟩
    case measure=>exact bj
  ·have d:k=n:=by omega
   subst d;go_wp2;go_ret;exact⟨rfl,hq⟩
end
section
open Go.RowKit Go.WideShapes Go.ChangeShapes
def acP{e:bg}(k:EI w g e B ov)(ok:cT e)(x:16777216<=e.span)(q:Q W0 w)(hB:W0.heap.size<=B)(s:c<40)(hn:e.out.length=n)(wZ:n<=900000):
  ahR Gz.prog 158 #[d9 (an ⟨g,0,ns⟩),bi #[U O (c:Int),U O 0]] w λr w'=>r=dl (em #[])/\(∃a,EI w' g (ix e c 0) B a)/\Q W0 w':=by
 obtain⟨M,N⟩:=ok.ch c s;have tT:=ok.hi;have In:=ok.l0;have Io:=ok.l1;have hle:=k.le;have rh:=k.blk.lt;obtain⟨b1,b2,b3,b4⟩:=lG x ok.hi M N;have hM:=ok.kr x c 0 s;have HB:iO e c=e.span/4096*e.ch[c]?.getD 0:=rfl;have Do:(c:Int)<40:=aa;have P:=ag λw R=>bound g c e.span (e.ch[c]?.getD 0) w R s x ok.hi M N;have HN:=ag λb w R C hN=>Gj g (e.ch[c]?.getD 0) b w R C s hN;have h1:=k.q ((Q.refl w).alloc (ap #[U O (c:Int),U O 0] 180));have S:=q.alloc (ap #[U O (c:Int),U O 0] 180);have d:=ak.new w 180 #[U O (c:Int),U O 0];have j:iB e c 0={e with span:=iO e c,ch:=e.ch.set c (bB (e.ch[c]?.getD 0) 0)}:=by unfold iB;rw[if_pos rfl]
 have T:=ag (MF (e.ch[c]?.getD 0) · M N);generalize D:e.ch[c]?.getD 0=pp at*;generalize V:e.span/4096*pp=J at*;have HM:=ag hM;have l:=ag j;have E:=ag D;have X:=ag HB;have Z:=ag hn;clear k hM j HB D V ok hn q;go_enter Gz.gf func158,ntmps158;go_wp2;(generalize w.alloc (ap #[U O (c:Int),U O 0] 180)=w1 at h1 S d⊢;have c0:=h1.low;have c1:=h1.span;have ck:=h1.jC c s;rw[E.out] at ck;have C:=h1.free;have cb:=d.cell;have H1:=ag h1;clear h1)
 go_quiet((go_at_call 173;exact ox ((P.out (w1.drewN _) ck).mono λ_ _ h=>⟨h.1,h.2.symm⟩)))
 (have y:=H1.out.q ((Q.refl w1).drewN nq);have x2:=S.drewN nq;have i:=d.drewN nq;generalize w1.drewN nq=w2 at y x2 i⊢;clear S c0 c1 ck C cb d H1;have c0:=y.low;have c1:=y.span;have C:=y.free;have cb:=i.cell;have H2:=ag y;clear y)
 go_wp2;have F:=H2.out.fA J;have G:=i.aL (p:=⟨g,1,ns⟩) m9 (.int .u64 J);have x3:=x2.set (p:=⟨g,1,ns⟩) uH (.int .u64 J);generalize w2.setCell ⟨g,1,ns⟩ (.int .u64 J)=w3 at F x3 G⊢;clear H2 x2 i c0 c1 C cb;have t:=(F.q (Q.refl _).drew).jC c s;rw[show e.ch[c]?.getD 0=pp from E.out] at t;have H:=(F.q (Q.refl _).drew).free (2+c);have IF:=(G.q (Q.refl _).drew).cell;have H3:=ag F;clear F;go_region_with (go_at_call 174;refine(HN.out 0 _ t H T.out).mono ?_;rintro e9 w9⟨rfl,rfl⟩);all_goals(have o:=(((H3.out.lX c s (bB pp 0)).q (Q.refl _).drew).q (Q.refl _).drew);have x4:=(x3.set (p:=⟨g,2+c,ns⟩) uH (U O (bB pp 0))).drew.drew;generalize(w3.setCell ⟨g,2+c,ns⟩ (U O (bB pp 0))).drew.drew=w4 at o x4⊢;have h4:EI w4 g (iB e c 0) B ov:=(by rw[l.out,X.out];exact o);clear o x3 t H IF H3;go_wp2;go_loopw[] (λwr=>∃(f:bg)(a:AS),Hid (EI wr g f B a/\Q W0 wr/\cT f/\jK f=ix e c 0/\((f.out.length=n/\True)\/(f.out.length=n+1/\1048576<=f.span)\/(f.out.length=n+2/\16777216<=f.span)))) λwr=>kQ wr g;(case atStart=>exact⟨_,ov,h4,x4,HM.out,rfl,.inl ⟨by rw[l.out];exact Z.out,trivial⟩⟩);(case round=>obtain⟨f,a,hK⟩:=hrel;obtain⟨z,K,I,k4,k5⟩:=hK.out;have e1:=z.span;have e2:=I.lo;have e3:=I.hi;have ri:=ag z.je;by_cases x:f.span<16777216;(case pos=>have K1:=ag z;have K2:=ag K;have K3:=ag I;have K5:=ag k5;have HT:=ag (FA z I K hB aa);clear z K I hK k5;go_wp2;refine HT.out.mono ?_;rintro e5 w5⟨rfl,⟨IR,o⟩,x5⟩;have f1:=o.span;have f2:=o.free;rw[vu f] at f1;have H5:=ag o;have X5:=ag x5;clear o x5;have wc:aiR.wrap (f.span*256)=f.span*256:=u64_in aa aa;go_wp2;go_roundw;(case rel=>exact⟨lO f,IR,H5.out.fA (f.span*256),X5.out.set yB _,K3.out.grow x,(zF e2 x).trans k4,by have h6:=K5.out;have:=pZ f;show((cu f).out.length=n/\_)\/((cu f).out.length=n+1/\1048576<=f.span*256)\/((cu f).out.length=n+2/\16777216<=f.span*256);omega⟩);(case measure=>rw[ri.out,(H5.out.fA (f.span*256)).je];show(16777216-f.span*256).toNat<(16777216-f.span).toNat;omega));(case neg=>have e4:=(zV aa).symm.trans k4;subst e4;go_wp2;refine ajY (v:=em #[]) (by simp[results,results158,go_sem]) rfl ?_;exact⟨rfl,⟨_,z⟩,K⟩)))
def acQ{e:bg}(k:EI w g e B ov)(ok:cT e)(y:16777216<=e.span)(q:Q W0 w)(hB:W0.heap.size<=B)(t:c<40)(hn:e.out.length=n)(wZ:n<=900000):
  ahR Gz.prog 158 #[d9 (an ⟨g,0,ns⟩),bi #[U O (c:Int),U O 1]] w λr w'=>r=dl (em #[])/\(∃d,EI w' g (ix e c 1) B d)/\Q W0 w':=by
 obtain⟨M,N⟩:=ok.ch c t;have tT:=ok.hi;have In:=ok.l0;have Io:=ok.l1;have hle:=k.le;have rh:=k.blk.lt;obtain⟨b1,b2,b3,b4⟩:=lG y ok.hi M N;have hM:=ok.kr y c 1 t;have HB:iO e c=e.span/4096*e.ch[c]?.getD 0:=rfl;have Do:(c:Int)<40:=aa;have P:=ag λw R=>bound g c e.span (e.ch[c]?.getD 0) w R t y ok.hi M N;have HN:=ag λb w R D hN=>Gj g (e.ch[c]?.getD 0) b w R D t hN;have h1:=k.q ((Q.refl w).alloc (ap #[U O (c:Int),U O 1] 180));have S:=q.alloc (ap #[U O (c:Int),U O 1] 180);have i:=ak.new w 180 #[U O (c:Int),U O 1];have l:iB e c 1={e with low:=e.low+iO e c,span:=e.span-iO e c,ch:=e.ch.set c (bB (e.ch[c]?.getD 0) 1)}:=by unfold iB;rw[if_neg (by decide)]
 have T:=ag (MG (e.ch[c]?.getD 0) · M N);generalize E:e.ch[c]?.getD 0=pp at*;generalize V:e.span/4096*pp=a at*;have HM:=ag hM;have o:=ag l;have F:=ag E;have X:=ag HB;have Z:=ag hn;clear k hM l HB E V ok hn q;have wa:aiR.wrap (e.low+a)=e.low+a:=u64_in aa aa;have wb:aiR.wrap (e.span-a)=e.span-a:=u64_in aa aa;go_enter Gz.gf func158,ntmps158;go_wp2;(generalize w.alloc (ap #[U O (c:Int),U O 1] 180)=w1 at h1 S i⊢;have c0:=h1.low;have c1:=h1.span;have ck:=h1.jC c t;rw[F.out] at ck;have D:=h1.free;have cb:=i.cell;have H1:=ag h1;clear h1)
 go_quiet((go_at_call 173;exact ox ((P.out (w1.drewN _) ck).mono λ_ _ h=>⟨h.1,h.2.symm⟩)))
 (have z:=H1.out.q ((Q.refl w1).drewN nq);have x2:=S.drewN nq;have j:=i.drewN nq;generalize w1.drewN nq=w2 at z x2 j⊢;clear S c0 c1 ck D cb i H1;have c0:=z.low;have c1:=z.span;have D:=z.free;have cb:=j.cell;have H2:=ag z;clear z)
 go_wp2;have G:=(H2.out.iA (e.low+a)).fA (e.span-a);have H:=(j.aL (p:=⟨g,0,ns⟩) m9 (.int .u64 (e.low+a))).aL (p:=⟨g,1,ns⟩) m9 (.int .u64 (e.span-a));have x3:=(x2.set (p:=⟨g,0,ns⟩) uH (.int .u64 (e.low+a))).set (p:=⟨g,1,ns⟩) uH (.int .u64 (e.span-a));generalize(w2.setCell ⟨g,0,ns⟩ (.int .u64 (e.low+a))).setCell ⟨g,1,ns⟩ (.int .u64 (e.span-a))=w3 at G x3 H⊢;clear H2 x2 j c0 c1 D cb;have x:=(G.q (Q.refl _).drew).jC c t;rw[show e.ch[c]?.getD 0=pp from F.out] at x;have I:=(G.q (Q.refl _).drew).free (2+c);have IF:=(H.q (Q.refl _).drew).cell;have H3:=ag G;clear G;go_region_with (go_at_call 174;refine(HN.out 1 _ x I T.out).mono ?_;rintro e9 w9⟨rfl,rfl⟩);all_goals(have s:=(((H3.out.lX c t (bB pp 1)).q (Q.refl _).drew).q (Q.refl _).drew);have x4:=(x3.set (p:=⟨g,2+c,ns⟩) uH (U O (bB pp 1))).drew.drew;generalize(w3.setCell ⟨g,2+c,ns⟩ (U O (bB pp 1))).drew.drew=w4 at s x4⊢;have h4:EI w4 g (iB e c 1) B ov:=(by rw[o.out,X.out];exact s);clear s x3 x I IF H3;go_wp2;go_loopw[] (λwr=>∃(f:bg)(d:AS),Hid (EI wr g f B d/\Q W0 wr/\cT f/\jK f=ix e c 1/\((f.out.length=n/\True)\/(f.out.length=n+1/\1048576<=f.span)\/(f.out.length=n+2/\16777216<=f.span)))) λwr=>kQ wr g;(case atStart=>exact⟨_,ov,h4,x4,HM.out,rfl,.inl ⟨by rw[o.out];exact Z.out,trivial⟩⟩);(case round=>obtain⟨f,d,hK⟩:=hrel;obtain⟨C,K,J,k4,k5⟩:=hK.out;have e1:=C.span;have e2:=J.lo;have e3:=J.hi;have ri:=ag C.je;by_cases y:f.span<16777216;(case pos=>have K1:=ag C;have K2:=ag K;have K3:=ag J;have K5:=ag k5;have HT:=ag (FA C J K hB aa);clear C K J hK k5;go_wp2;refine HT.out.mono ?_;rintro e5 w5⟨rfl,⟨IR,s⟩,x5⟩;have f1:=s.span;have f2:=s.free;rw[vu f] at f1;have H5:=ag s;have X5:=ag x5;clear s x5;have wc:aiR.wrap (f.span*256)=f.span*256:=u64_in aa aa;go_wp2;go_roundw;(case rel=>exact⟨lO f,IR,H5.out.fA (f.span*256),X5.out.set yB _,K3.out.grow y,(zF e2 y).trans k4,by have h6:=K5.out;have:=pZ f;show((cu f).out.length=n/\_)\/((cu f).out.length=n+1/\1048576<=f.span*256)\/((cu f).out.length=n+2/\16777216<=f.span*256);omega⟩);(case measure=>rw[ri.out,(H5.out.fA (f.span*256)).je];show(16777216-f.span*256).toNat<(16777216-f.span).toNat;omega));(case neg=>have e4:=(zV aa).symm.trans k4;subst e4;go_wp2;refine ajY (v:=em #[]) (by simp[results,results158,go_sem]) rfl ?_;exact⟨rfl,⟨_,C⟩,K⟩)))
def encode(W0 w:rl)(g B c n:Nat)(b:Int)(e:bg)(ov:AS)(k:EI w g e B ov)(ok:cT e)(f:16777216<=e.span)(q:Q W0 w)(h:W0.heap.size<=B)(i:c<40)(l:b=0\/b=1)(j:e.out.length=n)(a:n<=900000):
  ahR Gz.prog 158 #[d9 (an ⟨g,0,ns⟩),bi #[U O (c:Int),U O b]] w λr w'=>r=dl (em #[])/\(∃d,EI w' g (ix e c b) B d)/\Q W0 w':=by
 rcases l with rfl|rfl
 ·exact acP k ok f q h i j a
 ·exact acQ k ok f q h i j a
end
section
open Go.RowKit Go.WideShapes Go.ChangeShapes
def eH{P:Program}{t:TypeId}{cs cs':Array AS}{b:Array Oper}{rest:List Oper}{o:Oper}{a:Act}{j:Exit->Act->rl->Prop}(f:o.guard=ns)(ty:TypeId)(x y:Operand)(k:o.op=.store ty x y)(l:a.eval x=d9 (an ⟨g,0,ns⟩))(v:AS)(p:a.eval y=v)(q:v=bi cs')(h:ak w g t cs)(r:cs'.size=cs.size)(d:(cs'.all λx=>x.oneCell')=AT)
  (hi:(P.info? ty).map (·.size)=an cs'.size)
  (hK:∀w',ak w' g t cs'->w.grownBy w' (an g)->w'.heap.size=w.heap.size->wpList P b j rest (a.put o.dst undef) w'):wpList P b j (o::rest) a w:=by
 subst q;have s:=run_storeVar_row (P:=P) w g t ty cs cs' h hi r.symm d;refine wpList_plain f λK i=>?_;unfold Oper.wp execOp;simp only[k,l,p,Instr.storeAt,Instr.sureAddr,s,Sem.run_bind,Sem.run_pure,Result.andThen_ok];refine i _ _ (hK _ ?_ ?_ ?_)
 ·unfold ak at h⊢;simp[World.setRow,Array.getElem?_modify,h]
 ·exact C8
 ·simp
def aa6{e:bg}:((wK e (Y A n c)).all λx=>x.oneCell')=AT:=by unfold wK eE;rw[Array.all_append,Array.all_append,Ft];simp[Value.oneCell']
def aa7:(Gz.prog.info? 218).map (·.size)=an (wK jf (Y ns 0 0)).size:=aF
def XO(h:az 180 2 w B (Y (an ⟨g,0,ns⟩) n c) n xs)(G:ib xs=AT)(hn:n<=20000):
  ahR Gz.prog 119 #[Y (an ⟨g,0,ns⟩) n c] w λe w'=>∃v',e=dl v'/\aK w' w.heap.size v' (l5 xs).length (l5 xs)/\Q w w':=by
 have HG:=ag (sO n xs h.1 G);have R:=Yx h G hn;have S:=h.1;have H:=ag h;clear h G;go_enter Gz.gf func119,ntmps119;go_wp2;refine R.mono ?_;rintro e w0⟨rfl,I⟩;clear R;go_wp2;refine(Ng).mono ?_;rintro e T⟨rfl,q1⟩;have hs:(arr pn).size=40:=rfl;have xo:=I.size;have pm:=q1.size;go_wp2_with(refine eH (cs':=wK jf (Y ns 0 0)) rfl _ _ _ rfl rfl _ rfl ?_ (ak.new _ _ _) rfl aa6 aa7 ?_;go_loud (kernel_rfl);intro V X Z s2);rw[NO] at s2;have q2:Q w V:=((I.trans q1).alloc _).grown Z (λk e=>by have:=aH e;omega);have es:EI V T.heap.size jf w.heap.size (Y ns 0 0):=⟨X,aK.nil _ _,rfl,by simp[Value.ownBlock],aa⟩;clear X Z;obtain⟨J,K⟩:∃z,T.heap.size=z:=⟨_,rfl⟩;rw[K] at es⊢;have o:=ag es;have Q0:=ag q2;clear es q2 q1 I;go_loopw[13] (λi wr=>∃(k:Nat)(e:bg)(ov:AS),k<=n/\i=U O k/\Hid (EI wr J e w.heap.size ov/\Q w wr/\RE xs k e)) (λi _=>n-(intOf i).toNat)
 case atStart=>exact⟨0,jf,_,aa,rfl,o.out,Q0.out,RE.zero xs⟩
 case round=>
  obtain⟨k,e,ov,hk,rfl,hK⟩:=hrel;obtain⟨F,p,d⟩:=hK.out;clear hK o Q0;by_cases f:k<n
  ·have mp:(k:Int)<n:=by omega
   obtain⟨a1,a2,a3⟩:=HG.out k f;have hl:=H.out.q p;have a:=lE xs (k*2) aa;have b:=d.succ S f a1 a2;generalize xs[k*2]?.getD 0=x at a1 a2 a b;generalize xs[k*2+1]?.getD 0=y at a3 a b;obtain⟨r,rfl⟩:∃r:Nat,x=(r:Int):=⟨x.toNat,aa⟩;rw[Int.toNat_natCast] at b;have l:=(Q.refl wr).alloc (ap #[U O (r:Int),U O y] 180);have HT:=ag (encode w _ J w.heap.size r e.out.length y e ov (F.q l) d.ok d.span (p.trans l) (ay _) aa a3 rfl (by have:=d.len;omega));have bb:=Nb.new 180 2 wr [(r:Int),y] rfl;have Up:=ag b;clear b F p d l;go_wp2_with(first|(refine Di rfl rfl (k*2) rfl hl aa (Gz.gu underlying180) rfl zD ?_;rw[a,QB])|((with_reducible refine ew (n:=2) rfl _ _ rfl _ rfl _ bb _ (Gz.gu underlying180) rfl zD ?_)));exact J5
  ·have M:k=n:=by omega
   rw[M] at d;have s:=d.full S;have t:=d.ok;have hle:=d.len;have C:=ag s;have D:=ag t;have K1:=ag F;have K2:=ag p;have E':¬(k:Int)<n:=aa;clear d F p s t;go_wp2;go_loopw[20] (λi wr=>∃(j:Nat)(ov:AS),j<=4/\i=U O j/\Hid (EI wr J (mP j e) w.heap.size ov/\Q w wr)) (λi _=>4-(intOf i).toNat)
   case atStart=>exact⟨0,ov,aa,rfl,K1.out,K2.out⟩
   case round=>
    obtain⟨j,ov,hj,rfl,hK⟩:=hrel;obtain⟨y1,y2⟩:=hK.out;clear hK K1 K2;by_cases E:j<4
    ·have tQ:(j:Int)<4:=by omega
     have HT:=ag (FA y1 (As j D.out) y2 (ay _) (by rw[zU];omega));exact J6
    ·have N:j=4:=by omega
     rw[N] at y1;have c2:=y1.l6;have hje:¬(j:Int)<4:=aa;have P:=y1.out;rw[show(mP 4 e).out=l5 xs by rw[C.out];rfl] at P;have HO:=ag P;clear y1 P E f D C;go_wp2;go_ret;exact⟨_,rfl,HO.out,y2⟩
end
end Go.Proofs.Q0
