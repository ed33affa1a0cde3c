import Derived.Test.YtfmnlpedhgficaaGreatDoorK8
import Derived.Deep.CutRange
set_option maxRecDepth 100000
set_option maxHeartbeats 8000000
set_option linter.all false
open Go.Value renaming int->U,slice->Y,bool->a5,agg->a9,pointer->bi,tuple->ci,iface->em
open Go.IntKind renaming i64->O
open Go.Obj renaming cells->ac
open Go.Ending renaming returned->be
open Array renaming replicate_succ->alw,replicate_zero->alx
open Bool renaming false->Bz,true->AT
open Go renaming Addr->ajF,Calls->aiK,Value->so,World->AS,bodyPost_end->alp
open Go.IntKind renaming i64->EV,u64->akn,u8->akN
open Go.World renaming size_alloc->OF
open List renaming append_assoc->ajH,append_toArray->alM,cons_append->akf,length_append->ajq,length_cons->ajE,length_nil->akU,nil_append->akH,replicate->rl,setIfInBounds_toArray->ajt,set_cons_succ->ajJ,set_cons_zero->ajx
open Option renaming none->ns,some->an
namespace Go.Proofs
def uV{p:Prop}(h:p:=by show W0.heap.size<=g;omega):p:=h
end Go.Proofs
namespace Go.Proofs.Q0
open Go.Proofs.Tryz
variable{w W0:AS}{bs m xs:List Int}{cnt B n cc c g:Nat}{A:Option ajF}{ov:so}
section
open Go.RowKit Go.WideShapes Go.ChangeShapes Go.Shelf
attribute [local go_sem] Oper.semAt_some
structure AM(w:AS)(v:so)(m:List Int)(B:Nat)(W:AS)(u:so)(c:Nat)(L:List Int):Prop where
 box:ak W w.heap.size 128 #[u]
 aO:Nb 97 71 W (w.heap.size+1) m
 own:ay 164 2 W B u c L
 eJ:bD v w u W
 ne:∀k,u.ownBlock=an k->k≠w.heap.size/\k≠w.heap.size+1
section
variable{w W W1 W':AS}{v u u':so}{m L L':List Int}{B c c':Nat}
def AM.q(h:AM w v m B W u c L)(q:Q W W1):AM w v m B W1 u c L:=⟨h.box.q q,h.aO.q q,h.own.q q,h.eJ.q q,h.ne⟩
def AM.size(h:AM w v m B W u c L):w.heap.size+2<=W.heap.size:=by have:=h.aO.lt;omega
theorem AM.app(h:AM w v m B W u c L)(g:bD u W u' W')(o:ay 164 2 W' B u' c' L'):AM w v m B (W'.setCell ⟨w.heap.size,0,ns⟩ u') u' c' L':=by
 have f:=h.size
 have a:∀k,u'.ownBlock=an k->k≠w.heap.size/\k≠w.heap.size+1:=λk b=>by
  rcases g.own with e|⟨j,e,i⟩
  ·exact h.ne k (e.symm.trans b)
  ·grind
 have d:=h.box.eJ g λe=>(h.ne _ e).1 rfl;refine⟨?_,(h.aO.eJ g λe=>(h.ne _ e).2 rfl).aN aj _,o.other (kh W' ⟨w.heap.size,0,ns⟩ _) (.inr λe=>(a _ e).1 rfl),(h.eJ.trans g).set (av _) _,a⟩;exact d.set 0 u'
def AM.bx(h:AM w v m B W u c L):W.cell? ⟨w.heap.size,0,ns⟩=an u:=h.box.cell 0
def AM.bf(h:AM w v m B W u c L):W.frozen? ⟨w.heap.size,0,ns⟩=Bz:=h.box.free 0
def AM.new(w:AS)(A:Option ajF)(n cc:Nat)(m:List Int)(B:Nat)(L:List Int)(b:ay 164 2 w B (Y A n cc) c L)(d:m.length=71):
  AM w (Y A n cc) m B ((w.alloc (ac #[Y A n cc] 128)).alloc (ac (arr m) 97)) (Y A n cc) c L:=by
 have hq:Q w ((w.alloc (ac #[Y A n cc] 128)).alloc (ac (arr m) 97)):=((Q.refl w).alloc _).alloc _;refine⟨(ak.new w _ _).alloc _,?_,b.q hq,bD.U6 _ hq,λk a=>?_⟩
 ·have:=Nb.new 97 71 (w.alloc (ac #[Y A n cc] 128)) m d;rw[OF] at this;exact this
 ·rcases b.dE with⟨e,_⟩|⟨g,_,e,_,f,_⟩
  ·rw[e] at a;cases a
  ·rw[e] at a;have:g=k:=aJ a;omega
def AM.row{b:Nat}{row:Option Nat}(h:AM w v m B W u c L)(a:W.grownBy W' row)(hr:∀r,row=an r->b<=r/\∃o:Obj,W.heap[r]?=an o/\o.isCells=Bz)(d:w.heap.size<=b):AM w v m B W' u c L:=
 ⟨h.box.own a λr e=>(hr r e).2,h.aO.own a λr e=>(hr r e).2,h.own.owned a λr e=>(hr r e).2,h.eJ.row a λr e=>by have:=(hr r e).1;omega,h.ne⟩
end
def Ye{ap:Bool}(ho:ay 164 2 w B (.slice A n cc) cnt bs)(hB:B<=w.heap.size)(hm:MV m)(hi:ap=AT->aq m 0=2)(hs:¬(ap=Bz/\aq m 0=0))(UV:cnt<=90000000):
  aiK Gz.prog 148 #[.slice A n cc,a9 (arr m),a5 ap] w λe w'=>∃v' k,e=be v'/\k<=5000/\ay 164 2 w' B v' (cnt+k) (bs++fi ap m)/\bD (.slice A n cc) w v' w':=by
 have s1:=bQ m;rw[hm.len] at s1;have a0:=af (AM.new w A n cc m B bs ho hm.len);have HO:=af ho;have HS:=af hs;clear ho;refine Kf (Gz.gf func148) rfl ?_;simp only[ntmps148,List.size_toArray,ajE,akU,Nat.reduceAdd,Nat.reduceSub,alw,alx,List.push_toArray,alM,akH,akf]
 go_upto_if 13 with fail
 go_cut[] from 12 (λwx=>∃u c2,c2<=cnt+2/\Hid (AM w (.slice A n cc) m B wx u c2 (bs++m8 ap m)))
 case first=>
  cases ap with
  |true=>go_wp2;go_meet;exact⟨_,cnt,aa,by have h:=a0.out;rw[show bs=bs++m8 AT m by simp[m8]] at h;exact h⟩
  |false=>
   have h0:aq m 0≠0:=λh=>hs ⟨rfl,h⟩;have c0:=a0.out.aO.at 0 aa;rw[sub_one] at c0;have bx:=a0.out.bx;have bf:=a0.out.bf;have o0:=a0.out.own;have cM:=a0.out.size;obtain⟨Z,I⟩:∃z,aq m 0=z:=⟨_,rfl⟩;have V:Z=1\/Z=2:=by have:=hm.kind;omega
   have HK:Hid (m8 Bz m=[0,1,1,Z-1]):=by rw[Hid,<-I];rfl
   rw[I] at c0 h0;have h0b:(Z==0)=Bz:=by simp[h0]
   have wk:EV.wrap (Z-1)=Z-1:=aB _ ⟨aa,aa⟩
   have ahw:∀j,j<[0,1,1,Z-1].length->(((w.alloc (ac #[.slice A n cc] 128)).alloc (ac (arr m) 97)).alloc (ac (arr [0,1,1,Z-1]) 164)).cell? ((⟨w.heap.size+1+1,0,ns⟩:ajF).add j)=an (.int .i64 ([0,1,1,Z-1][j]?.getD 0)):=λj hj=>by have:=ji ((w.alloc (ac #[.slice A n cc] 128)).alloc (ac (arr m) 97)) [0,1,1,Z-1] 164 j hj;exact zg
   clear I h0 hs hi;go_wp2_with(at_builtin;go_loud (refine gi rfl rfl (Gz.gu underlying128) ie rfl al al rfl (o0.alloc _) ⟨_,0,ns⟩ [0,1,1,Z-1] 2 rfl rfl ?_ ?_ ahw ?_;omega;(simp only[OF];omega);intro v3 w3 O3 G3;have A3:=af ((a0.out.q ((Q.refl _).alloc _)).app G3 O3);have Vk:=(a0.out.q ((Q.refl _).alloc (ac (arr [0,1,1,Z-1]) 164))).box.eJ G3 λe=>(a0.out.ne _ e).1 rfl;have bx4:=Vk.cell;have bf4:=Vk.free;obtain⟨A4,G,rfl⟩:=O3.form));go_meet;exact⟨_,cnt+2,aa,by rw[HK.out];exact A3.out⟩
 case rest=>
 obtain⟨u,c2,Nm,o⟩:=hcut
 have V:aq m 0=1\/aq m 0=2:=by
  have:=hm.kind;cases ap with
  |true=>exact .inr (hi rfl)
  |false=>have h0:aq m 0≠0:=λh=>hs ⟨rfl,h⟩;omega
 have c0:=o.out.aO.at 0 aa;rw[sub_one] at c0;obtain⟨Z,I⟩:∃z,aq m 0=z:=⟨_,rfl⟩;rw[I] at c0 V;obtain⟨K0,IV⟩:∃z,bs++m8 ap m=z:=⟨_,rfl⟩;rw[IV] at o;have xA:=af I;have PB:=af IV;clear hs hi a0 I IV
 go_upto_if 31 with fail
 clear c0;go_cut[8] from 12 (λs8 wx=>∃u c3,c3<=cnt+140/\Hid (AM w (.slice A n cc) m B wx u c3 (K0++preB m)))
 case first=>
  obtain⟨A2,T,rfl⟩:=o.out.own.form;rcases V with rfl|rfl
  ·have HP:Hid (preB m=dn (bu (aq m 1)) 2++dn (bu (aq m 2)) 2):=by unfold Hid preB;rw[if_pos xA.out]
   have IW:=hm.vx;have IX:=hm.vy;obtain⟨x1,Cj⟩:∃z,aq m 1=z:=⟨_,rfl⟩;obtain⟨x2,Ck⟩:∃z,aq m 2=z:=⟨_,rfl⟩;rw[Cj] at IW;rw[Ck] at IX;rw[Cj,Ck] at HP;obtain⟨i0,i1⟩:=td IW.1 IW.2;obtain⟨j0,j1⟩:=td IX.1 IX.2;have n1:=ig i0 aa;have n2:=ig j0 aa;have Vl:=af Cj;have Vm:=af Ck;clear Cj Ck
   go_upto_region 6 with fail
   go_cut[] from 12 (λwx=>∃u G,G<=cnt+33/\Hid (AM w (.slice A n cc) m B wx u G (K0++dn (bu x1) 2)))
   case first=>have cX:=(o.out.q ((Q.refl _).drew)).aO.at 1 aa;rw[sub_one,Vl.out] at cX;have bX:=(o.out.q ((Q.refl _).drew)).bx;refine fe (λww=>ww.cell? ⟨w.heap.size,0,ns⟩=an (.slice A2 c2 T)/\ww.cell? ⟨w.heap.size+1,1,ns⟩=an (.int .i64 x1)) (λj=>decide (6<=j)) ah ⟨bX,cX⟩ λhS=>?_;refine ai 0 (h:=ai 1 (h:=ai 2 (h:=ai 3 (h:=?_))));refine bA (k:=4) ah rfl rfl λP a=>?_;go_simp;refine(DQ x1 aa aa).mono ?_;rintro e w4⟨rfl,rfl⟩;refine a.out _ _ hS λhS=>?_;clear a P;refine bh ?_;refine bA (k:=5) ah rfl rfl λP a=>?_;go_simp;refine(ss (bu x1) 2 B (o.out.q ((Q.refl _).drew)).own (by have:=(o.out.q ((Q.refl _).drew)).size;omega) aa aa aa aa).mono ?_;rintro e w5⟨v5,rfl,o5,N⟩;have C:=af ((o.out.q ((Q.refl _).drew)).app N o5);have F:=(o.out.q ((Q.refl _).drew)).box.eJ N λe=>(o.out.ne _ e).1 rfl;have xB:=((o.out.q ((Q.refl _).drew)).aO.eJ N λe=>(o.out.ne _ e).2 rfl).at 1 aa;rw[sub_one,Vl.out] at xB;have xC:=F.cell;have IY:=F.free;obtain⟨xD,xE,rfl⟩:=o5.form;refine a.out _ _ ⟨xC 0,xB⟩ λhS=>?_;clear a P;refine bh ?_;refine iB [6] 6 ah al rfl ?_;go_wp2;go_meet;exact⟨_,c2+dN (bu x1),aa,by have h:=C.out;first|exact h|(rw[HP.out,<-ajH];exact h)⟩
   case rest=>
   obtain⟨u,G,NE,IZ⟩:=hcut;obtain⟨A2,T,rfl⟩:=IZ.out.own.form
   go_upto_region 7 with fail
   clear o Nm;have o:=IZ;clear IZ;have cX:=(o.out.q ((Q.refl _).drew)).aO.at 2 aa;rw[sub_one,Vm.out] at cX;have bX:=(o.out.q ((Q.refl _).drew)).bx;refine fe (λww=>ww.cell? ⟨w.heap.size,0,ns⟩=an (.slice A2 G T)/\ww.cell? ⟨w.heap.size+1,2,ns⟩=an (.int .i64 x2)) (λj=>decide (6<=j)) ah ⟨bX,cX⟩ λhS=>?_;refine ai 0 (h:=ai 1 (h:=ai 2 (h:=ai 3 (h:=?_))));refine bA (k:=4) ah rfl rfl λP a=>?_;go_simp;refine(DQ x2 aa aa).mono ?_;rintro e w4⟨rfl,rfl⟩;refine a.out _ _ hS λhS=>?_;clear a P;refine bh ?_;refine bA (k:=5) ah rfl rfl λP a=>?_;go_simp;refine(ss (bu x2) 2 B (o.out.q ((Q.refl _).drew)).own (by have:=(o.out.q ((Q.refl _).drew)).size;omega) aa aa aa aa).mono ?_;rintro e w5⟨v5,rfl,o5,N⟩;have C:=af ((o.out.q ((Q.refl _).drew)).app N o5);have F:=(o.out.q ((Q.refl _).drew)).box.eJ N λe=>(o.out.ne _ e).1 rfl;have xB:=((o.out.q ((Q.refl _).drew)).aO.eJ N λe=>(o.out.ne _ e).2 rfl).at 2 aa;rw[sub_one,Vm.out] at xB;have xC:=F.cell;have IY:=F.free;obtain⟨xD,xE,rfl⟩:=o5.form;refine a.out _ _ ⟨xC 0,xB⟩ λhS=>?_;clear a P;refine bh ?_;refine iB [6] 6 ah al rfl ?_;go_wp2;go_meet;exact⟨_,G+dN (bu x2),aa,by have h:=C.out;first|exact h|(rw[HP.out,<-ajH];exact h)⟩
  ·have HP:Hid (preB m=kn (sub m 3 4)):=by unfold Hid preB;rw[if_neg (by rw[xA.out];decide)]
   have bq:=o.out.aO;have h4:(sub m 3 4).length=4:=bS (by rw[hm.len];omega);have hmo:=af hm.tD;go_wp2_with((with_reducible refine ep (ty:=93) _ 3 ?_ ?_ _ bq 4 ?_ _ (Gz.gu underlying93) ?_ nP ?_);exact rfl;exact rfl;omega;exact rfl);clear bq;go_loopw[8,46] (λs i wr=>∃(k G:Nat)(u:so),k<=4/\i=.int .i64 k/\G<=cnt+2+31*k/\Hid (AM w (.slice A n cc) m B wr u G (K0++kn ((sub m 3 4).take k)))) (λ_ i _=>4-(intOf i).toNat)
   case atStart=>exact⟨0,c2,_,aa,rfl,aa,by have h:=o.out;rw[show K0=K0++kn ((sub m 3 4).take 0) by simp[kn]] at h;exact h⟩
   case round=>
    obtain⟨k,G,u,hk,rfl,NE,M⟩:=hrel;clear o;by_cases H:k<4
    ·have i6:(k:Int)<4:=by omega
     have he:=λw=>NF h4 H w;rw[gq m 3 4 k H,sub_one] at he;obtain⟨e1,e2⟩:=hmo.out k H;have R:=NC hm.len H;generalize aq m (3+k)=md at he e1 e2 R;have hc9:=ig e1 aa;have IU:=af R;obtain⟨A2,T,rfl⟩:=M.out.own.form;have bX:=M.out.bx;have AN:=af (ss md 9 B M.out.own (by have:=M.out.size;omega) e1 aa aa aa);clear R;go_wp2;refine AN.out.mono ?_;rintro e w5⟨v5,rfl,o5,N⟩;have C:=af (M.out.app N o5);have F:=M.out.box.eJ N λe=>(M.out.ne _ e).1 rfl;have xC:=F.cell;have IY:=F.free;obtain⟨xD,xE,rfl⟩:=o5.form;go_wp2;go_roundw;case rel=>exact⟨k+1,G+dN md,_,aa,aF,aa,by rw[IU.out,<-ajH];exact C.out⟩
     case measure=>exact aT
    ·have PJ:k=4:=by omega
     subst PJ;rw[List.take_of_length_le aa] at M;go_wp2;go_meet;exact⟨u,G,aa,by rw[HP.out];exact M⟩
 case rest=>
 obtain⟨u,c3,um,o⟩:=hcut;obtain⟨K1,I0⟩:∃z,K0++preB m=z:=⟨_,rfl⟩;rw[I0] at o;have HK1:=af I0;have bq:=o.out.aO;have t8:=hm.len;have hsl:(sub m 7 64).length=64:=bS aa;have Cl:=af hm;clear I0 hm V;go_wp2_with((with_reducible refine ep (ty:=95) _ 7 ?_ ?_ _ bq 64 ?_ _ (Gz.gu underlying95) ?_ vV ?_);exact rfl;exact rfl;omega;exact rfl);clear bq
 refine aaJ 4 (λk y=>#[.slice A n cc,a9 (arr m),a5 ap,bi (an ⟨w.heap.size,0,ns⟩),bi (an ⟨w.heap.size+1,0,ns⟩),undef,u6,undef,u8,undef,y 10,y 11,u12,u13,u14,u15,u16,u17,u18,u19,u20,u21,u22,u23,u24,u25,u26,u27,u28,u29,u30,u31,u32,u33,u34,u35,u36,u37,u38,u39,u40,u41,u42,u43,u44,u45,u46,u47,u48,u49,u50,u51,u52,bi (an ⟨w.heap.size+1,7,ns⟩),a9 (arr (sub m 7 64)),.int .i64 (k:Int),y 56,y 57,y 58,y 59,y 60,y 61,y 62,y 63,y 64,y 65,y 66,y 67,y 68,y 69,y 70,y 71,y 72,y 73,y 74,y 75,u76])
  (λk ds wr=>∃u G,k<=4/\G<=cnt+140+1100*k/\Hid (AM w (.slice A n cc) m B wr u G (K1++fU m k)/\eK w.heap.size wr ds)) rfl ⟨u,c3,aa,aa,by have h:=o.out;rw[show K1=K1++fU m 0 by simp[fU]] at h;exact⟨h,trivial⟩⟩ ?_
 rintro k y ds wr⟨u,G,hk,NE,I1⟩ K hK;dsimp only;have J:=af I1.out.1;have HM:=af I1.out.2;clear I1 o;obtain⟨A2,T,rfl⟩:=J.out.own.form;have HKK:=af hK;clear hK;by_cases H:k<4
 ·have i6:(k:Int)<4:=by omega
  have he:=λw=>DT hsl H w;rw[AZ m H] at he;obtain⟨hin,Fd⟩:=Cl.out.lvl k H;go_wp2_with((refine dx (n:=16) rfl _ _ _ rfl _ rfl _ _ aD (Nb.new 94 16 _ (rl 16 0) rfl) Fd cN ?_;intro w9 bl g9 s9;rw[OF] at s9));obtain⟨rs,uo⟩:∃z,dy (lvl m k)=z:=⟨_,rfl⟩;have ahx:=ET (lvl m k);rw[uo] at ahx;have q9:Q wr w9:=((Q.refl wr).alloc _).grown g9 (λj e=>by have:=aJ e;omega);have A9:=af (J.out.q q9);have M9:=af (HM.out.q q9);have B9:Bl w9 wr.heap.size (lvl m k):=⟨bl.blk,Fd⟩;have cM:=J.out.size;have hu:(Value.slice A2 G T).ownBlock≠an wr.heap.size:=λe=>absurd (J.out.own.Bu _ e) aa;have bX:=(A9.out.q ((Q.refl _).drew)).bx;have xF:=af uo;clear HM J bl g9 q9 uo he;refine fe (λww=>ww.cell? ⟨w.heap.size,0,ns⟩=an (.slice A2 G T)/\Bl ww wr.heap.size (lvl m k)) (λj=>decide (4<=j)) ah ⟨bX,B9.drew⟩ λhS=>?_;refine ai 0 (h:=?_);refine pU (i:=1) (v:=a9 (arr ?Vn)) rfl ah ah ah ah (λ_ _ _ h=>h) (yy aD rfl rfl λww hSw=>?hz1) hS ?TE;case hz1=>((try dsimp only at hSw);go_split_ands;assumption)
  try simp only[Act.put,ajt,ajx,ajJ]
  refine bA (k:=2) ah rfl rfl λP a=>?_;go_simp;refine(Yc Fd).mono ?_;rintro e w5⟨rfl,q5⟩;rw[xF.out];have C:=af (A9.out.q ((Q.refl w9).drew.trans q5));have M5:=af (M9.out.q ((Q.refl w9).drew.trans q5));have B5:=B9.drew.q q5;refine a.out _ _ ⟨C.out.bx,B5⟩ λhS=>?_;clear a P q5;refine bh ?_;refine bA (k:=3) ah rfl rfl λP a=>?_;go_simp;refine(ss (rs.length:Int) 16 B C.out.own (by have:=C.out.size;omega) aa aa aa aa).mono ?_;rintro e w6⟨v6,rfl,o6,g6⟩;have A6:=af (C.out.app g6 o6);have S:=C.out.box.eJ g6 λe=>(C.out.ne _ e).1 rfl;have M6:=af ((M5.out.eJ C.out.own g6).set S v6);have B6:Bl w6 wr.heap.size (lvl m k):=⟨B5.blk.eJ g6 hu,Fd⟩;have Cn:=S.cell;have Vo:=S.free;obtain⟨I2,I4,rfl⟩:=o6.form;refine a.out _ _ ⟨Cn 0,B6⟩ λhS=>?_;clear a P g6 o6 C M5 A9 M9;refine bh ?_;refine iB [4] 4 ah al rfl ?_;have b7:Nb 94 16 (w6.setCell ⟨w.heap.size,0,ns⟩ (.slice I2 (G+dN rs.length) I4)) wr.heap.size (lvl m k):=Nb.aN ⟨B6.blk,Fd⟩ (by show wr.heap.size≠w.heap.size;omega) _;go_wp2_with((with_reducible refine e8 (n:=16) rfl _ _ rfl _ rfl _ b7 _ (Gz.gu underlying94) rfl cN ?_));refine(Ss Fd).mono ?_;rintro e w8⟨b,rfl,rt,xG,hB8,q8⟩;have Fk:∀j,(Value.slice I2 (G+dN rs.length) I4).ownBlock=an j->j<b:=λj hj=>bH (A6.out.own.Bu j hj) rt;have Vp:b≠w.heap.size:=by have:=A6.out.size;omega
  have A8:=af (A6.out.q q8);have M8:=af (M6.out.q q8);have hc6:=ig (n:=(rs.length:Int)) aa aa;obtain⟨c6,Uk⟩:∃z,G+dN rs.length=z:=⟨_,rfl⟩;obtain⟨L6,I5⟩:∃z,K1++fU m k++dn rs.length 16=z:=⟨_,rfl⟩;have Ul:K1++fU m k++dn rs.length ((16:Nat):Int)=L6:=I5;have HL6:=af I5;rw[Ul,Uk] at A8;rw[Uk] at Fk;clear A6 M6 q8 I5 Ul B6 b7 S Cn Vo;go_wp2;have hw8:=A8.out.size
  refine adZ (d:=11) (b:=b) (xs:=lvl m k) rfl xG hB8 hin (λpre W=>∃u c,c<=c6+62*pre.length/\AM w (.slice A n cc) m B W u c (L6++iU (kH pre))/\eK w.heap.size W ds/\(∀j,u.ownBlock=an j->j≠b)/\w8.heap.size<=W.heap.size)
   (λs X Y row⟨u,c,h1,h2,h3,h4,h5⟩ hg hr=>⟨u,c,h1,h2.row hg hr aa,h3.row M8.out.lt hg λr e=>(hr r e).1,h4,aI h5 hg.size⟩) (λpre W⟨u,c,h1,h2,h3,h4,h5⟩=>h5)
   ⟨_,c6,aa,by have h:=A8.out;rw[show L6=L6++iU (kH []) by simp[kH,iU]] at h;exact h,M8.out,λj hj e=>by have:=Fk j hj;omega,av _⟩ ?assign ?body ?done
  case assign=>
   intro l x W K hK
   gi_wp2
   simpa using hK
  case body=>
   rintro l pre x W Bx⟨u,c,hc,o,hM,Fk,I6⟩ hBx Co H;simp only[ajt,ajx,ajJ];obtain⟨A3,cc3,rfl⟩:=o.own.form;rw[xF.out] at H;obtain⟨⟨z,v⟩,z0,z1,v0,v1,vn⟩:=x;dsimp only at z0 z1 v0 v1 vn Co⊢;obtain⟨i0,i1⟩:=Gq v0 v1 vn;have n1:=ig z0 aa;have n2:=ig i0 aa;have ahy:=o.own.Gu Co al;have bX:=o.bx;have cx0:W.cell? ⟨Bx,0,ns⟩=an (.int .i64 z):=Co.cell 0;have J:=af o;have HM:=af hM;have HU:=af Fk;clear o hM Fk
   gi_wp2
   refine⟨trivial,?_⟩;refine(CallsIn.inRound l (callsIn_wide.2 (ss z 23 B J.out.own (by have:=J.out.size;omega) z0 aa aa aa))).mono ?_;rintro e w5⟨v5,rfl,o5,N⟩;have C:=af (J.out.app N o5);have F:=J.out.box.eJ N λe=>(J.out.ne _ e).1 rfl;have xC:=F.cell;have IY:=F.free;have Cp:=(Co.eJ N ahy).aN (p:=⟨w.heap.size,0,ns⟩) (by show Bx≠w.heap.size;omega) v5;have N':b<W.heap.size:=bH xG I6;have I7:=af ((KeepsOthers.Su J.out.own N).trans (vD w5 ⟨w.heap.size,0,ns⟩ v5));have Vq:=af ((Kb.dD N.bJ N' λe=>HU.out b e rfl).t (Gt (W:=w5) v5 Vp));have M5:=af ((HM.out.eJ J.out.own N).set F v5)
   have Vr:Hid (∀j,v5.ownBlock=an j->j≠b):=λj hj=>by
    rcases N.own with e|⟨i,e,hi⟩
    ·exact HU.out j (e.symm.trans hj)
    ·rw[hj] at e;injection e with e;omega
   obtain⟨xD,xE,rfl⟩:=o5.form
   gi_wp2
   generalize w5.setCell ⟨w.heap.size,0,ns⟩ (.slice xD (c+dN z) xE)=W5 at C Cp I7 Vq M5⊢;have bX5:=C.out.bx;have bF5:=C.out.bf;have wk1:wrap64 (bu v-1)=bu v-1:=ix ⟨aa,aa⟩;have wk2:EV.wrap (bu v-1)=bu v-1:=aB _ ⟨aa,aa⟩;have cx1:W5.cell? ⟨Bx,1,ns⟩=an (.int .i64 v):=Cp.cell 1;refine DY (λww=>ww.cell? ⟨w.heap.size,0,ns⟩=an (.slice xD (c+dN z) xE)/\ww.cell? ⟨Bx,1,ns⟩=an (.int .i64 v)) (λj=>decide (6<=j)) ah ah (λ⟨_,_,h⟩=>h) ⟨bX5,cx1⟩ λhS=>?_;refine ai 0 (h:=ai 1 (h:=ai 2 (h:=?_)));refine bA (k:=3) ah rfl rfl λP a=>?_;go_simp;refine(DQ v aa aa).mono ?_;rintro e w4⟨rfl,rfl⟩;refine a.out _ _ hS λhS=>?_;clear a P;refine bh ?_;refine bA (k:=4) ah rfl rfl λP a=>?_;go_simp;refine a.out _ _ hS λhS=>?_;clear a P;refine bh ?_;refine bA (k:=5) ah rfl rfl λP a=>?_;go_simp;refine(ss (bu v-1) 30 B (C.out.q ((Q.refl _).drew)).own (by have:=(C.out.q ((Q.refl _).drew)).size;omega) aa aa aa aa).mono ?_;rintro e w6⟨v6,rfl,o6,g6⟩;have A6:=af ((C.out.q ((Q.refl _).drew)).app g6 o6);have S:=(C.out.q ((Q.refl _).drew)).box.eJ g6 λe=>(C.out.ne _ e).1 rfl;have cx6:w6.cell? ⟨Bx,1,ns⟩=an (.int .i64 v):=((Cp.q ((Q.refl _).drew)).eJ g6 (C.out.own.Gu Cp al)).cell 1;have Cn:=S.cell;have Vo:=S.free;have Ce:=I7.out.size;have I8:Q W5 W5.drew:=(Q.refl _).drew;have Vs:=af (((I7.out.trans (KeepsOthers.drew W5)).trans (KeepsOthers.Su (C.out.q I8).own g6)).trans (vD w6 ⟨w.heap.size,0,ns⟩ v6));have kb6:=af ((Vq.out.t (show Kb b W5 w6 from Kb.dD (W:=W5.drew) g6.bJ (show b<W5.heap.size by omega) λe=>Vr.out b e rfl)).t (Gt (W:=w6) v6 Vp));have M6:=af (((M5.out.q I8).eJ (C.out.q I8).own g6).set S v6)
   have hu6:Hid (∀j,v6.ownBlock=an j->j≠b):=λj hj=>by
    rcases g6.own with e|⟨i,e,hi⟩
    ·exact Vr.out j (e.symm.trans hj)
    ·rw[hj] at e;injection e with e;have:W5.drew.heap.size=W5.heap.size:=rfl;omega
   obtain⟨I2,I4,rfl⟩:=o6.form;refine a.out _ _ ⟨Cn 0,cx6⟩ λhS=>?_;clear a P;refine bh ?_;refine iB [6] 6 ah al rfl ?_;go_wp2;refine⟨Vs.out.from _,kb6.out,_,c+dN z+dN (bu v-1),?_,?_,M6.out,hu6.out,aI I6 Vs.out.size⟩
   ·rw[ajq,List.length_singleton];omega
   ·have h:=A6.out;rw[E4,Zx,<-ajH,<-ajH];exact h
  case done=>
   rintro D ys W hD ry⟨u,c,hc,o,hM,Fk,I6⟩ hD'
   have hlen:ys.length=rs.length:=by have:=congrArg List.length ry;rw[xF.out] at this;simpa[kH] using this
   rw[hlen] at hc;rw[ry,xF.out,<-HL6.out] at o;have R:=EX m k;unfold my at R;rw[xF.out] at R;have e:K1++fU m k++dn rs.length 16++iU rs=K1++fU m (k+1):=by rw[R];simp
   rw[e] at o;have J:=af o
   have HM:=af (hM.more (D:=D) (λd hd he=>by obtain⟨E,h1,h2⟩:=M8.out.lt d hd;rw[he] at h1;injection h1 with h1;omega) aa hD')
   clear o hM e R;dsimp only;go_wp2;exact HKK.out _ _ rfl ⟨u,c,aa,aa,J.out,HM.out⟩ H
 ·have PJ:k=4:=by omega
  subst PJ
  have rv:K1++fU m 4=bs++fi ap m:=by unfold fi;rw[if_neg HS.out,<-HK1.out,<-PB.out];simp
  rw[rv] at J;obtain⟨d4,hd4⟩:∃d,G=cnt+d:=⟨G-cnt,by have:=J.out.own.1;have:=HO.out.1;simp at*;omega⟩;subst hd4;have bX:=J.out.bx;clear rv;go_wp2;refine Nf wr ds wr HM.out (KD.refl _ _) HM.out.all λW' I=>⟨_,results_tmp rfl _ _ _,?_⟩;refine⟨_,rfl,d4,aa,?_,J.out.eJ.kd I (av _)⟩;exact J.out.own.F6 λg cs t' f hc _=>I.cells hc
def Yf(o:ay 164 2 w B (Y A n cc) cnt bs)(x:B<=w.heap.size)(hm:MV m)(d:aq m 0=0)(f:cnt<=90000000):
  aiK Gz.prog 148 #[Y A n cc,a9 (arr m),a5 Bz] w λe w'=>∃v' k,e=be v'/\k<=5000/\ay 164 2 w' B v' (cnt+k) (bs++fi Bz m)/\bD (Y A n cc) w v' w':=by
 have a:=af (AM.new w A n cc m B bs o hm.len);have h:Hid (fi Bz m=[0,0]):=by unfold Hid fi;rw[if_pos ⟨rfl,d⟩]
 have c0:=a.out.aO.at 0 aa;rw[sub_one,d] at c0;have y:=a.out.bx;have p:=a.out.own;have r:=a.out.size
 have b:∀j,j<[(0:Int),0].length->(((w.alloc (ac #[Y A n cc] 128)).alloc (ac (arr m) 97)).alloc (ac (arr [0,0]) 164)).cell? ((⟨w.heap.size+1+1,0,ns⟩:ajF).add j)=an (U O ([(0:Int),0][j]?.getD 0)):=λj s=>by have:=ji ((w.alloc (ac #[Y A n cc] 128)).alloc (ac (arr m) 97)) [0,0] 164 j s;exact zg
 refine Kf (Gz.gf func148) rfl ?_;simp only[ntmps148,List.size_toArray,ajE,akU,Nat.reduceAdd,Nat.reduceSub,alw,alx,List.push_toArray,alM,akH,akf];go_wp2_with(at_builtin;go_loud (refine gi rfl rfl (Gz.gu underlying128) ie rfl al al rfl (p.alloc _) ⟨_,0,ns⟩ [0,0] 1 rfl rfl ?_ ?_ b ?_;omega;(simp only[OF];omega);intro z w3 i t));have l:=af ((a.out.eJ.q ((Q.refl _).alloc (ac (arr [0,0]) 164))).trans t);refine⟨_,results_tmp rfl _ _ _,?_⟩
 first
  |exact⟨_,1,rfl,aa,by rw[h.out];exact i,l.out⟩
  |exact⟨_,rfl,1,aa,by rw[h.out];exact i,l.out⟩
def YL{ap:Bool}(b:ay 164 2 w B (Y A n cc) cnt bs)(d:B<=w.heap.size)(hm:MV m)(hi:ap=AT->aq m 0=2)(a:cnt<=90000000):
  aiK Gz.prog 148 #[Y A n cc,a9 (arr m),a5 ap] w λe w'=>∃v' k,e=be v'/\k<=5000/\ay 164 2 w' B v' (cnt+k) (bs++fi ap m)/\bD (Y A n cc) w v' w':=by
 by_cases f:ap=Bz/\aq m 0=0
 ·obtain⟨rfl,h0⟩:=f;exact Yf b d hm h0 a
 ·exact Ye b d hm hi f a
end
section
open Go.RowKit Go.WideShapes Go.ChangeShapes
abbrev xd(e:aY)(ov:so):Array so:=ez ⟨e.low,e.span,e.ch,[]⟩ ov
structure EI(w:AS)(g:Nat)(e:aY)(B:Nat)(ov:so):Prop where
 blk:ak w g 228 (xd e ov)
 out:aK w B ov e.out.length e.out
 len:e.ch.length=40
 og:ov.ownBlock≠an g
 le:B<=g
section
variable{w w':AS}{g B:Nat}{e:aY}{ov:so}
def EI.q(k:EI w g e B ov)(hq:Q w w'):EI w' g e B ov:=⟨k.blk.q hq,k.out.q hq,k.len,k.og,k.le⟩
def EI.low(k:EI w g e B ov):w.cell? ⟨g,0,ns⟩=an (.int .u64 e.low):=(k.blk.cell 0).trans Gn
def EI.span(k:EI w g e B ov):w.cell? ⟨g,1,ns⟩=an (.int .u64 e.span):=(k.blk.cell 1).trans Sl
def EI.jP(k:EI w g e B ov)(i:Nat)(hi:i<40):w.cell? ⟨g,2+i,ns⟩=an (U O (e.ch[i]?.getD 0)):=(k.blk.cell (2+i)).trans (Sm k.len hi)
def EI.mC(k:EI w g e B ov):w.cell? ⟨g,42,ns⟩=an ov:=(k.blk.cell 42).trans (Gp k.len)
def EI.free(k:EI w g e B ov)(i:Nat):w.frozen? ⟨g,i,ns⟩=Bz:=k.blk.free i
def EI.jr(k:EI w g e B ov)(x:Int):EI (w.setCell ⟨g,0,ns⟩ (.int .u64 x)) g {e with low:=x} B ov:=
 ⟨by have:=k.blk.set 0 (.int .u64 x);rw[OJ] at this;exact this,k.out.other (kh w ⟨g,0,ns⟩ _) (.inr k.og),k.len,k.og,k.le⟩
def EI.fC(k:EI w g e B ov)(x:Int):EI (w.setCell ⟨g,1,ns⟩ (.int .u64 x)) g {e with span:=x} B ov:=
 ⟨by have:=k.blk.set 1 (.int .u64 x);rw[OL] at this;exact this,k.out.other (kh w ⟨g,1,ns⟩ _) (.inr k.og),k.len,k.og,k.le⟩
def EI.mw(k:EI w g e B ov)(i:Nat)(hi:i<40)(x:Int):EI (w.setCell ⟨g,2+i,ns⟩ (U O x)) g {e with ch:=e.ch.set i x} B ov:=
 ⟨by have:=k.blk.set (2+i) (U O x);rw[OM k.len hi] at this;exact this,k.out.other (kh w ⟨g,2+i,ns⟩ _) (.inr k.og),by simp[k.len],k.og,k.le⟩
def EI.xa{o:Nat}(k:EI w g {e with out:=xs} B (Y (an ⟨o,0,ns⟩) n c))(a:n=xs.length)(i:Nat)(x:Int):EI (w.setCell ⟨o,i,ns⟩ (.int .u8 x)) g {e with out:=xs.set i x} B (Y (an ⟨o,0,ns⟩) n c):=by subst a;have b:g≠o:=λe=>k.og (by rw[e];rfl);refine⟨k.blk.aN b _,?_,k.len,k.og,k.le⟩;have:=k.out.set i x;rw[List.length_set];exact this
def EI.js(k:EI w g e B ov):lk w g=(16777216-e.span).toNat:=C1
end
def EI.appended{W d:AS}{a b:Nat}{e:aY}{x:Int}(o:e.out.length=n)(k:EI w g e B ov)(hq:Q w W)
  (f:d.ownsRow B 5 1 (Y (an ⟨a,0,ns⟩) (n+1) b) (n+1) (e.out.map (.int .u8)++[.int .u8 x]))(j:W.grownBy d ov.ownBlock)(h:ov.ownBlock=an a\/a=W.heap.size):
  EI (d.setCell ⟨g,42,ns⟩ (Y (an ⟨a,0,ns⟩) (n+1) b)) g {e with out:=e.out++[x]} B (Y (an ⟨a,0,ns⟩) (n+1) b):=by
 subst o;have p:=k.blk.lt;have r:=hq.size
 have i:a≠g:=by
  rcases h with l|l
  ·intro s;exact k.og (by rw[l,s])
  ·omega
 have t:=(k.blk.q hq).grown j λe=>k.og e.symm;have y:aK d B (Y (an ⟨a,0,ns⟩) (e.out.length+1) b) (e.out.length+1) (e.out++[x]):=⟨aj,by simpa using f⟩;refine⟨by have:=t.set 42 (Y (an ⟨a,0,ns⟩) (e.out.length+1) b);rw[ON [] k.len] at this;exact this,?_,k.len,λe=>i mO,k.le⟩;have:=y.other (kh d ⟨g,42,ns⟩ (Y (an ⟨a,0,ns⟩) (e.out.length+1) b)) (.inr λe=>i mO);rw[ajq];exact this
def Um{p:Prop}(h:p:=by go_region_law (refine step_append_lies _ rfl _ _ 62 rfl B 5 i0 (.int .u8 0) 1 1 (Gz.gu underlying62) xc mt hz1 hz2 rfl (by decide) (.slice AA nn cA) nn (e.out.map (.int .u8)) (by rfl) (by first|exact(KO.out.alloc _).2|exact(KO.out.alloc _).drew.2|exact(KO.out.drew.alloc _).2) ⟨w.heap.size,0,none⟩ 1 1 [.int .u8 hi] (by rfl) (by rfl) (cell_one_new _ _ _) (λu hu=>by simp at hu;rw[hu];rfl) (by decide) (by unfold maxLen;omega) (by omega) (by simp;omega) _ rfl ?_;intro x y z b a d j;have l:=af (EI.appended xw.out K.out (by exact(by repeat(first|exact Q.refl _|assumption|refine Q.drewN ?_ _|refine Q.drew ?_|refine Q.alloc ?_ _|refine Q.trans ?_ (by assumption)|refine Q.set ?_ (by first|exact av _|omega|(simp;done)|(simp;omega)) _))) b a d);have f:=(K.out.blk.q (by exact(by repeat(first|exact Q.refl _|assumption|refine Q.drewN ?_ _|refine Q.drew ?_|refine Q.alloc ?_ _|refine Q.trans ?_ (by assumption)|refine Q.set ?_ (by first|exact av _|omega|(simp;done)|(simp;omega)) _)))).grown a λe=>K.out.og e.symm;have o:=(f.cell 0).trans Gn;have i:=(f.cell 42).trans (Gp K.out.len);have r:=f.free;have s:=af (Q.grown (QQ.out.trans (by exact(by repeat(first|exact Q.refl _|assumption|refine Q.drewN ?_ _|refine Q.drew ?_|refine Q.alloc ?_ _|refine Q.trans ?_ (by assumption)|refine Q.set ?_ (by first|exact av _|omega|(simp;done)|(simp;omega)) _)))) a λk t=>aI hB (K.out.out.2.lt k t).1);clear b a d f);all_goals(go_wp2;rw[Vt.out];refine bodyPost_end (v:=.tuple #[]) (by simp[results,results177,go_sem]) rfl ⟨rfl,⟨_,by rw[HP.out];exact l.out.jr (lo*256)⟩,(s.out.set (by have:=K.out.le;show W0.heap.size<=g;omega) _).set (by have:=K.out.le;show W0.heap.size<=g;omega) _⟩)):p:=h
def ab9{e:aY}(k:EI w g e B ov)(ok:cP e)(q:Q W0 w)(hB:W0.heap.size<=B)(y:e.low<4294967296)(p:e.out.length<=1000000):
  aiK Gz.prog 177 #[bi (an ⟨g,0,ns⟩)] w λr w'=>r=be (ci #[])/\(∃d,EI w' g (bV e) B d)/\Q W0 w':=by
 have f:bV e={e with low:=e.low%16777216*256,out:=e.out++[e.low/16777216%256]}:=by unfold bV;rw[if_neg (by omega)]
 have c0:=k.low;have s:=k.mC;have C:=k.free;have l:=ok.l0;have D:=ok.l1;have o:=ok.lo;obtain⟨i0,xc,mt,hz1,hz2⟩:=info_parts zO;have h:=GQ e.low l aa;obtain⟨hi,i⟩:∃z,e.low/16777216=z:=⟨_,rfl⟩;obtain⟨lo,a⟩:∃z,e.low%16777216=z:=⟨_,rfl⟩;have E:0<=hi/\hi<=255:=aa;have F:0<=lo/\lo<=16777215:=aa;have G:akN.wrap hi=hi:=yD;have wi:akn.wrap hi=hi:=u64_in aa aa;have H:akn.wrap (lo*256)=lo*256:=u64_in aa aa;rw[a] at h;rw[i,a,show hi%256=hi by omega] at f;obtain⟨AA,cA,rfl⟩:=k.out.form;obtain⟨nn,b⟩:∃z,e.out.length=z:=⟨_,rfl⟩;have j:=k.out;rw[b] at j s p k;have K:=af k;have HP:=af f;have QQ:=af q;have t:B<=w.heap.size:=by have:=k.le;have:=k.blk.lt;omega
 have x:=k.blk.lt;have xw:=af b;have KO:=af j;have Vt:=af h;have AN:=af (Tp l aa);clear k f q a j b h;go_enter Gz.gf func177,ntmps177;go_wp2;exact Um
def aca{e:aY}(k:EI w g e B ov)(ok:cP e)(q:Q W0 w)(hB:W0.heap.size<=B)(hl:4294967296<=e.low)(hn:e.out.length<=1000000):
  aiK Gz.prog 177 #[bi (an ⟨g,0,ns⟩)] w λr w'=>r=be (ci #[])/\(∃IN,EI w' g (bV e) B IN)/\Q W0 w':=by
 have hP:bV e={e with low:=(e.low-4294967296)%16777216*256,out:=gI e.out++[(e.low-4294967296)/16777216%256]}:=by unfold bV;rw[if_pos (by omega)]
 have c0:=k.low;have N:=k.mC;have hf:=k.free;have l0:=ok.l0;have l1:=ok.l1;have ahr:=ok.lo;obtain⟨i0,xc,mt,hz1,hz2⟩:=info_parts zO;obtain⟨lw,l⟩:∃z,e.low-4294967296=z:=⟨_,rfl⟩;have ai2:0<=lw/\lw<4294967296:=aa;rw[l] at hP;have wa:=GQ lw aa aa;obtain⟨hi,uq⟩:∃z,lw/16777216=z:=⟨_,rfl⟩;obtain⟨lo,D⟩:∃z,lw%16777216=z:=⟨_,rfl⟩;have b1:0<=hi/\hi<=255:=aa;have b2:0<=lo/\lo<=16777215:=aa;have wb:akN.wrap hi=hi:=yD;have wi:akn.wrap hi=hi:=u64_in aa aa;rw[D] at wa;rw[uq,D,show hi%256=hi by omega] at hP;obtain⟨xr,P,IP⟩:=ok.room hl
 have R:0<e.out.length:=by have:=List.length_pos_of_mem P;simpa using this
 rcases k.out.dE with⟨_,h0⟩|⟨o,co,rfl,Vg,Ch,X',Vh⟩
 ·omega
 have K:=af k;have QQ:=af q;have HP:=af hP;have S:=af ok;have Vt:=af wa;obtain⟨n,b⟩:∃n,e.out.length=n:=⟨_,rfl⟩;rw[b] at N hn R X';have hni:(0:Int)<(n:Int):=aa;have s:=af b;have HLW:=af l;have wlw:akn.wrap (e.low-4294967296)=lw:=by rw[l];exact u64_in (by omega) (by omega)
 clear k q hP D ok b l wa;go_enter Gz.gf func177,ntmps177;go_wp2
 have E:Hid (EI (w.setCell ⟨g,0,ns⟩ (.int .u64 lw)) g {e with low:=lw} B (Y (an ⟨o,0,ns⟩) n co)):=by have:=K.out.jr lw;rw[s.out] at this;exact this
 have F:Hid (Q W0 (w.setCell ⟨g,0,ns⟩ (.int .u64 lw))):=QQ.out.set (by have:=K.out.le;show W0.heap.size<=g;omega) _;generalize w.setCell ⟨g,0,ns⟩ (.int .u64 lw)=w2 at E F⊢;clear Ch c0 N hf;have T:Hid (∃x∈e.out.reverse,x≠255):=⟨xr,P,IP⟩;have t:=af S.out.out;go_loopw[2] (λi wr=>∃(j:Nat)(pre:List Int),j+pre.length=n/\i=U O ((n:Int)-1-(j:Int))/\Hid (e.out=pre++rl j 255/\EI wr g {e with low:=lw,out:=pre++rl j 0} B (Y (an ⟨o,0,ns⟩) n co)/\Q W0 wr)) (λi _=>(intOf i+1).toNat)
 case atStart=>exact⟨0,e.out,by rw[s.out];omega,aj,aj,by simpa using E.out,F.out⟩
 case round=>
  obtain⟨j,pre,hj,rfl,hK⟩:=hrel;obtain⟨k1,k2,k3⟩:=hK.out;clear hK E F;rcases List.eq_nil_or_concat pre with rfl|⟨i8,x,rfl⟩
  ·obtain⟨y,hy,hyn⟩:=T.out;rw[k1] at hy;simp at hy;omega
  ·rw[List.concat_eq_append] at k1 k2 hj;have hpl:i8.length+1+j=n:=by simp at hj;omega
   have ri:=t.out x (by rw[k1];simp);obtain⟨p,hp⟩:∃p,i8.length=p:=⟨_,rfl⟩;have V:(n:Int)-1-(j:Int)=(p:Int):=aa;have U8:(p:Int)<(n:Int):=aa;have hlen:(i8++[x]++rl j 0).length=n:=aA;have N:=k2.mC
   have G:aK wr B (Y (an ⟨o,0,ns⟩) n co) n (i8++[x]++rl j 0):=by have h:=k2.out;dsimp only at h;rw[hlen] at h;exact h
   have cx:=G.at p aa;have WP:(i8++[x]++rl j 0)[p]?.getD 0=x:=by subst hp;simp
   rw[WP] at cx;have fo:=G.free p;have xx:o≠g:=λh=>k2.og (by rw[<-h];rfl);have K1:=af k1;have K3:=af k3;rw[V];by_cases hx:x=255
   ·subst hx;have ui:=EI.xa (e:={e with low:=lw}) (xs:=i8++[255]++rl j 0) k2 hlen.symm p 0
    have f9:(i8++[255]++rl j 0).set p 0=i8++rl (j+1) (0:Int):=by subst hp;simp[List.replicate_succ]
    rw[f9] at ui;have Vd:=af ui;have w8:akN.wrap (255+1)=0:=rfl;exact KC
   ·have C:gI e.out=i8++[x+1]++rl j 0:=by rw[K1.out,Rm j i8 hx]
    have w8:akN.wrap (x+1)=x+1:=by show(x+1)%256=x+1;omega
    have w9:(x+1 !=0)=AT:=aA;have K2:=af k2;have HG:=af WP;clear k1 k2 k3 WP
    have X:(i8++[x]++rl j 0).set p (x+1)=gI e.out:=by rw[C];subst hp;simp
    have a:=EI.xa (e:={e with low:=lw}) (xs:=i8++[x]++rl j 0) K2.out hlen.symm p (x+1);rw[X] at a;have q5:Q W0 (wr.setCell ⟨o,p,ns⟩ (.int .u8 (x+1))):=K3.out.set C2 _;have H:=af a;have I:=af q5;have Z:Hid ((gI e.out).length=n):=by rw[Hid,AP,s.out]
    clear a q5 X C hlen G;go_wp2;generalize wr.setCell ⟨o,p,ns⟩ (.int .u8 (x+1))=w at H I⊢;have a:=H.out;have b:=Z.out;obtain⟨e1,d⟩:∃z:aY,{e with low:=lw,out:=gI e.out}=z:=⟨_,rfl⟩;have xy:bV e={{e1 with out:=e1.out++[hi]} with low:=lo*256}:=by rw[HP.out,<-d]
    have HP:=af xy;have Hw:e1.low=lw:=by rw[<-d]
    have f:e1.out.length=n:=by rw[<-d];exact b
    rw[d] at a;clear xy d b Z H S t T s HLW N;obtain⟨AA,J⟩:∃z:Option ajF,an ⟨o,0,ns⟩=z:=⟨_,rfl⟩;rw[J] at a;(try rw[J])
    have K:=af a;have QQ:=I;have c0:=a.low;rw[Hw] at c0;have N:=a.mC;have hf:=a.free;have G:=a.out;rw[f] at G;have KO:=af G;have xw:=af f;have rj:=a.blk.lt;have hBs:B<=w.heap.size:=by have:=a.le;omega
    obtain⟨nn,M⟩:∃z,n=z:=⟨_,rfl⟩;subst M;obtain⟨nn,M⟩:∃z,z=n:=⟨_,rfl⟩;subst M;obtain⟨cA,IQ⟩:∃z,z=co:=⟨_,rfl⟩;subst IQ;obtain⟨e,IS⟩:∃z,z=e1:=⟨_,rfl⟩;subst IS;clear a G f J I fo cx;exact Um
def F7{e:aY}(k:EI w g e B ov)(ok:cP e)(q:Q W0 w)(b:W0.heap.size<=B)(d:e.out.length<=1000000):
  aiK Gz.prog 177 #[bi (an ⟨g,0,ns⟩)] w λr w'=>r=be (ci #[])/\(∃a,EI w' g (bV e) B a)/\Q W0 w':=by
 by_cases f:e.low<4294967296
 ·exact ab9 k ok q b f d
 ·exact aca k ok q b aa d
end
section
open Go.RowKit Go.WideShapes Go.ChangeShapes
def Rr(x y:Int):arr [x,y]=#[U O x,U O y]:=rfl
def Zy(h:ay 164 2 w B (Y (an ⟨g,0,ns⟩) n c) n xs)(f:iq xs=AT)(D:n<=20000):
  aiK Gz.prog 175 #[Y (an ⟨g,0,ns⟩) n c] w λe w'=>e=be (a5 AT)/\Q w w':=by
 have l:=af (sV n xs h.1 f);have E:=h.1;have H:=af h;have o:(n:Int)<=20000:=aa;have p:decide ((20000:Int)<(n:Int))=Bz:=decide_eq_false aa;clear h f;go_enter Gz.gf func175,ntmps175;go_wp2;go_loopw[10] (λi wr=>∃k:Nat,k<=n/\i=U O k/\Hid (Q w wr)) (λi _=>n-(intOf i).toNat)
 case atStart=>exact⟨0,aa,rfl,Q.refl _⟩
 case round=>
  obtain⟨k,F,rfl,hK⟩:=hrel;have hq:=hK.out;clear hK;by_cases b:k<n
  ·have r:(k:Int)<n:=by omega
   obtain⟨s,t,j⟩:=l.out k b;have z:=H.out.q hq;have a:=lW xs (k*2) aa;generalize xs[k*2]?.getD 0=x at s t a;generalize xs[k*2+1]?.getD 0=y at j a;have d1:decide (x<0)=Bz:=decide_eq_false aa;have d2:decide (40<=x)=Bz:=decide_eq_false aa;have C:=af hq;clear hq;rcases j with rfl|rfl
   all_goals
    go_wp2_with(refine Dx rfl rfl (k*2) rfl z aa (Gz.gu underlying164) rfl zN ?_;rw[a,Rr]);go_roundw;case rel=>exact⟨k+1,aa,aF,by have:=C.out;exact aU⟩
    case measure=>exact aT
  ·have d:k=n:=by omega
   subst d;go_wp2;go_ret;exact⟨rfl,hq⟩
end
section
open Go.RowKit Go.WideShapes Go.ChangeShapes
def ad0{e:aY}(k:EI w g e B ov)(ok:cP e)(x:16777216<=e.span)(q:Q W0 w)(hB:W0.heap.size<=B)(s:c<40)(hn:e.out.length=n)(xu:n<=900000):
  aiK Gz.prog 176 #[bi (an ⟨g,0,ns⟩),a9 #[U O (c:Int),U O 0]] w λr w'=>r=be (ci #[])/\(∃a,EI w' g (iI e c 0) B a)/\Q W0 w':=by
 obtain⟨M,N⟩:=ok.ch c s;have uj:=ok.hi;have H':=ok.l0;have rk:=ok.l1;have hle:=k.le;have rj:=k.blk.lt;obtain⟨b1,b2,b3,b4⟩:=lY x ok.hi M N;have hM:=ok.nk x c 0 s;have HB:iW e c=e.span/4096*e.ch[c]?.getD 0:=rfl;have rx:(c:Int)<40:=aa;have P:=af λw R=>bound g c e.span (e.ch[c]?.getD 0) w R s x ok.hi M N;have HN:=af λb w R C hN=>GR g (e.ch[c]?.getD 0) b w R C s hN;have h1:=k.q ((Q.refl w).alloc (ac #[U O (c:Int),U O 0] 164));have S:=q.alloc (ac #[U O (c:Int),U O 0] 164);have d:=ak.new w 164 #[U O (c:Int),U O 0];have j:iL e c 0={e with span:=iW e c,ch:=e.ch.set c (bj (e.ch[c]?.getD 0) 0)}:=by unfold iL;rw[if_pos rfl]
 have T:=af (Ny (e.ch[c]?.getD 0) · M N);generalize D:e.ch[c]?.getD 0=pp at*;generalize V:e.span/4096*pp=J at*;have HM:=af hM;have l:=af j;have E:=af D;have X:=af HB;have Z:=af hn;clear k hM j HB D V ok hn q;go_enter Gz.gf func176,ntmps176;go_wp2;(generalize w.alloc (ac #[U O (c:Int),U O 0] 164)=w1 at h1 S d⊢;have c0:=h1.low;have c1:=h1.span;have ck:=h1.jP c s;rw[E.out] at ck;have C:=h1.free;have cb:=d.cell;have H1:=af h1;clear h1)
 go_quiet((go_at_call 188;exact oN ((P.out (w1.drewN _) ck).mono λ_ _ h=>⟨h.1,h.2.symm⟩)))
 (have y:=H1.out.q ((Q.refl w1).drewN nq);have x2:=S.drewN nq;have i:=d.drewN nq;generalize w1.drewN nq=w2 at y x2 i⊢;clear S c0 c1 ck C cb d H1;have c0:=y.low;have c1:=y.span;have C:=y.free;have cb:=i.cell;have H2:=af y;clear y)
 go_wp2;have F:=H2.out.fC J;have G:=i.aN (p:=⟨g,1,ns⟩) nz (.int .u64 J);have x3:=x2.set (p:=⟨g,1,ns⟩) uV (.int .u64 J);generalize w2.setCell ⟨g,1,ns⟩ (.int .u64 J)=w3 at F x3 G⊢;clear H2 x2 i c0 c1 C cb;have t:=(F.q (Q.refl _).drew).jP c s;rw[show e.ch[c]?.getD 0=pp from E.out] at t;have H:=(F.q (Q.refl _).drew).free (2+c);have I9:=(G.q (Q.refl _).drew).cell;have H3:=af F;clear F;go_region_with (go_at_call 189;refine(HN.out 0 _ t H T.out).mono ?_;rintro e9 w9⟨rfl,rfl⟩);all_goals(have o:=(((H3.out.mw c s (bj pp 0)).q (Q.refl _).drew).q (Q.refl _).drew);have x4:=(x3.set (p:=⟨g,2+c,ns⟩) uV (U O (bj pp 0))).drew.drew;generalize(w3.setCell ⟨g,2+c,ns⟩ (U O (bj pp 0))).drew.drew=w4 at o x4⊢;have h4:EI w4 g (iL e c 0) B ov:=(by rw[l.out,X.out];exact o);clear o x3 t H I9 H3;go_wp2;go_loopw[] (λwr=>∃(f:aY)(a:so),Hid (EI wr g f B a/\Q W0 wr/\cP f/\jW f=iI e c 0/\((f.out.length=n/\True)\/(f.out.length=n+1/\1048576<=f.span)\/(f.out.length=n+2/\16777216<=f.span)))) λwr=>lk wr g;(case atStart=>exact⟨_,ov,h4,x4,HM.out,rfl,.inl ⟨by rw[l.out];exact Z.out,trivial⟩⟩);(case round=>obtain⟨f,a,hK⟩:=hrel;obtain⟨z,K,I,k4,k5⟩:=hK.out;have e1:=z.span;have e2:=I.lo;have e3:=I.hi;have rq:=af z.js;by_cases x:f.span<16777216;(case pos=>have K1:=af z;have K2:=af K;have K3:=af I;have K5:=af k5;have HT:=af (F7 z I K hB aa);clear z K I hK k5;go_wp2;refine HT.out.mono ?_;rintro e5 w5⟨rfl,⟨Id,o⟩,x5⟩;have f1:=o.span;have f2:=o.free;rw[vO f] at f1;have H5:=af o;have X5:=af x5;clear o x5;have wc:akn.wrap (f.span*256)=f.span*256:=u64_in aa aa;go_wp2;go_roundw;(case rel=>exact⟨mb f,Id,H5.out.fC (f.span*256),X5.out.set yV _,K3.out.grow x,(zQ e2 x).trans k4,by have h6:=K5.out;have:=qd f;show((bV f).out.length=n/\_)\/((bV f).out.length=n+1/\1048576<=f.span*256)\/((bV f).out.length=n+2/\16777216<=f.span*256);omega⟩);(case measure=>rw[rq.out,(H5.out.fC (f.span*256)).js];show(16777216-f.span*256).toNat<(16777216-f.span).toNat;omega));(case neg=>have e4:=(Ah aa).symm.trans k4;subst e4;go_wp2;refine alp (v:=ci #[]) (by simp[results,results176,go_sem]) rfl ?_;exact⟨rfl,⟨_,z⟩,K⟩)))
def ad1{e:aY}(k:EI w g e B ov)(ok:cP e)(y:16777216<=e.span)(q:Q W0 w)(hB:W0.heap.size<=B)(t:c<40)(hn:e.out.length=n)(xu:n<=900000):
  aiK Gz.prog 176 #[bi (an ⟨g,0,ns⟩),a9 #[U O (c:Int),U O 1]] w λr w'=>r=be (ci #[])/\(∃d,EI w' g (iI e c 1) B d)/\Q W0 w':=by
 obtain⟨M,N⟩:=ok.ch c t;have uj:=ok.hi;have H':=ok.l0;have rk:=ok.l1;have hle:=k.le;have rj:=k.blk.lt;obtain⟨b1,b2,b3,b4⟩:=lY y ok.hi M N;have hM:=ok.nk y c 1 t;have HB:iW e c=e.span/4096*e.ch[c]?.getD 0:=rfl;have rx:(c:Int)<40:=aa;have P:=af λw R=>bound g c e.span (e.ch[c]?.getD 0) w R t y ok.hi M N;have HN:=af λb w R D hN=>GR g (e.ch[c]?.getD 0) b w R D t hN;have h1:=k.q ((Q.refl w).alloc (ac #[U O (c:Int),U O 1] 164));have S:=q.alloc (ac #[U O (c:Int),U O 1] 164);have i:=ak.new w 164 #[U O (c:Int),U O 1];have l:iL e c 1={e with low:=e.low+iW e c,span:=e.span-iW e c,ch:=e.ch.set c (bj (e.ch[c]?.getD 0) 1)}:=by unfold iL;rw[if_neg (by decide)]
 have T:=af (Nz (e.ch[c]?.getD 0) · M N);generalize E:e.ch[c]?.getD 0=pp at*;generalize V:e.span/4096*pp=a at*;have HM:=af hM;have o:=af l;have F:=af E;have X:=af HB;have Z:=af hn;clear k hM l HB E V ok hn q;have wa:akn.wrap (e.low+a)=e.low+a:=u64_in aa aa;have wb:akn.wrap (e.span-a)=e.span-a:=u64_in aa aa;go_enter Gz.gf func176,ntmps176;go_wp2;(generalize w.alloc (ac #[U O (c:Int),U O 1] 164)=w1 at h1 S i⊢;have c0:=h1.low;have c1:=h1.span;have ck:=h1.jP c t;rw[F.out] at ck;have D:=h1.free;have cb:=i.cell;have H1:=af h1;clear h1)
 go_quiet((go_at_call 188;exact oN ((P.out (w1.drewN _) ck).mono λ_ _ h=>⟨h.1,h.2.symm⟩)))
 (have z:=H1.out.q ((Q.refl w1).drewN nq);have x2:=S.drewN nq;have j:=i.drewN nq;generalize w1.drewN nq=w2 at z x2 j⊢;clear S c0 c1 ck D cb i H1;have c0:=z.low;have c1:=z.span;have D:=z.free;have cb:=j.cell;have H2:=af z;clear z)
 go_wp2;have G:=(H2.out.jr (e.low+a)).fC (e.span-a);have H:=(j.aN (p:=⟨g,0,ns⟩) nz (.int .u64 (e.low+a))).aN (p:=⟨g,1,ns⟩) nz (.int .u64 (e.span-a));have x3:=(x2.set (p:=⟨g,0,ns⟩) uV (.int .u64 (e.low+a))).set (p:=⟨g,1,ns⟩) uV (.int .u64 (e.span-a));generalize(w2.setCell ⟨g,0,ns⟩ (.int .u64 (e.low+a))).setCell ⟨g,1,ns⟩ (.int .u64 (e.span-a))=w3 at G x3 H⊢;clear H2 x2 j c0 c1 D cb;have x:=(G.q (Q.refl _).drew).jP c t;rw[show e.ch[c]?.getD 0=pp from F.out] at x;have I:=(G.q (Q.refl _).drew).free (2+c);have I9:=(H.q (Q.refl _).drew).cell;have H3:=af G;clear G;go_region_with (go_at_call 189;refine(HN.out 1 _ x I T.out).mono ?_;rintro e9 w9⟨rfl,rfl⟩);all_goals(have s:=(((H3.out.mw c t (bj pp 1)).q (Q.refl _).drew).q (Q.refl _).drew);have x4:=(x3.set (p:=⟨g,2+c,ns⟩) uV (U O (bj pp 1))).drew.drew;generalize(w3.setCell ⟨g,2+c,ns⟩ (U O (bj pp 1))).drew.drew=w4 at s x4⊢;have h4:EI w4 g (iL e c 1) B ov:=(by rw[o.out,X.out];exact s);clear s x3 x I I9 H3;go_wp2;go_loopw[] (λwr=>∃(f:aY)(d:so),Hid (EI wr g f B d/\Q W0 wr/\cP f/\jW f=iI e c 1/\((f.out.length=n/\True)\/(f.out.length=n+1/\1048576<=f.span)\/(f.out.length=n+2/\16777216<=f.span)))) λwr=>lk wr g;(case atStart=>exact⟨_,ov,h4,x4,HM.out,rfl,.inl ⟨by rw[o.out];exact Z.out,trivial⟩⟩);(case round=>obtain⟨f,d,hK⟩:=hrel;obtain⟨C,K,J,k4,k5⟩:=hK.out;have e1:=C.span;have e2:=J.lo;have e3:=J.hi;have rq:=af C.js;by_cases y:f.span<16777216;(case pos=>have K1:=af C;have K2:=af K;have K3:=af J;have K5:=af k5;have HT:=af (F7 C J K hB aa);clear C K J hK k5;go_wp2;refine HT.out.mono ?_;rintro e5 w5⟨rfl,⟨Id,s⟩,x5⟩;have f1:=s.span;have f2:=s.free;rw[vO f] at f1;have H5:=af s;have X5:=af x5;clear s x5;have wc:akn.wrap (f.span*256)=f.span*256:=u64_in aa aa;go_wp2;go_roundw;(case rel=>exact⟨mb f,Id,H5.out.fC (f.span*256),X5.out.set yV _,K3.out.grow y,(zQ e2 y).trans k4,by have h6:=K5.out;have:=qd f;show((bV f).out.length=n/\_)\/((bV f).out.length=n+1/\1048576<=f.span*256)\/((bV f).out.length=n+2/\16777216<=f.span*256);omega⟩);(case measure=>rw[rq.out,(H5.out.fC (f.span*256)).js];show(16777216-f.span*256).toNat<(16777216-f.span).toNat;omega));(case neg=>have e4:=(Ah aa).symm.trans k4;subst e4;go_wp2;refine alp (v:=ci #[]) (by simp[results,results176,go_sem]) rfl ?_;exact⟨rfl,⟨_,C⟩,K⟩)))
def encode(W0 w:AS)(g B c n:Nat)(b:Int)(e:aY)(ov:so)(k:EI w g e B ov)(ok:cP e)(f:16777216<=e.span)(q:Q W0 w)(h:W0.heap.size<=B)(i:c<40)(l:b=0\/b=1)(j:e.out.length=n)(a:n<=900000):
  aiK Gz.prog 176 #[bi (an ⟨g,0,ns⟩),a9 #[U O (c:Int),U O b]] w λr w'=>r=be (ci #[])/\(∃d,EI w' g (iI e c b) B d)/\Q W0 w':=by
 rcases l with rfl|rfl
 ·exact ad0 k ok f q h i j a
 ·exact ad1 k ok f q h i j a
end
section
open Go.RowKit Go.WideShapes Go.ChangeShapes
def eP{P:Program}{t:TypeId}{cs cs':Array so}{b:Array Oper}{rest:List Oper}{o:Oper}{a:Act}{j:Exit->Act->AS->Prop}(f:o.guard=ns)(ty:TypeId)(x y:Operand)(k:o.op=.store ty x y)(l:a.eval x=bi (an ⟨g,0,ns⟩))(v:so)(p:a.eval y=v)(q:v=a9 cs')(h:ak w g t cs)(r:cs'.size=cs.size)(d:(cs'.all λx=>x.oneCell')=AT)
  (hi:(P.info? ty).map (·.size)=an cs'.size)
  (hK:∀w',ak w' g t cs'->w.grownBy w' (an g)->w'.heap.size=w.heap.size->wpList P b j rest (a.put o.dst undef) w'):wpList P b j (o::rest) a w:=by
 subst q;have s:=run_storeVar_row (P:=P) w g t ty cs cs' h hi r.symm d;refine wpList_plain f λK i=>?_;unfold Oper.wp execOp;simp only[k,l,p,Instr.storeAt,Instr.sureAddr,s,Sem.run_bind,Sem.run_pure,Result.andThen_ok];refine i _ _ (hK _ ?_ ?_ ?_)
 ·unfold ak at h⊢;simp[World.setRow,Array.getElem?_modify,h]
 ·exact Dm
 ·simp
def acb{e:aY}:((xd e (Y A n c)).all λx=>x.oneCell')=AT:=by unfold xd ez;rw[Array.all_append,Array.all_append,FX];simp[Value.oneCell']
def acd:(Gz.prog.info? 228).map (·.size)=an (xd ju (Y ns 0 0)).size:=aE
def YM(h:ay 164 2 w B (Y (an ⟨g,0,ns⟩) n c) n xs)(G:iq xs=AT)(hn:n<=20000):
  aiK Gz.prog 149 #[Y (an ⟨g,0,ns⟩) n c] w λe w'=>∃v',e=be v'/\aK w' w.heap.size v' (mA xs).length (mA xs)/\Q w w':=by
 have HG:=af (sV n xs h.1 G);have R:=Zy h G hn;have S:=h.1;have H:=af h;clear h G;go_enter Gz.gf func149,ntmps149;go_wp2;refine R.mono ?_;rintro e w0⟨rfl,I⟩;clear R;go_wp2;refine(N7).mono ?_;rintro e T⟨rfl,q1⟩;have hs:(arr pA).size=40:=rfl;have xH:=I.size;have pm:=q1.size;go_wp2_with(refine eP (cs':=xd ju (Y ns 0 0)) rfl _ _ _ rfl rfl _ rfl ?_ (ak.new _ _ _) rfl acb acd ?_;go_loud (kernel_rfl);intro V X Z s2);rw[OF] at s2;have q2:Q w V:=((I.trans q1).alloc _).grown Z (λk e=>by have:=aJ e;omega);have es:EI V T.heap.size ju w.heap.size (Y ns 0 0):=⟨X,aK.nil _ _,rfl,by simp[Value.ownBlock],aa⟩;clear X Z;obtain⟨J,K⟩:∃z,T.heap.size=z:=⟨_,rfl⟩;rw[K] at es⊢;have o:=af es;have Q0:=af q2;clear es q2 q1 I;go_loopw[13] (λi wr=>∃(k:Nat)(e:aY)(ov:so),k<=n/\i=U O k/\Hid (EI wr J e w.heap.size ov/\Q w wr/\RE xs k e)) (λi _=>n-(intOf i).toNat)
 case atStart=>exact⟨0,ju,_,aa,rfl,o.out,Q0.out,RE.zero xs⟩
 case round=>
  obtain⟨k,e,ov,hk,rfl,hK⟩:=hrel;obtain⟨F,p,d⟩:=hK.out;clear hK o Q0;by_cases f:k<n
  ·have i6:(k:Int)<n:=by omega
   obtain⟨a1,a2,a3⟩:=HG.out k f;have hl:=H.out.q p;have a:=lW xs (k*2) aa;have b:=d.succ S f a1 a2;generalize xs[k*2]?.getD 0=x at a1 a2 a b;generalize xs[k*2+1]?.getD 0=y at a3 a b;obtain⟨r,rfl⟩:∃r:Nat,x=(r:Int):=⟨x.toNat,aa⟩;rw[Int.toNat_natCast] at b;have l:=(Q.refl wr).alloc (ac #[U O (r:Int),U O y] 164);have HT:=af (encode w _ J w.heap.size r e.out.length y e ov (F.q l) d.ok d.span (p.trans l) (av _) aa a3 rfl (by have:=d.len;omega));have bb:=Nb.new 164 2 wr [(r:Int),y] rfl;have Ve:=af b;clear b F p d l;go_wp2_with(first|(refine Dx rfl rfl (k*2) rfl hl aa (Gz.gu underlying164) rfl zN ?_;rw[a,Rr])|((with_reducible refine e8 (n:=2) rfl _ _ rfl _ rfl _ bb _ (Gz.gu underlying164) rfl zN ?_)));exact KE
  ·have M:k=n:=by omega
   rw[M] at d;have s:=d.full S;have t:=d.ok;have hle:=d.len;have C:=af s;have D:=af t;have K1:=af F;have K2:=af p;have G':¬(k:Int)<n:=aa;clear d F p s t;go_wp2;go_loopw[20] (λi wr=>∃(j:Nat)(ov:so),j<=4/\i=U O j/\Hid (EI wr J (nd j e) w.heap.size ov/\Q w wr)) (λi _=>4-(intOf i).toNat)
   case atStart=>exact⟨0,ov,aa,rfl,K1.out,K2.out⟩
   case round=>
    obtain⟨j,ov,hj,rfl,hK⟩:=hrel;obtain⟨y1,y2⟩:=hK.out;clear hK K1 K2;by_cases E:j<4
    ·have tZ:(j:Int)<4:=by omega
     have HT:=af (F7 y1 (AU j D.out) y2 (av _) (by rw[Ag];omega));exact KF
    ·have N:j=4:=by omega
     rw[N] at y1;have c2:=y1.mC;have hje:¬(j:Int)<4:=aa;have P:=y1.out;rw[show(nd 4 e).out=mA xs by rw[C.out];rfl] at P;have HO:=af P;clear y1 P E f D C;go_wp2;go_ret;exact⟨_,rfl,HO.out,y2⟩
end
end Go.Proofs.Q0
