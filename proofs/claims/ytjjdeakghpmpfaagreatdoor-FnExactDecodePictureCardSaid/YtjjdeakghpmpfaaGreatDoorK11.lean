import Derived.Test.YtjjdeakghpmpfaaGreatDoorK10
import Derived.Deep.CutRange
set_option maxRecDepth 100000
set_option maxHeartbeats 8000000
set_option linter.all false
open Go.Value renaming int->U,slice->Y,bool->a9,agg->a5,pointer->ci,tuple->dl,iface->em
open Go.IntKind renaming i64->O
open Go.Obj renaming cells->ac
open Go.Ending renaming returned->be
open Array renaming replicate_succ->akH,replicate_zero->akI
open Go renaming Addr->aiI,Calls->UL,Value->rl,World->ns,bodyPost_end->akv
open Go.IntKind renaming i64->AS,u64->ajq,u8->ajU
open Go.World renaming size_alloc->BE
open List renaming append_assoc->aiK,append_toArray->akZ,cons_append->ajn,length_append->aiw,length_cons->aiS,length_nil->akc,nil_append->ajM,replicate->an,setIfInBounds_toArray->aix,set_cons_succ->aiQ,set_cons_zero->aiG
namespace Go.Proofs
def ug{p:Prop}(h:p:=by show W0.heap.size<=g;omega):p:=h
end Go.Proofs
namespace Go.Proofs.Q0
open Go.Proofs.Tryz
variable{w W0:ns}{bs m xs:List Int}{cnt B n cc c g:Nat}{A:Option aiI}{ov:rl}
section
open Go.RowKit Go.WideShapes Go.ChangeShapes Go.Shelf
attribute [local go_sem] Oper.semAt_some
structure AM(w:ns)(v:rl)(m:List Int)(B:Nat)(W:ns)(u:rl)(c:Nat)(L:List Int):Prop where
 box:ak W w.heap.size 118 #[u]
 aO:Nb 85 71 W (w.heap.size+1) m
 own:az 154 2 W B u c L
 ez:bC v w u W
 ne:∀k,u.ownBlock=some k->k≠w.heap.size/\k≠w.heap.size+1
section
variable{w W W1 W':ns}{v u u':rl}{m L L':List Int}{B c c':Nat}
def AM.q(h:AM w v m B W u c L)(q:Q W W1):AM w v m B W1 u c L:=⟨h.box.q q,h.aO.q q,h.own.q q,h.ez.q q,h.ne⟩
def AM.size(h:AM w v m B W u c L):w.heap.size+2<=W.heap.size:=by have:=h.aO.lt;omega
def AM.app(h:AM w v m B W u c L)(g:bC u W u' W')(o:az 154 2 W' B u' c' L'):AM w v m B (W'.setCell ⟨w.heap.size,0,none⟩ u') u' c' L':=by
 have f:=h.size
 have a:∀k,u'.ownBlock=some k->k≠w.heap.size/\k≠w.heap.size+1:=λk b=>by
  rcases g.own with e|⟨j,e,i⟩
  ·exact h.ne k (e.symm.trans b)
  ·grind
 have d:=h.box.ez g λe=>(h.ne _ e).1 rfl;refine⟨?_,(h.aO.ez g λe=>(h.ne _ e).2 rfl).aN aj _,o.other (jJ W' ⟨w.heap.size,0,none⟩ _) (.inr λe=>(a _ e).1 rfl),(h.ez.trans g).set (au _) _,a⟩;exact d.set 0 u'
def AM.bx(h:AM w v m B W u c L):W.cell? ⟨w.heap.size,0,none⟩=some u:=h.box.cell 0
def AM.bf(h:AM w v m B W u c L):W.frozen? ⟨w.heap.size,0,none⟩=false:=h.box.free 0
def AM.new(w:ns)(A:Option aiI)(n cc:Nat)(m:List Int)(B:Nat)(L:List Int)(b:az 154 2 w B (Y A n cc) c L)(d:m.length=71):
  AM w (Y A n cc) m B ((w.alloc (ac #[Y A n cc] 118)).alloc (ac (arr m) 85)) (Y A n cc) c L:=by
 have hq:Q w ((w.alloc (ac #[Y A n cc] 118)).alloc (ac (arr m) 85)):=((Q.refl w).alloc _).alloc _;refine⟨(ak.new w _ _).alloc _,?_,b.q hq,bC.Us _ hq,λk a=>?_⟩
 ·have:=Nb.new 85 71 (w.alloc (ac #[Y A n cc] 118)) m d;rw[BE] at this;exact this
 ·rcases b.dD with⟨e,_⟩|⟨g,_,e,_,f,_⟩
  ·rw[e] at a;cases a
  ·rw[e] at a;have:g=k:=aL a;omega
def AM.row{b:Nat}{row:Option Nat}(h:AM w v m B W u c L)(a:W.grownBy W' row)(hr:∀r,row=some r->b<=r/\∃o:Obj,W.heap[r]?=some o/\o.isCells=false)(d:w.heap.size<=b):AM w v m B W' u c L:=
 ⟨h.box.own a λr e=>(hr r e).2,h.aO.own a λr e=>(hr r e).2,h.own.owned a λr e=>(hr r e).2,h.ez.row a λr e=>by have:=(hr r e).1;omega,h.ne⟩
end
def Xu{ap:Bool}(ho:az 154 2 w B (.slice A n cc) cnt bs)(hB:B<=w.heap.size)(hm:MV m)(hi:ap=true->al m 0=2)(hs:¬(ap=false/\al m 0=0))(X':cnt<=90000000):
  UL Gz.prog 137 #[.slice A n cc,a5 (arr m),a9 ap] w λe w'=>∃v' k,e=be v'/\k<=5000/\az 154 2 w' B v' (cnt+k) (bs++eU ap m)/\bC (.slice A n cc) w v' w':=by
 have s1:=bO m;rw[hm.len] at s1;have a0:=af (AM.new w A n cc m B bs ho hm.len);have HO:=af ho;have HS:=af hs;clear ho;refine JI (Gz.gf func137) rfl ?_;simp only[ntmps137,List.size_toArray,aiS,akc,Nat.reduceAdd,Nat.reduceSub,akH,akI,List.push_toArray,akZ,ajM,ajn]
 go_upto_if 13 with fail
 go_cut[] from 12 (λwx=>∃u c2,c2<=cnt+2/\Hid (AM w (.slice A n cc) m B wx u c2 (bs++ml ap m)))
 case first=>
  cases ap with
  |true=>go_wp2;go_meet;exact⟨_,cnt,aa,by have h:=a0.out;rw[show bs=bs++ml true m by simp[ml]] at h;exact h⟩
  |false=>
   have h0:al m 0≠0:=λh=>hs ⟨rfl,h⟩;have c0:=a0.out.aO.at 0 aa;rw[sub_one] at c0;have bx:=a0.out.bx;have bf:=a0.out.bf;have o0:=a0.out.own;have cC:=a0.out.size;obtain⟨Z,I⟩:∃z,al m 0=z:=⟨_,rfl⟩;have V:Z=1\/Z=2:=by have:=hm.kind;omega
   have HK:Hid (ml false m=[0,1,1,Z-1]):=by rw[Hid,<-I];rfl
   rw[I] at c0 h0;have h0b:(Z==0)=false:=by simp[h0]
   have wk:AS.wrap (Z-1)=Z-1:=aB _ ⟨aa,aa⟩
   have agI:∀j,j<[0,1,1,Z-1].length->(((w.alloc (ac #[.slice A n cc] 118)).alloc (ac (arr m) 85)).alloc (ac (arr [0,1,1,Z-1]) 154)).cell? ((⟨w.heap.size+1+1,0,none⟩:aiI).add j)=some (.int .i64 ([0,1,1,Z-1][j]?.getD 0)):=λj hj=>by have:=iJ ((w.alloc (ac #[.slice A n cc] 118)).alloc (ac (arr m) 85)) [0,1,1,Z-1] 154 j hj;exact yg
   clear I h0 hs hi;go_wp2_with(at_builtin;go_loud (refine fN rfl rfl (Gz.gu underlying118) gJ rfl aq aq rfl (o0.alloc _) ⟨_,0,none⟩ [0,1,1,Z-1] 2 rfl rfl ?_ ?_ agI ?_;omega;(simp only[BE];omega);intro v3 w3 O3 G3;have A3:=af ((a0.out.q ((Q.refl _).alloc _)).app G3 O3);have UI:=(a0.out.q ((Q.refl _).alloc (ac (arr [0,1,1,Z-1]) 154))).box.ez G3 λe=>(a0.out.ne _ e).1 rfl;have bx4:=UI.cell;have bf4:=UI.free;obtain⟨A4,G,rfl⟩:=O3.form));go_meet;exact⟨_,cnt+2,aa,by rw[HK.out];exact A3.out⟩
 case rest=>
 obtain⟨u,c2,If,o⟩:=hcut
 have V:al m 0=1\/al m 0=2:=by
  have:=hm.kind;cases ap with
  |true=>exact .inr (hi rfl)
  |false=>have h0:al m 0≠0:=λh=>hs ⟨rfl,h⟩;omega
 have c0:=o.out.aO.at 0 aa;rw[sub_one] at c0;obtain⟨Z,I⟩:∃z,al m 0=z:=⟨_,rfl⟩;rw[I] at c0 V;obtain⟨K0,It⟩:∃z,bs++ml ap m=z:=⟨_,rfl⟩;rw[It] at o;have wF:=af I;have RT:=af It;clear hs hi a0 I It
 go_upto_if 31 with fail
 clear c0;go_cut[8] from 12 (λs8 wx=>∃u c3,c3<=cnt+140/\Hid (AM w (.slice A n cc) m B wx u c3 (K0++preB m)))
 case first=>
  obtain⟨A2,T,rfl⟩:=o.out.own.form;rcases V with rfl|rfl
  ·have HP:Hid (preB m=c7 (bu (al m 1)) 2++c7 (bu (al m 2)) 2):=by unfold Hid preB;rw[if_pos wF.out]
   have Iu:=hm.vx;have Iv:=hm.vy;obtain⟨x1,Br⟩:∃z,al m 1=z:=⟨_,rfl⟩;obtain⟨x2,Bs⟩:∃z,al m 2=z:=⟨_,rfl⟩;rw[Br] at Iu;rw[Bs] at Iv;rw[Br,Bs] at HP;obtain⟨i0,i1⟩:=si Iu.1 Iu.2;obtain⟨j0,j1⟩:=si Iv.1 Iv.2;have n1:=gL i0 aa;have n2:=gL j0 aa;have UJ:=af Br;have UK:=af Bs;clear Br Bs
   go_upto_region 6 with fail
   go_cut[] from 12 (λwx=>∃u G,G<=cnt+33/\Hid (AM w (.slice A n cc) m B wx u G (K0++c7 (bu x1) 2)))
   case first=>have cX:=(o.out.q ((Q.refl _).drew)).aO.at 1 aa;rw[sub_one,UJ.out] at cX;have bX:=(o.out.q ((Q.refl _).drew)).bx;refine et (λww=>ww.cell? ⟨w.heap.size,0,none⟩=some (.slice A2 c2 T)/\ww.cell? ⟨w.heap.size+1,1,none⟩=some (.int .i64 x1)) (λj=>decide (6<=j)) ai ⟨bX,cX⟩ λhS=>?_;refine ah 0 (h:=ah 1 (h:=ah 2 (h:=ah 3 (h:=?_))));refine bh (k:=4) ai rfl rfl λP a=>?_;go_simp;refine(Di x1 aa aa).mono ?_;rintro e w4⟨rfl,rfl⟩;refine a.out _ _ hS λhS=>?_;clear a P;refine aV ?_;refine bh (k:=5) ai rfl rfl λP a=>?_;go_simp;refine(rv (bu x1) 2 B (o.out.q ((Q.refl _).drew)).own (by have:=(o.out.q ((Q.refl _).drew)).size;omega) aa aa aa aa).mono ?_;rintro e w5⟨v5,rfl,o5,N⟩;have C:=af ((o.out.q ((Q.refl _).drew)).app N o5);have F:=(o.out.q ((Q.refl _).drew)).box.ez N λe=>(o.out.ne _ e).1 rfl;have wG:=((o.out.q ((Q.refl _).drew)).aO.ez N λe=>(o.out.ne _ e).2 rfl).at 1 aa;rw[sub_one,UJ.out] at wG;have wH:=F.cell;have Iw:=F.free;obtain⟨wI,wJ,rfl⟩:=o5.form;refine a.out _ _ ⟨wH 0,wG⟩ λhS=>?_;clear a P;refine aV ?_;refine iu [6] 6 ai aq rfl ?_;go_wp2;go_meet;exact⟨_,c2+dI (bu x1),aa,by have h:=C.out;first|exact h|(rw[HP.out,<-aiK];exact h)⟩
   case rest=>
   obtain⟨u,G,Pi,Ix⟩:=hcut;obtain⟨A2,T,rfl⟩:=Ix.out.own.form
   go_upto_region 7 with fail
   clear o If;have o:=Ix;clear Ix;have cX:=(o.out.q ((Q.refl _).drew)).aO.at 2 aa;rw[sub_one,UK.out] at cX;have bX:=(o.out.q ((Q.refl _).drew)).bx;refine et (λww=>ww.cell? ⟨w.heap.size,0,none⟩=some (.slice A2 G T)/\ww.cell? ⟨w.heap.size+1,2,none⟩=some (.int .i64 x2)) (λj=>decide (6<=j)) ai ⟨bX,cX⟩ λhS=>?_;refine ah 0 (h:=ah 1 (h:=ah 2 (h:=ah 3 (h:=?_))));refine bh (k:=4) ai rfl rfl λP a=>?_;go_simp;refine(Di x2 aa aa).mono ?_;rintro e w4⟨rfl,rfl⟩;refine a.out _ _ hS λhS=>?_;clear a P;refine aV ?_;refine bh (k:=5) ai rfl rfl λP a=>?_;go_simp;refine(rv (bu x2) 2 B (o.out.q ((Q.refl _).drew)).own (by have:=(o.out.q ((Q.refl _).drew)).size;omega) aa aa aa aa).mono ?_;rintro e w5⟨v5,rfl,o5,N⟩;have C:=af ((o.out.q ((Q.refl _).drew)).app N o5);have F:=(o.out.q ((Q.refl _).drew)).box.ez N λe=>(o.out.ne _ e).1 rfl;have wG:=((o.out.q ((Q.refl _).drew)).aO.ez N λe=>(o.out.ne _ e).2 rfl).at 2 aa;rw[sub_one,UK.out] at wG;have wH:=F.cell;have Iw:=F.free;obtain⟨wI,wJ,rfl⟩:=o5.form;refine a.out _ _ ⟨wH 0,wG⟩ λhS=>?_;clear a P;refine aV ?_;refine iu [6] 6 ai aq rfl ?_;go_wp2;go_meet;exact⟨_,G+dI (bu x2),aa,by have h:=C.out;first|exact h|(rw[HP.out,<-aiK];exact h)⟩
  ·have HP:Hid (preB m=jL (sub m 3 4)):=by unfold Hid preB;rw[if_neg (by rw[wF.out];decide)]
   have bq:=o.out.aO;have h4:(sub m 3 4).length=4:=bP (by rw[hm.len];omega);have oN:=af hm.sO;go_wp2_with((with_reducible refine dY (ty:=81) _ 3 ?_ ?_ _ bq 4 ?_ _ (Gz.gu underlying81) ?_ mX ?_);exact rfl;exact rfl;omega;exact rfl);clear bq;go_loopw[8,46] (λs i wr=>∃(k G:Nat)(u:rl),k<=4/\i=.int .i64 k/\G<=cnt+2+31*k/\Hid (AM w (.slice A n cc) m B wr u G (K0++jL ((sub m 3 4).take k)))) (λ_ i _=>4-(intOf i).toNat)
   case atStart=>exact⟨0,c2,_,aa,rfl,aa,by have h:=o.out;rw[show K0=K0++jL ((sub m 3 4).take 0) by simp[jL]] at h;exact h⟩
   case round=>
    obtain⟨k,G,u,hk,rfl,Pi,M⟩:=hrel;clear o;by_cases H:k<4
    ·have ka:(k:Int)<4:=by omega
     have he:=λw=>M4 h4 H w;rw[fP m 3 4 k H,sub_one] at he;obtain⟨e1,e2⟩:=oN.out k H;have R:=MZ hm.len H;generalize al m (3+k)=md at he e1 e2 R;have hc9:=gL e1 aa;have Is:=af R;obtain⟨A2,T,rfl⟩:=M.out.own.form;have bX:=M.out.bx;have AN:=af (rv md 9 B M.out.own (by have:=M.out.size;omega) e1 aa aa aa);clear R;go_wp2;refine AN.out.mono ?_;rintro e w5⟨v5,rfl,o5,N⟩;have C:=af (M.out.app N o5);have F:=M.out.box.ez N λe=>(M.out.ne _ e).1 rfl;have wH:=F.cell;have Iw:=F.free;obtain⟨wI,wJ,rfl⟩:=o5.form;go_wp2;go_roundw;case rel=>exact⟨k+1,G+dI md,_,aa,aH,aa,by rw[Is.out,<-aiK];exact C.out⟩
     case measure=>exact bg
    ·have ST:k=4:=by omega
     subst ST;rw[List.take_of_length_le aa] at M;go_wp2;go_meet;exact⟨u,G,aa,by rw[HP.out];exact M⟩
 case rest=>
 obtain⟨u,c3,PA,o⟩:=hcut;obtain⟨K1,Iy⟩:∃z,K0++preB m=z:=⟨_,rfl⟩;rw[Iy] at o;have HK1:=af Iy;have bq:=o.out.aO;have ul:=hm.len;have hsl:(sub m 7 64).length=64:=bP aa;have Bt:=af hm;clear Iy hm V;go_wp2_with((with_reducible refine dY (ty:=83) _ 7 ?_ ?_ _ bq 64 ?_ _ (Gz.gu underlying83) ?_ uW ?_);exact rfl;exact rfl;omega;exact rfl);clear bq
 refine Z1 4 (λk y=>#[.slice A n cc,a5 (arr m),a9 ap,ci (some ⟨w.heap.size,0,none⟩),ci (some ⟨w.heap.size+1,0,none⟩),undef,u6,undef,u8,undef,y 10,y 11,u12,u13,u14,u15,u16,u17,u18,u19,u20,u21,u22,u23,u24,u25,u26,u27,u28,u29,u30,u31,u32,u33,u34,u35,u36,u37,u38,u39,u40,u41,u42,u43,u44,u45,u46,u47,u48,u49,u50,u51,u52,ci (some ⟨w.heap.size+1,7,none⟩),a5 (arr (sub m 7 64)),.int .i64 (k:Int),y 56,y 57,y 58,y 59,y 60,y 61,y 62,y 63,y 64,y 65,y 66,y 67,y 68,y 69,y 70,y 71,y 72,y 73,y 74,y 75,u76])
  (λk ds wr=>∃u G,k<=4/\G<=cnt+140+1100*k/\Hid (AM w (.slice A n cc) m B wr u G (K1++fD m k)/\eB w.heap.size wr ds)) rfl ⟨u,c3,aa,aa,by have h:=o.out;rw[show K1=K1++fD m 0 by simp[fD]] at h;exact⟨h,trivial⟩⟩ ?_
 rintro k y ds wr⟨u,G,hk,Pi,Iz⟩ K hK;dsimp only;have J:=af Iz.out.1;have HM:=af Iz.out.2;clear Iz o;obtain⟨A2,T,rfl⟩:=J.out.own.form;have HKK:=af hK;clear hK;by_cases H:k<4
 ·have ka:(k:Int)<4:=by omega
  have he:=λw=>Dk hsl H w;rw[z7 m H] at he;obtain⟨Be,DE⟩:=Bt.out.lvl k H;go_wp2_with((refine di (n:=16) rfl _ _ _ rfl _ rfl _ _ aD (Nb.new 82 16 _ (an 16 0) rfl) DE cL ?_;intro w9 bl g9 s9;rw[BE] at s9));obtain⟨rs,oP⟩:∃z,dm (lvl m k)=z:=⟨_,rfl⟩;have agJ:=Ec (lvl m k);rw[oP] at agJ;have q9:Q wr w9:=((Q.refl wr).alloc _).grown g9 (λj e=>by have:=aL e;omega);have A9:=af (J.out.q q9);have M9:=af (HM.out.q q9);have B9:Bl w9 wr.heap.size (lvl m k):=⟨bl.blk,DE⟩;have cC:=J.out.size;have hu:(Value.slice A2 G T).ownBlock≠some wr.heap.size:=λe=>absurd (J.out.own.As _ e) aa;have bX:=(A9.out.q ((Q.refl _).drew)).bx;have wK:=af oP;clear HM J bl g9 q9 oP he;refine et (λww=>ww.cell? ⟨w.heap.size,0,none⟩=some (.slice A2 G T)/\Bl ww wr.heap.size (lvl m k)) (λj=>decide (4<=j)) ai ⟨bX,B9.drew⟩ λhS=>?_;refine ah 0 (h:=?_);refine po (i:=1) (v:=a5 (arr ?UL)) rfl ai ai ai ai (λ_ _ _ h=>h) (xC aD rfl rfl λww hSw=>?hz1) hS ?SZ;case hz1=>((try dsimp only at hSw);go_split_ands;assumption)
  try simp only[Act.put,aix,aiG,aiQ]
  refine bh (k:=2) ai rfl rfl λP a=>?_;go_simp;refine(Xq DE).mono ?_;rintro e w5⟨rfl,q5⟩;rw[wK.out];have C:=af (A9.out.q ((Q.refl w9).drew.trans q5));have M5:=af (M9.out.q ((Q.refl w9).drew.trans q5));have B5:=B9.drew.q q5;refine a.out _ _ ⟨C.out.bx,B5⟩ λhS=>?_;clear a P q5;refine aV ?_;refine bh (k:=3) ai rfl rfl λP a=>?_;go_simp;refine(rv (rs.length:Int) 16 B C.out.own (by have:=C.out.size;omega) aa aa aa aa).mono ?_;rintro e w6⟨v6,rfl,o6,g6⟩;have A6:=af (C.out.app g6 o6);have S:=C.out.box.ez g6 λe=>(C.out.ne _ e).1 rfl;have M6:=af ((M5.out.ez C.out.own g6).set S v6);have B6:Bl w6 wr.heap.size (lvl m k):=⟨B5.blk.ez g6 hu,DE⟩;have Bv:=S.cell;have UM:=S.free;obtain⟨IA,IB,rfl⟩:=o6.form;refine a.out _ _ ⟨Bv 0,B6⟩ λhS=>?_;clear a P g6 o6 C M5 A9 M9;refine aV ?_;refine iu [4] 4 ai aq rfl ?_;have b7:Nb 82 16 (w6.setCell ⟨w.heap.size,0,none⟩ (.slice IA (G+dI rs.length) IB)) wr.heap.size (lvl m k):=Nb.aN ⟨B6.blk,DE⟩ (by show wr.heap.size≠w.heap.size;omega) _;go_wp2_with((with_reducible refine eQ (n:=16) rfl _ _ rfl _ rfl _ b7 _ (Gz.gu underlying82) rfl cL ?_));refine(RN DE).mono ?_;rintro e w8⟨b,rfl,qr,wL,hB8,q8⟩;have Fm:∀j,(Value.slice IA (G+dI rs.length) IB).ownBlock=some j->j<b:=λj hj=>cG (A6.out.own.As j hj) qr;have UN:b≠w.heap.size:=by have:=A6.out.size;omega
  have A8:=af (A6.out.q q8);have M8:=af (M6.out.q q8);have hc6:=gL (n:=(rs.length:Int)) aa aa;obtain⟨c6,TD⟩:∃z,G+dI rs.length=z:=⟨_,rfl⟩;obtain⟨L6,IC⟩:∃z,K1++fD m k++c7 rs.length 16=z:=⟨_,rfl⟩;have TE:K1++fD m k++c7 rs.length ((16:Nat):Int)=L6:=IC;have HL6:=af IC;rw[TE,TD] at A8;rw[TD] at Fm;clear A6 M6 q8 IC TE B6 b7 S Bv UM;go_wp2;have hw8:=A8.out.size
  refine adf (d:=11) (b:=b) (xs:=lvl m k) rfl wL hB8 Be (λpre W=>∃u c,c<=c6+62*pre.length/\AM w (.slice A n cc) m B W u c (L6++ix (jX pre))/\eB w.heap.size W ds/\(∀j,u.ownBlock=some j->j≠b)/\w8.heap.size<=W.heap.size)
   (λs X Y row⟨u,c,h1,h2,h3,h4,h5⟩ hg hr=>⟨u,c,h1,h2.row hg hr aa,h3.row M8.out.lt hg λr e=>(hr r e).1,h4,aJ h5 hg.size⟩) (λpre W⟨u,c,h1,h2,h3,h4,h5⟩=>h5)
   ⟨_,c6,aa,by have h:=A8.out;rw[show L6=L6++ix (jX []) by simp[jX,ix]] at h;exact h,M8.out,λj hj e=>by have:=Fm j hj;omega,au _⟩ ?assign ?body ?done
  case assign=>
   intro l x W K hK
   gi_wp2
   simpa using hK
  case body=>
   rintro l pre x W Bx⟨u,c,hc,o,hM,Fm,ID⟩ hBx Bw H;simp only[aix,aiG,aiQ];obtain⟨A3,cc3,rfl⟩:=o.own.form;rw[wK.out] at H;obtain⟨⟨z,v⟩,z0,z1,v0,v1,vn⟩:=x;dsimp only at z0 z1 v0 v1 vn Bw⊢;obtain⟨i0,i1⟩:=FM v0 v1 vn;have n1:=gL z0 aa;have n2:=gL i0 aa;have agK:=o.own.FR Bw aq;have bX:=o.bx;have cx0:W.cell? ⟨Bx,0,none⟩=some (.int .i64 z):=Bw.cell 0;have J:=af o;have HM:=af hM;have HU:=af Fm;clear o hM Fm
   gi_wp2
   refine⟨trivial,?_⟩;refine(CallsIn.inRound l (callsIn_wide.2 (rv z 23 B J.out.own (by have:=J.out.size;omega) z0 aa aa aa))).mono ?_;rintro e w5⟨v5,rfl,o5,N⟩;have C:=af (J.out.app N o5);have F:=J.out.box.ez N λe=>(J.out.ne _ e).1 rfl;have wH:=F.cell;have Iw:=F.free;have By:=(Bw.ez N agK).aN (p:=⟨w.heap.size,0,none⟩) (by show Bx≠w.heap.size;omega) v5;have PB:b<W.heap.size:=cG wL ID;have IE:=af ((KeepsOthers.RO J.out.own N).trans (uC w5 ⟨w.heap.size,0,none⟩ v5));have UO:=af ((Kb.dQ N.bK PB λe=>HU.out b e rfl).t (FP (W:=w5) v5 UN));have M5:=af ((HM.out.ez J.out.own N).set F v5)
   have UP:Hid (∀j,v5.ownBlock=some j->j≠b):=λj hj=>by
    rcases N.own with e|⟨i,e,hi⟩
    ·exact HU.out j (e.symm.trans hj)
    ·rw[hj] at e;injection e with e;omega
   obtain⟨wI,wJ,rfl⟩:=o5.form
   gi_wp2
   generalize w5.setCell ⟨w.heap.size,0,none⟩ (.slice wI (c+dI z) wJ)=W5 at C By IE UO M5⊢;have bX5:=C.out.bx;have bF5:=C.out.bf;have wk1:wrap64 (bu v-1)=bu v-1:=gV ⟨aa,aa⟩;have wk2:AS.wrap (bu v-1)=bu v-1:=aB _ ⟨aa,aa⟩;have cx1:W5.cell? ⟨Bx,1,none⟩=some (.int .i64 v):=By.cell 1;refine Ds (λww=>ww.cell? ⟨w.heap.size,0,none⟩=some (.slice wI (c+dI z) wJ)/\ww.cell? ⟨Bx,1,none⟩=some (.int .i64 v)) (λj=>decide (6<=j)) ai ai (λ⟨_,_,h⟩=>h) ⟨bX5,cx1⟩ λhS=>?_;refine ah 0 (h:=ah 1 (h:=ah 2 (h:=?_)));refine bh (k:=3) ai rfl rfl λP a=>?_;go_simp;refine(Di v aa aa).mono ?_;rintro e w4⟨rfl,rfl⟩;refine a.out _ _ hS λhS=>?_;clear a P;refine aV ?_;refine bh (k:=4) ai rfl rfl λP a=>?_;go_simp;refine a.out _ _ hS λhS=>?_;clear a P;refine aV ?_;refine bh (k:=5) ai rfl rfl λP a=>?_;go_simp;refine(rv (bu v-1) 30 B (C.out.q ((Q.refl _).drew)).own (by have:=(C.out.q ((Q.refl _).drew)).size;omega) aa aa aa aa).mono ?_;rintro e w6⟨v6,rfl,o6,g6⟩;have A6:=af ((C.out.q ((Q.refl _).drew)).app g6 o6);have S:=(C.out.q ((Q.refl _).drew)).box.ez g6 λe=>(C.out.ne _ e).1 rfl;have cx6:w6.cell? ⟨Bx,1,none⟩=some (.int .i64 v):=((By.q ((Q.refl _).drew)).ez g6 (C.out.own.FR By aq)).cell 1;have Bv:=S.cell;have UM:=S.free;have Bi:=IE.out.size;have IF:Q W5 W5.drew:=(Q.refl _).drew;have UQ:=af (((IE.out.trans (KeepsOthers.drew W5)).trans (KeepsOthers.RO (C.out.q IF).own g6)).trans (uC w6 ⟨w.heap.size,0,none⟩ v6));have kb6:=af ((UO.out.t (show Kb b W5 w6 from Kb.dQ (W:=W5.drew) g6.bK (show b<W5.heap.size by omega) λe=>UP.out b e rfl)).t (FP (W:=w6) v6 UN));have M6:=af (((M5.out.q IF).ez (C.out.q IF).own g6).set S v6)
   have hu6:Hid (∀j,v6.ownBlock=some j->j≠b):=λj hj=>by
    rcases g6.own with e|⟨i,e,hi⟩
    ·exact UP.out j (e.symm.trans hj)
    ·rw[hj] at e;injection e with e;have:W5.drew.heap.size=W5.heap.size:=rfl;omega
   obtain⟨IA,IB,rfl⟩:=o6.form;refine a.out _ _ ⟨Bv 0,cx6⟩ λhS=>?_;clear a P;refine aV ?_;refine iu [6] 6 ai aq rfl ?_;go_wp2;refine⟨UQ.out.from _,kb6.out,_,c+dI z+dI (bu v-1),?_,?_,M6.out,hu6.out,aJ ID UQ.out.size⟩
   ·rw[aiw,List.length_singleton];omega
   ·have h:=A6.out;rw[Ei,YP,<-aiK,<-aiK];exact h
  case done=>
   rintro D ys W hD qJ⟨u,c,hc,o,hM,Fm,ID⟩ hD'
   have hlen:ys.length=rs.length:=by have:=congrArg List.length qJ;rw[wK.out] at this;simpa[jX] using this
   rw[hlen] at hc;rw[qJ,wK.out,<-HL6.out] at o;have R:=Ef m k;unfold lH at R;rw[wK.out] at R;have e:K1++fD m k++c7 rs.length 16++ix rs=K1++fD m (k+1):=by rw[R];simp
   rw[e] at o;have J:=af o
   have HM:=af (hM.more (D:=D) (λd hd he=>by obtain⟨E,h1,h2⟩:=M8.out.lt d hd;rw[he] at h1;injection h1 with h1;omega) aa hD')
   clear o hM e R;dsimp only;go_wp2;exact HKK.out _ _ rfl ⟨u,c,aa,aa,J.out,HM.out⟩ H
 ·have ST:k=4:=by omega
  subst ST
  have qI:K1++fD m 4=bs++eU ap m:=by unfold eU;rw[if_neg HS.out,<-HK1.out,<-RT.out];simp
  rw[qI] at J;obtain⟨d4,hd4⟩:∃d,G=cnt+d:=⟨G-cnt,by have:=J.out.own.1;have:=HO.out.1;simp at*;omega⟩;subst hd4;have bX:=J.out.bx;clear qI;go_wp2;refine MD wr ds wr HM.out (KD.refl _ _) HM.out.all λW' I=>⟨_,results_tmp rfl _ _ _,?_⟩;refine⟨_,rfl,d4,aa,?_,J.out.ez.kd I (au _)⟩;exact J.out.own.Ft λg cs t' f hc _=>I.cells hc
def Xv(o:az 154 2 w B (Y A n cc) cnt bs)(x:B<=w.heap.size)(hm:MV m)(d:al m 0=0)(f:cnt<=90000000):
  UL Gz.prog 137 #[Y A n cc,a5 (arr m),a9 false] w λe w'=>∃v' k,e=be v'/\k<=5000/\az 154 2 w' B v' (cnt+k) (bs++eU false m)/\bC (Y A n cc) w v' w':=by
 have a:=af (AM.new w A n cc m B bs o hm.len);have h:Hid (eU false m=[0,0]):=by unfold Hid eU;rw[if_pos ⟨rfl,d⟩]
 have c0:=a.out.aO.at 0 aa;rw[sub_one,d] at c0;have y:=a.out.bx;have p:=a.out.own;have r:=a.out.size
 have b:∀j,j<[(0:Int),0].length->(((w.alloc (ac #[Y A n cc] 118)).alloc (ac (arr m) 85)).alloc (ac (arr [0,0]) 154)).cell? ((⟨w.heap.size+1+1,0,none⟩:aiI).add j)=some (U O ([(0:Int),0][j]?.getD 0)):=λj s=>by have:=iJ ((w.alloc (ac #[Y A n cc] 118)).alloc (ac (arr m) 85)) [0,0] 154 j s;exact yg
 refine JI (Gz.gf func137) rfl ?_;simp only[ntmps137,List.size_toArray,aiS,akc,Nat.reduceAdd,Nat.reduceSub,akH,akI,List.push_toArray,akZ,ajM,ajn];go_wp2_with(at_builtin;go_loud (refine fN rfl rfl (Gz.gu underlying118) gJ rfl aq aq rfl (p.alloc _) ⟨_,0,none⟩ [0,0] 1 rfl rfl ?_ ?_ b ?_;omega;(simp only[BE];omega);intro z w3 i t));have l:=af ((a.out.ez.q ((Q.refl _).alloc (ac (arr [0,0]) 154))).trans t);refine⟨_,results_tmp rfl _ _ _,?_⟩
 first
  |exact⟨_,1,rfl,aa,by rw[h.out];exact i,l.out⟩
  |exact⟨_,rfl,1,aa,by rw[h.out];exact i,l.out⟩
def X8{ap:Bool}(b:az 154 2 w B (Y A n cc) cnt bs)(d:B<=w.heap.size)(hm:MV m)(hi:ap=true->al m 0=2)(a:cnt<=90000000):
  UL Gz.prog 137 #[Y A n cc,a5 (arr m),a9 ap] w λe w'=>∃v' k,e=be v'/\k<=5000/\az 154 2 w' B v' (cnt+k) (bs++eU ap m)/\bC (Y A n cc) w v' w':=by
 by_cases f:ap=false/\al m 0=0
 ·obtain⟨rfl,h0⟩:=f;exact Xv b d hm h0 a
 ·exact Xu b d hm hi f a
end
section
open Go.RowKit Go.WideShapes Go.ChangeShapes
abbrev vN(e:aZ)(ov:rl):Array rl:=eo ⟨e.low,e.span,e.ch,[]⟩ ov
structure EI(w:ns)(g:Nat)(e:aZ)(B:Nat)(ov:rl):Prop where
 blk:ak w g 218 (vN e ov)
 out:aK w B ov e.out.length e.out
 len:e.ch.length=40
 og:ov.ownBlock≠some g
 le:B<=g
section
variable{w w':ns}{g B:Nat}{e:aZ}{ov:rl}
def EI.q(k:EI w g e B ov)(hq:Q w w'):EI w' g e B ov:=⟨k.blk.q hq,k.out.q hq,k.len,k.og,k.le⟩
def EI.low(k:EI w g e B ov):w.cell? ⟨g,0,none⟩=some (.int .u64 e.low):=(k.blk.cell 0).trans FJ
def EI.span(k:EI w g e B ov):w.cell? ⟨g,1,none⟩=some (.int .u64 e.span):=(k.blk.cell 1).trans Rz
def EI.jl(k:EI w g e B ov)(i:Nat)(hi:i<40):w.cell? ⟨g,2+i,none⟩=some (U O (e.ch[i]?.getD 0)):=(k.blk.cell (2+i)).trans (RD k.len hi)
def EI.lK(k:EI w g e B ov):w.cell? ⟨g,42,none⟩=some ov:=(k.blk.cell 42).trans (FK k.len)
def EI.free(k:EI w g e B ov)(i:Nat):w.frozen? ⟨g,i,none⟩=false:=k.blk.free i
def EI.iO(k:EI w g e B ov)(x:Int):EI (w.setCell ⟨g,0,none⟩ (.int .u64 x)) g {e with low:=x} B ov:=
 ⟨by have:=k.blk.set 0 (.int .u64 x);rw[Ok] at this;exact this,k.out.other (jJ w ⟨g,0,none⟩ _) (.inr k.og),k.len,k.og,k.le⟩
def EI.fc(k:EI w g e B ov)(x:Int):EI (w.setCell ⟨g,1,none⟩ (.int .u64 x)) g {e with span:=x} B ov:=
 ⟨by have:=k.blk.set 1 (.int .u64 x);rw[Ol] at this;exact this,k.out.other (jJ w ⟨g,1,none⟩ _) (.inr k.og),k.len,k.og,k.le⟩
def EI.lG(k:EI w g e B ov)(i:Nat)(hi:i<40)(x:Int):EI (w.setCell ⟨g,2+i,none⟩ (U O x)) g {e with ch:=e.ch.set i x} B ov:=
 ⟨by have:=k.blk.set (2+i) (U O x);rw[Om k.len hi] at this;exact this,k.out.other (jJ w ⟨g,2+i,none⟩ _) (.inr k.og),by simp[k.len],k.og,k.le⟩
def EI.vL{o:Nat}(k:EI w g {e with out:=xs} B (Y (some ⟨o,0,none⟩) n c))(a:n=xs.length)(i:Nat)(x:Int):EI (w.setCell ⟨o,i,none⟩ (.int .u8 x)) g {e with out:=xs.set i x} B (Y (some ⟨o,0,none⟩) n c):=by subst a;have b:g≠o:=λe=>k.og (by rw[e];rfl);refine⟨k.blk.aN b _,?_,k.len,k.og,k.le⟩;have:=k.out.set i x;rw[List.length_set];exact this
def EI.iP(k:EI w g e B ov):kt w g=(16777216-e.span).toNat:=Cf
end
def EI.appended{W d:ns}{a b:Nat}{e:aZ}{x:Int}(o:e.out.length=n)(k:EI w g e B ov)(hq:Q w W)
  (f:d.ownsRow B 5 1 (Y (some ⟨a,0,none⟩) (n+1) b) (n+1) (e.out.map (.int .u8)++[.int .u8 x]))(j:W.grownBy d ov.ownBlock)(h:ov.ownBlock=some a\/a=W.heap.size):
  EI (d.setCell ⟨g,42,none⟩ (Y (some ⟨a,0,none⟩) (n+1) b)) g {e with out:=e.out++[x]} B (Y (some ⟨a,0,none⟩) (n+1) b):=by
 subst o;have p:=k.blk.lt;have r:=hq.size
 have i:a≠g:=by
  rcases h with l|l
  ·intro s;exact k.og (by rw[l,s])
  ·omega
 have t:=(k.blk.q hq).grown j λe=>k.og e.symm;have y:aK d B (Y (some ⟨a,0,none⟩) (e.out.length+1) b) (e.out.length+1) (e.out++[x]):=⟨aj,by simpa using f⟩;refine⟨by have:=t.set 42 (Y (some ⟨a,0,none⟩) (e.out.length+1) b);rw[On [] k.len] at this;exact this,?_,k.len,λe=>i lW,k.le⟩;have:=y.other (jJ d ⟨g,42,none⟩ (Y (some ⟨a,0,none⟩) (e.out.length+1) b)) (.inr λe=>i lW);rw[aiw];exact this
def TG{p:Prop}(h:p:=by go_region_law (refine step_append_lies _ rfl _ _ 52 rfl B 5 i0 (.int .u8 0) 1 1 (Gz.gu underlying52) vM rt hz1 hz2 rfl (by decide) (.slice AA nn cA) nn (e.out.map (.int .u8)) (by rfl) (by first|exact(KO.out.alloc _).2|exact(KO.out.alloc _).drew.2|exact(KO.out.drew.alloc _).2) ⟨w.heap.size,0,none⟩ 1 1 [.int .u8 hi] (by rfl) (by rfl) (cell_one_new _ _ _) (λu hu=>by simp at hu;rw[hu];rfl) (by decide) (by unfold maxLen;omega) (by omega) (by simp;omega) _ rfl ?_;intro x y z b a d j;have l:=af (EI.appended wA.out K.out (by exact(by repeat(first|exact Q.refl _|assumption|refine Q.drewN ?_ _|refine Q.drew ?_|refine Q.alloc ?_ _|refine Q.trans ?_ (by assumption)|refine Q.set ?_ (by first|exact au _|omega|(simp;done)|(simp;omega)) _))) b a d);have f:=(K.out.blk.q (by exact(by repeat(first|exact Q.refl _|assumption|refine Q.drewN ?_ _|refine Q.drew ?_|refine Q.alloc ?_ _|refine Q.trans ?_ (by assumption)|refine Q.set ?_ (by first|exact au _|omega|(simp;done)|(simp;omega)) _)))).grown a λe=>K.out.og e.symm;have o:=(f.cell 0).trans FJ;have i:=(f.cell 42).trans (FK K.out.len);have r:=f.free;have s:=af (Q.grown (QQ.out.trans (by exact(by repeat(first|exact Q.refl _|assumption|refine Q.drewN ?_ _|refine Q.drew ?_|refine Q.alloc ?_ _|refine Q.trans ?_ (by assumption)|refine Q.set ?_ (by first|exact au _|omega|(simp;done)|(simp;omega)) _)))) a λk t=>aJ hB (K.out.out.2.lt k t).1);clear b a d f);all_goals(go_wp2;rw[UR.out];refine bodyPost_end (v:=.tuple #[]) (by simp[results,results166,go_sem]) rfl ⟨rfl,⟨_,by rw[HP.out];exact l.out.iO (lo*256)⟩,(s.out.set (by have:=K.out.le;show W0.heap.size<=g;omega) _).set (by have:=K.out.le;show W0.heap.size<=g;omega) _⟩)):p:=h
def abA{e:aZ}(k:EI w g e B ov)(ok:cO e)(q:Q W0 w)(hB:W0.heap.size<=B)(y:e.low<4294967296)(p:e.out.length<=1000000):
  UL Gz.prog 166 #[ci (some ⟨g,0,none⟩)] w λr w'=>r=be (dl #[])/\(∃d,EI w' g (bT e) B d)/\Q W0 w':=by
 have f:bT e={e with low:=e.low%16777216*256,out:=e.out++[e.low/16777216%256]}:=by unfold bT;rw[if_neg (by omega)]
 have c0:=k.low;have s:=k.lK;have C:=k.free;have l:=ok.l0;have D:=ok.l1;have o:=ok.lo;obtain⟨i0,vM,rt,hz1,hz2⟩:=info_parts zf;have h:=Ge e.low l aa;obtain⟨hi,i⟩:∃z,e.low/16777216=z:=⟨_,rfl⟩;obtain⟨lo,a⟩:∃z,e.low%16777216=z:=⟨_,rfl⟩;have E:0<=hi/\hi<=255:=aa;have F:0<=lo/\lo<=16777215:=aa;have G:ajU.wrap hi=hi:=xF;have wi:ajq.wrap hi=hi:=u64_in aa aa;have H:ajq.wrap (lo*256)=lo*256:=u64_in aa aa;rw[a] at h;rw[i,a,show hi%256=hi by omega] at f;obtain⟨AA,cA,rfl⟩:=k.out.form;obtain⟨nn,b⟩:∃z,e.out.length=z:=⟨_,rfl⟩;have j:=k.out;rw[b] at j s p k;have K:=af k;have HP:=af f;have QQ:=af q;have t:B<=w.heap.size:=by have:=k.le;have:=k.blk.lt;omega
 have x:=k.blk.lt;have wA:=af b;have KO:=af j;have UR:=af h;have AN:=af (SJ l aa);clear k f q a j b h;go_enter Gz.gf func166,ntmps166;go_wp2;exact TG
def abB{e:aZ}(k:EI w g e B ov)(ok:cO e)(q:Q W0 w)(hB:W0.heap.size<=B)(hl:4294967296<=e.low)(hn:e.out.length<=1000000):
  UL Gz.prog 166 #[ci (some ⟨g,0,none⟩)] w λr w'=>r=be (dl #[])/\(∃Ij,EI w' g (bT e) B Ij)/\Q W0 w':=by
 have hP:bT e={e with low:=(e.low-4294967296)%16777216*256,out:=fV e.out++[(e.low-4294967296)/16777216%256]}:=by unfold bT;rw[if_pos (by omega)]
 have c0:=k.low;have N:=k.lK;have hf:=k.free;have l0:=ok.l0;have l1:=ok.l1;have agC:=ok.lo;obtain⟨i0,vM,rt,hz1,hz2⟩:=info_parts zf;obtain⟨lw,l⟩:∃z,e.low-4294967296=z:=⟨_,rfl⟩;have ah2:0<=lw/\lw<4294967296:=aa;rw[l] at hP;have wa:=Ge lw aa aa;obtain⟨hi,Bz⟩:∃z,lw/16777216=z:=⟨_,rfl⟩;obtain⟨lo,D⟩:∃z,lw%16777216=z:=⟨_,rfl⟩;have b1:0<=hi/\hi<=255:=aa;have b2:0<=lo/\lo<=16777215:=aa;have wb:ajU.wrap hi=hi:=xF;have wi:ajq.wrap hi=hi:=u64_in aa aa;rw[D] at wa;rw[Bz,D,show hi%256=hi by omega] at hP;obtain⟨xr,P,Ik⟩:=ok.room hl
 have R:0<e.out.length:=by have:=List.length_pos_of_mem P;simpa using this
 rcases k.out.dD with⟨_,h0⟩|⟨o,co,rfl,UD,Bn,oK,UE⟩
 ·omega
 have K:=af k;have QQ:=af q;have HP:=af hP;have S:=af ok;have UR:=af wa;obtain⟨n,b⟩:∃n,e.out.length=n:=⟨_,rfl⟩;rw[b] at N hn R oK;have hni:(0:Int)<(n:Int):=aa;have s:=af b;have HLW:=af l;have wlw:ajq.wrap (e.low-4294967296)=lw:=by rw[l];exact u64_in (by omega) (by omega)
 clear k q hP D ok b l wa;go_enter Gz.gf func166,ntmps166;go_wp2
 have E:Hid (EI (w.setCell ⟨g,0,none⟩ (.int .u64 lw)) g {e with low:=lw} B (Y (some ⟨o,0,none⟩) n co)):=by have:=K.out.iO lw;rw[s.out] at this;exact this
 have F:Hid (Q W0 (w.setCell ⟨g,0,none⟩ (.int .u64 lw))):=QQ.out.set (by have:=K.out.le;show W0.heap.size<=g;omega) _;generalize w.setCell ⟨g,0,none⟩ (.int .u64 lw)=w2 at E F⊢;clear Bn c0 N hf;have T:Hid (∃x∈e.out.reverse,x≠255):=⟨xr,P,Ik⟩;have t:=af S.out.out;go_loopw[2] (λi wr=>∃(j:Nat)(pre:List Int),j+pre.length=n/\i=U O ((n:Int)-1-(j:Int))/\Hid (e.out=pre++an j 255/\EI wr g {e with low:=lw,out:=pre++an j 0} B (Y (some ⟨o,0,none⟩) n co)/\Q W0 wr)) (λi _=>(intOf i+1).toNat)
 case atStart=>exact⟨0,e.out,by rw[s.out];omega,aj,aj,by simpa using E.out,F.out⟩
 case round=>
  obtain⟨j,pre,hj,rfl,hK⟩:=hrel;obtain⟨k1,k2,k3⟩:=hK.out;clear hK E F;rcases List.eq_nil_or_concat pre with rfl|⟨i8,x,rfl⟩
  ·obtain⟨y,hy,hyn⟩:=T.out;rw[k1] at hy;simp at hy;omega
  ·rw[List.concat_eq_append] at k1 k2 hj;have hpl:i8.length+1+j=n:=by simp at hj;omega
   have qE:=t.out x (by rw[k1];simp);obtain⟨p,hp⟩:∃p,i8.length=p:=⟨_,rfl⟩;have V:(n:Int)-1-(j:Int)=(p:Int):=aa;have Uv:(p:Int)<(n:Int):=aa;have hlen:(i8++[x]++an j 0).length=n:=aA;have N:=k2.lK
   have G:aK wr B (Y (some ⟨o,0,none⟩) n co) n (i8++[x]++an j 0):=by have h:=k2.out;dsimp only at h;rw[hlen] at h;exact h
   have cx:=G.at p aa;have oJ:(i8++[x]++an j 0)[p]?.getD 0=x:=by subst hp;simp
   rw[oJ] at cx;have fo:=G.free p;have wB:o≠g:=λh=>k2.og (by rw[<-h];rfl);have K1:=af k1;have K3:=af k3;rw[V];by_cases hx:x=255
   ·subst hx;have tw:=EI.vL (e:={e with low:=lw}) (xs:=i8++[255]++an j 0) k2 hlen.symm p 0
    have f9:(i8++[255]++an j 0).set p 0=i8++an (j+1) (0:Int):=by subst hp;simp[List.replicate_succ]
    rw[f9] at tw;have UA:=af tw;have w8:ajU.wrap (255+1)=0:=rfl;exact J9
   ·have C:fV e.out=i8++[x+1]++an j 0:=by rw[K1.out,QM j i8 hx]
    have w8:ajU.wrap (x+1)=x+1:=by show(x+1)%256=x+1;omega
    have w9:(x+1 !=0)=true:=aA;have K2:=af k2;have HG:=af oJ;clear k1 k2 k3 oJ
    have X:(i8++[x]++an j 0).set p (x+1)=fV e.out:=by rw[C];subst hp;simp
    have a:=EI.vL (e:={e with low:=lw}) (xs:=i8++[x]++an j 0) K2.out hlen.symm p (x+1);rw[X] at a;have q5:Q W0 (wr.setCell ⟨o,p,none⟩ (.int .u8 (x+1))):=K3.out.set Cg _;have H:=af a;have I:=af q5;have Z:Hid ((fV e.out).length=n):=by rw[Hid,zU,s.out]
    clear a q5 X C hlen G;go_wp2;generalize wr.setCell ⟨o,p,none⟩ (.int .u8 (x+1))=w at H I⊢;have a:=H.out;have b:=Z.out;obtain⟨e1,d⟩:∃z:aZ,{e with low:=lw,out:=fV e.out}=z:=⟨_,rfl⟩;have wD:bT e={{e1 with out:=e1.out++[hi]} with low:=lo*256}:=by rw[HP.out,<-d]
    have HP:=af wD;have GR:e1.low=lw:=by rw[<-d]
    have f:e1.out.length=n:=by rw[<-d];exact b
    rw[d] at a;clear wD d b Z H S t T s HLW N;obtain⟨AA,J⟩:∃z:Option aiI,some ⟨o,0,none⟩=z:=⟨_,rfl⟩;rw[J] at a;(try rw[J])
    have K:=af a;have QQ:=I;have c0:=a.low;rw[GR] at c0;have N:=a.lK;have hf:=a.free;have G:=a.out;rw[f] at G;have KO:=af G;have wA:=af f;have qF:=a.blk.lt;have hBs:B<=w.heap.size:=by have:=a.le;omega
    obtain⟨nn,M⟩:∃z,n=z:=⟨_,rfl⟩;subst M;obtain⟨nn,M⟩:∃z,z=n:=⟨_,rfl⟩;subst M;obtain⟨cA,Il⟩:∃z,z=co:=⟨_,rfl⟩;subst Il;obtain⟨e,Im⟩:∃z,z=e1:=⟨_,rfl⟩;subst Im;clear a G f J I fo cx;exact TG
def Fu{e:aZ}(k:EI w g e B ov)(ok:cO e)(q:Q W0 w)(b:W0.heap.size<=B)(d:e.out.length<=1000000):
  UL Gz.prog 166 #[ci (some ⟨g,0,none⟩)] w λr w'=>r=be (dl #[])/\(∃a,EI w' g (bT e) B a)/\Q W0 w':=by
 by_cases f:e.low<4294967296
 ·exact abA k ok q b f d
 ·exact abB k ok q b aa d
end
section
open Go.RowKit Go.WideShapes Go.ChangeShapes
def QS(x y:Int):arr [x,y]=#[U O x,U O y]:=rfl
def YQ(h:az 154 2 w B (Y (some ⟨g,0,none⟩) n c) n xs)(f:gR xs=true)(D:n<=20000):
  UL Gz.prog 164 #[Y (some ⟨g,0,none⟩) n c] w λe w'=>e=be (a9 true)/\Q w w':=by
 have l:=af (rZ n xs h.1 f);have E:=h.1;have H:=af h;have o:(n:Int)<=20000:=aa;have p:decide ((20000:Int)<(n:Int))=false:=decide_eq_false aa;clear h f;go_enter Gz.gf func164,ntmps164;go_wp2;go_loopw[10] (λi wr=>∃k:Nat,k<=n/\i=U O k/\Hid (Q w wr)) (λi _=>n-(intOf i).toNat)
 case atStart=>exact⟨0,aa,rfl,Q.refl _⟩
 case round=>
  obtain⟨k,F,rfl,hK⟩:=hrel;have hq:=hK.out;clear hK;by_cases b:k<n
  ·have r:(k:Int)<n:=by omega
   obtain⟨s,t,j⟩:=l.out k b;have z:=H.out.q hq;have a:=kW xs (k*2) aa;generalize xs[k*2]?.getD 0=x at s t a;generalize xs[k*2+1]?.getD 0=y at j a;have d1:decide (x<0)=false:=decide_eq_false aa;have d2:decide (40<=x)=false:=decide_eq_false aa;have C:=af hq;clear hq;rcases j with rfl|rfl
   all_goals
    go_wp2_with(refine C0 rfl rfl (k*2) rfl z aa (Gz.gu underlying154) rfl ze ?_;rw[a,QS]);go_roundw;case rel=>exact⟨k+1,aa,aH,by have:=C.out;exact aR⟩
    case measure=>exact bg
  ·have d:k=n:=by omega
   subst d;go_wp2;go_ret;exact⟨rfl,hq⟩
end
section
open Go.RowKit Go.WideShapes Go.ChangeShapes
def adg{e:aZ}(k:EI w g e B ov)(ok:cO e)(x:16777216<=e.span)(q:Q W0 w)(hB:W0.heap.size<=B)(s:c<40)(hn:e.out.length=n)(wu:n<=900000):
  UL Gz.prog 165 #[ci (some ⟨g,0,none⟩),a5 #[U O (c:Int),U O 0]] w λr w'=>r=be (dl #[])/\(∃a,EI w' g (ib e c 0) B a)/\Q W0 w':=by
 obtain⟨M,N⟩:=ok.ch c s;have tz:=ok.hi;have In:=ok.l0;have Bo:=ok.l1;have hle:=k.le;have qF:=k.blk.lt;obtain⟨b1,b2,b3,b4⟩:=kX x ok.hi M N;have hM:=ok.mA x c 0 s;have HB:iy e c=e.span/4096*e.ch[c]?.getD 0:=rfl;have lm:(c:Int)<40:=aa;have P:=af λw R=>bound g c e.span (e.ch[c]?.getD 0) w R s x ok.hi M N;have HN:=af λb w R C hN=>Gf g (e.ch[c]?.getD 0) b w R C s hN;have h1:=k.q ((Q.refl w).alloc (ac #[U O (c:Int),U O 0] 154));have S:=q.alloc (ac #[U O (c:Int),U O 0] 154);have d:=ak.new w 154 #[U O (c:Int),U O 0];have j:ig e c 0={e with span:=iy e c,ch:=e.ch.set c (bj (e.ch[c]?.getD 0) 0)}:=by unfold ig;rw[if_pos rfl]
 have T:=af (MU (e.ch[c]?.getD 0) · M N);generalize D:e.ch[c]?.getD 0=pp at*;generalize V:e.span/4096*pp=J at*;have HM:=af hM;have l:=af j;have E:=af D;have X:=af HB;have Z:=af hn;clear k hM j HB D V ok hn q;go_enter Gz.gf func165,ntmps165;go_wp2;(generalize w.alloc (ac #[U O (c:Int),U O 0] 154)=w1 at h1 S d⊢;have c0:=h1.low;have c1:=h1.span;have ck:=h1.jl c s;rw[E.out] at ck;have C:=h1.free;have cb:=d.cell;have H1:=af h1;clear h1)
 go_quiet((go_at_call 177;exact nO ((P.out (w1.drewN _) ck).mono λ_ _ h=>⟨h.1,h.2.symm⟩)))
 (have y:=H1.out.q ((Q.refl w1).drewN nq);have x2:=S.drewN nq;have i:=d.drewN nq;generalize w1.drewN nq=w2 at y x2 i⊢;clear S c0 c1 ck C cb d H1;have c0:=y.low;have c1:=y.span;have C:=y.free;have cb:=i.cell;have H2:=af y;clear y)
 go_wp2;have F:=H2.out.fc J;have G:=i.aN (p:=⟨g,1,none⟩) mG (.int .u64 J);have x3:=x2.set (p:=⟨g,1,none⟩) ug (.int .u64 J);generalize w2.setCell ⟨g,1,none⟩ (.int .u64 J)=w3 at F x3 G⊢;clear H2 x2 i c0 c1 C cb;have t:=(F.q (Q.refl _).drew).jl c s;rw[show e.ch[c]?.getD 0=pp from E.out] at t;have H:=(F.q (Q.refl _).drew).free (2+c);have IG:=(G.q (Q.refl _).drew).cell;have H3:=af F;clear F;go_region_with (go_at_call 178;refine(HN.out 0 _ t H T.out).mono ?_;rintro e9 w9⟨rfl,rfl⟩);all_goals(have o:=(((H3.out.lG c s (bj pp 0)).q (Q.refl _).drew).q (Q.refl _).drew);have x4:=(x3.set (p:=⟨g,2+c,none⟩) ug (U O (bj pp 0))).drew.drew;generalize(w3.setCell ⟨g,2+c,none⟩ (U O (bj pp 0))).drew.drew=w4 at o x4⊢;have h4:EI w4 g (ig e c 0) B ov:=(by rw[l.out,X.out];exact o);clear o x3 t H IG H3;go_wp2;go_loopw[] (λwr=>∃(f:aZ)(a:rl),Hid (EI wr g f B a/\Q W0 wr/\cO f/\jv f=ib e c 0/\((f.out.length=n/\True)\/(f.out.length=n+1/\1048576<=f.span)\/(f.out.length=n+2/\16777216<=f.span)))) λwr=>kt wr g;(case atStart=>exact⟨_,ov,h4,x4,HM.out,rfl,.inl ⟨by rw[l.out];exact Z.out,trivial⟩⟩);(case round=>obtain⟨f,a,hK⟩:=hrel;obtain⟨z,K,I,k4,k5⟩:=hK.out;have e1:=z.span;have e2:=I.lo;have e3:=I.hi;have qG:=af z.iP;by_cases x:f.span<16777216;(case pos=>have K1:=af z;have K2:=af K;have K3:=af I;have K5:=af k5;have HT:=af (Fu z I K hB aa);clear z K I hK k5;go_wp2;refine HT.out.mono ?_;rintro e5 w5⟨rfl,⟨IR,o⟩,x5⟩;have f1:=o.span;have f2:=o.free;rw[uO f] at f1;have H5:=af o;have X5:=af x5;clear o x5;have wc:ajq.wrap (f.span*256)=f.span*256:=u64_in aa aa;go_wp2;go_roundw;(case rel=>exact⟨ll f,IR,H5.out.fc (f.span*256),X5.out.set xV _,K3.out.grow x,(zg e2 x).trans k4,by have h6:=K5.out;have:=pA f;show((bT f).out.length=n/\_)\/((bT f).out.length=n+1/\1048576<=f.span*256)\/((bT f).out.length=n+2/\16777216<=f.span*256);omega⟩);(case measure=>rw[qG.out,(H5.out.fc (f.span*256)).iP];show(16777216-f.span*256).toNat<(16777216-f.span).toNat;omega));(case neg=>have e4:=(zy aa).symm.trans k4;subst e4;go_wp2;refine akv (v:=dl #[]) (by simp[results,results165,go_sem]) rfl ?_;exact⟨rfl,⟨_,z⟩,K⟩)))
def adh{e:aZ}(k:EI w g e B ov)(ok:cO e)(y:16777216<=e.span)(q:Q W0 w)(hB:W0.heap.size<=B)(t:c<40)(hn:e.out.length=n)(wu:n<=900000):
  UL Gz.prog 165 #[ci (some ⟨g,0,none⟩),a5 #[U O (c:Int),U O 1]] w λr w'=>r=be (dl #[])/\(∃d,EI w' g (ib e c 1) B d)/\Q W0 w':=by
 obtain⟨M,N⟩:=ok.ch c t;have tz:=ok.hi;have In:=ok.l0;have Bo:=ok.l1;have hle:=k.le;have qF:=k.blk.lt;obtain⟨b1,b2,b3,b4⟩:=kX y ok.hi M N;have hM:=ok.mA y c 1 t;have HB:iy e c=e.span/4096*e.ch[c]?.getD 0:=rfl;have lm:(c:Int)<40:=aa;have P:=af λw R=>bound g c e.span (e.ch[c]?.getD 0) w R t y ok.hi M N;have HN:=af λb w R D hN=>Gf g (e.ch[c]?.getD 0) b w R D t hN;have h1:=k.q ((Q.refl w).alloc (ac #[U O (c:Int),U O 1] 154));have S:=q.alloc (ac #[U O (c:Int),U O 1] 154);have i:=ak.new w 154 #[U O (c:Int),U O 1];have l:ig e c 1={e with low:=e.low+iy e c,span:=e.span-iy e c,ch:=e.ch.set c (bj (e.ch[c]?.getD 0) 1)}:=by unfold ig;rw[if_neg (by decide)]
 have T:=af (MW (e.ch[c]?.getD 0) · M N);generalize E:e.ch[c]?.getD 0=pp at*;generalize V:e.span/4096*pp=a at*;have HM:=af hM;have o:=af l;have F:=af E;have X:=af HB;have Z:=af hn;clear k hM l HB E V ok hn q;have wa:ajq.wrap (e.low+a)=e.low+a:=u64_in aa aa;have wb:ajq.wrap (e.span-a)=e.span-a:=u64_in aa aa;go_enter Gz.gf func165,ntmps165;go_wp2;(generalize w.alloc (ac #[U O (c:Int),U O 1] 154)=w1 at h1 S i⊢;have c0:=h1.low;have c1:=h1.span;have ck:=h1.jl c t;rw[F.out] at ck;have D:=h1.free;have cb:=i.cell;have H1:=af h1;clear h1)
 go_quiet((go_at_call 177;exact nO ((P.out (w1.drewN _) ck).mono λ_ _ h=>⟨h.1,h.2.symm⟩)))
 (have z:=H1.out.q ((Q.refl w1).drewN nq);have x2:=S.drewN nq;have j:=i.drewN nq;generalize w1.drewN nq=w2 at z x2 j⊢;clear S c0 c1 ck D cb i H1;have c0:=z.low;have c1:=z.span;have D:=z.free;have cb:=j.cell;have H2:=af z;clear z)
 go_wp2;have G:=(H2.out.iO (e.low+a)).fc (e.span-a);have H:=(j.aN (p:=⟨g,0,none⟩) mG (.int .u64 (e.low+a))).aN (p:=⟨g,1,none⟩) mG (.int .u64 (e.span-a));have x3:=(x2.set (p:=⟨g,0,none⟩) ug (.int .u64 (e.low+a))).set (p:=⟨g,1,none⟩) ug (.int .u64 (e.span-a));generalize(w2.setCell ⟨g,0,none⟩ (.int .u64 (e.low+a))).setCell ⟨g,1,none⟩ (.int .u64 (e.span-a))=w3 at G x3 H⊢;clear H2 x2 j c0 c1 D cb;have x:=(G.q (Q.refl _).drew).jl c t;rw[show e.ch[c]?.getD 0=pp from F.out] at x;have I:=(G.q (Q.refl _).drew).free (2+c);have IG:=(H.q (Q.refl _).drew).cell;have H3:=af G;clear G;go_region_with (go_at_call 178;refine(HN.out 1 _ x I T.out).mono ?_;rintro e9 w9⟨rfl,rfl⟩);all_goals(have s:=(((H3.out.lG c t (bj pp 1)).q (Q.refl _).drew).q (Q.refl _).drew);have x4:=(x3.set (p:=⟨g,2+c,none⟩) ug (U O (bj pp 1))).drew.drew;generalize(w3.setCell ⟨g,2+c,none⟩ (U O (bj pp 1))).drew.drew=w4 at s x4⊢;have h4:EI w4 g (ig e c 1) B ov:=(by rw[o.out,X.out];exact s);clear s x3 x I IG H3;go_wp2;go_loopw[] (λwr=>∃(f:aZ)(d:rl),Hid (EI wr g f B d/\Q W0 wr/\cO f/\jv f=ib e c 1/\((f.out.length=n/\True)\/(f.out.length=n+1/\1048576<=f.span)\/(f.out.length=n+2/\16777216<=f.span)))) λwr=>kt wr g;(case atStart=>exact⟨_,ov,h4,x4,HM.out,rfl,.inl ⟨by rw[o.out];exact Z.out,trivial⟩⟩);(case round=>obtain⟨f,d,hK⟩:=hrel;obtain⟨C,K,J,k4,k5⟩:=hK.out;have e1:=C.span;have e2:=J.lo;have e3:=J.hi;have qG:=af C.iP;by_cases y:f.span<16777216;(case pos=>have K1:=af C;have K2:=af K;have K3:=af J;have K5:=af k5;have HT:=af (Fu C J K hB aa);clear C K J hK k5;go_wp2;refine HT.out.mono ?_;rintro e5 w5⟨rfl,⟨IR,s⟩,x5⟩;have f1:=s.span;have f2:=s.free;rw[uO f] at f1;have H5:=af s;have X5:=af x5;clear s x5;have wc:ajq.wrap (f.span*256)=f.span*256:=u64_in aa aa;go_wp2;go_roundw;(case rel=>exact⟨ll f,IR,H5.out.fc (f.span*256),X5.out.set xV _,K3.out.grow y,(zg e2 y).trans k4,by have h6:=K5.out;have:=pA f;show((bT f).out.length=n/\_)\/((bT f).out.length=n+1/\1048576<=f.span*256)\/((bT f).out.length=n+2/\16777216<=f.span*256);omega⟩);(case measure=>rw[qG.out,(H5.out.fc (f.span*256)).iP];show(16777216-f.span*256).toNat<(16777216-f.span).toNat;omega));(case neg=>have e4:=(zy aa).symm.trans k4;subst e4;go_wp2;refine akv (v:=dl #[]) (by simp[results,results165,go_sem]) rfl ?_;exact⟨rfl,⟨_,C⟩,K⟩)))
def encode(W0 w:ns)(g B c n:Nat)(b:Int)(e:aZ)(ov:rl)(k:EI w g e B ov)(ok:cO e)(f:16777216<=e.span)(q:Q W0 w)(h:W0.heap.size<=B)(i:c<40)(l:b=0\/b=1)(j:e.out.length=n)(a:n<=900000):
  UL Gz.prog 165 #[ci (some ⟨g,0,none⟩),a5 #[U O (c:Int),U O b]] w λr w'=>r=be (dl #[])/\(∃d,EI w' g (ib e c b) B d)/\Q W0 w':=by
 rcases l with rfl|rfl
 ·exact adg k ok f q h i j a
 ·exact adh k ok f q h i j a
end
section
open Go.RowKit Go.WideShapes Go.ChangeShapes
def fw{P:Program}{t:TypeId}{cs cs':Array rl}{b:Array Oper}{rest:List Oper}{o:Oper}{a:Act}{j:Exit->Act->ns->Prop}(f:o.guard=none)(ty:TypeId)(x y:Operand)(k:o.op=.store ty x y)(l:a.eval x=ci (some ⟨g,0,none⟩))(v:rl)(p:a.eval y=v)(q:v=a5 cs')(h:ak w g t cs)(r:cs'.size=cs.size)(d:(cs'.all λx=>x.oneCell')=true)
  (hi:(P.info? ty).map (·.size)=some cs'.size)
  (hK:∀w',ak w' g t cs'->w.grownBy w' (some g)->w'.heap.size=w.heap.size->wpList P b j rest (a.put o.dst undef) w'):wpList P b j (o::rest) a w:=by
 subst q;have s:=run_storeVar_row (P:=P) w g t ty cs cs' h hi r.symm d;refine wpList_plain f λK i=>?_;unfold Oper.wp execOp;simp only[k,l,p,Instr.storeAt,Instr.sureAddr,s,Sem.run_bind,Sem.run_pure,Result.andThen_ok];refine i _ _ (hK _ ?_ ?_ ?_)
 ·unfold ak at h⊢;simp[World.setRow,Array.getElem?_modify,h]
 ·exact CO
 ·simp
def abC{e:aZ}:((vN e (Y A n c)).all λx=>x.oneCell')=true:=by unfold vN eo;rw[Array.all_append,Array.all_append,Fj];simp[Value.oneCell']
def abD:(Gz.prog.info? 218).map (·.size)=some (vN iQ (Y none 0 0)).size:=aC
def X9(h:az 154 2 w B (Y (some ⟨g,0,none⟩) n c) n xs)(G:gR xs=true)(hn:n<=20000):
  UL Gz.prog 138 #[Y (some ⟨g,0,none⟩) n c] w λe w'=>∃v',e=be v'/\aK w' w.heap.size v' (lJ xs).length (lJ xs)/\Q w w':=by
 have HG:=af (rZ n xs h.1 G);have R:=YQ h G hn;have S:=h.1;have H:=af h;clear h G;go_enter Gz.gf func138,ntmps138;go_wp2;refine R.mono ?_;rintro e w0⟨rfl,I⟩;clear R;go_wp2;refine(Ny).mono ?_;rintro e T⟨rfl,q1⟩;have hs:(arr oG).size=40:=rfl;have wM:=I.size;have pl:=q1.size;go_wp2_with(refine fw (cs':=vN iQ (Y none 0 0)) rfl _ _ _ rfl rfl _ rfl ?_ (ak.new _ _ _) rfl abC abD ?_;go_loud (kernel_rfl);intro V X Z s2);rw[BE] at s2;have q2:Q w V:=((I.trans q1).alloc _).grown Z (λk e=>by have:=aL e;omega);have es:EI V T.heap.size iQ w.heap.size (Y none 0 0):=⟨X,aK.nil _ _,rfl,by simp[Value.ownBlock],aa⟩;clear X Z;obtain⟨J,K⟩:∃z,T.heap.size=z:=⟨_,rfl⟩;rw[K] at es⊢;have o:=af es;have Q0:=af q2;clear es q2 q1 I;go_loopw[13] (λi wr=>∃(k:Nat)(e:aZ)(ov:rl),k<=n/\i=U O k/\Hid (EI wr J e w.heap.size ov/\Q w wr/\RE xs k e)) (λi _=>n-(intOf i).toNat)
 case atStart=>exact⟨0,iQ,_,aa,rfl,o.out,Q0.out,RE.zero xs⟩
 case round=>
  obtain⟨k,e,ov,hk,rfl,hK⟩:=hrel;obtain⟨F,p,d⟩:=hK.out;clear hK o Q0;by_cases f:k<n
  ·have ka:(k:Int)<n:=by omega
   obtain⟨a1,a2,a3⟩:=HG.out k f;have hl:=H.out.q p;have a:=kW xs (k*2) aa;have b:=d.succ S f a1 a2;generalize xs[k*2]?.getD 0=x at a1 a2 a b;generalize xs[k*2+1]?.getD 0=y at a3 a b;obtain⟨r,rfl⟩:∃r:Nat,x=(r:Int):=⟨x.toNat,aa⟩;rw[Int.toNat_natCast] at b;have l:=(Q.refl wr).alloc (ac #[U O (r:Int),U O y] 154);have HT:=af (encode w _ J w.heap.size r e.out.length y e ov (F.q l) d.ok d.span (p.trans l) (au _) aa a3 rfl (by have:=d.len;omega));have bb:=Nb.new 154 2 wr [(r:Int),y] rfl;have UB:=af b;clear b F p d l;go_wp2_with(first|(refine C0 rfl rfl (k*2) rfl hl aa (Gz.gu underlying154) rfl ze ?_;rw[a,QS])|((with_reducible refine eQ (n:=2) rfl _ _ rfl _ rfl _ bb _ (Gz.gu underlying154) rfl ze ?_)));exact Ka
  ·have M:k=n:=by omega
   rw[M] at d;have s:=d.full S;have t:=d.ok;have hle:=d.len;have C:=af s;have D:=af t;have K1:=af F;have K2:=af p;have wt:¬(k:Int)<n:=aa;clear d F p s t;go_wp2;go_loopw[20] (λi wr=>∃(j:Nat)(ov:rl),j<=4/\i=U O j/\Hid (EI wr J (mq j e) w.heap.size ov/\Q w wr)) (λi _=>4-(intOf i).toNat)
   case atStart=>exact⟨0,ov,aa,rfl,K1.out,K2.out⟩
   case round=>
    obtain⟨j,ov,hj,rfl,hK⟩:=hrel;obtain⟨y1,y2⟩:=hK.out;clear hK K1 K2;by_cases E:j<4
    ·have tu:(j:Int)<4:=by omega
     have HT:=af (Fu y1 (zW j D.out) y2 (au _) (by rw[zx];omega));exact Kd
    ·have N:j=4:=by omega
     rw[N] at y1;have c2:=y1.lK;have hje:¬(j:Int)<4:=aa;have P:=y1.out;rw[show(mq 4 e).out=lJ xs by rw[C.out];rfl] at P;have HO:=af P;clear y1 P E f D C;go_wp2;go_ret;exact⟨_,rfl,HO.out,y2⟩
end
end Go.Proofs.Q0
