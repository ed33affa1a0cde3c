import Derived.Test.YtjjdeakghpmpfaaGreatDoorK5
import Derived.Great.BuildSlice
set_option maxRecDepth 100000
set_option maxHeartbeats 8000000
set_option linter.all false
open Go.Value renaming int->U,slice->Y,bool->a9,agg->a5,pointer->ci,tuple->dl,iface->em
open Go.IntKind renaming i64->O
open Go.Obj renaming cells->ac
open Go.Ending renaming returned->be
open Go renaming Addr->aiI,Calls->UL,TypeId->EV,Value->rl,World->ns,bodyPost_ret->aiA,wpList->aja
open Go.RowKit renaming intOf->akw
open Go.World renaming size_alloc->BE
open List renaming append_assoc->aiK,length_cons->aiS,range->aiB,range_succ->aju
open Nat renaming shiftRight_eq_div_pow->ale
namespace Go.Proofs
def ra{p:Prop}(h:p:=by first|rfl|assumption):p:=h
def Cd{p:Prop}(h:p:=by rw[bO];exact fg):p:=h
abbrev pe:=@Option.isSome_iff_exists
def qW{p:Prop}(h:p:=by first|exact Nat.le_refl _|omega|(simp;done)|(simp;omega)):p:=h
abbrev uy:=@Go.World.cell?_alloc_new
def J5{p:Prop}(h:p:=by
  clear i9 hy hc;go_wp2_with(first|(go_at_call 51;(with_reducible refine(cj _ HA).mono ?_);rintro e w'⟨rfl,rfl⟩)|(at_builtin;refine tX rfl rfl w w.heap.size rfl (gt.alloc _) ⟨_,0,none⟩ rfl qW qW qW (i6.alloc _) (uy _ _ _ _) ?_;intro v' w' ho3 hq3 O' _;skip));go_roundw;case rel=>exact⟨k+1,n+1,aa,aH,by rw[Fd.out];exact ho3,hq3⟩
  case measure=>simp[intOf];omega):p:=h
def J6{p:Prop}(h:p:=by
  clear i9 hy hc;go_wp2_with(first|(go_at_call 51;(with_reducible refine(cj _ HA).mono ?_);rintro e w'⟨rfl,rfl⟩));go_roundw;case rel=>exact⟨k+1,n,aa,aH,by rw[Fd.out];exact gt,i6⟩
  case measure=>simp[intOf];omega):p:=h
def J7{p:Prop}(h:p:=by
  rcases gt.dD with⟨_,h0⟩|⟨g,c,rfl,_⟩
  ·omega
  ·go_wp2;go_ret;exact⟨g,c,rfl,gt,i6⟩):p:=h
def J8{p:Prop}(h:p:=by clear h2;clear G';go_wp2_with(first|(go_at_call 51;(with_reducible refine(cj _ HA).mono ?_);rintro e w'⟨rfl,rfl⟩)|(refine di (n:=16) rfl _ _ _ rfl _ rfl _ cU rfl aG rfl cL ?_;intro w9 b9 g9 s9));refine bodyPost_ret (j8 aD aD b9.blk (Gz.gu underlying82) rfl Cc) rfl ⟨?_,KQ.out.grown g9 λk e=>by have:=aL e;omega⟩;rw[HL.out];rfl):p:=h
end Go.Proofs
namespace Go.Proofs.Q0
open Go.Proofs.Tryz
variable{k g B c n:Nat}{xs:List Int}{w:ns}{A:Option aiI}{x y:Operand}{t:EV}{a:Act}{o:Oper}{rest:List Oper}{ops:Array Oper}{P:Program}{Q':Exit->Act->ns->Prop}
section
open Go.RowKit Go.WideShapes Go.ChangeShapes
def gw:List Int:=2::List.replicate 70 0
def take_set(h:k<xs.length)(v:Int):(xs.set k v).take (k+1)=xs.take k++[v]:=by rw[List.take_succ_eq_append_getElem lV];simp[List.take_set_of_le]
def PE:∀(b xs:List Int)(o:Nat),o+b.length<=xs.length->(upd xs o b).take (o+b.length)=xs.take o++b
 |[],xs,o,_=>by simp[upd]
 |y::b,xs,o,h=>by simp only[aiS] at h⊢;rw[upd,show o+(b.length+1)=o+1+b.length by omega,PE b _ (o+1) aA,take_set aa];simp
def fg:(Gz.prog.info? 85).map (·.size)=some 71:=aC
def SN{p:Prop}(h:p:=by(have G:=af k1;have N0:=af k2;have H:=af k3;have I:=af k4;have s:w.heap.size+1<wr.heap.size:=k2.lt;clear k1 k2 k3 k4;go_loopw[47] (λi wr=>∃(k:Nat)(t9:bA)(A':Option Addr)(c':Nat)(xs acc:List Int),k<=4/\i=.int .i64 k/\Hid (RB wr r g t9 a1 a2 B A' c'/\Nb 85 71 wr (w.heap.size+1) xs/\Nb 85 71 wr w.heap.size dZ/\av [r,g] w wr/\w.heap.size+1<wr.heap.size/\bQ t9.1/\xs.take (7+k*16)=hd++acc/\acc++(eS (4-k) t9).1=(eS 4 t).1/\(eS (4-k) t9).2=(eS 4 t).2)) λi _=>4-(intOf i).toNat;(case atStart=>exact⟨0,t,A',c',ms,[],by omega,rfl,G.out,N0.out,H.out,I.out,s,k6,by simpa using Fk,by rw[Nat.sub_zero,List.nil_append],by rw[Nat.sub_zero]⟩);(case round=>obtain⟨k,t,A',c',xs,acc,hk,rfl,hK⟩:=hrel;obtain⟨k1,k2,k3,k4,k5,k6,l,d,f⟩:=hK.out;clear hK;(try clear G N0 H I s Fk);by_cases M:k<4;(case pos=>obtain⟨m,hm⟩:∃m,4-(k+1)=m:=⟨_,rfl⟩;rw[show 4-k=m+1 by omega,eS] at d f;dsimp only at d f;have J:=levels r g B c' t a1 a2 A' wr k1 k6;have u:=NA k6;have z:=MY t;have N:(k:Int)<4:=(by omega);go_wp2;refine J.mono ?_;rintro e wq⟨rfl,⟨Q,R,hq⟩,C⟩;clear J;generalize(hO t).1=b at z d⊢;generalize(hO t).2=tq at hq u d f;have y2:=k2.aw C (by simp;omega);have K:=k3.aw C (by simp;omega);have L:=k4.trans C;have S:=C.size;have T:=af hq;have V:=af K;have W:=af L;have X:=af l;have Z:=af d;have K9:=af f;have j:=k2.len;clear k1 k2 k3 k4 k6 l d f C K L hq;go_wp2_with((refine ye (n:=71) rfl _ _ _ rfl _ (7+k*16) rfl _ _ rfl (by assumption) (by omega) (by rw[z];exact cL) ?_;intro wz D q sz));go_roundw;(case rel=>exact⟨k+1,tq,Q,R,upd xs (7+k*16) b,acc++b,by omega,by go_num,T.out.aw (av.dQ q) (λx E=>by simp at E;omega) (by simp;omega) (by simp;omega),D,V.out.grown q ip,W.out.grown q (.inr (by omega)),by omega,u,by rw[show 7+(k+1)*16=7+k*16+b.length by omega,PE _ _ _ (by omega),X.out,List.append_assoc],by rw[hm,List.append_assoc];exact Z.out,by rw[hm];exact K9.out⟩);(case measure=>simp[intOf];omega));(case neg=>have F:k=4:=(by omega);subst F;have j:=k2.len;rw[List.take_of_length_le (by omega)] at l;rw[Nat.sub_self,eS] at d f;rw[List.append_nil] at d;rw[d] at l;rw[<-l,<-f] at HV;dsimp only at HV;clear l d f;go_wp2_with(first|(refine eQ (n:=71) rfl _ _ rfl _ rfl _ (by assumption) _ (Gz.gu underlying85) rfl fg ?_)|(refine di (n:=71) rfl _ _ _ rfl _ rfl _ xs rfl (by assumption) j fg ?_;intro wz D q sz));refine bodyPost_ret (results_cell_row (by rfl) _ _ _ _ _ _ _ (by rfl) D.blk (Gz.gu underlying85) rfl (by rw[bO,j];exact fg)) rfl ?_;rw[HV.out];exact⟨rfl,⟨_,_,k1.aw (av.dQ q) (λx E=>by simp at E;omega) (by simp;omega) (by simp;omega)⟩,k4.grown q (.inr (au _))⟩)))):p:=h
def SO{p:Prop}(h:p:=by(have H:Hid (mi s=([2,0,0]++(gN 4 s).1,(gN 4 s).2)):=rfl;have H1:=af h9;have I:=af b9;have J:=af b8;have K:=af x9;have C:w.heap.size+1<w9.heap.size:=b9.lt;clear h9 b9 b8 x9;go_loopw[38] (λi wr=>∃(k:Nat)(t:bA)(A':Option Addr)(c':Nat)(xs acc:List Int),k<=4/\i=.int .i64 k/\Hid (RB wr r g t a1 a2 B A' c'/\Nb 85 71 wr (w.heap.size+1) xs/\Nb 85 71 wr w.heap.size dZ/\av [r,g] w wr/\w.heap.size+1<wr.heap.size/\bQ t.1/\xs.take (3+k)=[2,0,0]++acc/\acc++(gN (4-k) t).1=(gN 4 s).1/\(gN (4-k) t).2=(gN 4 s).2)) λi _=>4-(intOf i).toNat;(case atStart=>exact⟨0,s,A,c,ms,[],by omega,rfl,H1.out,I.out,J.out,K.out,C,ok,by simpa using z5,by rw[Nat.sub_zero,List.nil_append],by rw[Nat.sub_zero]⟩);(case round=>obtain⟨k,t,A',c',xs,acc,hk,rfl,hK⟩:=hrel;obtain⟨k1,k2,k3,k4,k5,k6,D,d,f⟩:=hK.out;clear hK;(try clear H1 I J K C z5);by_cases Q:k<4;(case pos=>obtain⟨m,hm⟩:∃m,4-(k+1)=m:=⟨_,rfl⟩;rw[show 4-k=m+1 by omega,gN] at d f;dsimp only at d f;have L:=number r g 9 B c' t a1 a2 A' wr k1 k6 (by decide);have E:=kn (b:=9) (by decide) k6;have R:(k:Int)<4:=(by omega);go_wp2;refine L.mono ?_;rintro e wq⟨rfl,⟨S,T,hq⟩,F⟩;clear L;generalize(bk 9 t).1=b at d⊢;generalize(bk 9 t).2=tq at hq E d f;have G:=k2.aw F (by simp;omega);have M:=k3.aw F (by simp;omega);have N:=k4.trans F;have V:=F.size;have W:=af hq;have X:=af G;have Z:=af M;have Y4:=af N;have K7:=af D;have K8:=af d;have K9:=af f;have hxl:=k2.len;have cy:=G.at (3+k) (by omega);generalize xs[3+k]?.getD 0=qy at cy;have fy:=G.free;clear k1 k2 k3 k4 k6 D d f F G M N hq;go_wp2;go_roundw;(case rel=>exact⟨k+1,tq,S,T,xs.set (3+k) b,acc++[b],by omega,by go_num,W.out.aw (kY _ _ _ _) (λx hx=>by simp at hx;omega) (by simp;omega) (by simp;omega),X.out.set (3+k) b,Z.out.aN (by simp) _,Y4.out.set (.inr (by simp)) _,by simp[World.setCell];omega,E,by rw[show 3+(k+1)=3+k+1 by omega,take_set (by omega),K7.out,List.append_assoc],by rw[hm,<-K8.out];simp,by rw[hm];exact K9.out⟩);(case measure=>simp[intOf];omega));(case neg=>have l:k=4:=(by omega);rw[l,Nat.sub_self,gN] at d f;rw[l] at D;have hk5:(4:Int)<=(k:Int):=(by omega);clear l;rw[List.append_nil] at d;have q:=congrArg List.length d;rw[DT] at q;rw[H.out] at HM;rw[<-d,<-f] at HM;dsimp only at HM;have Fk:=D;obtain⟨ms,j⟩:∃z,xs=z:=⟨_,rfl⟩;rw[j] at k2 Fk;obtain⟨hd,u⟩:∃z,[2,0,0]++acc=z:=⟨_,rfl⟩;rw[u] at Fk HM;have Up:hd.length=7:=(by rw[<-u];simp[q]);clear u j D d f q H;have HV:=HM;clear HM;go_wp2;exact SN)))):p:=h
def aet{r:Nat}{s:bA}{a1 a2:aiI}(ap:Bool)(h:RB w r g s a1 a2 B A c)(ok:bQ s.1):
  UL Gz.prog 133 #[ci (some ⟨r,0,none⟩),a9 ap] w λe w'=>e=be (a5 (arr (dR ap s).1))/\(∃A' c',RB w' r g (dR ap s).2 a1 a2 B A' c')/\av [r,g] w w':=by
 have hr:=h.blk.lt;have hg:=h.db.lt;have H8:=h.db.le;have hlr:=h.le;have b0:=Nb.new 85 71 w dZ rfl;have b1:=Nb.new 85 71 (w.alloc (ac (arr dZ) 85)) dZ rfl;rw[BE] at b1;have ip:some w.heap.size≠some (w.heap.size+1):=λe=>by injection e with e;omega
 have u:=b0.alloc (ac (arr dZ) 85);have ahR:dZ.length=71:=rfl;have ok0:=ok;cases ap with
 |false=>
  go_enter Gz.gf func133,ntmps133;go_wp2_with((refine di (n:=71) rfl _ _ _ rfl _ rfl _ gw rfl aG ra fg ?_;intro w9 b9 H s9);have M:Q w w9:=(((Q.refl w).alloc _).alloc _).grown H (λk e=>by have:=aL e;omega);have h9:=h.q M;have b8:=u.grown H ip;have c0:=h9.ptr;clear b0 b1 u H s9 h);have S:=decode g 0 B c s.1 A w9 h9.db ok aq;refine S.mono ?_;rintro e w2⟨rfl,⟨A2,c2,d2⟩,T⟩;clear S;have N:=h9.dec T d2;have V:=b9.aw T aA;have b3:=b8.aw T aA;have x3:av [r,g] w w2:=(av.gQ [r,g] M).trans (T.more λk W=>by simp at W;simp[W]);have C:=ok.jx 0 aq;have Bj:w.heap.size+1<w2.heap.size:=by have:=V.lt;omega
  clear h9 b9 b8 T d2 M c0;rcases mV s.1 0 with hb|hb
  ·have HM:Hid (dR false s=(dZ,(bJ s.1 0,s.2))):=by unfold Hid dR;rw[if_pos ⟨rfl,hb⟩]
   rw[hb];go_wp2_with((refine di (n:=71) rfl _ _ _ rfl _ rfl _ dZ rfl aG ra fg ?_;intro wz bz gz sz));refine aiA (results_cell_row aD _ _ _ _ _ _ _ aD bz.blk (Gz.gu underlying85) rfl Cd) rfl ?_;rw[HM.out];exact⟨rfl,⟨_,_,N.aw (av.dQ gz) (λx D=>by simp at D;omega) aA aA⟩,x3.grown gz (.inr (au _))⟩
  ·have X:dR false s=((e8 false (bJ s.1 0,s.2)).1++(eS 4 (e8 false (bJ s.1 0,s.2)).2).1,(eS 4 (e8 false (bJ s.1 0,s.2)).2).2):=by unfold dR;rw[if_neg (by rw[hb];intro k;cases k.2)];rfl
   have HM:=af X;rw[hb];generalize bJ s.1 0=d0 at N C HM;clear X hb;have c0:=N.ptr;have i:=V.at 0 aq;have l:=V.free 0;go_wp2;have S:=decode g 1 B c2 d0 A2 w2 N.db C aq;refine S.mono ?_;rintro e w3⟨rfl,⟨A3,c3,d3⟩,Z⟩;clear S;have R:=N.dec Z d3;have I:=V.aw Z aA;have b5:=b3.aw Z aA;have x5:av [r,g] w w3:=x3.trans (Z.more λk W=>by simp at W;simp[W]);have f:=C.jx 1 aq;have O':w.heap.size+1<w3.heap.size:=by have:=I.lt;omega
   clear N V b3 x3 Z d3 c0 i l C;have j:e8 false (d0,s.2)=if 1+cP d0 1=1 then sU (bJ d0 1,s.2) else mi (bJ d0 1,s.2):=rfl
   have i:=I.at 0 aq;have l:=I.free 0;generalize gw[0]?.getD 0=q0 at i;rcases mV d0 1 with hb|hb
   ·rw[hb,if_pos aq] at j;rw[hb];rw[j] at HM;generalize bJ d0 1=d1 at R f HM;clear hb j;go_wp2;have J:=R.aw (kY w3 (w.heap.size+1) 0 (U O 1)) (λx D=>by simp at D;omega) aA aA;have n4:=I.set 0 1;have n5:=b5.aN (p:=⟨w.heap.size+1,0,none⟩) aj (U O 1);have x6:=x5.set (p:=⟨w.heap.size+1,0,none⟩) (.inr aj) (U O 1);generalize w3.setCell ⟨w.heap.size+1,0,none⟩ (U O 1)=w4 at J n4 n5 x6⊢;clear R I b5 x5 i l O';have hN:=number r g 2 B c3 _ a1 a2 A3 w4 J f aq;refine hN.mono ?_;rintro e w5⟨rfl,⟨A5,c5,h5⟩,E⟩;have F:=kn (s:=(d1,s.2)) (b:=2) aq f;have n6:=n4.aw E aA;have n7:=n5.aw E aA;have x8:=x6.trans E;obtain⟨i1,i2⟩:=zR 2 (d1,s.2);have HV:Hid (dR false s=([1,aW (bk 2 (d1,s.2)).1,aW (bk 2 (bk 2 (d1,s.2)).2).1,0,0,0,0]++(eS 4 (bk 2 (bk 2 (d1,s.2)).2).2).1,(eS 4 (bk 2 (bk 2 (d1,s.2)).2).2).2)):=HM.out;clear hN J n4 n5 x6 E f HM;generalize(bk 2 (d1,s.2)).1=m at i1 i2 HV⊢;generalize(bk 2 (d1,s.2)).2=s5 at h5 F HV;have i:=n6.at 1 aq;generalize(gw.set 0 1)[1]?.getD 0=q1 at i;have l:=n6.free;go_wp2_with(go_at_call 155;refine(Gh).mono ?_;rintro e w4⟨rfl,rfl⟩);have h6:=h5.aw (kY w5 (w.heap.size+1) 1 (U O (aW m))) (λx D=>by simp at D;omega) aA aA;have n8:=n6.set 1 (aW m);have n9:=n7.aN (p:=⟨w.heap.size+1,1,none⟩) aj (U O (aW m));have x9:=x8.set (p:=⟨w.heap.size+1,1,none⟩) (.inr aj) (U O (aW m));generalize w5.setCell ⟨w.heap.size+1,1,none⟩ (U O (aW m))=w6 at h6 n8 n9 x9⊢;clear h5 n6 n7 x8 i l;have hN:=number r g 2 B c5 _ a1 a2 A5 w6 h6 F aq;refine hN.mono ?_;rintro e w7⟨rfl,⟨A',c',h7⟩,E⟩;have k6:=kn (b:=2) aq F;have n6:=n8.aw E aA;have n7:=n9.aw E aA;have x8:=x9.trans E;clear hN h6 n8 n9 x9 E F;generalize(bk 2 s5).1=G at HV⊢;generalize(bk 2 s5).2=t at h7 k6 HV;have i:=n6.at 2 aq;generalize((gw.set 0 1).set 1 (aW m))[2]?.getD 0=q1 at i;have l:=n6.free;go_wp2_with(go_at_call 155;refine(Gh).mono ?_;rintro e w4⟨rfl,rfl⟩);have k1:=h7.aw (kY w7 (w.heap.size+1) 2 (U O (aW G))) (λx D=>by simp at D;omega) aA aA;have k2:=n6.set 2 (aW G);have k3:=n7.aN (p:=⟨w.heap.size+1,2,none⟩) aj (U O (aW G));have k4:=x8.set (p:=⟨w.heap.size+1,2,none⟩) (.inr aj) (U O (aW G));generalize w7.setCell ⟨w.heap.size+1,2,none⟩ (U O (aW G))=wr at k1 k2 k3 k4⊢;have Fk:(((gw.set 0 1).set 1 (aW m)).set 2 (aW G)).take 7=[1,aW m,aW G,0,0,0,0]:=rfl;obtain⟨ms,z5⟩:∃z,((gw.set 0 1).set 1 (aW m)).set 2 (aW G)=z:=⟨_,rfl⟩;rw[z5] at k2 Fk;clear z5;obtain⟨hd,K⟩:∃z,[1,aW m,aW G,0,0,0,0]=z:=⟨_,rfl⟩;rw[K] at Fk HV;have Up:hd.length=7:=by rw[<-K];rfl
    clear K;clear h7 n6 n7 x8 i l i1 i2;exact SN
   ·rw[hb,if_neg aq] at j;rw[hb];rw[j] at HM;generalize bJ d0 1=d1 at R f HM;clear hb j;go_wp2;have J:=R.aw (kY w3 (w.heap.size+1) 0 (U O 2)) (λx D=>by simp at D;omega) aA aA;have b9:=I.set 0 2;have b8:=b5.aN (p:=⟨w.heap.size+1,0,none⟩) aj (U O 2);have x9:=x5.set (p:=⟨w.heap.size+1,0,none⟩) (.inr aj) (U O 2);generalize w3.setCell ⟨w.heap.size+1,0,none⟩ (U O 2)=w9 at J b9 b8 x9⊢;clear R I b5 x5 i l O';have h9:RB w9 r g (d1,s.2) a1 a2 B A3 c3:=J;obtain⟨sm,L⟩:∃z:bA,(d1,s.2)=z:=⟨_,rfl⟩;obtain⟨A,rfl⟩:∃z,z=A3:=⟨_,rfl⟩;obtain⟨c,rfl⟩:∃z,z=c3:=⟨_,rfl⟩;have ok:bQ sm.1:=by rw[<-L];exact f
    rw[L] at h9 HM;obtain⟨s,rfl⟩:∃z,z=sm:=⟨_,rfl⟩;clear L f J;have z5:(gw.set 0 2).take 3=[2,0,0]:=rfl;obtain⟨ms,d⟩:∃z,gw.set 0 2=z:=⟨_,rfl⟩;rw[d] at b9 z5;clear d;exact SO
 |true=>
  go_enter Gz.gf func133,ntmps133;go_wp2_with((refine di (n:=71) rfl _ _ _ rfl _ rfl _ gw rfl aG ra fg ?_;intro w9 b9 H s9);have M:Q w w9:=(((Q.refl w).alloc _).alloc _).grown H (λk e=>by have:=aL e;omega);have h9:=h.q M;have b8:=u.grown H ip;have c0:=h9.ptr;clear b0 b1 u H s9 h;have i:=b9.at 0 aq;have l:=b9.free 0;generalize tv:gw[0]?.getD 0=q0 at i;have i6:q0=2:=tv.symm;subst i6)
  have HM:Hid (dR true s=((mi s).1++(eS 4 (mi s).2).1,(eS 4 (mi s).2).2)):=by unfold Hid dR;rw[if_neg λk=>by cases k.1];rfl
  have z5:gw.take 3=[2,0,0]:=rfl;obtain⟨ms,d⟩:∃z,gw=z:=⟨_,rfl⟩;rw[d] at b9 z5;clear d c0 i l;have x9:=av.gQ [r,g] M;exact SO
end
section
open Go.RowKit Go.WideShapes Go.ChangeShapes
def PF:∀(d:List rl)(k:Nat)(cs:Array rl)(j:Nat),((d.zipIdx k).foldl (λcs x=>cs.setIfInBounds x.2 x.1) cs)[j]?=if k<=j/\j<k+d.length/\j<cs.size then d[j-k]? else cs[j]?
 |[],k,cs,j=>by
  rw[if_neg]
  ·rfl
  ·simp only[List.length_nil];omega
 |y::t,k,cs,j=>by
  rw[List.zipIdx_cons,List.foldl_cons,PF t (k+1) _ j,Array.size_setIfInBounds];simp only[aiS];by_cases h1:k=j
  ·subst h1;rw[if_neg aa];by_cases b:k<cs.size
   ·rw[if_pos aa,Array.getElem?_setIfInBounds_self_of_lt b];simp
   ·rw[if_neg aa,Array.getElem?_eq_none aA,Array.getElem?_eq_none aa]
  ·rw[Array.getElem?_setIfInBounds_ne h1];by_cases b:k+1<=j/\j<k+1+t.length/\j<cs.size
   ·rw[if_pos b,if_pos aa,show j-k=(j-(k+1))+1 by omega];simp
   ·rw[if_neg b,if_neg aa]
def abi(b cs:Array rl)(h:cs.size=b.size):b.zipIdx.foldl (λcs x=>cs.setIfInBounds (0+x.2) x.1) cs=b:=by
 rw[<-Array.foldl_toList,Array.toList_zipIdx];apply yw;intro j;simp only[Nat.zero_add];rw[PF];by_cases d:j<b.size
 ·simp_all
 ·simp_all
def fill_whole(s:Nat)(X b:Array rl)(d:X.size=s)(e:b.size=s):Instr.fill (λi=>some (i*s,s)) X [(0,a5 b)]=some b:=by have hc:(Value.agg b).cells=b:=rfl;simp only[Instr.fill,Nat.zero_mul,hc];rw[if_neg aA];exact congrArg some (abi b X aa)
def Cx{Q:Exit->Act->ns->Prop}(l:o.guard=none)(m:o.op=.buildSlice t 1 #[(0,x)])
  {e:EV}(hu:P.underlying t=some (.slice e))(b:Array rl)(q:a.eval x=a5 b)(hi:(P.info? e).map (·.size)=some b.size)(i:((P.info? e).bind (·.zero)).isSome=true)(j:0<b.size)(r:b.size<=1000)
  (h:aja P ops Q rest (a.put o.dst (Y (some ⟨w.heap.size,0,none⟩) 1 1)) (w.alloc (ac b e))):aja P ops Q (o::rest) a w:=by
 cases d:P.info? e with
 |none=>simp[d] at hi
 |some s=>
  simp only[d,Option.map_some,Option.some.injEq,Option.bind_some] at hi i;obtain⟨z,f⟩:=pe.1 i;refine wpList_buildSlice l t e 1 #[(0,x)] m b s z hu d f (by rw[hi];omega) (by rw[hi];omega) ?_ h;have u:(Array.map (λ(p:Nat×Operand)=>(p.1,a.eval p.2)) #[(0,x)]).toList=[(0,a5 b)]:=by simp[q]
  have C:=u;rw[C,Nat.one_mul];exact fill_whole _ _ _ aj hi.symm
end
section
open Go.RowKit Go.WideShapes Go.ChangeShapes
def pS(acc:List Int)(x:Option (List Int)×Nat):Option (List Int)×Nat:=(x.1.map (acc++ ·),x.2)
def XV(ap:Bool)(k:Nat)(s:bA):eI ap (k+1) s=if(dR ap s).2.2≠0 then(none,(dR ap s).2.2) else pS (dR ap s).1 (eI ap k (dR ap s).2):=by
 rw[eI];split
 ·rfl
 ·generalize eI ap k (dR ap s).2=z;obtain⟨b,d⟩:=z;cases b<;>rfl
def ZO(a b:List Int)(x:Option (List Int)×Nat):pS a (pS b x)=pS (a++b) x:=by obtain⟨d,e⟩:=x;cases d<;>simp[pS]
def EN(R:Option (List Int)×Nat)(n:Nat)(w:ns)(b d:aiI)(e:Ending)(w':ns):Prop:=
  (match R with
   |(some L,_)=>∃v,e=be (dl #[v,.nilIface])∧az 85 71 w' w.heap.size v n L
   |(none,k)=>k≠0∧e=be (dl #[Y none 0 0,ky b d k]))∧Q w w'
def az.mono{t:EV}{s:Nat}{w:ns}{B B' n:Nat}{v:rl}{xs:List Int}(h:az t s w B v n xs)(b:B'<=B):az t s w B' v n xs:=by exact CL
def abj(b d:aiI)(h:k≠0):∃a,ky b d k=em 233 (ci (some a)):=by
 by_cases h1:k=1
 ·exact⟨b,by rw[h1];rfl⟩
 ·obtain⟨n,e⟩:∃n,k=n+2:=⟨k-2,aa⟩;exact⟨d,by rw[e];rfl⟩
def ZP(m:Nat){C D:aiI}(ap:Bool)(H:bB w B A xs)(hn:xs.length=n)(hc:n<=c/\c<=maxLen)(hB:B<=w.heap.size)(he:gx w C D B)(hm:m<=4):
  UL Gz.prog 103 #[Y A n c,U O (m:Int),a9 ap] w (EN (eI ap m (eu xs,0)) m w C D):=by
 go_enter Gz.gf func103,ntmps103;go_wp2;refine(WO H hn hc hB).mono ?_;rintro e E⟨g,rfl,hg,⟨A1,c1,d1⟩,q1⟩;go_wp2;have pl:=q1.size;have agw:=d1.lt
 have L:RB (E.alloc (ac #[ci (some ⟨g,0,none⟩),.nilIface] 174)) E.heap.size g (eu xs,0) C D B A1 c1:=
  ⟨ak.new _ _ _,d1.q ((Q.refl _).alloc _),aa,aa,(he.q q1 hB).q ((Q.refl _).alloc _) aa⟩
 have qq:Q w (E.alloc (ac #[ci (some ⟨g,0,none⟩),.nilIface] 174)):=q1.alloc _;have f:E.heap.size<(E.alloc (ac #[ci (some ⟨g,0,none⟩),.nilIface] 174)).heap.size:=aj;generalize E.alloc (ac #[ci (some ⟨g,0,none⟩),.nilIface] 174)=w2 at L qq f⊢;obtain⟨r,hr⟩:∃r,E.heap.size=r:=⟨_,rfl⟩;rw[hr] at L pl f;rw[hr];have o0:=az.nil 85 71 w2 (r+1);have Ia:g<r:=aa;have M:=EG xs;obtain⟨s0,h⟩:∃z:bA,(eu xs,0)=z:=⟨_,rfl⟩;have N:s0.2=0:=by rw[<-h]
 have S:bQ s0.1:=by rw[<-h];exact M
 rw[h] at L;rw[h];obtain⟨R,d⟩:∃z,eI ap m s0=z:=⟨_,rfl⟩;have Uq:=af d;have HSR:Hid (eI ap m (eu xs,0)=R):=by rw[h];exact d
 rw[d];clear hr H q1 d1 hn h M d he;have hm4:(m:Int)<=4:=aa;go_loopw[9,14] (λv i wr=>∃(k:Nat)(acc:List Int)(s:bA)(A':Option aiI)(c':Nat),k<=m/\i=U O k/\Hid (RB wr r g s C D B A' c'/\s.2=0/\bQ s.1/\az 85 71 wr (r+1) v k acc/\Q w wr/\r<wr.heap.size/\R=pS acc (eI ap (m-k) s))) (λ_ i _=>m-(akw i).toNat)
 case atStart=>exact⟨0,[],s0,A1,c1,aa,rfl,L,N,S,o0,qq,f,by rw[Nat.sub_zero,Uq.out];obtain⟨z1,z2⟩:=R;cases z1<;>rfl⟩
 case round=>
  obtain⟨k,acc,s,A',c',hk,rfl,hK⟩:=hrel;obtain⟨k1,k2,k3,k4,k5,k6,p⟩:=hK.out;clear hK L o0 qq f S;by_cases aT:k<m
  ·have T:(k:Int)<(m:Int):=by omega
   obtain⟨j,V⟩:∃j,m-(k+1)=j:=⟨_,rfl⟩;rw[show m-k=j+1 by omega,XV] at p;have hL:=aet ap k1 k3;have W:=ZM ap k3;have X:=DU ap s;go_wp2;refine hL.mono ?_;rintro e w5⟨rfl,⟨A5,c5,h5⟩,x5⟩;clear hL;generalize(dR ap s).1=l at X p⊢;generalize(dR ap s).2=Z at h5 W p;have I:=k4.aw x5 (λx H=>by simp at H;omega);have y5:=x5.toQ k5 (λx H=>by simp at H;omega);have y6:r<w5.heap.size:=by have:=x5.size;omega
   have u:(arr l).size=71:=by rw[bO,X]
   have H5:=af h5;have Y5:=af y5;have K7:=af p;clear k1 k4 k5 k6 p x5 h5 y5 k3;by_cases J:Z.2=0
   ·have ce:∀w',RB w' r g Z C D B A5 c5->w'.cell? ⟨r,1,none⟩=some .nilIface:=λw' h'=>by have:=h'.err;rw[J] at this;exact this
    have CE:=af ce;clear ce;go_wp2_with(first|(refine Cx rfl rfl (Gz.gu underlying53) (arr l) rfl (by rw[u];exact fg) ai aa aa ?_)|(at_builtin;refine xU rfl rfl (Gz.gu underlying53) DK ai aq aq rfl (I.alloc _) ⟨_,0,none⟩ l 1 rfl aa aa aA (λj V=>iJ _ l _ j V) ?_;intro v' w' O2 K;have F:=(H5.out.q ((Q.refl w5).alloc (ac (arr l) 85))).app K (I.alloc _) aa aa (by have:=H5.out.le;omega);have c6:=CE.out _ F;have H6:=af F;clear F));go_roundw
    case rel=>
     refine⟨k+1,acc++l,Z,A5,c5,aa,aH,H6.out,J,W,O2,(Y5.out.alloc _).grown K λb hb=>?_,?_,?_⟩
     ·have Hz:=(I.alloc (ac (arr l) 85)).below b hb;have:=Y5.out.size;omega
     ·have:=K.size;simp at this;omega
     ·rw[V,K7.out,if_neg (by simpa using J),ZO]
    case measure=>exact bg
   ·obtain⟨ae,G⟩:=abj C D J;have ce:∀w',RB w' r g Z C D B A5 c5->w'.cell? ⟨r,1,none⟩=some (em 233 (ci (some ae))):=λw' h'=>by have:=h'.err;rw[G] at this;exact this
    have CE:=af ce;have HAE:=af G;clear ce G;go_wp2_with(first|(refine Cx rfl rfl (Gz.gu underlying53) (arr l) rfl (by rw[u];exact fg) ai aa aa ?_)|(at_builtin;refine xU rfl rfl (Gz.gu underlying53) DK ai aq aq rfl (I.alloc _) ⟨_,0,none⟩ l 1 rfl aa aa aA (λj V=>iJ _ l _ j V) ?_;intro v' w' O2 K;have F:=(H5.out.q ((Q.refl w5).alloc (ac (arr l) 85))).app K (I.alloc _) aa aa (by have:=H5.out.le;omega);have c6:=CE.out _ F;have H6:=af F;clear F))
    go_quiet(fail)
    go_wp2;have d:R=(none,Z.2):=by rw[K7.out,if_pos J];rfl
    refine aiA (v:=dl #[Y none 0 0,em 233 (ci (some ae))]) (by simp[results,results103,go_sem]) rfl ?_;unfold EN;rw[d];refine⟨⟨J,by rw[HAE.out]⟩,((Y5.out.alloc _).grown K λb hb=>?_).drewN _⟩;have Hz:=(I.alloc (ac (arr l) 85)).below b hb;have:=Y5.out.size;omega
  ·have T:k=m:=by omega
   subst T;rw[Nat.sub_self,eI] at p;have d:R=(some acc,s.2):=by rw[p];simp[pS]
   clear p;go_wp2;refine aiA (v:=dl #[u9,.nilIface]) (by simp[results,results103,go_sem]) rfl ?_;unfold EN
   first
    |rw[d]
    |rw[HSR.out,d]
   exact⟨⟨_,rfl,k4.mono aa⟩,k5⟩
end
section
open Go.RowKit Go.WideShapes Go.ChangeShapes
structure bC(v:rl)(w:ns)(v':rl)(w':ns):Prop where
 bK:w.grownBy w' v.ownBlock
 own:v'.ownBlock=v.ownBlock\/∃k,v'.ownBlock=some k/\w.heap.size<=k
section
variable{v v' Ur:rl}{w w' oI:ns}
def bC.refl(v:rl)(w:ns):bC v w v w:=⟨⟨rfl,rfl,rfl,au _,λ_ _ _=>rfl⟩,.inl rfl⟩
def bC.trans(h:bC v w v' w')(k:bC v' w' Ur oI):bC v w Ur oI:=by
 refine⟨⟨k.bK.os.trans h.bK.os,k.bK.tape.trans h.bK.tape,k.bK.output.trans h.bK.output,aJ h.bK.size k.bK.size,λi hi d=>?_⟩,?_⟩
 ·refine(k.bK.block i (cG hi h.bK.size) λe=>?_).trans (h.bK.block i hi d);rcases h.own with h1|⟨j,h1,f⟩
  ·simp_all
  ·grind
 ·rcases k.own with b|⟨j,b,l⟩
  ·rcases h.own with h1|⟨j,h1,f⟩
   ·simp_all
   ·simp_all
  ·exact .inr ⟨j,b,aJ h.bK.size l⟩
def bC.Us(v:rl)(h:Q w w'):bC v w v w':=⟨⟨h.os,h.tape,h.output,h.size,λi hi _=>h.block i hi⟩,.inl rfl⟩
def bC.q(h:bC v w v' w')(k:Q w' oI):bC v w v' oI:=h.trans (.Us v' k)
def bC.size(h:bC v w v' w'):w.heap.size<=w'.heap.size:=h.bK.size
def bC.toQ{a:ns}(h:bC v w v' w')(hq:Q a w)(b:∀k,v.ownBlock=some k->a.heap.size<=k):Q a w':=hq.grown h.bK b
def bC.aw{S:List Nat}{a:ns}(h:bC v w v' w')(b:av S a w)(d:∀k,v.ownBlock=some k->k∈S\/a.heap.size<=k):av S a w':=b.Rx h.bK d
def bC.set(h:bC v w v' w'){p:aiI}(d:w.heap.size<=p.block)(u:rl):bC v w v' (w'.setCell p u):=
 ⟨⟨h.bK.os,h.bK.tape,h.bK.output,by simpa[World.setCell] using h.bK.size,λi hi b=>(iI w' p u i aa).trans (h.bK.block i hi b)⟩,h.own⟩
def Nb.ez(k:Nb t n w g xs)(h:bC v w v' w')(b:v.ownBlock≠some g):Nb t n w' g xs:=k.grown h.bK (λe=>b e.symm)
def ak.ez{cs:Array rl}(k:ak w g t cs)(h:bC v w v' w')(b:v.ownBlock≠some g):ak w' g t cs:=k.grown h.bK (λe=>b e.symm)
end
def fN{s:Nat}{v:rl}(l:o.guard=none){st:EV}(D:o.op=.call {callee:=.builtin .append,args:=#[x,y],argTypes:=#[st,st]})
  (hu:P.underlying st=some (.slice t)){z:rl}{d:Nat}(e:(P.info? t).map (λi=>(i.zero,i.size,i.bytes))=some (some z,s,d))(E:z.cells.size=s)(F:0<s)(p:d<=1000)
  (G:a.eval x=v)(b:az t s w B v n xs)(ad:aiI)(f:List Int)(m:Nat)(H:a.eval y=Y (some ad) m c)(C:f.length=m*s)
  (I:n+m<=1000000000)(q:B<=w.heap.size)(hc:∀j,j<f.length->w.cell? (ad.add j)=some (U O (f[j]?.getD 0)))
  (h:∀v' w',az t s w' B v' (n+m) (xs++f)->bC v w v' w'->aja P ops Q' rest (a.put o.dst v') w'):aja P ops Q' (o::rest) a w:=by
 obtain⟨i0,hi,r,hz1,hz2⟩:=info_parts e;refine wpList_append_own_at _ l x y st D B t i0 z s d hu hi r hz1 hz2 E F v n _ G b.2 ad m c (f.map (Value.int .i64)) H (by rw[List.length_map];exact C) ?_ ?_ ?_ ?_ q ?_
 ·grind
 ·exact CU
 ·unfold maxLen;omega
 ·exact aJ (fO I p) aq
 ·intro v' w' h1 J _ u;refine h v' w' ⟨by rw[List.length_append,b.1,C,Nat.add_mul],by simpa using h1⟩ ⟨J,?_⟩;rcases u with u|u
  ·simp_all
  ·simp_all
def NC(b:o.guard=none){d:EV}(f:o.op=.binOp .shr t x y d){X:Int}{i:Nat}(j:a.eval x=U O X)(l:a.eval y=U O (i:Int))(hi:i<=60){V:Int}(m:X/2^i=V)
  (h:aja P ops Q' rest (a.put o.dst (U O V)) w):aja P ops Q' (o::rest) a w:=by
 refine wpList_plain b λK hK=>?_;have e:Op.shift .shr .i64 X .i64 (i:Int)=pure (U O V):=eg;unfold Oper.wp execOp;simp only[f,j,l,eqGuard_shr,binOp_shr,e,Sem.run_bind,Sem.run_pure,Result.andThen_ok];exact hK _ _ h
def ND(b:o.guard=none){d:EV}(f:o.op=.binOp .shl t x y d){X:Int}{i:Nat}(j:a.eval x=U O X)(l:a.eval y=U O (i:Int))(hi:i<=60){V:Int}(m:IntKind.i64.wrap (X*2^i)=V)
  (h:aja P ops Q' rest (a.put o.dst (U O V)) w):aja P ops Q' (o::rest) a w:=by
 refine wpList_plain b λK hK=>?_;have e:Op.shift .shl .i64 X .i64 (i:Int)=pure (U O V):=eg;unfold Oper.wp execOp;simp only[f,j,l,eqGuard_shl,binOp_shl,e,Sem.run_bind,Sem.run_pure,Result.andThen_ok];exact hK _ _ h
def QD(M i:Nat):(M:Int)/2^i=((M>>>i:Nat):Int):=by rw[ale];simp
def acV(n:Nat)(h:n<9223372036854775808):bits .and .i64 (n:Int) 1=((n%2:Nat):Int):=by have:=bits_mask .i64 63 aq (λn h0 h1=>aB _ ⟨aa,aa⟩) 1 aq (n:Int) aa aa;simpa using this
end
section
open Go.RowKit Go.WideShapes Go.ChangeShapes
def rv{v:rl}(n:Int)(b:Nat){m:Nat}(B:Nat){G:List Int}(ho:az 154 2 w B v m G)(hB:B<=w.heap.size)(h0:0<=n)(h1:n<=65533)(hb:b<=33)(hm:m<=100000000):
  UL Gz.prog 160 #[v,U O n,U O (b:Int)] w λe w'=>∃v',e=be v'/\az 154 2 w' B v' (m+dI n) (G++c7 n b)/\bC v w v' w':=by
 have hL:∀w,UL Gz.prog 179 #[.int .u64 (n+1)] w λe w'=>e=be (U O (Lib.bitLen (n+1).toNat))/\w=w':=λw=>(bitsLen (n+1) w aa aa).mono λ_ _ h=>⟨h.1,h.2.symm⟩;obtain⟨M,hM⟩:∃M:Nat,(n+1).toNat=M:=⟨_,rfl⟩;have H9:n+1=(M:Int):=aa;have s:=YG M aa aa;obtain⟨k,J⟩:∃k,M.log2=k:=⟨_,rfl⟩
 have agx:k<=15:=by
  have:k<16:=by rw[<-J];exact(Nat.log2_lt (by omega)).2 (by omega)
  omega
 have K:c7 n b=jy b k (k+1)++kM b M k k:=by unfold c7;rw[hM,J]
 have L:dI n=2*k+1:=by unfold dI;rw[hM,J]
 rw[hM,s,J,H9,show((k+1:Nat):Int)=(k:Int)+1 by omega] at hL;have Ib:=af K;have Ic:=af L;have HL:=af hL;have wc:IntKind.u64.wrap (n+1)=n+1:=u64_in aa aa;have wn:wrap64 (n+1)=n+1:=gV ⟨aa,aa⟩;have ka:(k:Int)<=15:=aa;clear hM s K L hL J;go_enter Gz.gf func160,ntmps160;go_wp2;refine(HL.out _).mono ?_;rintro e w'⟨rfl,rfl⟩;go_wp2;go_loopw[0,18] (λu i wr=>∃j:Nat,j<=k+1/\i=U O j/\Hid (az 154 2 wr B u (m+j) (G++jy b k j)/\bC v w u wr)) (λ_ i _=>k+1-(akw i).toNat)
 case atStart=>exact⟨0,aa,rfl,by simpa[jy] using ho,bC.refl _ _⟩
 case round=>
  obtain⟨j,H,rfl,hK⟩:=hrel;obtain⟨C,l⟩:=hK.out;clear hK ho;have cC:=l.size;by_cases aT:j<k+1
  ·have tu:(j:Int)<(k:Int)+1:=by omega
   have N:((b:Int)+min (j:Int) 5)=(b:Int)+((min j 5:Nat):Int):=aa;have d:=EJ b k j;obtain⟨q,hq⟩:∃q,(b:Int)+((min j 5:Nat):Int)=q:=⟨_,rfl⟩;rw[hq] at N d;clear hq;by_cases f:j=k
   ·subst f;rw[if_pos rfl] at d;have D:=af d;clear d;go_wp2_with(at_builtin;refine fN rfl rfl (Gz.gu underlying118) gJ rfl aq aq rfl (C.alloc _) ⟨_,0,none⟩ [q,0] 1 rfl rfl aa aA (λj H=>iJ _ [q,0] _ j H) ?_;intro v' w' R S);go_roundw;case rel=>exact⟨j+1,aa,aH,by rw[D.out,<-aiK];exact R,(l.q ((Q.refl wr).alloc _)).trans S⟩
    case measure=>simp[akw]
   ·rw[if_neg f] at d;have hjb:((j:Int)==(k:Int))=false:=aA;have D:=af d;clear d f;go_wp2_with(at_builtin;refine fN rfl rfl (Gz.gu underlying118) gJ rfl aq aq rfl (C.alloc _) ⟨_,0,none⟩ [q,1] 1 rfl rfl aa aA (λj H=>iJ _ [q,1] _ j H) ?_;intro v' w' R S);go_roundw;case rel=>exact⟨j+1,aa,aH,by rw[D.out,<-aiK];exact R,(l.q ((Q.refl wr).alloc _)).trans S⟩
    case measure=>exact bg
  ·have f:j=k+1:=by omega
   rw[f] at C;have tu:¬(j:Int)<(k:Int)+1:=aa;clear f;have wk:wrap64 ((k:Int)-1)=(k:Int)-1:=gV ⟨aa,aa⟩;have T:=af C;have V:=af l;clear C l;go_wp2;go_loopw[0,10] (λu i wr=>∃t:Nat,t<=k/\i=U O ((k:Int)-1-(t:Int))/\Hid (az 154 2 wr B u (m+(k+1)+t) (G++jy b k (k+1)++kM b M k t)/\bC v w u wr)) (λ_ i _=>(akw i+1).toNat)
   case atStart=>exact⟨0,aa,aj,by simpa[kM] using T.out,V.out⟩
   case round=>
    obtain⟨t,ht,rfl,hK⟩:=hrel;obtain⟨C,l⟩:=hK.out;clear hK T V;have cC:=l.size;by_cases aT:t<k
    ·have E:=EK b M k t;obtain⟨i,hi⟩:∃i,k-1-t=i:=⟨_,rfl⟩;have F:(k:Int)-1-(t:Int)=(i:Int):=aa;rw[hi] at E;have p:=af E;clear E;rw[F];have Ie:=af F;clear F;have agy:(i:Int)<15:=aa;have ahS:(M:Int)<65536:=aa;obtain⟨I,r⟩:∃I:Nat,M>>>i=I:=⟨_,rfl⟩;have hV:(M:Int)/2^i=(I:Int):=by rw[QD,r]
     have W:I<=M:=by rw[<-r,ale];exact Nat.div_le_self ..
     have X:=acV I aa;rw[r] at p;obtain⟨bt,Z⟩:∃z:Int,((I%2:Nat):Int)=z:=⟨_,rfl⟩;rw[Z] at X p;have HV:=af hV;clear hV r Z W;obtain⟨q,hq⟩:∃q,(b:Int)+6=q:=⟨_,rfl⟩;rw[hq] at p;go_wp2_with(first|(refine NC rfl rfl rfl rfl aa HV.out ?_)|(at_builtin;refine fN rfl rfl (Gz.gu underlying118) gJ rfl aq aq rfl (C.alloc _) ⟨_,0,none⟩ [q,bt] 1 rfl rfl aa aA (λj H=>iJ _ [q,bt] _ j H) ?_;intro v' w' R S));go_roundw;case rel=>exact⟨t+1,aa,by have:=Ie.out;go_num,by rw[p.out,<-aiK];exact R,(l.q ((Q.refl wr).alloc _)).trans S⟩
     case measure=>simp[akw]
    ·have Ig:t=k:=by omega
     subst Ig;have HV:=Ib.out;have HC:=Ic.out;have HNV:Hid (G++c7 n b=G++jy b t (t+1)++kM b M t t):=by rw[Hid,HV,aiK]
     have Ih:Hid (m+dI n=m+(t+1)+t):=by rw[Hid,HC];omega
     clear HV HC;go_wp2;go_ret;refine⟨_,rfl,?_,l⟩;rw[HNV.out,Ih.out];exact C
end
section
open Go.RowKit Go.WideShapes Go.ChangeShapes
def rE(n:Int)(b:Nat)(w:ns)(h0:0<=n)(h1:n<=65533)(hb:b<=33):
  UL Gz.prog 118 #[U O n,U O (b:Int)] w λe w'=>∃v',e=be v'/\az 154 2 w' w.heap.size v' (dI n) (c7 n b)/\Q w w':=by
 obtain⟨M,hM⟩:∃M:Nat,(n+1).toNat=M:=⟨_,rfl⟩;have H9:n+1=(M:Int):=aa;have H:M≠0:=aa;have hM6:M<=65534:=aa;obtain⟨k,hk⟩:∃k,M.log2=k:=⟨_,rfl⟩
 have agx:k<=15:=by
  have:k<16:=by rw[<-hk];exact(Nat.log2_lt H).2 (by omega)
  omega
 have E:∀j,(j<k->(2:Int)*2^j<=(M:Int))/\(j=k->(M:Int)<2*2^j):=by
  intro j;have e:(2:Int)*2^j=((2^(j+1):Nat):Int):=by rw[Nat.pow_succ];simp[Int.mul_comm]
  rw[e];constructor
  ·intro h;have:2^(j+1)<=M:=(Nat.le_log2 H).1 aa;omega
  ·intro h;have:M<2^(j+1):=(Nat.log2_lt H).1 aa;omega
 have l:∀j,j<=k->0<=(2:Int)*2^j/\(2:Int)*2^j<=131072:=by
  intro j F;have:=uM j aa;have e:(2:Int)*2^j=2^(j+1):=by rw[Int.pow_succ];omega
  have p:(0:Int)<2^(j+1):=Int.pow_pos aq;omega
 have T:c7 n b=jy b k (k+1)++kM b M k k:=by unfold c7;rw[hM,hk]
 have V:dI n=2*k+1:=by unfold dI;rw[hM,hk]
 have Ib:=af T;have Ic:=af V;have HP:=af E;have HP2:=af l;have wn:wrap64 (n+1)=n+1:=gV ⟨aa,aa⟩;have o0:=az.jT 154 2 w w.heap.size (au _);have q0:=(Q.refl w).alloc (ac #[] 154);clear hM T V hk E l;go_enter Gz.gf func118,ntmps118;go_wp2;go_loopw[5,6] (λu i wr=>∃j:Nat,j<=k/\i=U O j/\Hid (az 154 2 wr w.heap.size u j (jy b k j)/\Q w wr)) (λ_ i _=>k-(akw i).toNat)
 case atStart=>exact⟨0,aa,rfl,o0,q0⟩
 case round=>
  obtain⟨j,F,rfl,hK⟩:=hrel;obtain⟨r,G⟩:=hK.out;clear hK o0 q0;have cC:=G.size;have tu:(j:Int)<=15:=aa;obtain⟨P,hP⟩:∃P,(2:Int)*2^j=P:=⟨_,rfl⟩;have m:=HP.out j;have hPQ:=HP2.out j F;rw[hP] at m hPQ;have HV:Hid (IntKind.i64.wrap ((2:Int)*2^j)=P):=by rw[Hid,hP];exact aB _ ⟨by omega,by omega⟩
  have d:=EJ b k j;have W:((b:Int)+min (j:Int) 5)=(b:Int)+((min j 5:Nat):Int):=aa;obtain⟨q,hq⟩:∃q,(b:Int)+((min j 5:Nat):Int)=q:=⟨_,rfl⟩;rw[hq] at W d;clear hq hP;by_cases I:j<k
  ·have hle:P<=(M:Int):=m.1 I;rw[if_neg aa] at d;have J:=af d;clear d m;go_wp2_with(first|(refine ND rfl rfl rfl rfl aa HV.out ?_)|(at_builtin;refine fN rfl rfl (Gz.gu underlying118) gJ rfl aq aq rfl (r.alloc _) ⟨_,0,none⟩ [q,1] 1 rfl rfl aa aA (λj F=>iJ _ [q,1] _ j F) ?_;intro v' w' R S));go_roundw;case rel=>exact⟨j+1,aa,aH,by rw[J.out];exact R,(G.alloc _).grown S.bK λg X=>(r.alloc (ac #[U O q,U O 1] 154)).below g X⟩
   case measure=>exact bg
  ·have f:j=k:=by omega
   have hgt:¬P<=(M:Int):=by have:=m.2 f;omega
   rw[if_pos f] at d;have J:=af d;have Z:=af f;have wk:wrap64 ((j:Int)-1)=(j:Int)-1:=gV ⟨aa,aa⟩;clear d m f I;go_wp2_with(first|(refine ND rfl rfl rfl rfl aa HV.out ?_)|(at_builtin;refine fN rfl rfl (Gz.gu underlying118) gJ rfl aq aq rfl (r.alloc _) ⟨_,0,none⟩ [q,0] 1 rfl rfl aa aA (λj F=>iJ _ [q,0] _ j F) ?_;intro v' w' R S))
   have HO:Hid (az 154 2 w' w.heap.size v' (k+1) (jy b k (k+1))):=by have hh:=R;have f:=Z.out;rw[<-J.out] at hh;rw[Hid,<-f];rw[<-f] at hh;exact hh
   have Ut:=af ((G.alloc _).grown S.bK λg X=>(r.alloc (ac #[U O q,U O 0] 154)).below g X);clear R S r G;go_loopw[5,7] (λu i wr=>∃t:Nat,t<=k/\i=U O ((k:Int)-1-(t:Int))/\Hid (az 154 2 wr w.heap.size u (k+1+t) (jy b k (k+1)++kM b M k t)/\Q w wr)) (λ_ i _=>(akw i+1).toNat)
   case atStart=>exact⟨0,aa,by have:=Z.out;subst this;simp,by simpa[kM] using HO.out,Ut.out⟩
   case round=>
    obtain⟨t,ht,rfl,hK⟩:=hrel;obtain⟨r,G⟩:=hK.out;clear hK HO Ut;have cC:=G.size;by_cases I:t<k
    ·have K:=EK b M k t;obtain⟨i,hi⟩:∃i,k-1-t=i:=⟨_,rfl⟩;have L:(k:Int)-1-(t:Int)=(i:Int):=aa;rw[hi] at K;have s:=af K;clear K;rw[L];have Ie:=af L;clear L;have agy:(i:Int)<15:=aa;obtain⟨C,D⟩:∃C:Nat,M>>>i=C:=⟨_,rfl⟩;have hV:(M:Int)/2^i=(C:Int):=by rw[QD,D]
     have agz:C<=M:=by rw[<-D,ale];exact Nat.div_le_self ..
     have hand:(C:Int).tmod 2=((C%2:Nat):Int):=by rw[Int.tmod_eq_emod_of_nonneg (by omega)];omega
     have N:(C:Int)%2=((C%2:Nat):Int):=aa;rw[D] at s;obtain⟨bt,Uu⟩:∃z:Int,((C%2:Nat):Int)=z:=⟨_,rfl⟩;rw[Uu] at hand N s;have HV2:=af hV;clear hV D Uu agz;obtain⟨q2,hq2⟩:∃q,(b:Int)+6=q:=⟨_,rfl⟩;rw[hq2] at s;go_wp2_with(first|(refine NC rfl rfl rfl rfl aa HV2.out ?_)|(at_builtin;refine fN rfl rfl (Gz.gu underlying118) gJ rfl aq aq rfl (r.alloc _) ⟨_,0,none⟩ [q2,bt] 1 rfl rfl aa aA (λj F=>iJ _ [q2,bt] _ j F) ?_;intro v2 w2 R S));go_roundw;case rel=>exact⟨t+1,aa,by have:=Ie.out;go_num,by rw[s.out,<-aiK];exact R,(G.alloc _).grown S.bK λg X=>(r.alloc (ac #[U O q2,U O bt] 154)).below g X⟩
     case measure=>simp[akw]
    ·have Ig:t=k:=by omega
     rw[Ig] at r;have ahT:(k:Int)-1-(t:Int)= -1:=aa;have Ih:Hid (dI n=k+1+k):=by rw[Hid,Ic.out];omega
     go_wp2;go_ret;refine⟨_,rfl,?_,G⟩;rw[Ib.out,Ih.out];exact r
end
section
open Go.RowKit Go.WideShapes Go.ChangeShapes
def kN(s k:Nat):Nat:=if s%2=0 then 3-k else k
def sD(s k:Nat)(xs:List Int):List Int:=if kN s k<=s/\s-kN s k<=3 then xs++[4*(kN s k:Int)+(s:Int)-(kN s k:Int)] else xs
def mm(s k:Nat)(xs:List Int):List Int:=(aiB k).foldl (λst j=>sD s j st) xs
def ku(s:Nat):List Int:=(aiB s).foldl (λst j=>mm j 4 st) []
def ZQ(s k:Nat)(xs:List Int):mm s (k+1) xs=sD s k (mm s k xs):=by simp[mm,aju]
def YI(s:Nat):ku (s+1)=mm s 4 (ku s):=by simp[ku,aju]
def acW:ku 7=kE:=aC
def aeu:∀s,s<7->∀k,k<=4->(mm s k (ku s)).length<=16:=aq
def Ov:UL Gz.prog 115 #[] w λe w'=>∃g c,e=be (Y (some ⟨g,0,none⟩) 16 c)/\Own w' w.heap.size (Y (some ⟨g,0,none⟩) 16 c) 16 kE/\Q w w':=by
 have l:=Own.jT w w.heap.size (au _);have m:=(Q.refl w).alloc (ac #[] 3);go_enter Gz.gf func115,ntmps115;go_wp2;go_loopw[1,2] (λv i wr=>∃(s n:Nat),s<=7/\i=U O s/\Own wr w.heap.size v n (ku s)/\Q w wr) (λ_ i _=>7-(akw i).toNat)
 case atStart=>exact⟨0,0,dC _,rfl,l,m⟩
 case round=>
  obtain⟨s,n,F,rfl,gt,i6⟩:=hrel;clear l m;by_cases h:s<7
  ·have b:(s:Int)<7:=by omega
   have HO:=af gt;have p:=af i6;clear gt i6;go_wp2;go_loopw[1,3] (λv i wr=>∃(k n:Nat),k<=4/\i=U O k/\Own wr w.heap.size v n (mm s k (ku s))/\Q w wr) (λ_ i _=>4-(akw i).toNat)
   case atStart=>exact⟨0,n,aa,rfl,HO.out,p.out⟩
   case round=>
    obtain⟨k,n,u,rfl,gt,i6⟩:=hrel;clear HO p;by_cases z:k<4
    ·have d:(k:Int)<4:=by omega
     have C:n<=16:=by have h1:=aeu s h k u;have G:=gt.len;omega
     have D:=i6.size;have i9:=ZQ s k (ku s);generalize mm s k (ku s)=xs at gt i9;by_cases q:s%2=0
     ·have j:((s:Int)%2==0)=true:=by simp;omega
      have hy:kN s k=3-k:=by unfold kN;rw[if_pos q]
      by_cases hc:kN s k<=s/\s-kN s k<=3
      ·unfold sD at i9;rw[if_pos hc,hy,show((3-k:Nat):Int)=3-(k:Int) by omega] at i9;rw[hy] at hc;have Fd:=af i9;have HA:Hid (decide ((0:Int)<=(s:Int)-(3-(k:Int))/\(s:Int)-(3-(k:Int))<=3)=true):=decide_eq_true aa;exact J5
      ·unfold sD at i9;rw[if_neg hc] at i9;rw[hy] at hc;have Fd:=af i9;have HA:Hid (decide ((0:Int)<=(s:Int)-(3-(k:Int))/\(s:Int)-(3-(k:Int))<=3)=false):=decide_eq_false aa;exact J6
     ·have j:((s:Int)%2==0)=false:=by simp;omega
      have hy:kN s k=k:=by unfold kN;rw[if_neg q]
      by_cases hc:kN s k<=s/\s-kN s k<=3
      ·unfold sD at i9;rw[if_pos hc,hy] at i9;rw[hy] at hc;have Fd:=af i9;have HA:Hid (decide ((0:Int)<=(s:Int)-(k:Int)/\(s:Int)-(k:Int)<=3)=true):=decide_eq_true aa;exact J5
      ·unfold sD at i9;rw[if_neg hc] at i9;rw[hy] at hc;have Fd:=af i9;have HA:Hid (decide ((0:Int)<=(s:Int)-(k:Int)/\(s:Int)-(k:Int)<=3)=false):=decide_eq_false aa;exact J6
    ·have d:k=4:=by omega
     subst d;have r:Hid (ku (s+1)=mm s 4 (ku s)):=YI s;generalize mm s 4 (ku s)=xs at gt r;go_wp2;go_roundw;case rel=>exact⟨s+1,n,aa,aH,by rw[r.out];exact gt,i6⟩
     case measure=>exact bg
  ·have b:s=7:=by omega
   subst b;rw[acW] at gt;have E:=gt.len;have f:n=16:=by rw[zv] at E;omega
   subst f;exact J7
end
section
open Go.RowKit Go.WideShapes Go.ChangeShapes
def ZR{d:List (Int×Int)}(e:k<d.length)(b:List Int):fC (d.drop k) b 16=none:=by rw[D9 e,if_pos];omega
def abk(c:Nat){s:List (Int×Int)}(hx:Rd w B A (fl s))(hn:s.length=n)(wu:n<=16)(hB:B<=w.heap.size):
  UL Gz.prog 80 #[Y A n c] w λe w'=>e=be (dl #[a5 (arr ((fZ s).getD cU)),a9 (fZ s).isSome])/\Q w w':=by
 have J:=Nb.new 82 16 w cU rfl;have b1:=Nb.new 82 16 (w.alloc (ac (arr cU) 82)) cU rfl;rw[BE] at b1;have D:=J.alloc (ac (arr cU) 82);have hnn:(n:Int)<=16:=aa;go_enter Gz.gf func80,ntmps80;go_wp2_with((refine di (n:=16) rfl _ _ _ rfl _ rfl _ cU rfl aG rfl cL ?_;intro w9 K E S));refine(Ov).mono ?_;rintro e w1⟨h,ch,rfl,o1,q1⟩;have b2:=(D.grown E aj).q q1;have b3:=K.q q1;have qq:Q w w1:=Q.trans (((Q.refl w).alloc _).alloc _|>.grown E λk e=>by have:=aL e;omega) q1;have T:w9.heap.size=w.heap.size+2:=by rw[S];simp
 have o2:=o1.mono (B':=w.heap.size+2) aa;have V:=q1.size;have W:w.heap.size+1<w1.heap.size:=aa;clear J b1 D E S K q1 o1;go_wp2;have HX:=af hx;clear hx;go_loopw[6,7] (λv i wr=>∃(k p:Nat)(b:List Int),k<=n/\p<=16/\(p=16->k=n)/\i=U O k/\v=U O p/\Hid (Nb 82 16 wr w.heap.size cU/\Nb 82 16 wr (w.heap.size+1) b/\Own wr (w.heap.size+2) (Y (some ⟨h,0,none⟩) 16 ch) 16 kE/\Q w wr/\fC (s.drop k) b p=fZ s)) (λ_ i _=>n-(akw i).toNat)
 case atStart=>exact⟨0,0,cU,aa,aa,aa,rfl,rfl,b2,b3,o2,qq,rfl⟩
 case round=>
  obtain⟨k,p,b,hk,hp,Uv,rfl,rfl,hK⟩:=hrel;obtain⟨k0,k1,k5,kq,kl⟩:=hK.out;clear hK b2 b3 o2 qq V W T;by_cases aT:k<n
  ·have j':(k:Int)<(n:Int):=by omega
   have F:k<s.length:=aa;obtain⟨f1,f2⟩:=Ai s k F;have d:=D9 F b p;have vK:p=15->True:=λ_=>trivial;rw[kl] at d;generalize s[k]=r at f1 f2 d;obtain⟨z,l⟩:=r;dsimp only at f1 f2 d;obtain⟨bb,oo,rfl,Hz,hc⟩:=HX.out.q kq hB mF;have c1:=hc (k*2) mF;have X:=hc (k*2+1) mF;rw[f1] at c1;rw[f2] at X;rw[<-Nat.add_assoc] at X;have agv:(p:Int)<=15:=aa;clear hc f1 f2;have Z:=af k0;have G:=af k1;have L:=af k5;have KQ:=af kq;clear k0 k1 k5 kq kl;by_cases G':l=0\/z<0\/16-(p:Int)<=z
   ·rw[if_pos G'] at d;have HL:=af d;clear d;have J:=Z.out;by_cases h2:0<=z/\z<=15-(p:Int)
    ·have HA:Hid (decide ((0:Int)<=z/\z<=15-(p:Int))=true):=decide_eq_true h2;have h1:l=0:=aa;subst h1;exact J8
    ·have HA:Hid (decide ((0:Int)<=z/\z<=15-(p:Int))=false):=decide_eq_false h2;exact J8
   ·rw[if_neg G'] at d;have HL:=af d;have In:(l==0)=false:=aA;have rt:0<=z:=aa;have hz1:z<16-(p:Int):=aa;have HA:Hid (decide ((0:Int)<=z/\z<=15-(p:Int))=true):=decide_eq_true aa;clear d G';obtain⟨C,rfl⟩:∃C:Nat,z=(C:Int):=⟨z.toNat,aa⟩;rw[Int.toNat_natCast] at HL;have hq:p+C<16:=aa;have DP:(p:Int)+(C:Int)<16:=aa;obtain⟨q,H⟩:∃q,p+C=q:=⟨_,rfl⟩;have f:(p:Int)+(C:Int)=(q:Int):=aa;have qD:=af f;rw[H] at HL hq;rw[f] at DP;clear H f;obtain⟨t,ht⟩:∃t,gF[q]?.getD 0=t:=⟨_,rfl⟩;have u:t<16:=by have:=sC q hq;omega
    have H7:(t:Int)<16:=aa;rw[ht] at HL;have c5:=L.out.at q hq;rw[zS hq,ht] at c5;have Ii:=L.out.dD;go_wp2_with((go_at_call 51;(with_reducible refine(cj _ HA).mono ?_);rintro e w'⟨rfl,rfl⟩));rw[qD.out];have M:=G.out.at t u;generalize b[t]?.getD 0=bt at M
    go_still_tail 9,ai
    change aja _ _ _ _ _ wr.drew;have M:=G.out.drew.at t u;generalize b[t]?.getD 0=bt at M;have ft:=G.out.drew.free t;have N:=af (Z.out.drew.aN (p:=⟨w.heap.size+1,t,none⟩) aj (U O l));have F1:=af (G.out.drew.set t l);have F5:=af (L.out.drew.aN (p:=⟨w.heap.size+1,t,none⟩) aj (U O l));have R:=af (KQ.out.drew.set (p:=⟨w.heap.size+1,t,none⟩) aj (U O l));generalize wr.drew=w3 at M ft N F1 F5 R⊢;clear c5 c1 X Z G L KQ ht;by_cases j:q+1=16/\k+1<n
    ·obtain⟨I,hf2⟩:=j
     have HL2:Hid (fZ s=none):=by have hh:=HL.out;rw[I,ZR aa] at hh;exact hh
     have m:q=15:=aa;subst m;have hkl:(k:Int)<(n:Int)-1:=aa;have J:=N.out;go_wp2_with((refine di (n:=16) rfl _ _ _ rfl _ rfl _ cU rfl aG rfl cL ?_;intro w9 K E S));refine aiA (j8 aD aD K.blk (Gz.gu underlying82) rfl Cc) rfl ⟨?_,R.out.grown E λk e=>by have:=aL e;omega⟩;rw[HL2.out];rfl
    ·by_cases I:q+1=16
     ·have m:q=15:=by omega
      subst m;have hkl:¬(k:Int)<(n:Int)-1:=aa;have ahU:k+1=n:=aa;clear j;go_wp2;go_roundw;case rel=>exact⟨k+1,15+1,_,aa,aa,aa,aH,aH,N.out,F1.out,F5.out,R.out,HL.out.symm⟩
      case measure=>exact bg
     ·have ahV:(((q:Int)+1)==16)=false:=by simp;omega
      clear j;go_wp2;go_roundw;case rel=>exact⟨k+1,q+1,_,aa,aa,aa,aH,aH,N.out,F1.out,F5.out,R.out,HL.out.symm⟩
      case measure=>exact bg
  ·exact J4
end
section
open Go.RowKit Go.WideShapes Go.ChangeShapes
def NF(xs:List Int)(d:k<16):(lk xs).drop k=xs[gF[k]?.getD 0]?.getD 0::(lk xs).drop (k+1):=by have e:(lk xs).length=16:=aD;rw[List.drop_eq_getElem_cons aa];have b:k<gF.length:=aG;simp[lk,b]
def Ea(xs:List Int):(lk xs).length=16:=aC
def Eb:∀(xs:List Int)(z:Int),(ia xs z).length<=xs.length
 |[],_=>by simp[ia]
 |x::r,z=>by
  rw[ia];split
  ·have:=Eb r (z+1);simp;omega
  ·have:=Eb r 0;simp;omega
def Ec(xs:List Int):(dm xs).length<=16:=by have:=Eb (lk xs) 0;exact this
def acX(w:ns)(R:xs.length=16):
  UL Gz.prog 148 #[a5 (arr xs)] w λe w'=>∃v',e=be v'/\az 116 2 w' w.heap.size v' (dm xs).length (fl (dm xs))/\Q w w':=by
 have s1:=bO xs;rw[R] at s1;have S:=(Nb.new 82 16 w xs R);have F:=az.jT 116 2 (w.alloc (ac (arr xs) 82)) w.heap.size aj;have T:Q w ((w.alloc (ac (arr xs) 82)).alloc (ac #[] 116)):=aR;have V:=S.alloc (ac #[] 116);rw[BE] at F;go_enter Gz.gf func148,ntmps148;go_wp2;refine(Ov).mono ?_;rintro e w1⟨h,ch,rfl,s,q1⟩;have G:=V.q q1;have W:=F.q q1;have X:=T.trans q1;have Bj:w.heap.size<w1.heap.size:=by have:=G.lt;omega
 have Uw:w.heap.size+2<=h:=by have:=s.block.1;simpa using this
 clear S V F T q1;go_wp2;have Ii:=s.dD;have H:=af s;have Z:=af G;have Q2:=af X;have p:∀g,(Value.slice (some ⟨w.heap.size+1,0,none⟩) 0 0).ownBlock=some g->g=w.heap.size+1:=λg d=>by injection d with d;exact d.symm
 clear s G X;go_loopw[3,5,6] (λu zz i wr=>∃(k z:Nat)(acc:List (Int×Int)),k<=16/\i=U O k/\zz=U O z/\z<=k/\acc.length<=k/\Hid (az 116 2 wr w.heap.size u acc.length (fl acc)/\Own wr (w.heap.size+2) (Y (some ⟨h,0,none⟩) 16 ch) 16 kE/\Nb 82 16 wr w.heap.size xs/\Q w wr/\(∀g,u.ownBlock=some g->g≠w.heap.size/\g≠h)/\h<wr.heap.size/\acc++ia ((lk xs).drop k) (z:Int)=dm xs)) (λ_ _ i _=>16-(akw i).toNat)
 case atStart=>exact⟨0,0,[],aa,rfl,rfl,aa,aj,W,H.out.mono aj,Z.out,Q2.out,(λg d=>by have:=p g d;omega),H.out.block.2,rfl⟩
 case round=>
  obtain⟨k,z,acc,hk,rfl,rfl,hzk,Ux,hK⟩:=hrel;obtain⟨C,I,J,D,k5,k6,b⟩:=hK.out;clear hK W H Z Q2 p;by_cases f:k<16
  ·have m:(k:Int)<16:=by omega
   have c1:=I.at k f;rw[zS f] at c1;rw[NF xs f,ia] at b;have ht:=sC k f;generalize gF[k]?.getD 0=t at c1 b ht;have H7:(t:Int)<16:=aa;have c2:=J.at t ht;generalize xs[t]?.getD 0=x at c2 b;have hzi:(z:Int)<=16:=aa;have cC:=D.size;have K2:=af I;have K3:=af J;have K4:=af D;have E:=af k5;clear I J D k5;by_cases l:x=0
   ·rw[if_pos l] at b;have K:=af b;subst l;clear b;go_wp2;go_roundw;case rel=>exact⟨k+1,z+1,acc,aa,aH,aH,aa,aa,C,K2.out,K3.out,K4.out,E.out,k6,K.out⟩
    case measure=>exact bg
   ·rw[if_neg l] at b;have K:=af b;have qE:(x==0)=false:=by simp[l]
    clear b;go_wp2_with(at_builtin;refine fN rfl rfl (Gz.gu underlying114) EM rfl aq aq rfl (C.alloc _) ⟨_,0,none⟩ [z,x] 1 rfl rfl aa aA (λj L=>iJ _ [z,x] _ j L) ?_;intro v' w' O2 G2);go_roundw
    case rel=>
     have r:bC u3 (wr.alloc (ac #[U O (z:Int),U O x] 116)) v' w':=G2;have M:=r.size;rw[BE] at M;have N:u3.ownBlock≠some h:=λe=>(E.out h e).2 rfl;refine⟨k+1,0,acc++[((z:Int),x)],aa,aH,rfl,aa,by simp;omega,by simpa[Fl] using O2,(K2.out.alloc _).other r.bK (.inr λe=>N e.symm),(K3.out.alloc _).ez r λe=>(E.out _ e).1 rfl,(K4.out.alloc _).grown r.bK λg d=>(C.alloc (ac #[U O (z:Int),U O x] 116)).below g d,?_,aa,by rw[aiK];exact K.out⟩
     ·intro g d;rcases r.own with e|⟨j,e,L⟩
      ·exact E.out g (e.symm.trans d)
      ·rw[d] at e;injection e with e;simp at L;omega
    case measure=>exact bg
  ·have m:k=16:=by omega
   subst m;rw[List.drop_of_length_le (by rw[Ea];omega),ia,List.append_nil] at b;rw[<-b];go_wp2;go_ret;rw[<-b];exact⟨_,rfl,C,D⟩
end
end Go.Proofs.Q0
