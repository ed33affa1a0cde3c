import Derived.Test.YtfmnlpedhgficaaGreatDoorK26
set_option maxRecDepth 100000
set_option maxHeartbeats 8000000
set_option linter.all false
open Go.Value renaming int->U,slice->Y,bool->a5,agg->a9,pointer->bi,tuple->ci,iface->em
open Go.IntKind renaming i64->O
open Go.Obj renaming cells->ac
open Go.Ending renaming returned->be
open And renaming intro->Vn
open Bool renaming false->Bz,true->AT,true_and->alH
open Go renaming Addr->ajF,Calls->aiK,Value->so,World->AS,bodyPost_end->alp,bodyPost_ret->ajz
open Go.IntKind renaming i64->EV
open Go.Value renaming int->alf,slice->aki
open Go.World renaming size_alloc->OF
open Int renaming natCast_mul->alW,toNat_natCast->ajW
open List renaming append_assoc->ajH,nil_append->akH,replicate->rl,setIfInBounds_toArray->ajt,set_cons_succ->ajJ,set_cons_zero->ajx
open Option renaming none->ns,some->an
namespace Go.Proofs
def zl{p:Prop}(h:p:=by
  go_wp2;go_roundw;case rel=>exact⟨k+1,aa,aF,M5.out⟩
  case measure=>simp[intOf];omega):p:=h
def Dc{p:Prop}(h:p:=by rw[HV.out] at h;cases h):p:=h
def LV{p:Prop}(h:p:=by(go_wp2_with(refine eP (cs':=(#[U O 0,U O 0,Y none 0 0]:Array Value)) rfl _ _ _ rfl rfl _ rfl rfl J' rfl fH ah ?_;intro w9 b9 g9 s9);have bc:=b9.cell;exact bodyPost_ret (v:=a9 (#[U O 0,U O 0,Y none 0 0]:Array Value)) (by simp[results,results35,go_sem,bc]) rfl ⟨QZ.out.grown g9 λk e=>rV,λh=>Dc,λ_=>rfl⟩)):p:=h
def Dd{p:Prop}(h:p:=by rw[HN.out];exact HS.out):p:=h
def yO{p:Prop}(h:p:=by rw[<-Int.natCast_mul,CA];exact IntWalk.i64_in _ ⟨by omega,by omega⟩):p:=h
def yP{p:Prop}(h:p:=by rw[<-Int.natCast_add,Fm];exact IntWalk.i64_in _ ⟨by omega,by omega⟩):p:=h
def LW{p:Prop}(h:p:=by
  gi_wp2
  refine bodyPost_ret (results_none rfl _ _ _) rfl ?_;exact⟨⟨_,rfl⟩,.inr ⟨_,P1.out,UJ⟩⟩):p:=h
def LX{p:Prop}(h:p:=by clear he hW hH;go_enter Gz.gf func23,ntmps23;go_wp2;refine(afs c c' HX.out HY.out hn.out yo.out lx ly).mono ?_;rw[HE.out];rintro e w'⟨rfl,k,rfl⟩;go_wp2;go_ret;exact⟨by rw[yp.out];rfl,q0.drewN _⟩):p:=h
def LY{p:Prop}(h:p:=by go_enter Gz.gf func23,ntmps23;go_wp2;go_ret;exact⟨by rw[yp.out];rfl,q0⟩):p:=h
end Go.Proofs
namespace Go.Proofs.Q0
open Go.Proofs.Tryz
variable{w:AS}{xs ref:List Int}{g n c B W H B':Nat}{A':Option ajF}
section
open Go.RowKit
def aai{x y:Nat}(a:Nat)(n' c' B':Nat)(A':Option ajF){m:List Int}(ref:List Int){q:Int}(RW RH:Int)(ho:Own w B (Y (an ⟨g,0,ns⟩) n c) n xs)(hB:4<B)(hp:bU W H xs=AT)(hl:m.length=71)(hv:dt m=AT)
  (hx:x+8<=W)(hy:y+8<=H)(hT:Tb w)(hq:qB q=AT)(hr:nth m 0≠2->RW=W/\RH=H/\Rd w B' A' ref/\B'<=w.heap.size/\ref.length=n'/\bU W H ref=AT):
  aiK Gz.prog 70 #[a9 #[U O RW,U O RH,Y A' n' c'],a9 #[U O W,U O H,Y (an ⟨g,0,ns⟩) n c],U O x,U O y,a9 (arr m),U O q,U O a] w λe w'=>e=be (ci #[])/\Own w' B (Y (an ⟨g,0,ns⟩) n c) n (ef W H ref x y a m q 4 xs)/\au [g] w w':=by
 obtain⟨k0,⟨v1,v2⟩,⟨v3,v4⟩,km,kl⟩:=S3 hl hv;obtain⟨ut,rJ⟩:=ho.block;have JM:g≠4:=aa;obtain⟨⟨p1,p2,p3⟩,⟨p4,p5,p6⟩,p7,p8⟩:=kg hp;have uM:=ho.1;have rL:=af λk=>qo hp (Aw W H ref x y a m q xs k) (Ax W H ref x y a m q p8 k);have hn:n=H*W:=BD p7 uM;have S':n<=1024:=by rw[hn];exact gj (show H<=32 by omega) (show W<=32 by omega)
 have Do:=af hn;clear hn;have hV:sub m 1 2=[nth m 1,nth m 2]:=lW m 1 aa;have r:=Nb.new 97 71 ((w.alloc (ac #[U O RW,U O RH,Y A' n' c'] 40)).alloc (ac (#[U O W,U O H,Y (an ⟨g,0,ns⟩) n c]:Array so) 40)) m hl;simp only[OF] at r;have f:Q w (((w.alloc (ac #[U O RW,U O RH,Y A' n' c'] 40)).alloc (ac (#[U O W,U O H,Y (an ⟨g,0,ns⟩) n c]:Array so) 40)).alloc (ac (arr m) 97)):=aU;have br:=((ak.new w 40 #[U O RW,U O RH,Y A' n' c']).alloc (ac (#[U O W,U O H,Y (an ⟨g,0,ns⟩) n c]:Array so) 40)).alloc (ac (arr m) 97);have V:=(ak.new (w.alloc (ac #[U O RW,U O RH,Y A' n' c'] 40)) 40 (#[U O W,U O H,Y (an ⟨g,0,ns⟩) n c]:Array so)).alloc (ac (arr m) 97);rw[OF] at V;have HR:=af hr;have KM:=af km;have KL:=af λk hk=>afR kl k hk;clear hr km hv p7 p8 kl;have ip:=ho.q f;have CL:=hT.q f;obtain⟨kd,t⟩:∃z,nth m 0=z:=⟨_,rfl⟩;have cq:∀(z:AS)(_:Nb 97 71 z (w.heap.size+1+1) m),z.cell? ⟨w.heap.size+1+1,0,ns⟩=an (U O kd):=λz h=>by rw[<-t];exact h.at 0 aa
 have CQ:=af cq;obtain⟨bb,l⟩:∃z,(kd !=2)=z:=⟨_,rfl⟩;have xG:(kd==2)=!bb:=by rw[<-l,bne,Bool.not_not]
 have CD:Hid (bb=Bz->nth m 0=2):=λh=>by rw[h,bne_eq_false_iff_eq] at l;exact t.trans l
 have Wm:Hid (bb=AT->nth m 0≠2):=λh=>by rw[h,bne_iff_ne] at l;rw[t];exact l
 replace f:=f.alloc (ac #[] 3);replace r:=r.alloc (ac #[] 3);replace br:=br.alloc (ac #[] 3);replace V:=V.alloc (ac #[] 3);have F:=ho.q f;have G:=hT.q f;have c0:=cq _ r;clear ip CL cq t;go_enter Gz.gf func70,ntmps70
 go_upto_if 22 with fail
 generalize((((w.alloc (ac #[U O RW,U O RH,Y A' n' c'] 40)).alloc (ac (#[U O W,U O H,Y (an ⟨g,0,ns⟩) n c]:Array so) 40)).alloc (ac (arr m) 97)).alloc (ac #[] 3))=w1 at f V br r F G c0⊢;go_cut[14] from 23 to 28 (λs wx=>Hid (lI 1 w wx W H g n c B xs m s (lG W H ref x y (nth m 1) (nth m 2))))
 case first=>
  cases bb with
  |false=>have E:=CD.out rfl;go_wp2;go_meet;exact⟨F,au.gV _ f,V,r,G,λe=>absurd E e⟩
  |true=>
   obtain⟨rfl,rfl,rd,rB,rn,rp⟩:=HR.out (Wm.out rfl);have rc:=br.cell;go_wp2_with((with_reducible refine ep (ty:=92) _ 1 ?_ ?_ _ r 2 ?_ _ (Gz.gu underlying92) ?_ jR ?_);exact rfl;exact rfl;omega;exact rfl;rw[hV]);refine(aad x y c' (rd.q f rB) (aI rB f.size) rn rp aa aa aa aa v1 v2 v3 v4).mono ?_;rintro e w5⟨v,rfl,o5,p⟩;rcases o5.dE with⟨_,h⟩|⟨g',c5,rfl,hB5,JL,_⟩
   ·exact absurd h al
   go_wp2;go_meet;exact⟨F.q p,(au.gV _ f).q p,V.q p,r.q p,G.q p,λ_=>⟨g',c5,rfl,by have:=f.size;omega,JL,λi hi=>o5.at i hi⟩⟩
 case rest=>
  have hS:=hcut;clear hcut r c0;go_wp2;go_loopw[15] (λi wr=>∃k:Nat,k<=4/\i=U O k/\Hid (lI 1 w wr W H g n c B (ef W H ref x y a m q k xs) m u14 (lG W H ref x y (nth m 1) (nth m 2)))) (λi _=>4-(intOf i).toNat)
  case atStart=>exact⟨0,aa,rfl,hS⟩
  case round=>
   clear hS;obtain⟨k,hk,rfl,hK⟩:=hrel;by_cases o:k<4
   ·have i6:(k:Int)<4:=by omega
    have Fd:=R6 hl o;obtain⟨k2,JP⟩:∃i,k%2=i:=⟨_,rfl⟩;obtain⟨kq,hkq⟩:∃i,k/2=i:=⟨_,rfl⟩;have d1:(k:Int)%2=(k2:Int):=aa;have d2:(k:Int)/2=(kq:Int):=aa;have d3:(k:Int).tmod 2=(k2:Int):=by rw[Int.tmod_eq_emod_of_nonneg (by omega)];exact d1
    have d4:EV.wrap (kq:Int)=(kq:Int):=aB _ ⟨aa,aa⟩;obtain⟨i,hi⟩:∃i,k%2*4=i:=⟨_,rfl⟩;obtain⟨j,hj⟩:∃j,k/2*4=j:=⟨_,rfl⟩;have ti:EV.wrap ((k2:Int)*4)=(i:Int):=by rw[show(k2:Int)*4=(i:Int) by omega];exact aB _ ⟨by omega,by omega⟩
    have tj:EV.wrap ((kq:Int)*4)=(j:Int):=by rw[show(kq:Int)*4=(j:Int) by omega];exact aB _ ⟨by omega,by omega⟩
    have Wk:i<=4:=aa;have Wl:j<=4:=aa;have HX:=af (rL.out k);have HS:Hid (ef W H ref x y a m q (k+1) xs=iO W (x+k%2*4) (y+k/2*4) (kL W H ref (ef W H ref x y a m q k xs) x y a m k) (gY (lvl m k) q) 16 (ef W H ref x y a m q k xs)):=rfl;have I:=af (QG W H ref (ef W H ref x y a m q k xs) x y a m k);have rh:=af (R4 (W:=W) (H:=H) (ref:=ref) x y a (m:=m) k HX.out λe=>(HR.out e).2.2.2.2.2);obtain⟨X,J⟩:∃z,x+k%2*4=z:=⟨_,rfl⟩;obtain⟨yj,K⟩:∃z,y+k/2*4=z:=⟨_,rfl⟩;have M:=af λh=>@S4 W H x y a k X yj ref (ef W H ref x y a m q k xs) m h J K;have yl:=af λh=>@S6 W H x y a k _ _ ref (ef W H ref x y a m q k xs) m h rfl rfl;rw[J,K] at HS;generalize kL W H ref (ef W H ref x y a m q k xs) x y a m k=pb at HS I rh M yl;generalize ef W H ref x y a m q k xs=ys at HX HS M hK;have tx:EV.wrap ((x:Int)+(i:Int))=(X:Int):=by rw[show(x:Int)+(i:Int)=(X:Int) by omega];exact aB _ ⟨by omega,by omega⟩
    have ty:EV.wrap ((y:Int)+(j:Int))=(yj:Int):=by rw[show(y:Int)+(j:Int)=(yj:Int) by omega];exact aB _ ⟨by omega,by omega⟩
    have pJ:X+4<=W:=aa;have pK:yj+4<=H:=aa;have ajg:X<=32:=aa;have ajh:yj<=32:=aa;have bz:Bl (wr.alloc (ac (#[U O 0,U O 0,U O 0,U O 0,U O 0,U O 0,U O 0,U O 0,U O 0,U O 0,U O 0,U O 0,U O 0,U O 0,U O 0,U O 0]:Array so) 94)) wr.heap.size (rl 16 0):=Bl.zero wr;have hKa:=hK.out.q ((Q.refl wr).alloc (ac (#[U O 0,U O 0,U O 0,U O 0,U O 0,U O 0,U O 0,U O 0,U O 0,U O 0,U O 0,U O 0,U O 0,U O 0,U O 0,U O 0]:Array so) 94))
    have KA:Hid (∀N,(wr.alloc (ac (#[U O 0,U O 0,U O 0,U O 0,U O 0,U O 0,U O 0,U O 0,U O 0,U O 0,U O 0,U O 0,U O 0,U O 0,U O 0,U O 0]:Array so) 94)).grownBy N (an wr.heap.size)->Nb 97 71 N (w.heap.size+1+1) m/\Q wr N):=λN g9=>by have Wn:=((Q.refl wr).alloc (ac (#[U O 0,U O 0,U O 0,U O 0,U O 0,U O 0,U O 0,U O 0,U O 0,U O 0,U O 0,U O 0,U O 0,U O 0,U O 0,U O 0]:Array so) 94)).grown g9 (λk e=>by have:=aJ e;omega);exact⟨(hK.out.q Wn).aO,Wn⟩
    clear hi hj J K hKa JP hkq
    go_upto_if 46 with(refine jg rfl _ _ rfl _ rfl _ (rl 16 0) rfl rfl bz ?_;intro N b9 g9 s9;have c0:=CQ.out _ (KA.out _ g9).1)
    have qb:=(KA.out _ g9).2;clear KA bz g9 d1 d2 d3 d4 ti tj tx ty;go_cut[] from 47 to 59 (λwx=>Hid (Q wr wx/\Bl wx wr.heap.size pb))
    case first=>
     cases bb with
     |false=>
      have E:nth m 0=2:=CD.out rfl;have u:=hK.out.q qb;obtain⟨md,P⟩:∃z:Nat,nth m (3+k)=(z:Int):=⟨(nth m (3+k)).toNat,by have:=KM.out E k o;omega⟩;have Ij:md<5:=by have:=KM.out E k o;omega
      have cm:N.cell? ⟨w.heap.size+1+1,3+k,ns⟩=an (U O (nth m (3+k))):=u.aO.at (3+k) aa;have A:=M.out E;rw[P] at cm A;rw[ajW] at A;have Cc:=af A;have d:=af u;have pc:=u.j4.cell;have ym:=af P;clear A u P;go_wp2;refine fe (λC=>Q N C/\(∀i,C.cell? ⟨w.heap.size+1,i,ns⟩=(#[U O W,U O H,Y (an ⟨g,0,ns⟩) n c]:Array so)[i]?)/\C.cell? ⟨w.heap.size+1+1,3+k,ns⟩=an (U O (md:Int))) (λj=>decide (10<=j)) ah ⟨(Q.refl _).drew,pc,cm⟩ λhS=>?_;refine ai 0 (h:=ai 1 (h:=ai 2 (h:=ai 3 (h:=ai 4 (h:=ai 5 (h:=ai 6 (h:=ai 7 (h:=?_))))))));refine bA (k:=8) ah rfl rfl λR b=>?_;go_simp;refine(aaa a c (d.out.q hS.1).own.rd (av _) (d.out.own.1) Do.out aa aa pJ pK).mono ?_;rintro e w3⟨rfl,q3⟩;have y3:=hS.1.trans q3;refine b.out _ _ ⟨y3,(d.out.q y3).j4.cell,(d.out.aO.q y3).at (3+k) aa|>.trans (congrArg (λz=>an (alf .i64 z)) ym.out)⟩ λhS=>?_;clear b R;refine bh ?_;refine bA (k:=9) ah rfl rfl λR b=>?_;go_simp;refine(Yx Ij (Hh HX.out X yj)).mono ?_;rintro e w4⟨rfl,q4⟩;rw[<-Cc.out];have y4:=y3.trans q4;refine b.out _ _ ⟨y4,(d.out.q y4).j4.cell,(d.out.aO.q y4).at (3+k) aa|>.trans (congrArg (λz=>an (alf .i64 z)) ym.out)⟩ λhS=>?_;clear b R;refine bh ?_;refine iB [10] 10 ah al rfl ?_;have b5:=b9.q y4;have Ik:=I.out;refine jg rfl _ _ rfl _ rfl _ _ rfl Ik b5 ?_;intro w6 b6 g6 s6;go_wp2;go_meet;exact⟨(qb.trans y4).grown g6 (λk e=>by have:=aJ e;omega),b6⟩
     |true=>have E:nth m 0≠2:=Wm.out rfl;obtain⟨bm,cm,rfl,hbm,V'⟩:=(hK.out.q qb).rd E wD;go_wp2;refine(afK cm V' (av _) wD o).mono ?_;rintro e w5⟨rfl,p⟩;rw[<-yl.out E];have b5:=b9.q p;go_wp2_with((refine jg rfl _ _ rfl _ rfl _ _ rfl dw aG ?_;intro w6 b6 g6 s6));go_meet;exact⟨(qb.trans p).grown g6 (λk e=>by have:=aJ e;omega),b6⟩
    case rest=>
     obtain⟨qc,bc2⟩:=hcut.out;have D:=hK.out.q qc;have pc:=D.j4.cell;have mc:=D.aO;have CM:=af D;have rv:sub m (7+k*16) 16=lvl m k:=by unfold lvl;rw[Nat.mul_comm k 16]
     have hlq:=KL.out k o;clear hcut b9 qb D;go_wp2;refine fe (λC=>(∀i,C.cell? ⟨w.heap.size+1,i,ns⟩=(#[U O W,U O H,Y (an ⟨g,0,ns⟩) n c]:Array so)[i]?)/\Nb 97 71 C (w.heap.size+1+1) m/\Bl C wr.heap.size pb) (λ_=>Bz) ah ⟨pc,mc.drew,bc2.drew⟩ λhS=>?_;refine ai 0 (h:=ai 1 (h:=ai 2 (h:=ai 4 (h:=ai 5 (h:=ai 6 (h:=ai 8 (h:=?_)))))));refine pU (i:=3) (v:=a9 (arr ?Vn)) rfl ah ah ah ah (λ_ _ _ h=>h) (yy aD rfl rfl λC S=>?hz1) hS ?TE;case hz1=>((try dsimp only at S);go_split_ands;assumption)
     try simp only[Act.put,ajt,ajx,ajJ]
     refine pU (i:=7) (v:=a9 (arr (sub m (7+k*16) 16))) rfl ah ah ah ah (λ_ _ _ h=>h) (Xh aD rfl rfl aa (λC S=>S.2.1) hl (Gz.gu underlying94) rfl cN) hS ?_;try simp only[Act.put,ajt,ajx,ajJ]
     rw[rv];refine bA (k:=9) ah rfl rfl λR b=>?_;go_simp;have y0:Q wc wc.drew:=(Q.refl _).drew;refine(XX Fd hlq hq).mono ?_;rintro e w5⟨rfl,p⟩;have y5:=y0.trans p;have Z:=af (CM.out.q y5);have T:=bc2.q y5;refine b.out _ _ ⟨Z.out.j4.cell,Z.out.aO,T⟩ λhS=>?_;clear b R;refine bh ?_;have yn:=af (ac2 (gY (lvl m k) q) Z.out.own Do.out S' aa aa pJ pK I.out QA rh.out R3);rw[<-HS.out] at yn;refine bA (k:=10) ah rfl rfl λR b=>?_;go_simp;refine yn.out.mono ?_;rintro e w6⟨rfl,o6,x6⟩;have Z6:=af (Z.out.put o6 x6 rJ JM);have hsr:=hK.out.az.size;refine b.out _ _ ⟨Z6.out.j4.cell,Z6.out.aO,T.az x6 aA⟩ λhS=>?_;clear b R;refine bh ?_;refine lT ah ?_ _;clear hS o6 x6 y5 bc2 pc mc rv T;exact LU
   ·have PJ:k=4:=by omega
    subst PJ;go_wp2;exact alp (v:=ci #[]) (by simp[results,results70,go_sem]) rfl ⟨rfl,hK.out.own,hK.out.az⟩
end
section
open Go.RowKit
structure ni(wr:AS)(a1 a2:Nat)(W H g n c B:Nat)(A':Option ajF)(n' c' B':Nat)(RW RH:Int)(xs L ref:List Int)(gl cnt cl BL:Nat):Prop where
 own:Own wr B (Y (an ⟨g,0,ns⟩) n c) n xs
 rb:ak wr a1 40 (#[U O RW,U O RH,Y A' n' c']:Array so)
 pb:ak wr a2 40 (#[U O W,U O H,Y (an ⟨g,0,ns⟩) n c]:Array so)
 row:ay 97 71 wr BL (Y (an ⟨gl,0,ns⟩) cnt cl) cnt L
 tb:Tb wr
 rd:Rd wr B' A' ref
section
variable{w w':AS}{a1 a2 W H g n c B:Nat}{A':Option ajF}{n' c' B':Nat}{RW RH:Int}{xs ys L ref:List Int}{gl cnt cl BL:Nat}
def ni.q(h:ni w a1 a2 W H g n c B A' n' c' B' RW RH xs L ref gl cnt cl BL)(q:Q w w')(a:B'<=w.heap.size):ni w' a1 a2 W H g n c B A' n' c' B' RW RH xs L ref gl cnt cl BL:=
 ⟨h.own.q q,h.rb.q q,h.pb.q q,h.row.q q,h.tb.q q,h.rd.q q a⟩
def ni.put(h:ni w a1 a2 W H g n c B A' n' c' B' RW RH xs L ref gl cnt cl BL)(o:Own w' B (Y (an ⟨g,0,ns⟩) n c) n ys)(x:au [g] w w')(h1:a1≠g)(a:a2≠g)(f:gl≠g)(b:4≠g)(i:B'<=g):ni w' a1 a2 W H g n c B A' n' c' B' RW RH ys L ref gl cnt cl BL:=
 ⟨o,h.rb.az x (by simpa using h1),h.pb.az x (by simpa using a),h.row.Bv x (λj d=>by have k:gl=j:=aJ d;simp;omega),h.tb.az x (by simpa using b),h.rd.az x (by have:=h.own.block;omega) λy e=>by simp at e;omega⟩
end
def XD{row:Nat}(n' c' B' a:Nat){b:Nat}(d gl cnt cl BL:Nat)(A':Option ajF)(L ref:List Int)(f l m o:so)(q RW RH:Int)(N:Own w B (Y (an ⟨g,0,ns⟩) n c) n xs)(hB:4<B)(yq:B'<=B)(hp:bU W H xs=AT)
  (hT:Tb w)(UD:row<b)(hc:w.cell? ⟨a,row,ns⟩=an (Y (an ⟨gl,0,ns⟩) cnt cl))(P:ay 97 71 w BL (Y (an ⟨gl,0,ns⟩) cnt cl) cnt L)(R:gl≠g)(CN:cnt*8<=W)(A:row*8+8<=H)
  (S:∀k,k<cnt->dt (aO L k)=AT)(C:Rd w B' A' ref)(hr:(∃k,k<cnt/\nth (aO L k) 0≠2)->RW=W/\RH=H/\ref.length=n'/\bU W H ref=AT):
  aiK Gz.prog 79 #[a9 (#[f,l,m,U O q,o,Y (an ⟨a,0,ns⟩) b d]:Array so),a9 (#[U O RW,U O RH,Y A' n' c']:Array so),a9 (#[U O W,U O H,Y (an ⟨g,0,ns⟩) n c]:Array so),U O row] w λe w'=>e=be (ci #[])/\Own w' B (Y (an ⟨g,0,ns⟩) n c) n (iu W H ref row L q cnt xs)/\au [g] w w':=by
 obtain⟨ut,rJ⟩:=N.block;obtain⟨⟨p1,p2,p3⟩,⟨p4,p5,p6⟩,p7,p8⟩:=kg hp;have T:=P.1;have V:=af λk=>qo hp (Ay W H ref row L q xs k) (Az W H ref row L q p8 k);have p:Q w (((w.alloc (ac (#[f,l,m,U O q,o,Y (an ⟨a,0,ns⟩) b d]:Array so) 80)).alloc (ac (#[U O RW,U O RH,Y A' n' c']:Array so) 40)).alloc (ac (#[U O W,U O H,Y (an ⟨g,0,ns⟩) n c]:Array so) 40)):=aU;have X:=((ak.new w 80 (#[f,l,m,U O q,o,Y (an ⟨a,0,ns⟩) b d]:Array so)).alloc (ac (#[U O RW,U O RH,Y A' n' c']:Array so) 40)).alloc (ac (#[U O W,U O H,Y (an ⟨g,0,ns⟩) n c]:Array so) 40);have br:=(ak.new (w.alloc (ac (#[f,l,m,U O q,o,Y (an ⟨a,0,ns⟩) b d]:Array so) 80)) 40 (#[U O RW,U O RH,Y A' n' c']:Array so)).alloc (ac (#[U O W,U O H,Y (an ⟨g,0,ns⟩) n c]:Array so) 40);have bp:=ak.new ((w.alloc (ac (#[f,l,m,U O q,o,Y (an ⟨a,0,ns⟩) b d]:Array so) 80)).alloc (ac (#[U O RW,U O RH,Y A' n' c']:Array so) 40)) 40 (#[U O W,U O H,Y (an ⟨g,0,ns⟩) n c]:Array so);simp only[OF] at br bp;have D:=(p.cell a row (zw w _ hc)).trans hc;have hBw:B'<=w.heap.size:=aa;have K0:Hid (ni (((w.alloc (ac (#[f,l,m,U O q,o,Y (an ⟨a,0,ns⟩) b d]:Array so) 80)).alloc (ac (#[U O RW,U O RH,Y A' n' c']:Array so) 40)).alloc (ac (#[U O W,U O H,Y (an ⟨g,0,ns⟩) n c]:Array so) 40)) (w.heap.size+1) (w.heap.size+1+1) W H g n c B A' n' c' B' RW RH xs L ref gl cnt cl BL):=⟨N.q p,br,bp,P.q p,hT.q p,C.q p hBw⟩;have E0:=af (au.gV [g] p);have aji:(row:Int)<(b:Int):=aa;clear N br bp P hT C hc p;go_enter Gz.gf func79,ntmps79;go_wp2;generalize(((w.alloc (ac (#[f,l,m,U O q,o,Y (an ⟨a,0,ns⟩) b d]:Array so) 80)).alloc (ac (#[U O RW,U O RH,Y A' n' c']:Array so) 40)).alloc (ac (#[U O W,U O H,Y (an ⟨g,0,ns⟩) n c]:Array so) 40))=w0 at K0 E0 X D⊢;go_loopw[16] (λi wr=>∃k:Nat,k<=cnt/\i=U O k/\Hid (ni wr (w.heap.size+1) (w.heap.size+1+1) W H g n c B A' n' c' B' RW RH (iu W H ref row L q k xs) L ref gl cnt cl BL/\au [g] w wr/\ak wr w.heap.size 80 (#[f,l,m,U O q,o,Y (an ⟨a,0,ns⟩) b d]:Array so))) (λi _=>cnt-(intOf i).toNat)
 case atStart=>exact⟨0,aa,rfl,K0.out,E0.out,X⟩
 case round=>
  obtain⟨k,hk,rfl,hK⟩:=hrel;obtain⟨x,J,k3⟩:=hK.out;clear hK K0 E0 X D;by_cases r:k<cnt
  ·have i6:(k:Int)<cnt:=by omega
   have E:=wm T r;have hl:=x.row;have rc:=x.rb.cell;have pc:=x.pb.cell;have oc:=k3.cell;have K:=af x;have K2:=af J;have K3:=af k3;have cM:=J.size;clear x J k3;have HS:Hid (iu W H ref row L q (k+1) xs=ef W H ref (k*8) (row*8) (row*8) (aO L k) q 4 (iu W H ref row L q k xs)):=rfl;have F:=af (V.out k);have G:k*8+8<=W:=aa;have hv:=S k r;have I:nth (aO L k) 0≠2->RW=W/\RH=H/\ref.length=n'/\bU W H ref=AT:=λh=>hr ⟨k,r,h⟩;obtain⟨x8,s⟩:∃z,k*8=z:=⟨_,rfl⟩;obtain⟨r8,t⟩:∃z,row*8=z:=⟨_,rfl⟩;rw[s,t] at HS;rw[s] at G;rw[t] at A;generalize iu W H ref row L q k xs=ys at K HS F;have t1:EV.wrap ((k:Int)*8)=(x8:Int):=by rw[show(k:Int)*8=(x8:Int) by omega];exact aB _ ⟨by omega,by omega⟩
   have t2:EV.wrap ((row:Int)*8)=(r8:Int):=by rw[show(row:Int)*8=(r8:Int) by omega];exact aB _ ⟨by omega,by omega⟩
   have HV:=af hv;have u:=af I;clear s t hv I;go_wp2_with(first|((with_reducible refine sB (ty:=97) _ (k*71) ?_ ?_ _ hl 71 ?_ _ (Gz.gu underlying97) ?_ gN ?_);exact rfl;exact rfl;omega;exact rfl;rw[qh])|((refine dx (n:=71) rfl _ _ _ rfl _ rfl _ _ aD (Nb.new 97 71 _ et rfl) E gN ?_;intro w9 bl g9 s9;rw[OF] at s9;have y:Q wr w9:=((Q.refl wr).alloc _).grown g9 λj e=>rV;have pc9:=(K.out.pb.q y).cell;have rc9:=(K.out.rb.q y).cell;have oc9:=(K3.out.q y).cell))|((with_reducible refine e8 (n:=71) rfl _ _ rfl _ rfl _ bl _ (Gz.gu underlying97) rfl gN ?_)));have Z:=K.out.q y aa;refine(Yw r8 n' c' B' A' ref q RW RH Z.own hB F.out E HV.out G A Z.tb λh=>⟨(u.out h).1,(u.out h).2.1,Z.rd,aa,(u.out h).2.2⟩).mono ?_;rintro e w5⟨rfl,o5,M⟩;rw[<-HS.out] at o5;have M5:=af (Vn (Z.put o5 M aa aa R aa aa) (Vn ((K2.out.q y).trans M) ((K3.out.q y).az M aA)));clear bl g9 hl rc pc oc pc9 rc9 oc9 Z M o5;exact zl
  ·have jn:k=cnt:=by omega
   subst jn;go_wp2;exact alp (v:=ci #[]) (by simp[results,results79,go_sem]) rfl ⟨rfl,x.own,J⟩
def ac6(row:Nat)(n' c':Nat){gl cnt cl BL:Nat}{L:List Int}{q:Int}(RW RH:Int)(D:Own w B (Y (an ⟨g,0,ns⟩) n c) n xs)(hB:4<B)(yq:B'<=B)(hp:bU W H xs=AT)
  (hT:Tb w)(E:ay 97 71 w BL (Y (an ⟨gl,0,ns⟩) cnt cl) cnt L)(F:gl≠g)(CN:cnt*8<=W)(l:row*8+8<=H)(hq:qB q=AT)
  (G:∀k,k<cnt->dt (aO L k)=AT)(m:Rd w B' A' ref)(hr:(∃k,k<cnt/\nth (aO L k) 0≠2)->RW=W/\RH=H/\ref.length=n'/\bU W H ref=AT):
  aiK Gz.prog 49 #[a9 (#[U O RW,U O RH,Y A' n' c']:Array so),a9 (#[U O W,U O H,Y (an ⟨g,0,ns⟩) n c]:Array so),U O row,Y (an ⟨gl,0,ns⟩) cnt cl,U O q] w λe w'=>e=be (ci #[])/\Own w' B (Y (an ⟨g,0,ns⟩) n c) n (iu W H ref row L q cnt xs)/\au [g] w w':=by
 obtain⟨ut,rJ⟩:=D.block;obtain⟨⟨p1,p2,p3⟩,⟨p4,p5,p6⟩,p7,p8⟩:=kg hp;have o:=E.1;have I:=af λk=>qo hp (Ay W H ref row L q xs k) (Az W H ref row L q p8 k);have j:Q w ((w.alloc (ac (#[U O RW,U O RH,Y A' n' c']:Array so) 40)).alloc (ac (#[U O W,U O H,Y (an ⟨g,0,ns⟩) n c]:Array so) 40)):=aU;have br:=(ak.new w 40 (#[U O RW,U O RH,Y A' n' c']:Array so)).alloc (ac (#[U O W,U O H,Y (an ⟨g,0,ns⟩) n c]:Array so) 40);have J:=ak.new (w.alloc (ac (#[U O RW,U O RH,Y A' n' c']:Array so) 40)) 40 (#[U O W,U O H,Y (an ⟨g,0,ns⟩) n c]:Array so);simp only[OF] at J;have K:B'<=w.heap.size:=aa;have M:Hid (ni ((w.alloc (ac (#[U O RW,U O RH,Y A' n' c']:Array so) 40)).alloc (ac (#[U O W,U O H,Y (an ⟨g,0,ns⟩) n c]:Array so) 40)) w.heap.size (w.heap.size+1) W H g n c B A' n' c' B' RW RH xs L ref gl cnt cl BL):=⟨D.q j,br,J,E.q j,hT.q j,m.q j K⟩;have N:=af (au.gV [g] j);clear D br J E hT m j;go_enter Gz.gf func49,ntmps49;go_wp2;generalize((w.alloc (ac (#[U O RW,U O RH,Y A' n' c']:Array so) 40)).alloc (ac (#[U O W,U O H,Y (an ⟨g,0,ns⟩) n c]:Array so) 40))=w0 at M N⊢;go_loopw[10] (λi wr=>∃k:Nat,k<=cnt/\i=U O k/\Hid (ni wr w.heap.size (w.heap.size+1) W H g n c B A' n' c' B' RW RH (iu W H ref row L q k xs) L ref gl cnt cl BL/\au [g] w wr)) (λi _=>cnt-(intOf i).toNat)
 case atStart=>exact⟨0,aa,rfl,M.out,N.out⟩
 case round=>
  obtain⟨k,hk,rfl,hK⟩:=hrel;obtain⟨P,A⟩:=hK.out;clear hK M N;by_cases a:k<cnt
  ·have i6:(k:Int)<cnt:=by omega
   have R:=wm o a;have p:=af P;have E2:=af A;have cM:=A.size;clear P A;have S:Hid (iu W H ref row L q (k+1) xs=ef W H ref (k*8) (row*8) (row*8) (aO L k) q 4 (iu W H ref row L q k xs)):=rfl;have r:=af (I.out k);have s:k*8+8<=W:=aa;have hv:=G k a;have t:nth (aO L k) 0≠2->RW=W/\RH=H/\ref.length=n'/\bU W H ref=AT:=λh=>hr ⟨k,a,h⟩;obtain⟨x8,b⟩:∃z,k*8=z:=⟨_,rfl⟩;obtain⟨T,d⟩:∃z,row*8=z:=⟨_,rfl⟩;rw[b,d] at S;rw[b] at s;rw[d] at l;generalize iu W H ref row L q k xs=ys at p S r;have t1:EV.wrap ((k:Int)*8)=(x8:Int):=by rw[show(k:Int)*8=(x8:Int) by omega];exact aB _ ⟨by omega,by omega⟩
   have t2:EV.wrap ((row:Int)*8)=(T:Int):=by rw[show(row:Int)*8=(T:Int) by omega];exact aB _ ⟨by omega,by omega⟩
   have HV:=af hv;have f:=af t;have V:sub L (k*71) 71=aO L k:=by rw[qh]
   clear b d hv t;go_wp2;have u:=p.out.row;refine fe (λC=>(∀i,C.cell? ⟨w.heap.size,i,ns⟩=(#[U O RW,U O RH,Y A' n' c']:Array so)[i]?)/\(∀i,C.cell? ⟨w.heap.size+1,i,ns⟩=(#[U O W,U O H,Y (an ⟨g,0,ns⟩) n c]:Array so)[i]?)/\ay 97 71 C BL (Y (an ⟨gl,0,ns⟩) cnt cl) cnt L) (λ_=>Bz) ah ⟨p.out.rb.cell,p.out.pb.cell,u.drew⟩ λhS=>?_;refine ai 0 (h:=ai 1 (h:=ai 2 (h:=ai 3 (h:=ai 4 (h:=ai 5 (h:=ai 6 (h:=ai 7 (h:=ai 8 (h:=ai 10 (h:=ai 11 (h:=ai 12 (h:=?_))))))))))));refine pU (i:=9) (v:=a9 (arr (sub L (k*71) 71))) rfl ah ah ah ah (λ_ _ _ h=>h) (WZ aD rfl rfl aa (λC X=>X.2.2) o (Gz.gu underlying97) rfl gN) hS ?_;try simp only[Act.put,ajt,ajx,ajJ]
   rw[V];have Z:=p.out.q (Q.refl wr).drew aa;refine bA (k:=13) ah rfl rfl λK2 x=>?_;go_simp;refine(aai T n' c' B' A' ref RW RH Z.own hB r.out R HV.out s l Z.tb hq λh=>⟨(f.out h).1,(f.out h).2.1,Z.rd,by show B'<=wr.heap.size;omega,(f.out h).2.2⟩).mono ?_;rintro e w5⟨rfl,o5,x5⟩;rw[<-S.out] at o5;have y:=Z.put o5 x5 aa aa F aa aa;have M5:=af (Vn y ((E2.out.q (Q.refl wr).drew).trans x5));refine x.out _ _ ⟨y.rb.cell,y.pb.cell,y.row⟩ λhS=>?_;clear x K2;refine bh ?_;refine lT ah ?_ _;clear hS Z y x5 o5 u;exact zl
  ·have jn:k=cnt:=by omega
   subst jn;go_wp2;exact alp (v:=ci #[]) (by simp[results,results49,go_sem]) rfl ⟨rfl,P.own,A⟩
end
section
open Go.RowKit
def Xv{W H:Int}(value:Int)(w:AS)(b:gR W)(d:gR H)(s:0<=value/\value<=255)(t:W*H=(n:Int))(n1:n<=1024):
  aiK Gz.prog 48 #[U O W,U O H,U O value] w λe w'=>∃v,e=be (a9 #[U O W,U O H,v])/\Own w' w.heap.size v n (rl n value)/\Q w w':=by
 have H1:Hid (decide (8<=W/\W<=32)=AT):=decide_eq_true ⟨b.1,b.2.1⟩;have G:Hid (decide (8<=H/\H<=32)=AT):=decide_eq_true ⟨d.1,d.2.1⟩;have I:Hid (decide (0<=value/\value<=255)=AT):=decide_eq_true s;have e1:W%8=0:=b.2.2;have e2:H%8=0:=d.2.2;obtain⟨a1,a2,_⟩:=b;obtain⟨b1,b2,_⟩:=d;have t1:EV.wrap (W*H)=(n:Int):=by rw[t];exact aB _ ⟨by omega,by omega⟩
 have u:Q w ((w.alloc (ac #[U O 0,U O 0,Y ns 0 0] 40)).alloc (ac #[U O W,U O H,Y ns 0 0] 40)):=aU;have x:=(ak.new w 40 #[U O 0,U O 0,Y ns 0 0]).alloc (ac #[U O W,U O H,Y ns 0 0] 40);have l:=ak.new (w.alloc (ac #[U O 0,U O 0,Y ns 0 0] 40)) 40 #[U O W,U O H,Y ns 0 0];rw[OF] at l;have y:Hid (Own ((w.alloc (ac #[U O 0,U O 0,Y ns 0 0] 40)).alloc (ac #[U O W,U O H,Y ns 0 0] 40)) (w.heap.size+2) (Y ns 0 0) 0 (rl 0 value)/\Q w ((w.alloc (ac #[U O 0,U O 0,Y ns 0 0] 40)).alloc (ac #[U O W,U O H,Y ns 0 0] 40))/\ak ((w.alloc (ac #[U O 0,U O 0,Y ns 0 0] 40)).alloc (ac #[U O W,U O H,Y ns 0 0] 40)) (w.heap.size+1) 40 #[U O W,U O H,Y ns 0 0]/\ak ((w.alloc (ac #[U O 0,U O 0,Y ns 0 0] 40)).alloc (ac #[U O W,U O H,Y ns 0 0] 40)) w.heap.size 40 #[U O 0,U O 0,Y ns 0 0]/\w.heap.size+2<=((w.alloc (ac #[U O 0,U O 0,Y ns 0 0] 40)).alloc (ac #[U O W,U O H,Y ns 0 0] 40)).heap.size):=⟨Own.nil _ _,u,l,x,aj⟩;clear u l x t s;go_enter Gz.gf func48,ntmps48;go_wp2_with(first|(go_at_call 14;(with_reducible refine(bZ _ H1).mono ?_);rintro e w'⟨rfl,rfl⟩)|(go_at_call 14;(with_reducible refine(bZ _ G).mono ?_);rintro e w'⟨rfl,rfl⟩)|(go_at_call 14;(with_reducible refine(bZ _ I).mono ?_);rintro e w'⟨rfl,rfl⟩));go_loopw[8] (λi wr=>∃k:Nat,∃A c,k<=n/\i=U O k/\Hid (Own wr (w.heap.size+2) (Y A k c) k (rl k value)/\Q w wr/\ak wr (w.heap.size+1) 40 #[U O W,U O H,Y A k c]/\ak wr w.heap.size 40 #[U O 0,U O 0,Y ns 0 0]/\w.heap.size+2<=wr.heap.size)) (λi _=>n-(intOf i).toNat)
 case atStart=>exact⟨0,ns,0,dk _,rfl,y⟩
 case round=>
  obtain⟨k,A,c,hk,rfl,hK⟩:=hrel;obtain⟨a,hq,C,f,hs⟩:=hK.out;clear hK y;have J:=C.cell;by_cases K:k<n
  ·have M:(k:Int)<(n:Int):=by omega
   go_wp2_with(at_builtin;refine uS rfl rfl w (w.heap.size+2) rfl (a.alloc _) ⟨_,0,ns⟩ rfl aa aa aA (hq.alloc _) (vA _ _ _ _) ?_;intro v' w' m D s2 o;obtain⟨A',c',rfl⟩:=m.form;have j:=(C.alloc _).grown o (λe=>by have:=(a.2.lt _ e.symm).1;omega);have E:=(f.alloc _).grown o (λe=>by have:=(a.2.lt _ e.symm).1;omega);have N:=j.cell;have P:=j.free;have R:=af (m.aN (p:=⟨w.heap.size+1,2,ns⟩) (by show w.heap.size+1<w.heap.size+2;omega) (Y A' (k+1) c'));have S:=af (j.set 2 (Y A' (k+1) c'));have T:=af (E.aN (p:=⟨w.heap.size+1,2,ns⟩) Da (Y A' (k+1) c'));have V:=af (D.set (p:=⟨w.heap.size+1,2,ns⟩) Db (Y A' (k+1) c'));clear o m j E D J);go_roundw;case rel=>exact⟨k+1,A',c',aa,aF,by have h:=R.out;rw[<-List.replicate_succ'] at h;exact h,V.out,S.out,T.out,by simp;omega⟩
   case measure=>exact aT
  ·have q:k=n:=by omega
   subst q;have rc:=f.cell;have rf:=f.free;go_wp2_with(refine eP (cs':=#[U O W,U O H,Y A k c]) rfl _ _ _ rfl rfl _ rfl rfl f rfl fH ah ?_;intro w9 X F s9)
   have r:(aki A k c).ownBlock=ns\/(aki A k c).ownBlock≠an w.heap.size:=by
    rcases Z:(aki A k c).ownBlock with _|z
    ·exact .inl rfl
    ·refine .inr λe=>?_;have h1:=(a.2.lt z Z).1;have h2:=aJ e;omega
   have o9:=a.other F r;have bc:=X.cell;refine ajz (v:=a9 #[U O W,U O H,Y A k c]) (by simp[results,results48,go_sem,bc]) rfl ⟨_,rfl,o9.mono aa,hq.grown F λk e=>by have:=aJ e;omega⟩
end
section
open Go.RowKit
def EJ(a:gR W)(b:gR H)(n:Nat)(d:n=W*H):bU W H (rl n 128)=AT:=by unfold gR at a b;unfold bU dO;rw[List.length_replicate,decide_eq_true a,decide_eq_true b,decide_eq_true (by rw[d,alW])];unfold dm;rw[alH,alH,alH,List.all_eq_true];intro x e;rw[List.eq_of_mem_replicate e];rfl
def Ze(n' c':Nat){f a:Nat}(p:Nat){cnt BL:Nat}(I:Bool)(b:Nat->List Int)(r:so)(q RW RH:Int)(hW:gR W)(hH:gR H)(X:n=W*H)(n1:n<=1024)(G:cnt*8=W)(hrH:a*8<=H)(yq:B'<=w.heap.size)(hT:Tb w)
  (d:∀i,i<a->∃gl cl,w.cell? ⟨f,i,ns⟩=an (Y (an ⟨gl,0,ns⟩) cnt cl)/\ay 97 71 w BL (Y (an ⟨gl,0,ns⟩) cnt cl) cnt (b i))
  (J:∀i k,i<a->k<cnt->dt (aO (b i) k)=AT)(K:Rd w B' A' ref)(hr:(∃i k,i<a/\k<cnt/\nth (aO (b i) k) 0≠2)->RW=W/\RH=H/\ref.length=n'/\bU W H ref=AT):
  aiK Gz.prog 55 #[a9 (#[U O W,U O H,a5 I,U O q,r,Y (an ⟨f,0,ns⟩) a p]:Array so),a9 (#[U O RW,U O RH,Y A' n' c']:Array so)] w λe w'=>∃v,e=be (a9 #[U O W,U O H,v])/\Own w' w.heap.size v n (iJ W H ref b q a (rl n 128))/\Q w w':=by
 have hp:=EJ hW hH n X;obtain⟨⟨p1,p2,p3⟩,⟨p4,p5,p6⟩,p7,p8⟩:=kg hp;have rL:=af λk=>qo hp (z8 W H ref b q (rl n 128) k) (Aa W H ref b q p8 k);have s:Q w (((w.alloc (ac (#[U O W,U O H,a5 I,U O q,r,Y (an ⟨f,0,ns⟩) a p]:Array so) 80)).alloc (ac (#[U O RW,U O RH,Y A' n' c']:Array so) 40)).alloc (ac #[U O 0,U O 0,Y ns 0 0] 40)):=aU;have t:=((ak.new w 80 (#[U O W,U O H,a5 I,U O q,r,Y (an ⟨f,0,ns⟩) a p]:Array so)).alloc (ac (#[U O RW,U O RH,Y A' n' c']:Array so) 40)).alloc (ac #[U O 0,U O 0,Y ns 0 0] 40);have u:=(ak.new (w.alloc (ac (#[U O W,U O H,a5 I,U O q,r,Y (an ⟨f,0,ns⟩) a p]:Array so) 80)) 40 (#[U O RW,U O RH,Y A' n' c']:Array so)).alloc (ac #[U O 0,U O 0,Y ns 0 0] 40);have l:=ak.new ((w.alloc (ac (#[U O W,U O H,a5 I,U O q,r,Y (an ⟨f,0,ns⟩) a p]:Array so) 80)).alloc (ac (#[U O RW,U O RH,Y A' n' c']:Array so) 40)) 40 #[U O 0,U O 0,Y ns 0 0];simp only[OF] at u l;have M:(W:Int)*(H:Int)=(n:Int):=by rw[X,alW]
 have NP:=af (λz=>Z7 128 z hW hH (show(0:Int)<=128/\(128:Int)<=255 by omega) M n1);have Il:64<=n:=by rw[X];exact gj (show 8<=W by omega) (show 8<=H by omega)
 have x:=af d;have JQ:Hid (cnt=W/8):=by unfold Hid;omega
 have HR:=af hr;have N:=af J;have P:=af K;have HT:=af hT;replace G:cnt*8<=W:=aa;clear d hr J K hT hp p7 p8 X M;go_enter Gz.gf func55,ntmps55;go_wp2;generalize(((w.alloc (ac (#[U O W,U O H,a5 I,U O q,r,Y (an ⟨f,0,ns⟩) a p]:Array so) 80)).alloc (ac (#[U O RW,U O RH,Y A' n' c']:Array so) 40)).alloc (ac #[U O 0,U O 0,Y ns 0 0] 40))=w0 at s t u l⊢;have mt:=l.lt;refine(NP.out _).mono ?_;rintro e D⟨v,rfl,R,q1⟩;have xH:=s.size;rcases R.dE with⟨_,h0⟩|⟨g,c,rfl,rA,S,_⟩
 ·omega
 replace s:=s.trans q1;replace t:=t.q q1;replace u:=u.q q1;replace l:=l.q q1;have hz:=l.lt;have bp:ak (D.alloc (ac (#[U O W,U O H,Y (an ⟨g,0,ns⟩) n c]:Array so) 40)) D.heap.size 40 (#[U O W,U O H,Y (an ⟨g,0,ns⟩) n c]:Array so):=ak.new D _ _;replace s:=s.alloc (ac (#[U O W,U O H,Y (an ⟨g,0,ns⟩) n c]:Array so) 40);replace t:=t.alloc (ac (#[U O W,U O H,Y (an ⟨g,0,ns⟩) n c]:Array so) 40);replace u:=u.alloc (ac (#[U O W,U O H,Y (an ⟨g,0,ns⟩) n c]:Array so) 40);replace l:=l.alloc (ac (#[U O W,U O H,Y (an ⟨g,0,ns⟩) n c]:Array so) 40);replace R:=R.alloc (ac (#[U O W,U O H,Y (an ⟨g,0,ns⟩) n c]:Array so) 40);have Z:=t.cell;have K0:=af (Vn R (Vn s (Vn t (Vn u (Vn l bp)))));have kc:w.heap.size<=g:=aa;clear q1 NP R s t u l bp;have aif:w.heap.size+3<=w0.heap.size:=aa;have JR:g<D.heap.size:=S;go_wp2;generalize D.alloc (ac (#[U O W,U O H,Y (an ⟨g,0,ns⟩) n c]:Array so) 40)=w2 at K0 Z⊢;generalize D.heap.size=p0 at K0 JR⊢;clear hz Z S;go_loopw[17] (λi wr=>∃k:Nat,k<=a/\i=U O k/\Hid (Own wr w0.heap.size (Y (an ⟨g,0,ns⟩) n c) n (iJ W H ref b q k (rl n 128))/\Q w wr/\ak wr w.heap.size 80 (#[U O W,U O H,a5 I,U O q,r,Y (an ⟨f,0,ns⟩) a p]:Array so)/\ak wr (w.heap.size+1) 40 (#[U O RW,U O RH,Y A' n' c']:Array so)/\ak wr (w.heap.size+1+1) 40 #[U O 0,U O 0,Y ns 0 0]/\ak wr p0 40 (#[U O W,U O H,Y (an ⟨g,0,ns⟩) n c]:Array so))) (λi _=>a-(intOf i).toNat)
 case atStart=>exact⟨0,aa,rfl,K0.out⟩
 case round=>
  obtain⟨k,hk,rfl,hK⟩:=hrel;obtain⟨k1,m,y,A,E,C⟩:=hK.out;clear hK K0;by_cases o:k<a
  ·have i6:(k:Int)<a:=by omega
   have Z:=y.cell;have rc:=A.cell;have pc:=C.cell;obtain⟨gl,cl,hc,hL⟩:=x.out k o;have ahm:gl<w.heap.size:=hL.Bu gl rfl;have HS:Hid (iJ W H ref b q (k+1) (rl n 128)=iu W H ref k (b k) q (W/8) (iJ W H ref b q k (rl n 128))):=rfl;have T:=af (rL.out k);generalize iJ W H ref b q k (rl n 128)=ys at k1 HS T
   have V:=af (XD n' c' B' f p gl cnt cl BL A' (b k) ref (U O W) (U O H) (a5 I) r q RW RH k1 (by have:=HT.out.pos;omega) aa T.out (HT.out.q m) o
    ((m.cell f k (zw w _ hc)).trans hc) (hL.q m) aa G aa (λj hj=>N.out k j o hj) (P.out.q m yq) λ⟨j,hj,h⟩=>HR.out ⟨k,j,o,hj,h⟩)
   have KK:=af (Vn m (Vn y (Vn A (Vn E C))));clear k1 m y A E C hc hL;go_wp2;refine V.out.mono ?_;rintro e w5⟨rfl,o5,F⟩;obtain⟨m,y,A,E,C⟩:=KK.out;have M5:=af (Vn o5 (Vn (F.toQ m aA) (Vn (y.az F aA) (Vn (A.az F aA) (Vn (E.az F aA) (C.az F aA))))));rw[JQ.out,<-HS.out] at M5;clear m y A E C o5 F KK V Z rc pc;exact zl
  ·have jn:k=a:=by omega
   subst jn;have pc:=C.cell;clear y A x N HR P HT;go_wp2_with(refine eP (cs':=(#[U O W,U O H,Y (an ⟨g,0,ns⟩) n c]:Array so)) rfl _ _ _ rfl rfl _ rfl rfl E rfl fH ah ?_;intro w9 b9 g9 s9);have bc:=b9.cell;refine ajz (v:=a9 (#[U O W,U O H,Y (an ⟨g,0,ns⟩) n c]:Array so)) (by simp[results,results55,go_sem,bc]) rfl ⟨_,rfl,(k1.az (au.dD g9) aA).mono aa,m.grown g9 λk e=>by have:=aJ e;omega⟩
end
section
open Go.RowKit Go.WideShapes Go.ChangeShapes
def Xi(W H:Int)(I:Bool)(q:Int){A:Option ajF}(c:Nat){n':Nat}(c':Nat){ls:List (List Int)}(RW RH:Int){a1 a2:ajF}(hx:dH w B A ls)(T:B<=w.heap.size)(V:ls.length=n)(he:gw w a1 a2 B)(k1:dz w a1)(k2:dz w a2)(hT:Tb w)
  (hr:Rd w B' A' ref)(o:B'<=w.heap.size)(r:ref.length=n')(X:n'<=9223372036854775807):
  aiK Gz.prog 35 #[a9 (#[U O W,U O H,a5 I,U O q,Y A n c]:Array so),a9 (#[U O RW,U O RH,Y A' n' c']:Array so)] w λe w'=>Q w w'/\(dv W H I q ls RW RH ref=AT->∃v,e=be (a9 #[U O W,U O H,v])/\Own w' w.heap.size v (W.toNat*H.toNat) (lH W H I q ls ref))/\(dv W H I q ls RW RH ref=Bz->e=be (a9 (#[U O 0,U O 0,Y ns 0 0]:Array so))):=by
 have m:Q w (((w.alloc (ac (#[U O W,U O H,a5 I,U O q,Y A n c]:Array so) 44)).alloc (ac (#[U O RW,U O RH,Y A' n' c']:Array so) 40)).alloc (ac (#[U O 0,U O 0,Y ns 0 0]:Array so) 40)):=aU;have F:=((ak.new w 44 (#[U O W,U O H,a5 I,U O q,Y A n c]:Array so)).alloc (ac (#[U O RW,U O RH,Y A' n' c']:Array so) 40)).alloc (ac (#[U O 0,U O 0,Y ns 0 0]:Array so) 40);have N:=(ak.new (w.alloc (ac (#[U O W,U O H,a5 I,U O q,Y A n c]:Array so) 44)) 40 (#[U O RW,U O RH,Y A' n' c']:Array so)).alloc (ac (#[U O 0,U O 0,Y ns 0 0]:Array so) 40);have G:=ak.new ((w.alloc (ac (#[U O W,U O H,a5 I,U O q,Y A n c]:Array so) 44)).alloc (ac (#[U O RW,U O RH,Y A' n' c']:Array so) 40)) 40 (#[U O 0,U O 0,Y ns 0 0]:Array so);simp only[OF] at N G;have Z:=af (agT W H I q c (hx.q m T) (aI T m.size) V (he.q m T) (k1.q m) (k2.q m));have RF:=af λz(qz:Q w z)=>Zd W H I q (Y A n c) RW RH c' (hr.q qz o) (aI o qz.size) r X;have HN:=af V;have J:=af r;have HR:=af hr;have HT:=af hT;clear hx V he k1 k2 hT hr r;go_enter Gz.gf func35,ntmps35;go_wp2;refine Z.out.mono ?_;rintro e P⟨q1,⟨s,cnt,rfl,hs,b,a⟩|⟨rfl,hv⟩⟩
 ·have R:=(m.trans q1).alloc (ac (#[U O W,U O H,a5 I,U O q,Y A n c,Y (an ⟨s,0,ns⟩) n n]:Array so) 80);have S:=(N.q q1).alloc (ac (#[U O W,U O H,a5 I,U O q,Y A n c,Y (an ⟨s,0,ns⟩) n n]:Array so) 80);have c1:=(F.q q1).alloc (ac (#[U O W,U O H,a5 I,U O q,Y A n c,Y (an ⟨s,0,ns⟩) n n]:Array so) 80);have t:=(G.q q1).alloc (ac (#[U O W,U O H,a5 I,U O q,Y A n c,Y (an ⟨s,0,ns⟩) n n]:Array so) 80);have bo:=ak.new P 80 (#[U O W,U O H,a5 I,U O q,Y A n c,Y (an ⟨s,0,ns⟩) n n]:Array so);have HS:=af hs;have u:=af (Vn b a);have p:=af (RF.out _ R);have xH:=m.size;obtain⟨rb,x⟩:∃z,iY I W H RW RH ref=z:=⟨_,rfl⟩;rw[x] at p;have j:=af x;have rc:=S.cell;have cc:=c1.cell;have Wi:=af q1;clear F N G m q1 hs b a Z RF x;go_wp2;refine p.out.mono ?_;rintro e w2⟨rfl,y⟩;have J':=t.q y;have QZ:=af (R.trans y);cases rb with
  |false=>have HV:Hid (dv W H I q ls RW RH ref=Bz):=QM j.out;clear p j u HS HR HT J HN S c1 t bo rc cc R y;exact LV
  |true=>
   have rc2:=(S.q y).cell;have oc2:=(bo.q y).cell;obtain⟨b,a⟩:=u.out;obtain⟨sW,sH,⟨Wo,Wp⟩,yg⟩:=oT HS.out;obtain⟨f,rfl⟩:∃k:Nat,W=(k:Int):=⟨W.toNat,by have:=sW.1;omega⟩;obtain⟨C,rfl⟩:∃k:Nat,H=(k:Int):=⟨H.toNat,by have:=sH.1;omega⟩;have JS:=sW;have JU:=sH;obtain⟨u1,u2,u3⟩:=JS;obtain⟨v1,v2,v3⟩:=JU;have JV:f*C<=1024:=gj (show f<=32 by omega) (show C<=32 by omega);have D:Q P w2:=((Q.refl P).alloc _).trans y
   have l:∀i,i<n->∃gl cl,w2.cell? ⟨s,i,ns⟩=an (Y (an ⟨gl,0,ns⟩) cnt cl)/\ay 97 71 w2 _ (Y (an ⟨gl,0,ns⟩) cnt cl) cnt (iP (f:Int) I ls i):=λi hi=>by obtain⟨L,gl,cl,E,hc,ho⟩:=a i hi;refine⟨gl,cl,(D.cell s i (zw P _ hc)).trans hc,?_⟩;rw[show iP (f:Int) I ls i=L by unfold iP;rw[b,E];rfl];exact ho.q D
   have d:∀i k,i<n->k<cnt->dt (aO (iP (f:Int) I ls i) k)=AT/\(I=AT->nth (aO (iP (f:Int) I ls i) k) 0=2):=λi k hi K=>by obtain⟨L,gl,cl,E,hc,ho⟩:=a i hi;rw[show iP (f:Int) I ls i=L by unfold iP;rw[b,E];rfl];exact R5 E k K
   have JW:Hid (dv (f:Int) (C:Int) I q ls RW RH ref=AT):=PI Dd j.out (λi hi=>by obtain⟨L,gl,cl,E,_⟩:=a i yJ;exact⟨L,by rw[b];exact E⟩)
   have M:=af (Ze n' c' n I (iP (f:Int) I ls) (Y A n c) q RW RH sW sH rfl JV aa aa (aI o QZ.out.size) (HT.out.q QZ.out) l (λi k hi K=>(d i k hi K).1) (HR.out.q QZ.out o) (λ⟨i,k,hi,K,h⟩=>by
    have hI:I=Bz:=by cases hI:I with|false=>rfl|true=>exact absurd ((d i k hi K).2 hI) h
    obtain⟨r1,r2,r3⟩:=S2 j.out hI;exact⟨r1,r2,J.out,r3⟩))
   have hz2:=J'.lt;clear p rc cc l d a b u j HS S c1 t bo R y D Wi;go_wp2;refine M.out.mono ?_;rintro e w3⟨v,rfl,o3,q3⟩;have JX:=J'.q q3;have cM:=QZ.out.size;obtain⟨Av,cv,rfl⟩:=o3.form;clear M rc2 oc2 J';go_wp2_with(refine eP (cs':=#[U O f,U O C,Y Av (f*C) cv]) rfl _ _ _ rfl rfl _ rfl rfl JX rfl fH ah ?_;intro w9 b9 g9 s9);have F:=b9.cell;refine ajz (v:=a9 #[U O f,U O C,Y Av (f*C) cv]) (by simp[results,results35,go_sem,F]) rfl ⟨(QZ.out.trans q3).grown g9 (λk e=>by have:=aJ e;omega),λ_=>⟨_,rfl,?_⟩,λh=>by rw[JW.out] at h;cases h⟩;have o9:=(o3.az (au.dD g9) aA).mono (B':=w.heap.size) aa;unfold lH;rw[ajW,ajW,HN.out];exact o9
 ·have J':=(G.q q1).alloc (ac (#[U O 0,U O 0,a5 Bz,U O 0,Y ns 0 0,Y ns 0 0]:Array so) 80);have QZ:=af ((m.trans q1).alloc (ac (#[U O 0,U O 0,a5 Bz,U O 0,Y ns 0 0,Y ns 0 0]:Array so) 80));have HV:=af (hv RW RH ref);clear F N G m q1 hv Z RF;exact LV
end
section
open Go.RowKit Go.WideShapes Go.ChangeShapes Go.Shelf
attribute [local go_sem] Oper.semAt_some
def tP(x:Nat×Nat):Array so:=#[U O (x.1:Int),U O (x.2:Int)]
def PK{W H y k:Nat}(a:y<H)(b:k<(W-1)/4):bK (dU W) ((W-1)/4) y k++[dU W y k]<+:fY W H:=by rw[<-sO];exact(QH a b).trans ⟨_,rfl⟩
def PL{W H x k:Nat}(a:x<W)(b:k<(H-1)/4):(bK (dU W) ((W-1)/4) H 0++bK (gL W) ((H-1)/4) x k)++[gL W x k]<+:fY W H:=by rw[ajH,<-sO];exact(List.prefix_append_right_inj _).2 (QH a b)
def ak.kb{t:TypeId}{w':AS}{cs:Array so}(h:ak w g t cs)(k:Kb g w w'):ak w' g t cs:=Eq.trans k h
def afS(hn:1<=n)(l b:Nat)(s:so)(hW:W<=32)(hH:H<=32)(J Jx:List (Nat×Nat)->AS->Prop)(G:AS)
  (hJ:AbidesFrom G.heap.size J)(hY:∀pre x w,J pre w->pre++[x]<+:fY W H->YieldAt Fence.wide (n-1) Gz.prog l (tP x) w λe w'=>(e=be (a5 AT)/\J (pre++[x]) w'/\Kb b w w')\/(e=be (a5 Bz)/\Jx (pre++[x]) w'))
  (X:ak G b 40 #[U O W,U O H,s])(h0:J [] G):
  CallsIn Fence.wide n Gz.prog 83 #[.func (.yield l) #[] #[],bi (an ⟨b,0,ns⟩)] G λe w'=>(∃v,e=be v)/\
   ((∃ys,ys=fY W H/\J ys w')\/(∃pre,pre<+:fY W H/\Jx pre w')):=by
 have HY:=af hY;have I:Hid (ak G b 40 #[U O W,U O H,s]/\J (bK (dU W) ((W-1)/4) 0 0) G):=⟨X,h0⟩;have c0:=X.cell;have Z:=af λy k a K=>@PK W H y k a K;have V:=af λy k a K=>@PL W H y k a K;have EE:Hid (fY W H=bK (dU W) ((W-1)/4) H 0++bK (gL W) ((H-1)/4) W 0):=rfl;clear hY X h0 hJ;obtain⟨m,hm⟩:∃m,(W-1)/4=m:=⟨_,rfl⟩;obtain⟨t,yr⟩:∃m,(H-1)/4=m:=⟨_,rfl⟩;rw[hm] at I Z V EE;rw[yr] at V EE;refine callsIn_of_wp (Gz.gf func83) rfl trivial ?_ rfl;simp only[ntmps83,List.size_toArray,List.length_cons,List.length_nil,Nat.reduceAdd,Nat.reduceSub,Array.replicate_succ,Array.replicate_zero,List.push_toArray,List.append_toArray,akH,List.cons_append]
 gi_wp2
 gi_loopw[9] (λi wr=>∃y:Nat,y<=H/\i=U O y/\Hid (ak wr b 40 #[U O W,U O H,s]/\J (bK (dU W) m y 0) wr)) (λi _=>H-(intOf i).toNat)
 case atStart=>exact⟨0,aa,rfl,I.out⟩
 case round=>
  obtain⟨y,a,rfl,hK⟩:=hrel;clear I c0;by_cases M:y<H
  ·have JY:(y:Int)<H:=by omega
   have N:Hid (ak wr b 40 #[U O W,U O H,s]/\J (bK (dU W) m y 0) wr):=hK.out;have c0:=hK.out.1.cell;obtain⟨q,CA⟩:∃z,y*W=z:=⟨_,rfl⟩;have JZ:q<=1024:=by rw[<-CA];exact gj (show y<=32 by omega) hW
   have t1:EV.wrap ((y:Int)*(W:Int))=(q:Int):=yO;clear hK
   gi_wp2
   gi_loopw[4] (λi wr=>∃k r:Nat,k<=m/\r=4*(k+1)/\i=U O r/\Hid (ak wr b 40 #[U O W,U O H,s]/\J (bK (dU W) m y k) wr)) (λi _=>W+4-(intOf i).toNat)
   case atStart=>exact⟨0,4,aa,rfl,rfl,N.out⟩
   case round=>
    obtain⟨k,r,K,u,rfl,hK⟩:=hrel;obtain⟨d,f⟩:=hK.out;clear N c0;have c0:=d.cell;by_cases h:k<m
    ·have A:(r:Int)<W:=by omega
     obtain⟨fn,tmps,assign,body,a,P⟩:=HY.out _ _ wr f (Z.out y k M h);obtain⟨Q,Fm⟩:∃z,q+r=z:=⟨_,rfl⟩;have j:dU W y k=(Q,1):=by unfold dU;rw[CA,<-u,Fm]
     have t2:EV.wrap ((q:Int)+(r:Int))=(Q:Int):=yP;have R:=af (sO (dU W) m y k);have P1:=af (Z.out y k M h);rw[j] at a R P P1;unfold tP at a;dsimp only at a;rw[show((1:Nat):Int)=1 from rfl] at a;have C:=af d;have Wq:r<=32:=aa;have HXX:=af u;clear hK d f u j Fm
     gi_wp2
     refine P.mono ?_;rintro e W3(⟨rfl,D,E⟩|⟨rfl,UJ⟩)
     ·gi_wp2
      go_roundw;case rel=>exact⟨k+1,r+4,aa,by have:=HXX.out;omega,aF,C.out.kb E,by rw[R.out];exact D⟩
      case measure=>exact aT
     ·exact LW
    ·have o:k=m:=by omega
     subst o;have A:¬((r:Int)<W):=aa;rw[<-sP] at f;have S:=af f;have C:=af d;clear hK d f
     gi_wp2
     go_roundw;case rel=>exact⟨y+1,aa,aF,C.out,S.out⟩
     case measure=>exact aT
  ·have pK:y=H:=by omega
   subst pK;have c0:=hK.out.1.cell;have I:Hid (ak wr b 40 #[U O W,U O y,s]/\J (bK (dU W) m y 0++bK (gL W) t 0 0) wr):=⟨hK.out.1,by rw[PE,List.append_nil];exact hK.out.2⟩;clear hK
   gi_wp2
   gi_loopw[30] (λi wr=>∃x:Nat,x<=W/\i=U O x/\Hid (ak wr b 40 #[U O W,U O y,s]/\J (bK (dU W) m y 0++bK (gL W) t x 0) wr)) (λi _=>W-(intOf i).toNat)
   case atStart=>exact⟨0,aa,rfl,I.out⟩
   case round=>
    clear I c0;obtain⟨x,hx,rfl,hK⟩:=hrel;by_cases T:x<W
    ·have A:(x:Int)<W:=by omega
     have N:=af hK.out;have c0:=hK.out.1.cell;clear hK
     gi_wp2
     gi_loopw[6] (λi wr=>∃k p:Nat,k<=t/\p=4*(k+1)/\i=U O p/\Hid (ak wr b 40 #[U O W,U O y,s]/\J (bK (dU W) m y 0++bK (gL W) t x k) wr)) (λi _=>y+4-(intOf i).toNat)
     case atStart=>exact⟨0,4,aa,rfl,rfl,N.out⟩
     case round=>
      obtain⟨k,p,K,F,rfl,hK⟩:=hrel;obtain⟨d,f⟩:=hK.out;clear N c0;have c0:=d.cell;by_cases h:k<t
      ·have JY:(p:Int)<y:=by omega
       obtain⟨fn,tmps,assign,body,a,P⟩:=HY.out _ _ wr f (V.out x k T h);obtain⟨q,CA⟩:∃z,p*W=z:=⟨_,rfl⟩;have JZ:q<=1024:=by rw[<-CA];exact gj (show p<=32 by omega) hW
       have t1:EV.wrap ((p:Int)*(W:Int))=(q:Int):=yO;obtain⟨Q,Fm⟩:∃z,q+x=z:=⟨_,rfl⟩;have j:gL W x k=(Q,W):=by unfold gL;rw[<-F,CA,Fm]
       have t2:EV.wrap ((q:Int)+(x:Int))=(Q:Int):=yP;have P1:=af (V.out x k T h);have R:=af (sO (gL W) t x k);rw[j] at a R P P1;unfold tP at a;dsimp only at a;have C:=af d;have Wq:p<=32:=aa;have HYY:=af F;clear hK d f F j Fm CA
       gi_wp2
       refine P.mono ?_;rintro e W3(⟨rfl,D,E⟩|⟨rfl,UJ⟩)
       ·gi_wp2
        go_roundw;case rel=>exact⟨k+1,p+4,aa,by have:=HYY.out;omega,aF,C.out.kb E,by rw[R.out,<-ajH];exact D⟩
        case measure=>exact aT
       ·exact LW
      ·have o:k=t:=by omega
       subst o;have A:¬((p:Int)<y):=aa;rw[<-sP] at f;have S:=af f;have C:=af d;clear hK d f
       gi_wp2
       go_roundw;case rel=>exact⟨x+1,aa,aF,C.out,S.out⟩
       case measure=>exact aT
    ·have pJ:x=W:=by omega
     subst pJ;have S:=af hK.out.2;clear hK
     gi_wp2
     go_end0
     exact⟨⟨_,rfl⟩,.inl ⟨_,EE.out.symm,S.out⟩⟩
end
section
open Go.RowKit
def abq(W H a b:Int){A:Option ajF}{n':Nat}(c c':Nat){ys:List Int}(t:Bool)(k:Rd w B A xs)(m:B<=w.heap.size)(l:Rd w B' A' ys)(f:B'<=w.heap.size)(hn:Hid (xs.length=n))(yo:Hid (ys.length=n'))(lx:n<=maxLen)(ly:n'<=maxLen)
  (d:Hid (decide (W=a/\H=b/\xs=ys)=t)):
  aiK Gz.prog 23 #[a9 #[U O W,U O H,Y A n c],a9 #[U O a,U O b,Y A' n' c']] w λe w'=>e=be (a5 t)/\Q w w':=by
 have q0:Q w ((w.alloc (ac #[U O W,U O H,Y A n c] 40)).alloc (ac #[U O a,U O b,Y A' n' c'] 40)):=aU;have HX:=af (k.q q0 m);have HY:=af (l.q q0 f);clear k l;by_cases hW:W=a
 ·have i:(W !=a)=Bz:=by rw[bne_eq_false_iff_eq];exact hW
  by_cases hH:H=b
  ·have j:(H !=b)=Bz:=by rw[bne_eq_false_iff_eq];exact hH
   cases he:(xs==ys)
   ·have HE:=af he;have yp:Hid (t=Bz):=by rw[Hid,<-d.out];exact decide_eq_false (λh=>by have:=h.2.2;rw[beq_eq_false_iff_ne] at he;exact he this)
    exact LX
   ·have HE:=af he;have yp:Hid (t=AT):=by rw[Hid,<-d.out];exact decide_eq_true ⟨hW,hH,by rw[beq_iff_eq] at he;exact he⟩
    exact LX
  ·have j:(H !=b)=AT:=by rw[bne_iff_ne];exact hH
   have yp:Hid (t=Bz):=by rw[Hid,<-d.out];exact decide_eq_false (λh=>hH h.2.1)
   clear hW hH;exact LY
 ·have i:(W !=a)=AT:=by rw[bne_iff_ne];exact hW
  have yp:Hid (t=Bz):=by rw[Hid,<-d.out];exact decide_eq_false (λh=>hW h.1)
  clear hW;exact LY
end
section
open Go.RowKit
def R8{o:Nat}(hc:∀i,i<xs.length->w.cell? ⟨g,o+i,ns⟩=an (U O (xs[i]?.getD 0))):
  ∀j u,(xs.map (alf .i64))[j]?=an u->w.cell? ((⟨g,o,ns⟩:ajF).add j)=an u:=λj u a=>by
 rw[List.getElem?_map] at a;obtain⟨y,b,rfl⟩:=j6.1 a;have h:=hc j (ia.1 b).1;rw[b] at h;by_cases h0:j=0
 ·subst h0;simpa[Addr.add] using h
 ·simpa[Addr.add,h0] using h
def clone(W H:Int)(A:Option ajF)(n c B:Nat)(xs:List Int)(w:AS)(p:Rd w B A xs)(z:B<=w.heap.size)(hn:Hid (xs.length=n))(h1:1<=n)(N:n<=1024):
  aiK Gz.prog 58 #[a9 #[U O W,U O H,Y A n c]] w λe w'=>∃v,e=be (a9 #[U O W,U O H,v])/\Own w' w.heap.size v n xs/\Q w w':=by
 have d:Q w ((w.alloc (ac #[U O W,U O H,Y A n c] 40)).alloc (ac #[U O 0,U O 0,Y ns 0 0] 40)):=aU;have f:=(ak.new w 40 #[U O W,U O H,Y A n c]).alloc (ac #[U O 0,U O 0,Y ns 0 0] 40);have d0:=ak.new (w.alloc (ac #[U O W,U O H,Y A n c] 40)) 40 #[U O 0,U O 0,Y ns 0 0];rw[OF] at d0;have r:=p.q d z;obtain⟨g,o,rfl,C,hc⟩:=r oI;clear p r;obtain⟨i0,hi,j,hz1,hz2⟩:=info_parts vU;have b:((w.alloc (ac #[U O W,U O H,Y (an ⟨g,o,ns⟩) n c] 40)).alloc (ac #[U O 0,U O 0,Y ns 0 0] 40)).heap.size=w.heap.size+2:=aj;go_enter Gz.gf func58,ntmps58;go_wp2;generalize(w.alloc (ac #[U O W,U O H,Y (an ⟨g,o,ns⟩) n c] 40)).alloc (ac #[U O 0,U O 0,Y ns 0 0] 40)=s at d f d0 C hc b⊢;have D:=af hc;have E:=af f;have D0:=af d0;have F:=af d;have k:=af b;have P:=f.cell;clear hc f d0 d b
 go_region_law (refine step_append_grows rfl _ _ _ rfl 3 i0 (U O 0) 1 8 (Gz.gu underlying38) hi j hz1 hz2 rfl al ns 0 0 [] aD (λ_=>⟨rfl,rfl⟩) rfl (λ_ h=>by cases h) ⟨g,o,ns⟩ n c (xs.map (.int .i64)) aD (by simp;exact hn.out) ?_ (λu hu=>by simp at hu;obtain⟨x,_,rfl⟩:=hu;rfl) aa kT aa ?_;exact R8 D.out;intro v4 t a y;have l:Own t (w.heap.size+2) v4 n xs:=⟨hn.out,by have h:=a;simp only[Nat.zero_add,akH] at h;rw[<-k.out];exact h⟩;have i:Q s t:=(Q.refl s).drew.trans (Q.iS y);obtain⟨G,I,rfl⟩:=l.form;have R:=(E.out.q i).cell;have d4:=D0.out.q i;have m:=d4.cell;have J:=d4.free;have K:=af l;have M:=af (F.out.trans i);clear a y l i)
 all_goals
  go_wp2;refine ajz (v:=a9 #[U O W,U O H,Y G n I]) (by simp[results,results58,go_sem,m]) rfl ⟨_,rfl,?_,?_⟩
  ·exact Own.mono (B:=w.heap.size+2) (by repeat(first|exact K.out|refine Own.aN ?_ (by simp) _)) aa
  ·have hq:=M.out;exact aU
end
end Go.Proofs.Q0
