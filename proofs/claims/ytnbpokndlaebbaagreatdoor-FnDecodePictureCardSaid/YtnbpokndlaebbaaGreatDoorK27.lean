import Derived.Test.YtnbpokndlaebbaaGreatDoorK26
set_option maxRecDepth 100000
set_option maxHeartbeats 8000000
set_option linter.all false
open Go.Value renaming int->U,slice->Y,bool->ci,agg->bi,pointer->d9,tuple->em,iface->gc
open Go.IntKind renaming i64->O
open Go.Obj renaming cells->ap
open Go.Ending renaming returned->dl
open And renaming intro->ahU
open Bool renaming false->Ba,true->AT,true_and->akq
open Go renaming Addr->aic,Calls->ahR,Value->AS,World->rl,bodyPost_end->ajY,bodyPost_ret->ahX
open Go.IntKind renaming i64->EV
open Go.Value renaming int->ako,slice->akF
open Go.World renaming size_alloc->NO
open Int renaming natCast_mul->akE,toNat_natCast->aiE
open List renaming append_assoc->ait,nil_append->ajr,replicate->so,setIfInBounds_toArray->ahZ,set_cons_succ->aip,set_cons_zero->ain
open Option renaming none->ns,some->an
namespace Go.Proofs
def yS{p:Prop}(h:p:=by
  go_wp2;go_roundw;case rel=>exact⟨k+1,aa,aJ,M5.out⟩
  case measure=>simp[intOf];omega):p:=h
def CY{p:Prop}(h:p:=by rw[HV.out] at h;cases h):p:=h
def Lh{p:Prop}(h:p:=by(go_wp2_with(refine eH (cs':=(#[U O 0,U O 0,Y none 0 0]:Array Value)) rfl _ _ _ rfl rfl _ rfl rfl N' rfl fq aj ?_;intro w9 b9 g9 s9);have bc:=b9.cell;exact bodyPost_ret (v:=bi (#[U O 0,U O 0,Y none 0 0]:Array Value)) (by simp[results,results11,go_sem,bc]) rfl ⟨QZ.out.grown g9 λk e=>yk,λh=>CY,λ_=>rfl⟩)):p:=h
def CZ{p:Prop}(h:p:=by rw[HN.out];exact HS.out):p:=h
def yt{p:Prop}(h:p:=by rw[<-Int.natCast_mul,EQ];exact IntWalk.i64_in _ ⟨by omega,by omega⟩):p:=h
def yu{p:Prop}(h:p:=by rw[<-Int.natCast_add,Id];exact IntWalk.i64_in _ ⟨by omega,by omega⟩):p:=h
def Li{p:Prop}(h:p:=by
  gi_wp2
  refine bodyPost_ret (results_none rfl _ _ _) rfl ?_;exact⟨⟨_,rfl⟩,.inr ⟨_,P1.out,TU⟩⟩):p:=h
end Go.Proofs
namespace Go.Proofs.Q0
open Go.Proofs.Tryz
variable{w:rl}{xs ref:List Int}{g n c B W H B':Nat}
section
open Go.RowKit
def Zj{x y:Nat}(a:Nat)(n' c' B':Nat)(A':Option aic){m:List Int}(ref:List Int){q:Int}(RW RH:Int)(ho:Own w B (Y (an ⟨g,0,ns⟩) n c) n xs)(hB:0<B)(hp:bV W H xs=AT)(hl:m.length=71)(hv:dt m=AT)
  (hx:x+8<=W)(hy:y+8<=H)(hT:Tb w)(hq:qB q=AT)(hr:nth m 0≠2->RW=W/\RH=H/\Rd w B' A' ref/\B'<=w.heap.size/\ref.length=n'/\bV W H ref=AT):
  ahR Gz.prog 69 #[bi #[U O RW,U O RH,Y A' n' c'],bi #[U O W,U O H,Y (an ⟨g,0,ns⟩) n c],U O x,U O y,bi (arr m),U O q,U O a] w λe w'=>e=dl (em #[])/\Own w' B (Y (an ⟨g,0,ns⟩) n c) n (eg W H ref x y a m q 4 xs)/\al [g] w w':=by
 obtain⟨k0,⟨v1,v2⟩,⟨v3,v4⟩,km,kl⟩:=Sb hl hv;obtain⟨wt,rE⟩:=ho.block;have Jh:g≠0:=aa;obtain⟨⟨p1,p2,p3⟩,⟨p4,p5,p6⟩,p7,p8⟩:=jU hp;have uz:=ho.1;have rK:=ag λk=>qm hp (Ab W H ref x y a m q xs k) (Ac W H ref x y a m q p8 k);have hn:n=H*W:=Bg p7 uz;have NE:n<=1024:=by rw[hn];exact eZ (show H<=32 by omega) (show W<=32 by omega)
 have Fk:=ag hn;clear hn;have hV:sub m 1 2=[nth m 1,nth m 2]:=lE m 1 aa;have r:=Nb.new 100 71 ((w.alloc (ap #[U O RW,U O RH,Y A' n' c'] 28)).alloc (ap (#[U O W,U O H,Y (an ⟨g,0,ns⟩) n c]:Array AS) 28)) m hl;simp only[NO] at r;have f:Q w (((w.alloc (ap #[U O RW,U O RH,Y A' n' c'] 28)).alloc (ap (#[U O W,U O H,Y (an ⟨g,0,ns⟩) n c]:Array AS) 28)).alloc (ap (arr m) 100)):=aU;have br:=((ak.new w 28 #[U O RW,U O RH,Y A' n' c']).alloc (ap (#[U O W,U O H,Y (an ⟨g,0,ns⟩) n c]:Array AS) 28)).alloc (ap (arr m) 100);have V:=(ak.new (w.alloc (ap #[U O RW,U O RH,Y A' n' c'] 28)) 28 (#[U O W,U O H,Y (an ⟨g,0,ns⟩) n c]:Array AS)).alloc (ap (arr m) 100);rw[NO] at V;have HR:=ag hr;have KM:=ag km;have KL:=ag λk hk=>aex kl k hk;clear hr km hv p7 p8 kl;have lm:=ho.q f;have Cq:=hT.q f;obtain⟨kd,t⟩:∃z,nth m 0=z:=⟨_,rfl⟩;have cq:∀(z:rl)(_:Nb 100 71 z (w.heap.size+1+1) m),z.cell? ⟨w.heap.size+1+1,0,ns⟩=an (U O kd):=λz h=>by rw[<-t];exact h.at 0 aa
 have CQ:=ag cq;obtain⟨bb,l⟩:∃z,(kd !=2)=z:=⟨_,rfl⟩;have rk:(kd==2)=!bb:=by rw[<-l,bne,Bool.not_not]
 have Fd:Hid (bb=Ba->nth m 0=2):=λh=>by rw[h,bne_eq_false_iff_eq] at l;exact t.trans l
 have Vw:Hid (bb=AT->nth m 0≠2):=λh=>by rw[h,bne_iff_ne] at l;rw[t];exact l
 replace f:=f.alloc (ap #[] 3);replace r:=r.alloc (ap #[] 3);replace br:=br.alloc (ap #[] 3);replace V:=V.alloc (ap #[] 3);have F:=ho.q f;have G:=hT.q f;have c0:=cq _ r;clear lm Cq cq t;go_enter Gz.gf func69,ntmps69
 go_upto_if 22 with fail
 generalize((((w.alloc (ap #[U O RW,U O RH,Y A' n' c'] 28)).alloc (ap (#[U O W,U O H,Y (an ⟨g,0,ns⟩) n c]:Array AS) 28)).alloc (ap (arr m) 100)).alloc (ap #[] 3))=w1 at f V br r F G c0⊢;go_cut[14] from 23 to 28 (λs wx=>Hid (lf 1 w wx W H g n c B xs m s (ld W H ref x y (nth m 1) (nth m 2))))
 case first=>
  cases bb with
  |false=>have E:=Fd.out rfl;go_wp2;go_meet;exact⟨F,al.dp _ f,V,r,G,λe=>absurd E e⟩
  |true=>
   obtain⟨rfl,rfl,rd,rB,rn,rp⟩:=HR.out (Vw.out rfl);have rc:=br.cell;go_wp2_with((with_reducible refine ep (ty:=95) _ 1 ?_ ?_ _ r 2 ?_ _ (Gz.gu underlying95) ?_ jE ?_);exact rfl;exact rfl;omega;exact rfl;rw[hV]);refine(Ze x y c' (rd.q f rB) (aQ rB f.size) rn rp aa aa aa aa v1 v2 v3 v4).mono ?_;rintro e w5⟨v,rfl,o5,p⟩;rcases o5.dC with⟨_,h⟩|⟨g',c5,rfl,hB5,Jg,_⟩
   ·exact absurd h aw
   go_wp2;go_meet;exact⟨F.q p,(al.dp _ f).q p,V.q p,r.q p,G.q p,λ_=>⟨g',c5,rfl,by have:=f.size;omega,Jg,λi hi=>o5.at i hi⟩⟩
 case rest=>
  have hS:=hcut;clear hcut r c0;go_wp2;go_loopw[15] (λi wr=>∃k:Nat,k<=4/\i=U O k/\Hid (lf 1 w wr W H g n c B (eg W H ref x y a m q k xs) m u14 (ld W H ref x y (nth m 1) (nth m 2)))) (λi _=>4-(intOf i).toNat)
  case atStart=>exact⟨0,aa,rfl,hS⟩
  case round=>
   clear hS;obtain⟨k,hk,rfl,hK⟩:=hrel;by_cases o:k<4
   ·have mp:(k:Int)<4:=by omega
    have F':=Q9 hl o;obtain⟨k2,hk2⟩:∃i,k%2=i:=⟨_,rfl⟩;obtain⟨kq,hkq⟩:∃i,k/2=i:=⟨_,rfl⟩;have d1:(k:Int)%2=(k2:Int):=aa;have d2:(k:Int)/2=(kq:Int):=aa;have d3:(k:Int).tmod 2=(k2:Int):=by rw[Int.tmod_eq_emod_of_nonneg (by omega)];exact d1
    have d4:EV.wrap (kq:Int)=(kq:Int):=aD _ ⟨aa,aa⟩;obtain⟨i,hi⟩:∃i,k%2*4=i:=⟨_,rfl⟩;obtain⟨j,hj⟩:∃j,k/2*4=j:=⟨_,rfl⟩;have ti:EV.wrap ((k2:Int)*4)=(i:Int):=by rw[show(k2:Int)*4=(i:Int) by omega];exact aD _ ⟨by omega,by omega⟩
    have tj:EV.wrap ((kq:Int)*4)=(j:Int):=by rw[show(kq:Int)*4=(j:Int) by omega];exact aD _ ⟨by omega,by omega⟩
    have Vu:i<=4:=aa;have Vv:j<=4:=aa;have HX:=ag (rK.out k);have HS:Hid (eg W H ref x y a m q (k+1) xs=iE W (x+k%2*4) (y+k/2*4) (ko W H ref (eg W H ref x y a m q k xs) x y a m k) (gU (lvl m k) q) 16 (eg W H ref x y a m q k xs)):=rfl;have I:=ag (PZ W H ref (eg W H ref x y a m q k xs) x y a m k);have xS:=ag (Q7 (W:=W) (H:=H) (ref:=ref) x y a (m:=m) k HX.out λe=>(HR.out e).2.2.2.2.2);obtain⟨X,J⟩:∃z,x+k%2*4=z:=⟨_,rfl⟩;obtain⟨yj,K⟩:∃z,y+k/2*4=z:=⟨_,rfl⟩;have M:=ag λh=>@Sc W H x y a k X yj ref (eg W H ref x y a m q k xs) m h J K;have xT:=ag λh=>@Sd W H x y a k _ _ ref (eg W H ref x y a m q k xs) m h rfl rfl;rw[J,K] at HS;generalize ko W H ref (eg W H ref x y a m q k xs) x y a m k=pb at HS I xS M xT;generalize eg W H ref x y a m q k xs=ys at HX HS M hK;have tx:EV.wrap ((x:Int)+(i:Int))=(X:Int):=by rw[show(x:Int)+(i:Int)=(X:Int) by omega];exact aD _ ⟨by omega,by omega⟩
    have ty:EV.wrap ((y:Int)+(j:Int))=(yj:Int):=by rw[show(y:Int)+(j:Int)=(yj:Int) by omega];exact aD _ ⟨by omega,by omega⟩
    have pG:X+4<=W:=aa;have pH:yj+4<=H:=aa;have ahJ:X<=32:=aa;have ahK:yj<=32:=aa;have bz:Bl (wr.alloc (ap (#[U O 0,U O 0,U O 0,U O 0,U O 0,U O 0,U O 0,U O 0,U O 0,U O 0,U O 0,U O 0,U O 0,U O 0,U O 0,U O 0]:Array AS) 97)) wr.heap.size (so 16 0):=Bl.zero wr;have hKa:=hK.out.q ((Q.refl wr).alloc (ap (#[U O 0,U O 0,U O 0,U O 0,U O 0,U O 0,U O 0,U O 0,U O 0,U O 0,U O 0,U O 0,U O 0,U O 0,U O 0,U O 0]:Array AS) 97))
    have KA:Hid (∀N,(wr.alloc (ap (#[U O 0,U O 0,U O 0,U O 0,U O 0,U O 0,U O 0,U O 0,U O 0,U O 0,U O 0,U O 0,U O 0,U O 0,U O 0,U O 0]:Array AS) 97)).grownBy N (an wr.heap.size)->Nb 100 71 N (w.heap.size+1+1) m/\Q wr N):=λN g9=>by have Vx:=((Q.refl wr).alloc (ap (#[U O 0,U O 0,U O 0,U O 0,U O 0,U O 0,U O 0,U O 0,U O 0,U O 0,U O 0,U O 0,U O 0,U O 0,U O 0,U O 0]:Array AS) 97)).grown g9 (λk e=>by have:=aH e;omega);exact⟨(hK.out.q Vx).aP,Vx⟩
    clear hi hj J K hKa hk2 hkq
    go_upto_if 46 with(refine iG rfl _ _ rfl _ rfl _ (so 16 0) rfl rfl bz ?_;intro N b9 g9 s9;have c0:=CQ.out _ (KA.out _ g9).1)
    have qb:=(KA.out _ g9).2;clear KA bz g9 d1 d2 d3 d4 ti tj tx ty;go_cut[] from 47 to 59 (λwx=>Hid (Q wr wx/\Bl wx wr.heap.size pb))
    case first=>
     cases bb with
     |false=>
      have E:nth m 0=2:=Fd.out rfl;have u:=hK.out.q qb;obtain⟨md,P⟩:∃z:Nat,nth m (3+k)=(z:Int):=⟨(nth m (3+k)).toNat,by have:=KM.out E k o;omega⟩;have He:md<5:=by have:=KM.out E k o;omega
      have cm:N.cell? ⟨w.heap.size+1+1,3+k,ns⟩=an (U O (nth m (3+k))):=u.aP.at (3+k) aa;have A:=M.out E;rw[P] at cm A;rw[aiE] at A;have BJ:=ag A;have d:=ag u;have pc:=u.jQ.cell;have xU:=ag P;clear A u P;go_wp2;refine eo (λC=>Q N C/\(∀i,C.cell? ⟨w.heap.size+1,i,ns⟩=(#[U O W,U O H,Y (an ⟨g,0,ns⟩) n c]:Array AS)[i]?)/\C.cell? ⟨w.heap.size+1+1,3+k,ns⟩=an (U O (md:Int))) (λj=>decide (10<=j)) aj ⟨(Q.refl _).drew,pc,cm⟩ λhS=>?_;refine ai 0 (h:=ai 1 (h:=ai 2 (h:=ai 3 (h:=ai 4 (h:=ai 5 (h:=ai 6 (h:=ai 7 (h:=?_))))))));refine bw (k:=8) aj rfl rfl λR b=>?_;go_simp;refine(Zb a c (d.out.q hS.1).own.rd (ay _) (d.out.own.1) Fk.out aa aa pG pH).mono ?_;rintro e w3⟨rfl,q3⟩;have y3:=hS.1.trans q3;refine b.out _ _ ⟨y3,(d.out.q y3).jQ.cell,(d.out.aP.q y3).at (3+k) aa|>.trans (congrArg (λz=>an (ako .i64 z)) xU.out)⟩ λhS=>?_;clear b R;refine bh ?_;refine bw (k:=9) aj rfl rfl λR b=>?_;go_simp;refine(XA He (GH HX.out X yj)).mono ?_;rintro e w4⟨rfl,q4⟩;rw[<-BJ.out];have y4:=y3.trans q4;refine b.out _ _ ⟨y4,(d.out.q y4).jQ.cell,(d.out.aP.q y4).at (3+k) aa|>.trans (congrArg (λz=>an (ako .i64 z)) xU.out)⟩ λhS=>?_;clear b R;refine bh ?_;refine gi [10] 10 aj aw rfl ?_;have b5:=b9.q y4;have Hf:=I.out;refine iG rfl _ _ rfl _ rfl _ _ rfl Hf b5 ?_;intro w6 b6 g6 s6;go_wp2;go_meet;exact⟨(qb.trans y4).grown g6 (λk e=>by have:=aH e;omega),b6⟩
     |true=>have E:nth m 0≠2:=Vw.out rfl;obtain⟨bm,cm,rfl,hbm,Y'⟩:=(hK.out.q qb).rd E vR;go_wp2;refine(aeq cm Y' (ay _) vR o).mono ?_;rintro e w5⟨rfl,p⟩;rw[<-xT.out E];have b5:=b9.q p;go_wp2_with((refine iG rfl _ _ rfl _ rfl _ _ rfl dn aE ?_;intro w6 b6 g6 s6));go_meet;exact⟨(qb.trans p).grown g6 (λk e=>by have:=aH e;omega),b6⟩
    case rest=>
     obtain⟨qc,bc2⟩:=hcut.out;have D:=hK.out.q qc;have pc:=D.jQ.cell;have mc:=D.aP;have Cr:=ag D;have pw:sub m (7+k*16) 16=lvl m k:=by unfold lvl;rw[Nat.mul_comm k 16]
     have hlq:=KL.out k o;clear hcut b9 qb D;go_wp2;refine eo (λC=>(∀i,C.cell? ⟨w.heap.size+1,i,ns⟩=(#[U O W,U O H,Y (an ⟨g,0,ns⟩) n c]:Array AS)[i]?)/\Nb 100 71 C (w.heap.size+1+1) m/\Bl C wr.heap.size pb) (λ_=>Ba) aj ⟨pc,mc.drew,bc2.drew⟩ λhS=>?_;refine ai 0 (h:=ai 1 (h:=ai 2 (h:=ai 4 (h:=ai 5 (h:=ai 6 (h:=ai 8 (h:=?_)))))));refine pS (i:=3) (v:=bi (arr ?Uy)) rfl aj aj aj aj (λ_ _ _ h=>h) (yb aC rfl rfl λC S=>?hz1) hS ?SL;case hz1=>((try dsimp only at S);go_split_ands;assumption)
     try simp only[Act.put,ahZ,ain,aip]
     refine pS (i:=7) (v:=bi (arr (sub m (7+k*16) 16))) rfl aj aj aj aj (λ_ _ _ h=>h) (Wf aC rfl rfl aa (λC S=>S.2.1) hl (Gz.gu underlying97) rfl cM) hS ?_;try simp only[Act.put,ahZ,ain,aip]
     rw[pw];refine bw (k:=9) aj rfl rfl λR b=>?_;go_simp;have y0:Q wc wc.drew:=(Q.refl _).drew;refine(WV F' hlq hq).mono ?_;rintro e w5⟨rfl,p⟩;have y5:=y0.trans p;have Z:=ag (Cr.out.q y5);have T:=bc2.q y5;refine b.out _ _ ⟨Z.out.jQ.cell,Z.out.aP,T⟩ λhS=>?_;clear b R;refine bh ?_;have xV:=ag (abR (gU (lvl m k) q) Z.out.own Fk.out NE aa aa pG pH I.out PR xS.out Q6);rw[<-HS.out] at xV;refine bw (k:=10) aj rfl rfl λR b=>?_;go_simp;refine xV.out.mono ?_;rintro e w6⟨rfl,o6,x6⟩;have Z6:=ag (Z.out.put o6 x6 rE Jh);have hsr:=hK.out.aq.size;refine b.out _ _ ⟨Z6.out.jQ.cell,Z6.out.aP,T.aq x6 av⟩ λhS=>?_;clear b R;refine bh ?_;refine kF aj ?_ _;clear hS o6 x6 y5 bc2 pc mc pw T;exact Lg
   ·have PB:k=4:=by omega
    subst PB;go_wp2;exact ajY (v:=em #[]) (by simp[results,results69,go_sem]) rfl ⟨rfl,hK.out.own,hK.out.aq⟩
end
section
open Go.RowKit
structure mS(wr:rl)(a1 a2:Nat)(W H g n c B:Nat)(A':Option aic)(n' c' B':Nat)(RW RH:Int)(xs L ref:List Int)(gl cnt cl BL:Nat):Prop where
 own:Own wr B (Y (an ⟨g,0,ns⟩) n c) n xs
 rb:ak wr a1 28 (#[U O RW,U O RH,Y A' n' c']:Array AS)
 pb:ak wr a2 28 (#[U O W,U O H,Y (an ⟨g,0,ns⟩) n c]:Array AS)
 row:az 100 71 wr BL (Y (an ⟨gl,0,ns⟩) cnt cl) cnt L
 tb:Tb wr
 rd:Rd wr B' A' ref
section
variable{w w':rl}{a1 a2 W H g n c B:Nat}{A':Option aic}{n' c' B':Nat}{RW RH:Int}{xs ys L ref:List Int}{gl cnt cl BL:Nat}
def mS.q(h:mS w a1 a2 W H g n c B A' n' c' B' RW RH xs L ref gl cnt cl BL)(q:Q w w')(a:B'<=w.heap.size):mS w' a1 a2 W H g n c B A' n' c' B' RW RH xs L ref gl cnt cl BL:=
 ⟨h.own.q q,h.rb.q q,h.pb.q q,h.row.q q,h.tb.q q,h.rd.q q a⟩
def mS.put(h:mS w a1 a2 W H g n c B A' n' c' B' RW RH xs L ref gl cnt cl BL)(o:Own w' B (Y (an ⟨g,0,ns⟩) n c) n ys)(x:al [g] w w')(h1:a1≠g)(a:a2≠g)(f:gl≠g)(b:0≠g)(i:B'<=g):mS w' a1 a2 W H g n c B A' n' c' B' RW RH ys L ref gl cnt cl BL:=
 ⟨o,h.rb.aq x (by simpa using h1),h.pb.aq x (by simpa using a),h.row.AY x (λj d=>by have k:gl=j:=aH d;simp;omega),h.tb.aq x (by simpa using b),h.rd.aq x (by have:=h.own.block;omega) λy e=>by simp at e;omega⟩
end
def Ww{row:Nat}(n' c' B' a:Nat){b:Nat}(d gl cnt cl BL:Nat)(A':Option aic)(L ref:List Int)(f l m o:AS)(q RW RH:Int)(N:Own w B (Y (an ⟨g,0,ns⟩) n c) n xs)(hB:0<B)(xW:B'<=B)(hp:bV W H xs=AT)
  (hT:Tb w)(TL:row<b)(hc:w.cell? ⟨a,row,ns⟩=an (Y (an ⟨gl,0,ns⟩) cnt cl))(P:az 100 71 w BL (Y (an ⟨gl,0,ns⟩) cnt cl) cnt L)(R:gl≠g)(Cs:cnt*8<=W)(A:row*8+8<=H)
  (S:∀k,k<cnt->dt (aP L k)=AT)(C:Rd w B' A' ref)(hr:(∃k,k<cnt/\nth (aP L k) 0≠2)->RW=W/\RH=H/\ref.length=n'/\bV W H ref=AT):
  ahR Gz.prog 56 #[bi (#[f,l,m,U O q,o,Y (an ⟨a,0,ns⟩) b d]:Array AS),bi (#[U O RW,U O RH,Y A' n' c']:Array AS),bi (#[U O W,U O H,Y (an ⟨g,0,ns⟩) n c]:Array AS),U O row] w λe w'=>e=dl (em #[])/\Own w' B (Y (an ⟨g,0,ns⟩) n c) n (ie W H ref row L q cnt xs)/\al [g] w w':=by
 obtain⟨wt,rE⟩:=N.block;obtain⟨⟨p1,p2,p3⟩,⟨p4,p5,p6⟩,p7,p8⟩:=jU hp;have T:=P.1;have V:=ag λk=>qm hp (Ad W H ref row L q xs k) (Ae W H ref row L q p8 k);have p:Q w (((w.alloc (ap (#[f,l,m,U O q,o,Y (an ⟨a,0,ns⟩) b d]:Array AS) 58)).alloc (ap (#[U O RW,U O RH,Y A' n' c']:Array AS) 28)).alloc (ap (#[U O W,U O H,Y (an ⟨g,0,ns⟩) n c]:Array AS) 28)):=aU;have X:=((ak.new w 58 (#[f,l,m,U O q,o,Y (an ⟨a,0,ns⟩) b d]:Array AS)).alloc (ap (#[U O RW,U O RH,Y A' n' c']:Array AS) 28)).alloc (ap (#[U O W,U O H,Y (an ⟨g,0,ns⟩) n c]:Array AS) 28);have br:=(ak.new (w.alloc (ap (#[f,l,m,U O q,o,Y (an ⟨a,0,ns⟩) b d]:Array AS) 58)) 28 (#[U O RW,U O RH,Y A' n' c']:Array AS)).alloc (ap (#[U O W,U O H,Y (an ⟨g,0,ns⟩) n c]:Array AS) 28);have bp:=ak.new ((w.alloc (ap (#[f,l,m,U O q,o,Y (an ⟨a,0,ns⟩) b d]:Array AS) 58)).alloc (ap (#[U O RW,U O RH,Y A' n' c']:Array AS) 28)) 28 (#[U O W,U O H,Y (an ⟨g,0,ns⟩) n c]:Array AS);simp only[NO] at br bp;have D:=(p.cell a row (zj w _ hc)).trans hc;have hBw:B'<=w.heap.size:=aa;have K0:Hid (mS (((w.alloc (ap (#[f,l,m,U O q,o,Y (an ⟨a,0,ns⟩) b d]:Array AS) 58)).alloc (ap (#[U O RW,U O RH,Y A' n' c']:Array AS) 28)).alloc (ap (#[U O W,U O H,Y (an ⟨g,0,ns⟩) n c]:Array AS) 28)) (w.heap.size+1) (w.heap.size+1+1) W H g n c B A' n' c' B' RW RH xs L ref gl cnt cl BL):=⟨N.q p,br,bp,P.q p,hT.q p,C.q p hBw⟩;have E0:=ag (al.dp [g] p);have ahL:(row:Int)<(b:Int):=aa;clear N br bp P hT C hc p;go_enter Gz.gf func56,ntmps56;go_wp2;generalize(((w.alloc (ap (#[f,l,m,U O q,o,Y (an ⟨a,0,ns⟩) b d]:Array AS) 58)).alloc (ap (#[U O RW,U O RH,Y A' n' c']:Array AS) 28)).alloc (ap (#[U O W,U O H,Y (an ⟨g,0,ns⟩) n c]:Array AS) 28))=w0 at K0 E0 X D⊢;go_loopw[16] (λi wr=>∃k:Nat,k<=cnt/\i=U O k/\Hid (mS wr (w.heap.size+1) (w.heap.size+1+1) W H g n c B A' n' c' B' RW RH (ie W H ref row L q k xs) L ref gl cnt cl BL/\al [g] w wr/\ak wr w.heap.size 58 (#[f,l,m,U O q,o,Y (an ⟨a,0,ns⟩) b d]:Array AS))) (λi _=>cnt-(intOf i).toNat)
 case atStart=>exact⟨0,aa,rfl,K0.out,E0.out,X⟩
 case round=>
  obtain⟨k,hk,rfl,hK⟩:=hrel;obtain⟨x,J,k3⟩:=hK.out;clear hK K0 E0 X D;by_cases r:k<cnt
  ·have mp:(k:Int)<cnt:=by omega
   have E:=vL T r;have hl:=x.row;have rc:=x.rb.cell;have pc:=x.pb.cell;have oc:=k3.cell;have K:=ag x;have K2:=ag J;have K3:=ag k3;have dg:=J.size;clear x J k3;have HS:Hid (ie W H ref row L q (k+1) xs=eg W H ref (k*8) (row*8) (row*8) (aP L k) q 4 (ie W H ref row L q k xs)):=rfl;have F:=ag (V.out k);have G:k*8+8<=W:=aa;have hv:=S k r;have I:nth (aP L k) 0≠2->RW=W/\RH=H/\ref.length=n'/\bV W H ref=AT:=λh=>hr ⟨k,r,h⟩;obtain⟨x8,s⟩:∃z,k*8=z:=⟨_,rfl⟩;obtain⟨r8,t⟩:∃z,row*8=z:=⟨_,rfl⟩;rw[s,t] at HS;rw[s] at G;rw[t] at A;generalize ie W H ref row L q k xs=ys at K HS F;have t1:EV.wrap ((k:Int)*8)=(x8:Int):=by rw[show(k:Int)*8=(x8:Int) by omega];exact aD _ ⟨by omega,by omega⟩
   have t2:EV.wrap ((row:Int)*8)=(r8:Int):=by rw[show(row:Int)*8=(r8:Int) by omega];exact aD _ ⟨by omega,by omega⟩
   have HV:=ag hv;have u:=ag I;clear s t hv I;go_wp2_with(first|((with_reducible refine sj (ty:=100) _ (k*71) ?_ ?_ _ hl 71 ?_ _ (Gz.gu underlying100) ?_ e8 ?_);exact rfl;exact rfl;omega;exact rfl;rw[qg])|((refine cP (n:=71) rfl _ _ _ rfl _ rfl _ _ aC (Nb.new 100 71 _ et rfl) E e8 ?_;intro w9 bl g9 s9;rw[NO] at s9;have y:Q wr w9:=((Q.refl wr).alloc _).grown g9 λj e=>yk;have pc9:=(K.out.pb.q y).cell;have rc9:=(K.out.rb.q y).cell;have oc9:=(K3.out.q y).cell))|((with_reducible refine ew (n:=71) rfl _ _ rfl _ rfl _ bl _ (Gz.gu underlying100) rfl e8 ?_)));have Z:=K.out.q y aa;refine(Xz r8 n' c' B' A' ref q RW RH Z.own hB F.out E HV.out G A Z.tb λh=>⟨(u.out h).1,(u.out h).2.1,Z.rd,aa,(u.out h).2.2⟩).mono ?_;rintro e w5⟨rfl,o5,M⟩;rw[<-HS.out] at o5;have M5:=ag (ahU (Z.put o5 M aa aa R aa aa) (ahU ((K2.out.q y).trans M) ((K3.out.q y).aq M av)));clear bl g9 hl rc pc oc pc9 rc9 oc9 Z M o5;exact yS
  ·have rx:k=cnt:=by omega
   subst rx;go_wp2;exact ajY (v:=em #[]) (by simp[results,results56,go_sem]) rfl ⟨rfl,x.own,J⟩
def abV(row:Nat)(n' c':Nat){gl cnt cl BL:Nat}{A':Option aic}{L:List Int}{q:Int}(RW RH:Int)(D:Own w B (Y (an ⟨g,0,ns⟩) n c) n xs)(hB:0<B)(xW:B'<=B)(hp:bV W H xs=AT)
  (hT:Tb w)(E:az 100 71 w BL (Y (an ⟨gl,0,ns⟩) cnt cl) cnt L)(F:gl≠g)(Cs:cnt*8<=W)(l:row*8+8<=H)(hq:qB q=AT)
  (G:∀k,k<cnt->dt (aP L k)=AT)(m:Rd w B' A' ref)(hr:(∃k,k<cnt/\nth (aP L k) 0≠2)->RW=W/\RH=H/\ref.length=n'/\bV W H ref=AT):
  ahR Gz.prog 43 #[bi (#[U O RW,U O RH,Y A' n' c']:Array AS),bi (#[U O W,U O H,Y (an ⟨g,0,ns⟩) n c]:Array AS),U O row,Y (an ⟨gl,0,ns⟩) cnt cl,U O q] w λe w'=>e=dl (em #[])/\Own w' B (Y (an ⟨g,0,ns⟩) n c) n (ie W H ref row L q cnt xs)/\al [g] w w':=by
 obtain⟨wt,rE⟩:=D.block;obtain⟨⟨p1,p2,p3⟩,⟨p4,p5,p6⟩,p7,p8⟩:=jU hp;have o:=E.1;have I:=ag λk=>qm hp (Ad W H ref row L q xs k) (Ae W H ref row L q p8 k);have j:Q w ((w.alloc (ap (#[U O RW,U O RH,Y A' n' c']:Array AS) 28)).alloc (ap (#[U O W,U O H,Y (an ⟨g,0,ns⟩) n c]:Array AS) 28)):=aU;have br:=(ak.new w 28 (#[U O RW,U O RH,Y A' n' c']:Array AS)).alloc (ap (#[U O W,U O H,Y (an ⟨g,0,ns⟩) n c]:Array AS) 28);have J:=ak.new (w.alloc (ap (#[U O RW,U O RH,Y A' n' c']:Array AS) 28)) 28 (#[U O W,U O H,Y (an ⟨g,0,ns⟩) n c]:Array AS);simp only[NO] at J;have K:B'<=w.heap.size:=aa;have M:Hid (mS ((w.alloc (ap (#[U O RW,U O RH,Y A' n' c']:Array AS) 28)).alloc (ap (#[U O W,U O H,Y (an ⟨g,0,ns⟩) n c]:Array AS) 28)) w.heap.size (w.heap.size+1) W H g n c B A' n' c' B' RW RH xs L ref gl cnt cl BL):=⟨D.q j,br,J,E.q j,hT.q j,m.q j K⟩;have N:=ag (al.dp [g] j);clear D br J E hT m j;go_enter Gz.gf func43,ntmps43;go_wp2;generalize((w.alloc (ap (#[U O RW,U O RH,Y A' n' c']:Array AS) 28)).alloc (ap (#[U O W,U O H,Y (an ⟨g,0,ns⟩) n c]:Array AS) 28))=w0 at M N⊢;go_loopw[10] (λi wr=>∃k:Nat,k<=cnt/\i=U O k/\Hid (mS wr w.heap.size (w.heap.size+1) W H g n c B A' n' c' B' RW RH (ie W H ref row L q k xs) L ref gl cnt cl BL/\al [g] w wr)) (λi _=>cnt-(intOf i).toNat)
 case atStart=>exact⟨0,aa,rfl,M.out,N.out⟩
 case round=>
  obtain⟨k,hk,rfl,hK⟩:=hrel;obtain⟨P,A⟩:=hK.out;clear hK M N;by_cases a:k<cnt
  ·have mp:(k:Int)<cnt:=by omega
   have R:=vL o a;have p:=ag P;have E2:=ag A;have dg:=A.size;clear P A;have S:Hid (ie W H ref row L q (k+1) xs=eg W H ref (k*8) (row*8) (row*8) (aP L k) q 4 (ie W H ref row L q k xs)):=rfl;have r:=ag (I.out k);have s:k*8+8<=W:=aa;have hv:=G k a;have t:nth (aP L k) 0≠2->RW=W/\RH=H/\ref.length=n'/\bV W H ref=AT:=λh=>hr ⟨k,a,h⟩;obtain⟨x8,b⟩:∃z,k*8=z:=⟨_,rfl⟩;obtain⟨T,d⟩:∃z,row*8=z:=⟨_,rfl⟩;rw[b,d] at S;rw[b] at s;rw[d] at l;generalize ie W H ref row L q k xs=ys at p S r;have t1:EV.wrap ((k:Int)*8)=(x8:Int):=by rw[show(k:Int)*8=(x8:Int) by omega];exact aD _ ⟨by omega,by omega⟩
   have t2:EV.wrap ((row:Int)*8)=(T:Int):=by rw[show(row:Int)*8=(T:Int) by omega];exact aD _ ⟨by omega,by omega⟩
   have HV:=ag hv;have f:=ag t;have V:sub L (k*71) 71=aP L k:=by rw[qg]
   clear b d hv t;go_wp2;have u:=p.out.row;refine eo (λC=>(∀i,C.cell? ⟨w.heap.size,i,ns⟩=(#[U O RW,U O RH,Y A' n' c']:Array AS)[i]?)/\(∀i,C.cell? ⟨w.heap.size+1,i,ns⟩=(#[U O W,U O H,Y (an ⟨g,0,ns⟩) n c]:Array AS)[i]?)/\az 100 71 C BL (Y (an ⟨gl,0,ns⟩) cnt cl) cnt L) (λ_=>Ba) aj ⟨p.out.rb.cell,p.out.pb.cell,u.drew⟩ λhS=>?_;refine ai 0 (h:=ai 1 (h:=ai 2 (h:=ai 3 (h:=ai 4 (h:=ai 5 (h:=ai 6 (h:=ai 7 (h:=ai 8 (h:=ai 10 (h:=ai 11 (h:=ai 12 (h:=?_))))))))))));refine pS (i:=9) (v:=bi (arr (sub L (k*71) 71))) rfl aj aj aj aj (λ_ _ _ h=>h) (V4 aC rfl rfl aa (λC X=>X.2.2) o (Gz.gu underlying100) rfl e8) hS ?_;try simp only[Act.put,ahZ,ain,aip]
   rw[V];have Z:=p.out.q (Q.refl wr).drew aa;refine bw (k:=13) aj rfl rfl λK2 x=>?_;go_simp;refine(Zj T n' c' B' A' ref RW RH Z.own hB r.out R HV.out s l Z.tb hq λh=>⟨(f.out h).1,(f.out h).2.1,Z.rd,by show B'<=wr.heap.size;omega,(f.out h).2.2⟩).mono ?_;rintro e w5⟨rfl,o5,x5⟩;rw[<-S.out] at o5;have y:=Z.put o5 x5 aa aa F aa aa;have M5:=ag (ahU y ((E2.out.q (Q.refl wr).drew).trans x5));refine x.out _ _ ⟨y.rb.cell,y.pb.cell,y.row⟩ λhS=>?_;clear x K2;refine bh ?_;refine kF aj ?_ _;clear hS Z y x5 o5 u;exact yS
  ·have rx:k=cnt:=by omega
   subst rx;go_wp2;exact ajY (v:=em #[]) (by simp[results,results43,go_sem]) rfl ⟨rfl,P.own,A⟩
end
section
open Go.RowKit
def Wq{W H:Int}(value:Int)(w:rl)(b:fO W)(d:fO H)(s:0<=value/\value<=255)(t:W*H=(n:Int))(n1:n<=1024):
  ahR Gz.prog 42 #[U O W,U O H,U O value] w λe w'=>∃v,e=dl (bi #[U O W,U O H,v])/\Own w' w.heap.size v n (so n value)/\Q w w':=by
 have H1:Hid (decide (8<=W/\W<=32)=AT):=decide_eq_true ⟨b.1,b.2.1⟩;have G:Hid (decide (8<=H/\H<=32)=AT):=decide_eq_true ⟨d.1,d.2.1⟩;have I:Hid (decide (0<=value/\value<=255)=AT):=decide_eq_true s;have e1:W%8=0:=b.2.2;have e2:H%8=0:=d.2.2;obtain⟨a1,a2,_⟩:=b;obtain⟨b1,b2,_⟩:=d;have t1:EV.wrap (W*H)=(n:Int):=by rw[t];exact aD _ ⟨by omega,by omega⟩
 have u:Q w ((w.alloc (ap #[U O 0,U O 0,Y ns 0 0] 28)).alloc (ap #[U O W,U O H,Y ns 0 0] 28)):=aU;have x:=(ak.new w 28 #[U O 0,U O 0,Y ns 0 0]).alloc (ap #[U O W,U O H,Y ns 0 0] 28);have l:=ak.new (w.alloc (ap #[U O 0,U O 0,Y ns 0 0] 28)) 28 #[U O W,U O H,Y ns 0 0];rw[NO] at l;have y:Hid (Own ((w.alloc (ap #[U O 0,U O 0,Y ns 0 0] 28)).alloc (ap #[U O W,U O H,Y ns 0 0] 28)) (w.heap.size+2) (Y ns 0 0) 0 (so 0 value)/\Q w ((w.alloc (ap #[U O 0,U O 0,Y ns 0 0] 28)).alloc (ap #[U O W,U O H,Y ns 0 0] 28))/\ak ((w.alloc (ap #[U O 0,U O 0,Y ns 0 0] 28)).alloc (ap #[U O W,U O H,Y ns 0 0] 28)) (w.heap.size+1) 28 #[U O W,U O H,Y ns 0 0]/\ak ((w.alloc (ap #[U O 0,U O 0,Y ns 0 0] 28)).alloc (ap #[U O W,U O H,Y ns 0 0] 28)) w.heap.size 28 #[U O 0,U O 0,Y ns 0 0]/\w.heap.size+2<=((w.alloc (ap #[U O 0,U O 0,Y ns 0 0] 28)).alloc (ap #[U O W,U O H,Y ns 0 0] 28)).heap.size):=⟨Own.nil _ _,u,l,x,au⟩;clear u l x t s;go_enter Gz.gf func42,ntmps42;go_wp2_with(first|(go_at_call 62;(with_reducible refine(cG _ H1).mono ?_);rintro e w'⟨rfl,rfl⟩)|(go_at_call 62;(with_reducible refine(cG _ G).mono ?_);rintro e w'⟨rfl,rfl⟩)|(go_at_call 62;(with_reducible refine(cG _ I).mono ?_);rintro e w'⟨rfl,rfl⟩));go_loopw[8] (λi wr=>∃k:Nat,∃A c,k<=n/\i=U O k/\Hid (Own wr (w.heap.size+2) (Y A k c) k (so k value)/\Q w wr/\ak wr (w.heap.size+1) 28 #[U O W,U O H,Y A k c]/\ak wr w.heap.size 28 #[U O 0,U O 0,Y ns 0 0]/\w.heap.size+2<=wr.heap.size)) (λi _=>n-(intOf i).toNat)
 case atStart=>exact⟨0,ns,0,ez _,rfl,y⟩
 case round=>
  obtain⟨k,A,c,hk,rfl,hK⟩:=hrel;obtain⟨a,hq,C,f,hs⟩:=hK.out;clear hK y;have J:=C.cell;by_cases K:k<n
  ·have M:(k:Int)<(n:Int):=by omega
   go_wp2_with(at_builtin;refine uD rfl rfl w (w.heap.size+2) rfl (a.alloc _) ⟨_,0,ns⟩ rfl aa aa av (hq.alloc _) (rY _ _ _ _) ?_;intro v' w' m D s2 o;obtain⟨A',c',rfl⟩:=m.form;have j:=(C.alloc _).grown o (λe=>by have:=(a.2.lt _ e.symm).1;omega);have E:=(f.alloc _).grown o (λe=>by have:=(a.2.lt _ e.symm).1;omega);have N:=j.cell;have P:=j.free;have R:=ag (m.aL (p:=⟨w.heap.size+1,2,ns⟩) (by show w.heap.size+1<w.heap.size+2;omega) (Y A' (k+1) c'));have S:=ag (j.set 2 (Y A' (k+1) c'));have T:=ag (E.aL (p:=⟨w.heap.size+1,2,ns⟩) yp (Y A' (k+1) c'));have V:=ag (D.set (p:=⟨w.heap.size+1,2,ns⟩) yq (Y A' (k+1) c'));clear o m j E D J);go_roundw;case rel=>exact⟨k+1,A',c',aa,aJ,by have h:=R.out;rw[<-List.replicate_succ'] at h;exact h,V.out,S.out,T.out,by simp;omega⟩
   case measure=>exact bj
  ·have q:k=n:=by omega
   subst q;have rc:=f.cell;have rf:=f.free;go_wp2_with(refine eH (cs':=#[U O W,U O H,Y A k c]) rfl _ _ _ rfl rfl _ rfl rfl f rfl fq aj ?_;intro w9 X F s9)
   have r:(akF A k c).ownBlock=ns\/(akF A k c).ownBlock≠an w.heap.size:=by
    rcases Z:(akF A k c).ownBlock with _|z
    ·exact .inl rfl
    ·refine .inr λe=>?_;have h1:=(a.2.lt z Z).1;have h2:=aH e;omega
   have o9:=a.other F r;have bc:=X.cell;refine ahX (v:=bi #[U O W,U O H,Y A k c]) (by simp[results,results42,go_sem,bc]) rfl ⟨_,rfl,o9.mono aa,hq.grown F λk e=>by have:=aH e;omega⟩
end
section
open Go.RowKit
def Ei(a:fO W)(b:fO H)(n:Nat)(d:n=W*H):bV W H (so n 128)=AT:=by unfold fO at a b;unfold bV dP;rw[List.length_replicate,decide_eq_true a,decide_eq_true b,decide_eq_true (by rw[d,akE])];unfold dk;rw[akq,akq,akq,List.all_eq_true];intro x e;rw[List.eq_of_mem_replicate e];rfl
def Yd(n' c':Nat){f a:Nat}(p:Nat){cnt BL:Nat}{A':Option aic}(I:Bool)(b:Nat->List Int)(r:AS)(q RW RH:Int)(hW:fO W)(hH:fO H)(X:n=W*H)(n1:n<=1024)(G:cnt*8=W)(hrH:a*8<=H)(xW:B'<=w.heap.size)(hT:Tb w)
  (d:∀i,i<a->∃gl cl,w.cell? ⟨f,i,ns⟩=an (Y (an ⟨gl,0,ns⟩) cnt cl)/\az 100 71 w BL (Y (an ⟨gl,0,ns⟩) cnt cl) cnt (b i))
  (J:∀i k,i<a->k<cnt->dt (aP (b i) k)=AT)(K:Rd w B' A' ref)(hr:(∃i k,i<a/\k<cnt/\nth (aP (b i) k) 0≠2)->RW=W/\RH=H/\ref.length=n'/\bV W H ref=AT):
  ahR Gz.prog 29 #[bi (#[U O W,U O H,ci I,U O q,r,Y (an ⟨f,0,ns⟩) a p]:Array AS),bi (#[U O RW,U O RH,Y A' n' c']:Array AS)] w λe w'=>∃v,e=dl (bi #[U O W,U O H,v])/\Own w' w.heap.size v n (iy W H ref b q a (so n 128))/\Q w w':=by
 have hp:=Ei hW hH n X;obtain⟨⟨p1,p2,p3⟩,⟨p4,p5,p6⟩,p7,p8⟩:=jU hp;have rK:=ag λk=>qm hp (zP W H ref b q (so n 128) k) (zQ W H ref b q p8 k);have s:Q w (((w.alloc (ap (#[U O W,U O H,ci I,U O q,r,Y (an ⟨f,0,ns⟩) a p]:Array AS) 58)).alloc (ap (#[U O RW,U O RH,Y A' n' c']:Array AS) 28)).alloc (ap #[U O 0,U O 0,Y ns 0 0] 28)):=aU;have t:=((ak.new w 58 (#[U O W,U O H,ci I,U O q,r,Y (an ⟨f,0,ns⟩) a p]:Array AS)).alloc (ap (#[U O RW,U O RH,Y A' n' c']:Array AS) 28)).alloc (ap #[U O 0,U O 0,Y ns 0 0] 28);have u:=(ak.new (w.alloc (ap (#[U O W,U O H,ci I,U O q,r,Y (an ⟨f,0,ns⟩) a p]:Array AS) 58)) 28 (#[U O RW,U O RH,Y A' n' c']:Array AS)).alloc (ap #[U O 0,U O 0,Y ns 0 0] 28);have l:=ak.new ((w.alloc (ap (#[U O W,U O H,ci I,U O q,r,Y (an ⟨f,0,ns⟩) a p]:Array AS) 58)).alloc (ap (#[U O RW,U O RH,Y A' n' c']:Array AS) 28)) 28 #[U O 0,U O 0,Y ns 0 0];simp only[NO] at u l;have M:(W:Int)*(H:Int)=(n:Int):=by rw[X,akE]
 have NP:=ag (λz=>NH W H 128 n z hW hH (show(0:Int)<=128/\(128:Int)<=255 by omega) M n1);have Hg:64<=n:=by rw[X];exact eZ (show 8<=W by omega) (show 8<=H by omega)
 have x:=ag d;have Jk:Hid (cnt=W/8):=by unfold Hid;omega
 have HR:=ag hr;have N:=ag J;have P:=ag K;have HT:=ag hT;replace G:cnt*8<=W:=aa;clear d hr J K hT hp p7 p8 X M;go_enter Gz.gf func29,ntmps29;go_wp2;generalize(((w.alloc (ap (#[U O W,U O H,ci I,U O q,r,Y (an ⟨f,0,ns⟩) a p]:Array AS) 58)).alloc (ap (#[U O RW,U O RH,Y A' n' c']:Array AS) 28)).alloc (ap #[U O 0,U O 0,Y ns 0 0] 28))=w0 at s t u l⊢;have t7:=l.lt;refine(NP.out _).mono ?_;rintro e D⟨v,rfl,R,q1⟩;have xo:=s.size;rcases R.dC with⟨_,h0⟩|⟨g,c,rfl,rv,S,_⟩
 ·omega
 replace s:=s.trans q1;replace t:=t.q q1;replace u:=u.q q1;replace l:=l.q q1;have hz:=l.lt;have bp:ak (D.alloc (ap (#[U O W,U O H,Y (an ⟨g,0,ns⟩) n c]:Array AS) 28)) D.heap.size 28 (#[U O W,U O H,Y (an ⟨g,0,ns⟩) n c]:Array AS):=ak.new D _ _;replace s:=s.alloc (ap (#[U O W,U O H,Y (an ⟨g,0,ns⟩) n c]:Array AS) 28);replace t:=t.alloc (ap (#[U O W,U O H,Y (an ⟨g,0,ns⟩) n c]:Array AS) 28);replace u:=u.alloc (ap (#[U O W,U O H,Y (an ⟨g,0,ns⟩) n c]:Array AS) 28);replace l:=l.alloc (ap (#[U O W,U O H,Y (an ⟨g,0,ns⟩) n c]:Array AS) 28);replace R:=R.alloc (ap (#[U O W,U O H,Y (an ⟨g,0,ns⟩) n c]:Array AS) 28);have Z:=t.cell;have K0:=ag (ahU R (ahU s (ahU t (ahU u (ahU l bp)))));have li:w.heap.size<=g:=aa;clear q1 NP R s t u l bp;have agJ:w.heap.size+3<=w0.heap.size:=aa;have Jl:g<D.heap.size:=S;go_wp2;generalize D.alloc (ap (#[U O W,U O H,Y (an ⟨g,0,ns⟩) n c]:Array AS) 28)=w2 at K0 Z⊢;generalize D.heap.size=p0 at K0 Jl⊢;clear hz Z S;go_loopw[17] (λi wr=>∃k:Nat,k<=a/\i=U O k/\Hid (Own wr w0.heap.size (Y (an ⟨g,0,ns⟩) n c) n (iy W H ref b q k (so n 128))/\Q w wr/\ak wr w.heap.size 58 (#[U O W,U O H,ci I,U O q,r,Y (an ⟨f,0,ns⟩) a p]:Array AS)/\ak wr (w.heap.size+1) 28 (#[U O RW,U O RH,Y A' n' c']:Array AS)/\ak wr (w.heap.size+1+1) 28 #[U O 0,U O 0,Y ns 0 0]/\ak wr p0 28 (#[U O W,U O H,Y (an ⟨g,0,ns⟩) n c]:Array AS))) (λi _=>a-(intOf i).toNat)
 case atStart=>exact⟨0,aa,rfl,K0.out⟩
 case round=>
  obtain⟨k,hk,rfl,hK⟩:=hrel;obtain⟨k1,m,y,A,E,C⟩:=hK.out;clear hK K0;by_cases o:k<a
  ·have mp:(k:Int)<a:=by omega
   have Z:=y.cell;have rc:=A.cell;have pc:=C.cell;obtain⟨gl,cl,hc,hL⟩:=x.out k o;have afS:gl<w.heap.size:=hL.AX gl rfl;have HS:Hid (iy W H ref b q (k+1) (so n 128)=ie W H ref k (b k) q (W/8) (iy W H ref b q k (so n 128))):=rfl;have T:=ag (rK.out k);generalize iy W H ref b q k (so n 128)=ys at k1 HS T
   have V:=ag (Ww n' c' B' f p gl cnt cl BL A' (b k) ref (U O W) (U O H) (ci I) r q RW RH k1 aa aa T.out (HT.out.q m) o
    ((m.cell f k (zj w _ hc)).trans hc) (hL.q m) aa G aa (λj hj=>N.out k j o hj) (P.out.q m xW) λ⟨j,hj,h⟩=>HR.out ⟨k,j,o,hj,h⟩)
   have KK:=ag (ahU m (ahU y (ahU A (ahU E C))));clear k1 m y A E C hc hL;go_wp2;refine V.out.mono ?_;rintro e w5⟨rfl,o5,F⟩;obtain⟨m,y,A,E,C⟩:=KK.out;have M5:=ag (ahU o5 (ahU (F.toQ m av) (ahU (y.aq F av) (ahU (A.aq F av) (ahU (E.aq F av) (C.aq F av))))));rw[Jk.out,<-HS.out] at M5;clear m y A E C o5 F KK V Z rc pc;exact yS
  ·have rx:k=a:=by omega
   subst rx;have pc:=C.cell;clear y A x N HR P HT;go_wp2_with(refine eH (cs':=(#[U O W,U O H,Y (an ⟨g,0,ns⟩) n c]:Array AS)) rfl _ _ _ rfl rfl _ rfl rfl E rfl fq aj ?_;intro w9 b9 g9 s9);have bc:=b9.cell;refine ahX (v:=bi (#[U O W,U O H,Y (an ⟨g,0,ns⟩) n c]:Array AS)) (by simp[results,results29,go_sem,bc]) rfl ⟨_,rfl,(k1.aq (al.bA g9) av).mono aa,m.grown g9 λk e=>by have:=aH e;omega⟩
end
section
open Go.RowKit Go.WideShapes Go.ChangeShapes
def JL(W H:Int)(I:Bool)(q:Int)(A A':Option aic)(n c:Nat){n':Nat}(c':Nat)(ls:List (List Int))(RW RH:Int){a1 a2:aic}(hx:eF w B A ls)(T:B<=w.heap.size)(V:ls.length=n)(he:gQ w a1 a2 B)(k1:dD w a1)(k2:dD w a2)(hT:Tb w)
  (hr:Rd w B' A' ref)(o:B'<=w.heap.size)(r:ref.length=n')(X:n'<=9223372036854775807):
  ahR Gz.prog 11 #[bi (#[U O W,U O H,ci I,U O q,Y A n c]:Array AS),bi (#[U O RW,U O RH,Y A' n' c']:Array AS)] w λe w'=>Q w w'/\(fi W H I q ls RW RH ref=AT->∃v,e=dl (bi #[U O W,U O H,v])/\Own w' w.heap.size v (W.toNat*H.toNat) (jM W H I q ls ref))/\(fi W H I q ls RW RH ref=Ba->e=dl (bi (#[U O 0,U O 0,Y ns 0 0]:Array AS))):=by
 have m:Q w (((w.alloc (ap (#[U O W,U O H,ci I,U O q,Y A n c]:Array AS) 25)).alloc (ap (#[U O RW,U O RH,Y A' n' c']:Array AS) 28)).alloc (ap (#[U O 0,U O 0,Y ns 0 0]:Array AS) 28)):=aU;have F:=((ak.new w 25 (#[U O W,U O H,ci I,U O q,Y A n c]:Array AS)).alloc (ap (#[U O RW,U O RH,Y A' n' c']:Array AS) 28)).alloc (ap (#[U O 0,U O 0,Y ns 0 0]:Array AS) 28);have N:=(ak.new (w.alloc (ap (#[U O W,U O H,ci I,U O q,Y A n c]:Array AS) 25)) 28 (#[U O RW,U O RH,Y A' n' c']:Array AS)).alloc (ap (#[U O 0,U O 0,Y ns 0 0]:Array AS) 28);have G:=ak.new ((w.alloc (ap (#[U O W,U O H,ci I,U O q,Y A n c]:Array AS) 25)).alloc (ap (#[U O RW,U O RH,Y A' n' c']:Array AS) 28)) 28 (#[U O 0,U O 0,Y ns 0 0]:Array AS);simp only[NO] at N G;have Z:=ag (afu W H I q c (hx.q m T) (aQ T m.size) V (he.q m T) (k1.q m) (k2.q m));have RF:=ag λz(qz:Q w z)=>Yc W H I q (Y A n c) RW RH c' (hr.q qz o) (aQ o qz.size) r X;have HN:=ag V;have J:=ag r;have HR:=ag hr;have HT:=ag hT;clear hx V he k1 k2 hT hr r;go_enter Gz.gf func11,ntmps11;go_wp2;refine Z.out.mono ?_;rintro e P⟨q1,⟨s,cnt,rfl,hs,b,a⟩|⟨rfl,hv⟩⟩
 ·have R:=(m.trans q1).alloc (ap (#[U O W,U O H,ci I,U O q,Y A n c,Y (an ⟨s,0,ns⟩) n n]:Array AS) 58);have S:=(N.q q1).alloc (ap (#[U O W,U O H,ci I,U O q,Y A n c,Y (an ⟨s,0,ns⟩) n n]:Array AS) 58);have c1:=(F.q q1).alloc (ap (#[U O W,U O H,ci I,U O q,Y A n c,Y (an ⟨s,0,ns⟩) n n]:Array AS) 58);have t:=(G.q q1).alloc (ap (#[U O W,U O H,ci I,U O q,Y A n c,Y (an ⟨s,0,ns⟩) n n]:Array AS) 58);have bo:=ak.new P 58 (#[U O W,U O H,ci I,U O q,Y A n c,Y (an ⟨s,0,ns⟩) n n]:Array AS);have HS:=ag hs;have u:=ag (ahU b a);have p:=ag (RF.out _ R);have xo:=m.size;obtain⟨rb,x⟩:∃z,iR I W H RW RH ref=z:=⟨_,rfl⟩;rw[x] at p;have j:=ag x;have rc:=S.cell;have cc:=c1.cell;have Vs:=ag q1;clear F N G m q1 hs b a Z RF x;go_wp2;refine p.out.mono ?_;rintro e w2⟨rfl,y⟩;have N':=t.q y;have QZ:=ag (R.trans y);cases rb with
  |false=>have HV:Hid (fi W H I q ls RW RH ref=Ba):=P8 j.out;clear p j u HS HR HT J HN S c1 t bo rc cc R y;exact Lh
  |true=>
   have rc2:=(S.q y).cell;have oc2:=(bo.q y).cell;obtain⟨b,a⟩:=u.out;obtain⟨sW,sH,⟨Vy,Vz⟩,xO⟩:=ni HS.out;obtain⟨f,rfl⟩:∃k:Nat,W=(k:Int):=⟨W.toNat,by have:=sW.1;omega⟩;obtain⟨C,rfl⟩:∃k:Nat,H=(k:Int):=⟨H.toNat,by have:=sH.1;omega⟩;have Jm:=sW;have Jn:=sH;obtain⟨u1,u2,u3⟩:=Jm;obtain⟨v1,v2,v3⟩:=Jn;have Jo:f*C<=1024:=eZ (show f<=32 by omega) (show C<=32 by omega);have D:Q P w2:=((Q.refl P).alloc _).trans y
   have l:∀i,i<n->∃gl cl,w2.cell? ⟨s,i,ns⟩=an (Y (an ⟨gl,0,ns⟩) cnt cl)/\az 100 71 w2 _ (Y (an ⟨gl,0,ns⟩) cnt cl) cnt (iF (f:Int) I ls i):=λi hi=>by obtain⟨L,gl,cl,E,hc,ho⟩:=a i hi;refine⟨gl,cl,(D.cell s i (zj P _ hc)).trans hc,?_⟩;rw[show iF (f:Int) I ls i=L by unfold iF;rw[b,E];rfl];exact ho.q D
   have d:∀i k,i<n->k<cnt->dt (aP (iF (f:Int) I ls i) k)=AT/\(I=AT->nth (aP (iF (f:Int) I ls i) k) 0=2):=λi k hi K=>by obtain⟨L,gl,cl,E,hc,ho⟩:=a i hi;rw[show iF (f:Int) I ls i=L by unfold iF;rw[b,E];rfl];exact Q8 E k K
   have Jp:Hid (fi (f:Int) (C:Int) I q ls RW RH ref=AT):=OU CZ j.out (λi hi=>by obtain⟨L,gl,cl,E,_⟩:=a i (by rw[<-HN.out];exact hi);exact⟨L,by rw[b];exact E⟩)
   have M:=ag (Yd n' c' n I (iF (f:Int) I ls) (Y A n c) q RW RH sW sH rfl Jo aa aa (aQ o QZ.out.size) (HT.out.q QZ.out) l (λi k hi K=>(d i k hi K).1) (HR.out.q QZ.out o) (λ⟨i,k,hi,K,h⟩=>by
    have hI:I=Ba:=by cases hI:I with|false=>rfl|true=>exact absurd ((d i k hi K).2 hI) h
    obtain⟨r1,r2,r3⟩:=Sa j.out hI;exact⟨r1,r2,J.out,r3⟩))
   have hz2:=N'.lt;clear p rc cc l d a b u j HS S c1 t bo R y D Vs;go_wp2;refine M.out.mono ?_;rintro e w3⟨v,rfl,o3,q3⟩;have Jq:=N'.q q3;have dg:=QZ.out.size;obtain⟨Av,cv,rfl⟩:=o3.form;clear M rc2 oc2 N';go_wp2_with(refine eH (cs':=#[U O f,U O C,Y Av (f*C) cv]) rfl _ _ _ rfl rfl _ rfl rfl Jq rfl fq aj ?_;intro w9 b9 g9 s9);have F:=b9.cell;refine ahX (v:=bi #[U O f,U O C,Y Av (f*C) cv]) (by simp[results,results11,go_sem,F]) rfl ⟨(QZ.out.trans q3).grown g9 (λk e=>by have:=aH e;omega),λ_=>⟨_,rfl,?_⟩,λh=>by rw[Jp.out] at h;cases h⟩;have o9:=(o3.aq (al.bA g9) av).mono (B':=w.heap.size) aa;unfold jM;rw[aiE,aiE,HN.out];exact o9
 ·have N':=(G.q q1).alloc (ap (#[U O 0,U O 0,ci Ba,U O 0,Y ns 0 0,Y ns 0 0]:Array AS) 58);have QZ:=ag ((m.trans q1).alloc (ap (#[U O 0,U O 0,ci Ba,U O 0,Y ns 0 0,Y ns 0 0]:Array AS) 58));have HV:=ag (hv RW RH ref);clear F N G m q1 hv Z RF;exact Lh
end
section
open Go.RowKit Go.WideShapes Go.ChangeShapes Go.Shelf
attribute [local go_sem] Oper.semAt_some
def tJ(x:Nat×Nat):Array AS:=#[U O (x.1:Int),U O (x.2:Int)]
def OV{W H y k:Nat}(a:y<H)(b:k<(W-1)/4):bR (dT W) ((W-1)/4) y k++[dT W y k]<+:fW W H:=by rw[<-sI];exact(P0 a b).trans ⟨_,rfl⟩
def OW{W H x k:Nat}(a:x<W)(b:k<(H-1)/4):(bR (dT W) ((W-1)/4) H 0++bR (gH W) ((H-1)/4) x k)++[gH W x k]<+:fW W H:=by rw[ait,<-sI];exact(List.prefix_append_right_inj _).2 (P0 a b)
def ak.kb{t:TypeId}{w':rl}{cs:Array AS}(h:ak w g t cs)(k:Kb g w w'):ak w' g t cs:=Eq.trans k h
def aey(hn:1<=n)(l b:Nat)(s:AS)(hW:W<=32)(hH:H<=32)(J Jx:List (Nat×Nat)->rl->Prop)(G:rl)
  (hJ:AbidesFrom G.heap.size J)(hY:∀pre x w,J pre w->pre++[x]<+:fW W H->YieldAt Fence.wide (n-1) Gz.prog l (tJ x) w λe w'=>(e=dl (ci AT)/\J (pre++[x]) w'/\Kb b w w')\/(e=dl (ci Ba)/\Jx (pre++[x]) w'))
  (X:ak G b 28 #[U O W,U O H,s])(h0:J [] G):
  CallsIn Fence.wide n Gz.prog 46 #[.func (.yield l) #[] #[],d9 (an ⟨b,0,ns⟩)] G λe w'=>(∃v,e=dl v)/\
   ((∃ys,ys=fW W H/\J ys w')\/(∃pre,pre<+:fW W H/\Jx pre w')):=by
 have HY:=ag hY;have I:Hid (ak G b 28 #[U O W,U O H,s]/\J (bR (dT W) ((W-1)/4) 0 0) G):=⟨X,h0⟩;have c0:=X.cell;have Z:=ag λy k a K=>@OV W H y k a K;have V:=ag λy k a K=>@OW W H y k a K;have EE:Hid (fW W H=bR (dT W) ((W-1)/4) H 0++bR (gH W) ((H-1)/4) W 0):=rfl;clear hY X h0 hJ;obtain⟨m,hm⟩:∃m,(W-1)/4=m:=⟨_,rfl⟩;obtain⟨t,py⟩:∃m,(H-1)/4=m:=⟨_,rfl⟩;rw[hm] at I Z V EE;rw[py] at V EE;refine callsIn_of_wp (Gz.gf func46) rfl trivial ?_ rfl;simp only[ntmps46,List.size_toArray,List.length_cons,List.length_nil,Nat.reduceAdd,Nat.reduceSub,Array.replicate_succ,Array.replicate_zero,List.push_toArray,List.append_toArray,ajr,List.cons_append]
 gi_wp2
 gi_loopw[9] (λi wr=>∃y:Nat,y<=H/\i=U O y/\Hid (ak wr b 28 #[U O W,U O H,s]/\J (bR (dT W) m y 0) wr)) (λi _=>H-(intOf i).toNat)
 case atStart=>exact⟨0,aa,rfl,I.out⟩
 case round=>
  obtain⟨y,a,rfl,hK⟩:=hrel;clear I c0;by_cases M:y<H
  ·have Jr:(y:Int)<H:=by omega
   have N:Hid (ak wr b 28 #[U O W,U O H,s]/\J (bR (dT W) m y 0) wr):=hK.out;have c0:=hK.out.1.cell;obtain⟨q,EQ⟩:∃z,y*W=z:=⟨_,rfl⟩;have Js:q<=1024:=by rw[<-EQ];exact eZ (show y<=32 by omega) hW
   have t1:EV.wrap ((y:Int)*(W:Int))=(q:Int):=yt;clear hK
   gi_wp2
   gi_loopw[4] (λi wr=>∃k r:Nat,k<=m/\r=4*(k+1)/\i=U O r/\Hid (ak wr b 28 #[U O W,U O H,s]/\J (bR (dT W) m y k) wr)) (λi _=>W+4-(intOf i).toNat)
   case atStart=>exact⟨0,4,aa,rfl,rfl,N.out⟩
   case round=>
    obtain⟨k,r,K,u,rfl,hK⟩:=hrel;obtain⟨d,f⟩:=hK.out;clear N c0;have c0:=d.cell;by_cases h:k<m
    ·have A:(r:Int)<W:=by omega
     obtain⟨fn,tmps,assign,body,a,P⟩:=HY.out _ _ wr f (Z.out y k M h);obtain⟨Q,Id⟩:∃z,q+r=z:=⟨_,rfl⟩;have j:dT W y k=(Q,1):=by unfold dT;rw[EQ,<-u,Id]
     have t2:EV.wrap ((q:Int)+(r:Int))=(Q:Int):=yu;have R:=ag (sI (dT W) m y k);have P1:=ag (Z.out y k M h);rw[j] at a R P P1;unfold tJ at a;dsimp only at a;rw[show((1:Nat):Int)=1 from rfl] at a;have C:=ag d;have VA:r<=32:=aa;have HXX:=ag u;clear hK d f u j Id
     gi_wp2
     refine P.mono ?_;rintro e W3(⟨rfl,D,E⟩|⟨rfl,TU⟩)
     ·gi_wp2
      go_roundw;case rel=>exact⟨k+1,r+4,aa,by have:=HXX.out;omega,aJ,C.out.kb E,by rw[R.out];exact D⟩
      case measure=>exact bj
     ·exact Li
    ·have o:k=m:=by omega
     subst o;have A:¬((r:Int)<W):=aa;rw[<-sJ] at f;have S:=ag f;have C:=ag d;clear hK d f
     gi_wp2
     go_roundw;case rel=>exact⟨y+1,aa,aJ,C.out,S.out⟩
     case measure=>exact bj
  ·have pH:y=H:=by omega
   subst pH;have c0:=hK.out.1.cell;have I:Hid (ak wr b 28 #[U O W,U O y,s]/\J (bR (dT W) m y 0++bR (gH W) t 0 0) wr):=⟨hK.out.1,by rw[OQ,List.append_nil];exact hK.out.2⟩;clear hK
   gi_wp2
   gi_loopw[30] (λi wr=>∃x:Nat,x<=W/\i=U O x/\Hid (ak wr b 28 #[U O W,U O y,s]/\J (bR (dT W) m y 0++bR (gH W) t x 0) wr)) (λi _=>W-(intOf i).toNat)
   case atStart=>exact⟨0,aa,rfl,I.out⟩
   case round=>
    clear I c0;obtain⟨x,hx,rfl,hK⟩:=hrel;by_cases T:x<W
    ·have A:(x:Int)<W:=by omega
     have N:=ag hK.out;have c0:=hK.out.1.cell;clear hK
     gi_wp2
     gi_loopw[6] (λi wr=>∃k p:Nat,k<=t/\p=4*(k+1)/\i=U O p/\Hid (ak wr b 28 #[U O W,U O y,s]/\J (bR (dT W) m y 0++bR (gH W) t x k) wr)) (λi _=>y+4-(intOf i).toNat)
     case atStart=>exact⟨0,4,aa,rfl,rfl,N.out⟩
     case round=>
      obtain⟨k,p,K,F,rfl,hK⟩:=hrel;obtain⟨d,f⟩:=hK.out;clear N c0;have c0:=d.cell;by_cases h:k<t
      ·have Jr:(p:Int)<y:=by omega
       obtain⟨fn,tmps,assign,body,a,P⟩:=HY.out _ _ wr f (V.out x k T h);obtain⟨q,EQ⟩:∃z,p*W=z:=⟨_,rfl⟩;have Js:q<=1024:=by rw[<-EQ];exact eZ (show p<=32 by omega) hW
       have t1:EV.wrap ((p:Int)*(W:Int))=(q:Int):=yt;obtain⟨Q,Id⟩:∃z,q+x=z:=⟨_,rfl⟩;have j:gH W x k=(Q,W):=by unfold gH;rw[<-F,EQ,Id]
       have t2:EV.wrap ((q:Int)+(x:Int))=(Q:Int):=yu;have P1:=ag (V.out x k T h);have R:=ag (sI (gH W) t x k);rw[j] at a R P P1;unfold tJ at a;dsimp only at a;have C:=ag d;have VA:p<=32:=aa;have HYY:=ag F;clear hK d f F j Id EQ
       gi_wp2
       refine P.mono ?_;rintro e W3(⟨rfl,D,E⟩|⟨rfl,TU⟩)
       ·gi_wp2
        go_roundw;case rel=>exact⟨k+1,p+4,aa,by have:=HYY.out;omega,aJ,C.out.kb E,by rw[R.out,<-ait];exact D⟩
        case measure=>exact bj
       ·exact Li
      ·have o:k=t:=by omega
       subst o;have A:¬((p:Int)<y):=aa;rw[<-sJ] at f;have S:=ag f;have C:=ag d;clear hK d f
       gi_wp2
       go_roundw;case rel=>exact⟨x+1,aa,aJ,C.out,S.out⟩
       case measure=>exact bj
    ·have pG:x=W:=by omega
     subst pG;have S:=ag hK.out.2;clear hK
     gi_wp2
     go_end0
     exact⟨⟨_,rfl⟩,.inl ⟨_,EE.out.symm,S.out⟩⟩
end
section
open Go.RowKit
def Ra{o:Nat}(hc:∀i,i<xs.length->w.cell? ⟨g,o+i,ns⟩=an (U O (xs[i]?.getD 0))):
  ∀j u,(xs.map (ako .i64))[j]?=an u->w.cell? ((⟨g,o,ns⟩:aic).add j)=an u:=λj u a=>by
 rw[List.getElem?_map] at a;obtain⟨y,b,rfl⟩:=jR.1 a;have h:=hc j (ow.1 b).1;rw[b] at h;by_cases h0:j=0
 ·subst h0;simpa[Addr.add] using h
 ·simpa[Addr.add,h0] using h
def clone(W H:Int)(A:Option aic)(n c B:Nat)(xs:List Int)(w:rl)(p:Rd w B A xs)(z:B<=w.heap.size)(hn:Hid (xs.length=n))(h1:1<=n)(N:n<=1024):
  ahR Gz.prog 23 #[bi #[U O W,U O H,Y A n c]] w λe w'=>∃v,e=dl (bi #[U O W,U O H,v])/\Own w' w.heap.size v n xs/\Q w w':=by
 have d:Q w ((w.alloc (ap #[U O W,U O H,Y A n c] 28)).alloc (ap #[U O 0,U O 0,Y ns 0 0] 28)):=aU;have f:=(ak.new w 28 #[U O W,U O H,Y A n c]).alloc (ap #[U O 0,U O 0,Y ns 0 0] 28);have d0:=ak.new (w.alloc (ap #[U O W,U O H,Y A n c] 28)) 28 #[U O 0,U O 0,Y ns 0 0];rw[NO] at d0;have r:=p.q d z;obtain⟨g,o,rfl,C,hc⟩:=r oq;clear p r;obtain⟨i0,hi,j,hz1,hz2⟩:=info_parts sK;have b:((w.alloc (ap #[U O W,U O H,Y (an ⟨g,o,ns⟩) n c] 28)).alloc (ap #[U O 0,U O 0,Y ns 0 0] 28)).heap.size=w.heap.size+2:=au;go_enter Gz.gf func23,ntmps23;go_wp2;generalize(w.alloc (ap #[U O W,U O H,Y (an ⟨g,o,ns⟩) n c] 28)).alloc (ap #[U O 0,U O 0,Y ns 0 0] 28)=s at d f d0 C hc b⊢;have D:=ag hc;have E:=ag f;have D0:=ag d0;have F:=ag d;have k:=ag b;have P:=f.cell;clear hc f d0 d b
 go_region_law (refine step_append_grows rfl _ _ _ rfl 3 i0 (U O 0) 1 8 (Gz.gu underlying26) hi j hz1 hz2 rfl aw ns 0 0 [] aC (λ_=>⟨rfl,rfl⟩) rfl (λ_ h=>by cases h) ⟨g,o,ns⟩ n c (xs.map (.int .i64)) aC (by simp;exact hn.out) ?_ (λu hu=>by simp at hu;obtain⟨x,_,rfl⟩:=hu;rfl) aa mY aa ?_;exact Ra D.out;intro v4 t a y;have l:Own t (w.heap.size+2) v4 n xs:=⟨hn.out,by have h:=a;simp only[Nat.zero_add,ajr] at h;rw[<-k.out];exact h⟩;have i:Q s t:=(Q.refl s).drew.trans (Q.ny y);obtain⟨G,I,rfl⟩:=l.form;have R:=(E.out.q i).cell;have d4:=D0.out.q i;have m:=d4.cell;have J:=d4.free;have K:=ag l;have M:=ag (F.out.trans i);clear a y l i)
 all_goals
  go_wp2;refine ahX (v:=bi #[U O W,U O H,Y G n I]) (by simp[results,results23,go_sem,m]) rfl ⟨_,rfl,?_,?_⟩
  ·exact Own.mono (B:=w.heap.size+2) (by repeat(first|exact K.out|refine Own.aL ?_ (by simp) _)) aa
  ·have hq:=M.out;exact aU
end
end Go.Proofs.Q0
