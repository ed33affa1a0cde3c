import Derived.Test.YtjjdeakghpmpfaaGreatDoorK28
set_option maxRecDepth 100000
set_option maxHeartbeats 8000000
set_option linter.all false
open Go.Value renaming int->U,slice->Y,bool->a9,agg->a5,pointer->ci,tuple->dl,iface->em
open Go.IntKind renaming i64->O
open Go.Obj renaming cells->ac
open Go.Ending renaming returned->be
open And renaming intro->TO
open Go renaming Addr->aiI,Calls->UL,Value->rl,World->ns,bodyPost_end->akv,bodyPost_ret->aiA
open Go.IntKind renaming i64->AS
open Go.World renaming size_alloc->BE
open Int renaming natCast_mul->ali,toNat_natCast->ajb
open List renaming append_assoc->aiK,replicate->an,setIfInBounds_toArray->aix,set_cons_succ->aiQ,set_cons_zero->aiG
namespace Go.Proofs
def yn{p:Prop}(h:p:=by
  go_wp2;go_roundw;case rel=>exact⟨k+1,aa,aH,M5.out⟩
  case measure=>simp[intOf];omega):p:=h
def Cs{p:Prop}(h:p:=by rw[HV.out] at h;cases h):p:=h
def Ls{p:Prop}(h:p:=by(go_wp2_with(refine fw (cs':=(#[U O 0,U O 0,Y none 0 0]:Array Value)) rfl _ _ _ rfl rfl _ rfl rfl K' rfl iq ai ?_;intro w9 b9 g9 s9);have bc:=b9.cell;exact bodyPost_ret (v:=a5 (#[U O 0,U O 0,Y none 0 0]:Array Value)) (by simp[results,results23,go_sem,bc]) rfl ⟨QZ.out.grown g9 λk e=>xI,λh=>Cs,λ_=>rfl⟩)):p:=h
def Ct{p:Prop}(h:p:=by rw[HN.out];exact HS.out):p:=h
def xR{p:Prop}(h:p:=by rw[<-Int.natCast_mul,CD];exact IntWalk.i64_in _ ⟨by omega,by omega⟩):p:=h
def xS{p:Prop}(h:p:=by rw[<-Int.natCast_add,Fr];exact IntWalk.i64_in _ ⟨by omega,by omega⟩):p:=h
def Lt{p:Prop}(h:p:=by
  gi_wp2
  refine bodyPost_ret (results_none rfl _ _ _) rfl ?_;exact⟨⟨_,rfl⟩,.inr ⟨_,P1.out,T9⟩⟩):p:=h
end Go.Proofs
namespace Go.Proofs.Q0
open Go.Proofs.Tryz
variable{w:ns}{xs ref:List Int}{g n c B W H B':Nat}{A':Option aiI}
section
open Go.RowKit
def ZC{x y:Nat}(a:Nat)(n' c' B':Nat)(A':Option aiI){m:List Int}(ref:List Int){q:Int}(RW RH:Int)(ho:Own w B (Y (some ⟨g,0,none⟩) n c) n xs)(hB:2<B)(hp:bS W H xs=true)(hl:m.length=71)(hv:df m=true)
  (hx:x+8<=W)(hy:y+8<=H)(hT:Tb w)(hq:qB q=true)(hr:nth m 0≠2->RW=W/\RH=H/\Rd w B' A' ref/\B'<=w.heap.size/\ref.length=n'/\bS W H ref=true):
  UL Gz.prog 59 #[a5 #[U O RW,U O RH,Y A' n' c'],a5 #[U O W,U O H,Y (some ⟨g,0,none⟩) n c],U O x,U O y,a5 (arr m),U O q,U O a] w λe w'=>e=be (dl #[])/\Own w' B (Y (some ⟨g,0,none⟩) n c) n (dT W H ref x y a m q 4 xs)/\av [g] w w':=by
 obtain⟨k0,⟨v1,v2⟩,⟨v3,v4⟩,km,kl⟩:=Sq hl hv;obtain⟨t7,U'⟩:=ho.block;have Jl:g≠2:=aa;obtain⟨⟨p1,p2,p3⟩,⟨p4,p5,p6⟩,p7,p8⟩:=jH hp;have tQ:=ho.1;have qS:=af λk=>pL hp (zI W H ref x y a m q xs k) (zJ W H ref x y a m q p8 k);have hn:n=H*W:=AF p7 tQ;have mt:n<=1024:=by rw[hn];exact fO (show H<=32 by omega) (show W<=32 by omega)
 have EQ:=af hn;clear hn;have hV:sub m 1 2=[nth m 1,nth m 2]:=kW m 1 aa;have r:=Nb.new 85 71 ((w.alloc (ac #[U O RW,U O RH,Y A' n' c'] 30)).alloc (ac (#[U O W,U O H,Y (some ⟨g,0,none⟩) n c]:Array rl) 30)) m hl;simp only[BE] at r;have f:Q w (((w.alloc (ac #[U O RW,U O RH,Y A' n' c'] 30)).alloc (ac (#[U O W,U O H,Y (some ⟨g,0,none⟩) n c]:Array rl) 30)).alloc (ac (arr m) 85)):=aR;have br:=((ak.new w 30 #[U O RW,U O RH,Y A' n' c']).alloc (ac (#[U O W,U O H,Y (some ⟨g,0,none⟩) n c]:Array rl) 30)).alloc (ac (arr m) 85);have V:=(ak.new (w.alloc (ac #[U O RW,U O RH,Y A' n' c'] 30)) 30 (#[U O W,U O H,Y (some ⟨g,0,none⟩) n c]:Array rl)).alloc (ac (arr m) 85);rw[BE] at V;have HR:=af hr;have KM:=af km;have KL:=af λk hk=>ae8 kl k hk;clear hr km hv p7 p8 kl;have gt:=ho.q f;have BX:=hT.q f;obtain⟨kd,t⟩:∃z,nth m 0=z:=⟨_,rfl⟩;have cq:∀(z:ns)(_:Nb 85 71 z (w.heap.size+1+1) m),z.cell? ⟨w.heap.size+1+1,0,none⟩=some (U O kd):=λz h=>by rw[<-t];exact h.at 0 aa
 have CQ:=af cq;obtain⟨bb,l⟩:∃z,(kd !=2)=z:=⟨_,rfl⟩;have wL:(kd==2)=!bb:=by rw[<-l,bne,Bool.not_not]
 have Do:Hid (bb=false->nth m 0=2):=λh=>by rw[h,bne_eq_false_iff_eq] at l;exact t.trans l
 have VD:Hid (bb=true->nth m 0≠2):=λh=>by rw[h,bne_iff_ne] at l;rw[t];exact l
 replace f:=f.alloc (ac #[] 3);replace r:=r.alloc (ac #[] 3);replace br:=br.alloc (ac #[] 3);replace V:=V.alloc (ac #[] 3);have F:=ho.q f;have G:=hT.q f;have c0:=cq _ r;clear gt BX cq t;go_enter Gz.gf func59,ntmps59
 go_upto_if 22 with fail
 generalize((((w.alloc (ac #[U O RW,U O RH,Y A' n' c'] 30)).alloc (ac (#[U O W,U O H,Y (some ⟨g,0,none⟩) n c]:Array rl) 30)).alloc (ac (arr m) 85)).alloc (ac #[] 3))=w1 at f V br r F G c0⊢;go_cut[14] from 23 to 28 (λs wx=>Hid (kK 1 w wx W H g n c B xs m s (kI W H ref x y (nth m 1) (nth m 2))))
 case first=>
  cases bb with
  |false=>have E:=Do.out rfl;go_wp2;go_meet;exact⟨F,av.gQ _ f,V,r,G,λe=>absurd E e⟩
  |true=>
   obtain⟨rfl,rfl,rd,rB,rn,rp⟩:=HR.out (VD.out rfl);have rc:=br.cell;go_wp2_with((with_reducible refine dY (ty:=80) _ 1 ?_ ?_ _ r 2 ?_ _ (Gz.gu underlying80) ?_ jo ?_);exact rfl;exact rfl;omega;exact rfl;rw[hV]);refine(Zx x y c' (rd.q f rB) (aJ rB f.size) rn rp aa aa aa aa v1 v2 v3 v4).mono ?_;rintro e w5⟨v,rfl,o5,p⟩;rcases o5.dD with⟨_,h⟩|⟨g',c5,rfl,hB5,Jk,_⟩
   ·exact absurd h aq
   go_wp2;go_meet;exact⟨F.q p,(av.gQ _ f).q p,V.q p,r.q p,G.q p,λ_=>⟨g',c5,rfl,by have:=f.size;omega,Jk,λi hi=>o5.at i hi⟩⟩
 case rest=>
  have hS:=hcut;clear hcut r c0;go_wp2;go_loopw[15] (λi wr=>∃k:Nat,k<=4/\i=U O k/\Hid (kK 1 w wr W H g n c B (dT W H ref x y a m q k xs) m u14 (kI W H ref x y (nth m 1) (nth m 2)))) (λi _=>4-(intOf i).toNat)
  case atStart=>exact⟨0,aa,rfl,hS⟩
  case round=>
   clear hS;obtain⟨k,hk,rfl,hK⟩:=hrel;by_cases o:k<4
   ·have ka:(k:Int)<4:=by omega
    have DE:=Rm hl o;obtain⟨k2,IM⟩:∃i,k%2=i:=⟨_,rfl⟩;obtain⟨kq,hkq⟩:∃i,k/2=i:=⟨_,rfl⟩;have d1:(k:Int)%2=(k2:Int):=aa;have d2:(k:Int)/2=(kq:Int):=aa;have d3:(k:Int).tmod 2=(k2:Int):=by rw[Int.tmod_eq_emod_of_nonneg (by omega)];exact d1
    have d4:AS.wrap (kq:Int)=(kq:Int):=aB _ ⟨aa,aa⟩;obtain⟨i,hi⟩:∃i,k%2*4=i:=⟨_,rfl⟩;obtain⟨j,hj⟩:∃j,k/2*4=j:=⟨_,rfl⟩;have ti:AS.wrap ((k2:Int)*4)=(i:Int):=by rw[show(k2:Int)*4=(i:Int) by omega];exact aB _ ⟨by omega,by omega⟩
    have tj:AS.wrap ((kq:Int)*4)=(j:Int):=by rw[show(kq:Int)*4=(j:Int) by omega];exact aB _ ⟨by omega,by omega⟩
    have VC:i<=4:=aa;have Bp:j<=4:=aa;have HX:=af (qS.out k);have HS:Hid (dT W H ref x y a m q (k+1) xs=ik W (x+k%2*4) (y+k/2*4) (j2 W H ref (dT W H ref x y a m q k xs) x y a m k) (gE (lvl m k) q) 16 (dT W H ref x y a m q k xs)):=rfl;have I:=af (Qi W H ref (dT W H ref x y a m q k xs) x y a m k);have qD:=af (Rk (W:=W) (H:=H) (ref:=ref) x y a (m:=m) k HX.out λe=>(HR.out e).2.2.2.2.2);obtain⟨X,J⟩:∃z,x+k%2*4=z:=⟨_,rfl⟩;obtain⟨yj,K⟩:∃z,y+k/2*4=z:=⟨_,rfl⟩;have M:=af λh=>@Sr W H x y a k X yj ref (dT W H ref x y a m q k xs) m h J K;have xp:=af λh=>@Ss W H x y a k _ _ ref (dT W H ref x y a m q k xs) m h rfl rfl;rw[J,K] at HS;generalize j2 W H ref (dT W H ref x y a m q k xs) x y a m k=pb at HS I qD M xp;generalize dT W H ref x y a m q k xs=ys at HX HS M hK;have tx:AS.wrap ((x:Int)+(i:Int))=(X:Int):=by rw[show(x:Int)+(i:Int)=(X:Int) by omega];exact aB _ ⟨by omega,by omega⟩
    have ty:AS.wrap ((y:Int)+(j:Int))=(yj:Int):=by rw[show(y:Int)+(j:Int)=(yj:Int) by omega];exact aB _ ⟨by omega,by omega⟩
    have oY:X+4<=W:=aa;have oZ:yj+4<=H:=aa;have aii:X<=32:=aa;have aij:yj<=32:=aa;have bz:Bl (wr.alloc (ac (#[U O 0,U O 0,U O 0,U O 0,U O 0,U O 0,U O 0,U O 0,U O 0,U O 0,U O 0,U O 0,U O 0,U O 0,U O 0,U O 0]:Array rl) 82)) wr.heap.size (an 16 0):=Bl.zero wr;have hKa:=hK.out.q ((Q.refl wr).alloc (ac (#[U O 0,U O 0,U O 0,U O 0,U O 0,U O 0,U O 0,U O 0,U O 0,U O 0,U O 0,U O 0,U O 0,U O 0,U O 0,U O 0]:Array rl) 82))
    have KA:Hid (∀N,(wr.alloc (ac (#[U O 0,U O 0,U O 0,U O 0,U O 0,U O 0,U O 0,U O 0,U O 0,U O 0,U O 0,U O 0,U O 0,U O 0,U O 0,U O 0]:Array rl) 82)).grownBy N (some wr.heap.size)->Nb 85 71 N (w.heap.size+1+1) m/\Q wr N):=λN g9=>by have VE:=((Q.refl wr).alloc (ac (#[U O 0,U O 0,U O 0,U O 0,U O 0,U O 0,U O 0,U O 0,U O 0,U O 0,U O 0,U O 0,U O 0,U O 0,U O 0,U O 0]:Array rl) 82)).grown g9 (λk e=>by have:=aL e;omega);exact⟨(hK.out.q VE).aO,VE⟩
    clear hi hj J K hKa IM hkq
    go_upto_if 46 with(refine iH rfl _ _ rfl _ rfl _ (an 16 0) rfl rfl bz ?_;intro N b9 g9 s9;have c0:=CQ.out _ (KA.out _ g9).1)
    have qb:=(KA.out _ g9).2;clear KA bz g9 d1 d2 d3 d4 ti tj tx ty;go_cut[] from 47 to 59 (λwx=>Hid (Q wr wx/\Bl wx wr.heap.size pb))
    case first=>
     cases bb with
     |false=>
      have E:nth m 0=2:=Do.out rfl;have u:=hK.out.q qb;obtain⟨md,P⟩:∃z:Nat,nth m (3+k)=(z:Int):=⟨(nth m (3+k)).toNat,by have:=KM.out E k o;omega⟩;have Hc:md<5:=by have:=KM.out E k o;omega
      have cm:N.cell? ⟨w.heap.size+1+1,3+k,none⟩=some (U O (nth m (3+k))):=u.aO.at (3+k) aa;have A:=M.out E;rw[P] at cm A;rw[ajb] at A;have Bh:=af A;have d:=af u;have pc:=u.jB.cell;have xq:=af P;clear A u P;go_wp2;refine et (λC=>Q N C/\(∀i,C.cell? ⟨w.heap.size+1,i,none⟩=(#[U O W,U O H,Y (some ⟨g,0,none⟩) n c]:Array rl)[i]?)/\C.cell? ⟨w.heap.size+1+1,3+k,none⟩=some (U O (md:Int))) (λj=>decide (10<=j)) ai ⟨(Q.refl _).drew,pc,cm⟩ λhS=>?_;refine ah 0 (h:=ah 1 (h:=ah 2 (h:=ah 3 (h:=ah 4 (h:=ah 5 (h:=ah 6 (h:=ah 7 (h:=?_))))))));refine bh (k:=8) ai rfl rfl λR b=>?_;go_simp;refine(Zu a c (d.out.q hS.1).own.rd (au _) (d.out.own.1) EQ.out aa aa oY oZ).mono ?_;rintro e w3⟨rfl,q3⟩;have y3:=hS.1.trans q3;refine b.out _ _ ⟨y3,(d.out.q y3).jB.cell,(d.out.aO.q y3).at (3+k) aa|>.trans (congrArg (λz=>some (Value.int .i64 z)) xq.out)⟩ λhS=>?_;clear b R;refine aV ?_;refine bh (k:=9) ai rfl rfl λR b=>?_;go_simp;refine(XM Hc (GA HX.out X yj)).mono ?_;rintro e w4⟨rfl,q4⟩;rw[<-Bh.out];have y4:=y3.trans q4;refine b.out _ _ ⟨y4,(d.out.q y4).jB.cell,(d.out.aO.q y4).at (3+k) aa|>.trans (congrArg (λz=>some (Value.int .i64 z)) xq.out)⟩ λhS=>?_;clear b R;refine aV ?_;refine iu [10] 10 ai aq rfl ?_;have b5:=b9.q y4;have Hd:=I.out;refine iH rfl _ _ rfl _ rfl _ _ rfl Hd b5 ?_;intro w6 b6 g6 s6;go_wp2;go_meet;exact⟨(qb.trans y4).grown g6 (λk e=>by have:=aL e;omega),b6⟩
     |true=>have E:nth m 0≠2:=VD.out rfl;obtain⟨bm,cm,rfl,hbm,oH⟩:=(hK.out.q qb).rd E vj;go_wp2;refine(ae1 cm oH (au _) vj o).mono ?_;rintro e w5⟨rfl,p⟩;rw[<-xp.out E];have b5:=b9.q p;go_wp2_with((refine iH rfl _ _ rfl _ rfl _ _ rfl dh aG ?_;intro w6 b6 g6 s6));go_meet;exact⟨(qb.trans p).grown g6 (λk e=>by have:=aL e;omega),b6⟩
    case rest=>
     obtain⟨qc,bc2⟩:=hcut.out;have D:=hK.out.q qc;have pc:=D.jB.cell;have mc:=D.aO;have BY:=af D;have qI:sub m (7+k*16) 16=lvl m k:=by unfold lvl;rw[Nat.mul_comm k 16]
     have hlq:=KL.out k o;clear hcut b9 qb D;go_wp2;refine et (λC=>(∀i,C.cell? ⟨w.heap.size+1,i,none⟩=(#[U O W,U O H,Y (some ⟨g,0,none⟩) n c]:Array rl)[i]?)/\Nb 85 71 C (w.heap.size+1+1) m/\Bl C wr.heap.size pb) (λ_=>false) ai ⟨pc,mc.drew,bc2.drew⟩ λhS=>?_;refine ah 0 (h:=ah 1 (h:=ah 2 (h:=ah 4 (h:=ah 5 (h:=ah 6 (h:=ah 8 (h:=?_)))))));refine po (i:=3) (v:=a5 (arr ?UL)) rfl ai ai ai ai (λ_ _ _ h=>h) (xC aD rfl rfl λC S=>?hz1) hS ?SZ;case hz1=>((try dsimp only at S);go_split_ands;assumption)
     try simp only[Act.put,aix,aiG,aiQ]
     refine po (i:=7) (v:=a5 (arr (sub m (7+k*16) 16))) rfl ai ai ai ai (λ_ _ _ h=>h) (Ws aD rfl rfl aa (λC S=>S.2.1) hl (Gz.gu underlying82) rfl cL) hS ?_;try simp only[Act.put,aix,aiG,aiQ]
     rw[qI];refine bh (k:=9) ai rfl rfl λR b=>?_;go_simp;have y0:Q wc wc.drew:=(Q.refl _).drew;refine(Xe DE hlq hq).mono ?_;rintro e w5⟨rfl,p⟩;have y5:=y0.trans p;have Z:=af (BY.out.q y5);have T:=bc2.q y5;refine b.out _ _ ⟨Z.out.jB.cell,Z.out.aO,T⟩ λhS=>?_;clear b R;refine aV ?_;have xt:=af (acm (gE (lvl m k) q) Z.out.own EQ.out mt aa aa oY oZ I.out Qc qD.out Rj);rw[<-HS.out] at xt;refine bh (k:=10) ai rfl rfl λR b=>?_;go_simp;refine xt.out.mono ?_;rintro e w6⟨rfl,o6,x6⟩;have Z6:=af (Z.out.put o6 x6 U' Jl);have hsr:=hK.out.aw.size;refine b.out _ _ ⟨Z6.out.jB.cell,Z6.out.aO,T.aw x6 aA⟩ λhS=>?_;clear b R;refine aV ?_;refine kg ai ?_ _;clear hS o6 x6 y5 bc2 pc mc qI T;exact Lr
   ·have ST:k=4:=by omega
    subst ST;go_wp2;exact akv (v:=dl #[]) (by simp[results,results59,go_sem]) rfl ⟨rfl,hK.out.own,hK.out.aw⟩
end
section
open Go.RowKit
structure mz(wr:ns)(a1 a2:Nat)(W H g n c B:Nat)(A':Option aiI)(n' c' B':Nat)(RW RH:Int)(xs L ref:List Int)(gl cnt cl BL:Nat):Prop where
 own:Own wr B (Y (some ⟨g,0,none⟩) n c) n xs
 rb:ak wr a1 30 (#[U O RW,U O RH,Y A' n' c']:Array rl)
 pb:ak wr a2 30 (#[U O W,U O H,Y (some ⟨g,0,none⟩) n c]:Array rl)
 row:az 85 71 wr BL (Y (some ⟨gl,0,none⟩) cnt cl) cnt L
 tb:Tb wr
 rd:Rd wr B' A' ref
section
variable{w w':ns}{a1 a2 W H g n c B:Nat}{A':Option aiI}{n' c' B':Nat}{RW RH:Int}{xs ys L ref:List Int}{gl cnt cl BL:Nat}
def mz.q(h:mz w a1 a2 W H g n c B A' n' c' B' RW RH xs L ref gl cnt cl BL)(q:Q w w')(a:B'<=w.heap.size):mz w' a1 a2 W H g n c B A' n' c' B' RW RH xs L ref gl cnt cl BL:=
 ⟨h.own.q q,h.rb.q q,h.pb.q q,h.row.q q,h.tb.q q,h.rd.q q a⟩
def mz.put(h:mz w a1 a2 W H g n c B A' n' c' B' RW RH xs L ref gl cnt cl BL)(o:Own w' B (Y (some ⟨g,0,none⟩) n c) n ys)(x:av [g] w w')(h1:a1≠g)(a:a2≠g)(f:gl≠g)(b:2≠g)(i:B'<=g):mz w' a1 a2 W H g n c B A' n' c' B' RW RH ys L ref gl cnt cl BL:=
 ⟨o,h.rb.aw x (by simpa using h1),h.pb.aw x (by simpa using a),h.row.Aw x (λj d=>by have k:gl=j:=aL d;simp;omega),h.tb.aw x (by simpa using b),h.rd.aw x (by have:=h.own.block;omega) λy e=>by simp at e;omega⟩
end
def WL{row:Nat}(n' c' B' a:Nat){b:Nat}(d gl cnt cl BL:Nat)(A':Option aiI)(L ref:List Int)(f l m o:rl)(q RW RH:Int)(N:Own w B (Y (some ⟨g,0,none⟩) n c) n xs)(hB:2<B)(xu:B'<=B)(hp:bS W H xs=true)
  (hT:Tb w)(TZ:row<b)(hc:w.cell? ⟨a,row,none⟩=some (Y (some ⟨gl,0,none⟩) cnt cl))(P:az 85 71 w BL (Y (some ⟨gl,0,none⟩) cnt cl) cnt L)(R:gl≠g)(hcW:cnt*8<=W)(A:row*8+8<=H)
  (S:∀k,k<cnt->df (aO L k)=true)(C:Rd w B' A' ref)(hr:(∃k,k<cnt/\nth (aO L k) 0≠2)->RW=W/\RH=H/\ref.length=n'/\bS W H ref=true):
  UL Gz.prog 68 #[a5 (#[f,l,m,U O q,o,Y (some ⟨a,0,none⟩) b d]:Array rl),a5 (#[U O RW,U O RH,Y A' n' c']:Array rl),a5 (#[U O W,U O H,Y (some ⟨g,0,none⟩) n c]:Array rl),U O row] w λe w'=>e=be (dl #[])/\Own w' B (Y (some ⟨g,0,none⟩) n c) n (gT W H ref row L q cnt xs)/\av [g] w w':=by
 obtain⟨t7,U'⟩:=N.block;obtain⟨⟨p1,p2,p3⟩,⟨p4,p5,p6⟩,p7,p8⟩:=jH hp;have T:=P.1;have V:=af λk=>pL hp (zK W H ref row L q xs k) (zL W H ref row L q p8 k);have p:Q w (((w.alloc (ac (#[f,l,m,U O q,o,Y (some ⟨a,0,none⟩) b d]:Array rl) 66)).alloc (ac (#[U O RW,U O RH,Y A' n' c']:Array rl) 30)).alloc (ac (#[U O W,U O H,Y (some ⟨g,0,none⟩) n c]:Array rl) 30)):=aR;have X:=((ak.new w 66 (#[f,l,m,U O q,o,Y (some ⟨a,0,none⟩) b d]:Array rl)).alloc (ac (#[U O RW,U O RH,Y A' n' c']:Array rl) 30)).alloc (ac (#[U O W,U O H,Y (some ⟨g,0,none⟩) n c]:Array rl) 30);have br:=(ak.new (w.alloc (ac (#[f,l,m,U O q,o,Y (some ⟨a,0,none⟩) b d]:Array rl) 66)) 30 (#[U O RW,U O RH,Y A' n' c']:Array rl)).alloc (ac (#[U O W,U O H,Y (some ⟨g,0,none⟩) n c]:Array rl) 30);have bp:=ak.new ((w.alloc (ac (#[f,l,m,U O q,o,Y (some ⟨a,0,none⟩) b d]:Array rl) 66)).alloc (ac (#[U O RW,U O RH,Y A' n' c']:Array rl) 30)) 30 (#[U O W,U O H,Y (some ⟨g,0,none⟩) n c]:Array rl);simp only[BE] at br bp;have D:=(p.cell a row (yJ w _ hc)).trans hc;have hBw:B'<=w.heap.size:=aa;have K0:Hid (mz (((w.alloc (ac (#[f,l,m,U O q,o,Y (some ⟨a,0,none⟩) b d]:Array rl) 66)).alloc (ac (#[U O RW,U O RH,Y A' n' c']:Array rl) 30)).alloc (ac (#[U O W,U O H,Y (some ⟨g,0,none⟩) n c]:Array rl) 30)) (w.heap.size+1) (w.heap.size+1+1) W H g n c B A' n' c' B' RW RH xs L ref gl cnt cl BL):=⟨N.q p,br,bp,P.q p,hT.q p,C.q p hBw⟩;have E0:=af (av.gQ [g] p);have aik:(row:Int)<(b:Int):=aa;clear N br bp P hT C hc p;go_enter Gz.gf func68,ntmps68;go_wp2;generalize(((w.alloc (ac (#[f,l,m,U O q,o,Y (some ⟨a,0,none⟩) b d]:Array rl) 66)).alloc (ac (#[U O RW,U O RH,Y A' n' c']:Array rl) 30)).alloc (ac (#[U O W,U O H,Y (some ⟨g,0,none⟩) n c]:Array rl) 30))=w0 at K0 E0 X D⊢;go_loopw[16] (λi wr=>∃k:Nat,k<=cnt/\i=U O k/\Hid (mz wr (w.heap.size+1) (w.heap.size+1+1) W H g n c B A' n' c' B' RW RH (gT W H ref row L q k xs) L ref gl cnt cl BL/\av [g] w wr/\ak wr w.heap.size 66 (#[f,l,m,U O q,o,Y (some ⟨a,0,none⟩) b d]:Array rl))) (λi _=>cnt-(intOf i).toNat)
 case atStart=>exact⟨0,aa,rfl,K0.out,E0.out,X⟩
 case round=>
  obtain⟨k,hk,rfl,hK⟩:=hrel;obtain⟨x,J,k3⟩:=hK.out;clear hK K0 E0 X D;by_cases r:k<cnt
  ·have ka:(k:Int)<cnt:=by omega
   have E:=Q0.u4 T r;have hl:=x.row;have rc:=x.rb.cell;have pc:=x.pb.cell;have oc:=k3.cell;have K:=af x;have K2:=af J;have K3:=af k3;have cC:=J.size;clear x J k3;have HS:Hid (gT W H ref row L q (k+1) xs=dT W H ref (k*8) (row*8) (row*8) (aO L k) q 4 (gT W H ref row L q k xs)):=rfl;have F:=af (V.out k);have G:k*8+8<=W:=aa;have hv:=S k r;have I:nth (aO L k) 0≠2->RW=W/\RH=H/\ref.length=n'/\bS W H ref=true:=λh=>hr ⟨k,r,h⟩;obtain⟨x8,s⟩:∃z,k*8=z:=⟨_,rfl⟩;obtain⟨r8,t⟩:∃z,row*8=z:=⟨_,rfl⟩;rw[s,t] at HS;rw[s] at G;rw[t] at A;generalize gT W H ref row L q k xs=ys at K HS F;have t1:AS.wrap ((k:Int)*8)=(x8:Int):=by rw[show(k:Int)*8=(x8:Int) by omega];exact aB _ ⟨by omega,by omega⟩
   have t2:AS.wrap ((row:Int)*8)=(r8:Int):=by rw[show(row:Int)*8=(r8:Int) by omega];exact aB _ ⟨by omega,by omega⟩
   have HV:=af hv;have u:=af I;clear s t hv I;go_wp2_with(first|((with_reducible refine rC (ty:=85) _ (k*71) ?_ ?_ _ hl 71 ?_ _ (Gz.gu underlying85) ?_ fY ?_);exact rfl;exact rfl;omega;exact rfl;rw[pF])|((refine di (n:=71) rfl _ _ _ rfl _ rfl _ _ aD (Nb.new 85 71 _ dZ rfl) E fY ?_;intro w9 bl g9 s9;rw[BE] at s9;have y:Q wr w9:=((Q.refl wr).alloc _).grown g9 λj e=>xI;have pc9:=(K.out.pb.q y).cell;have rc9:=(K.out.rb.q y).cell;have oc9:=(K3.out.q y).cell))|((with_reducible refine eQ (n:=71) rfl _ _ rfl _ rfl _ bl _ (Gz.gu underlying85) rfl fY ?_)));have Z:=K.out.q y aa;refine(XL r8 n' c' B' A' ref q RW RH Z.own hB F.out E HV.out G A Z.tb λh=>⟨(u.out h).1,(u.out h).2.1,Z.rd,aa,(u.out h).2.2⟩).mono ?_;rintro e w5⟨rfl,o5,M⟩;rw[<-HS.out] at o5;have M5:=af (TO (Z.put o5 M aa aa R aa aa) (TO ((K2.out.q y).trans M) ((K3.out.q y).aw M aA)));clear bl g9 hl rc pc oc pc9 rc9 oc9 Z M o5;exact yn
  ·have j':k=cnt:=by omega
   subst j';go_wp2;exact akv (v:=dl #[]) (by simp[results,results68,go_sem]) rfl ⟨rfl,x.own,J⟩
def acr(row:Nat)(n' c':Nat){gl cnt cl BL:Nat}{L:List Int}{q:Int}(RW RH:Int)(D:Own w B (Y (some ⟨g,0,none⟩) n c) n xs)(hB:2<B)(xu:B'<=B)(hp:bS W H xs=true)
  (hT:Tb w)(E:az 85 71 w BL (Y (some ⟨gl,0,none⟩) cnt cl) cnt L)(F:gl≠g)(hcW:cnt*8<=W)(l:row*8+8<=H)(hq:qB q=true)
  (G:∀k,k<cnt->df (aO L k)=true)(m:Rd w B' A' ref)(hr:(∃k,k<cnt/\nth (aO L k) 0≠2)->RW=W/\RH=H/\ref.length=n'/\bS W H ref=true):
  UL Gz.prog 38 #[a5 (#[U O RW,U O RH,Y A' n' c']:Array rl),a5 (#[U O W,U O H,Y (some ⟨g,0,none⟩) n c]:Array rl),U O row,Y (some ⟨gl,0,none⟩) cnt cl,U O q] w λe w'=>e=be (dl #[])/\Own w' B (Y (some ⟨g,0,none⟩) n c) n (gT W H ref row L q cnt xs)/\av [g] w w':=by
 obtain⟨t7,U'⟩:=D.block;obtain⟨⟨p1,p2,p3⟩,⟨p4,p5,p6⟩,p7,p8⟩:=jH hp;have o:=E.1;have I:=af λk=>pL hp (zK W H ref row L q xs k) (zL W H ref row L q p8 k);have j:Q w ((w.alloc (ac (#[U O RW,U O RH,Y A' n' c']:Array rl) 30)).alloc (ac (#[U O W,U O H,Y (some ⟨g,0,none⟩) n c]:Array rl) 30)):=aR;have br:=(ak.new w 30 (#[U O RW,U O RH,Y A' n' c']:Array rl)).alloc (ac (#[U O W,U O H,Y (some ⟨g,0,none⟩) n c]:Array rl) 30);have J:=ak.new (w.alloc (ac (#[U O RW,U O RH,Y A' n' c']:Array rl) 30)) 30 (#[U O W,U O H,Y (some ⟨g,0,none⟩) n c]:Array rl);simp only[BE] at J;have K:B'<=w.heap.size:=aa;have M:Hid (mz ((w.alloc (ac (#[U O RW,U O RH,Y A' n' c']:Array rl) 30)).alloc (ac (#[U O W,U O H,Y (some ⟨g,0,none⟩) n c]:Array rl) 30)) w.heap.size (w.heap.size+1) W H g n c B A' n' c' B' RW RH xs L ref gl cnt cl BL):=⟨D.q j,br,J,E.q j,hT.q j,m.q j K⟩;have N:=af (av.gQ [g] j);clear D br J E hT m j;go_enter Gz.gf func38,ntmps38;go_wp2;generalize((w.alloc (ac (#[U O RW,U O RH,Y A' n' c']:Array rl) 30)).alloc (ac (#[U O W,U O H,Y (some ⟨g,0,none⟩) n c]:Array rl) 30))=w0 at M N⊢;go_loopw[10] (λi wr=>∃k:Nat,k<=cnt/\i=U O k/\Hid (mz wr w.heap.size (w.heap.size+1) W H g n c B A' n' c' B' RW RH (gT W H ref row L q k xs) L ref gl cnt cl BL/\av [g] w wr)) (λi _=>cnt-(intOf i).toNat)
 case atStart=>exact⟨0,aa,rfl,M.out,N.out⟩
 case round=>
  obtain⟨k,hk,rfl,hK⟩:=hrel;obtain⟨P,A⟩:=hK.out;clear hK M N;by_cases a:k<cnt
  ·have ka:(k:Int)<cnt:=by omega
   have R:=Q0.u4 o a;have p:=af P;have E2:=af A;have cC:=A.size;clear P A;have S:Hid (gT W H ref row L q (k+1) xs=dT W H ref (k*8) (row*8) (row*8) (aO L k) q 4 (gT W H ref row L q k xs)):=rfl;have r:=af (I.out k);have s:k*8+8<=W:=aa;have hv:=G k a;have t:nth (aO L k) 0≠2->RW=W/\RH=H/\ref.length=n'/\bS W H ref=true:=λh=>hr ⟨k,a,h⟩;obtain⟨x8,b⟩:∃z,k*8=z:=⟨_,rfl⟩;obtain⟨T,d⟩:∃z,row*8=z:=⟨_,rfl⟩;rw[b,d] at S;rw[b] at s;rw[d] at l;generalize gT W H ref row L q k xs=ys at p S r;have t1:AS.wrap ((k:Int)*8)=(x8:Int):=by rw[show(k:Int)*8=(x8:Int) by omega];exact aB _ ⟨by omega,by omega⟩
   have t2:AS.wrap ((row:Int)*8)=(T:Int):=by rw[show(row:Int)*8=(T:Int) by omega];exact aB _ ⟨by omega,by omega⟩
   have HV:=af hv;have f:=af t;have V:sub L (k*71) 71=aO L k:=by rw[pF]
   clear b d hv t;go_wp2;have u:=p.out.row;refine et (λC=>(∀i,C.cell? ⟨w.heap.size,i,none⟩=(#[U O RW,U O RH,Y A' n' c']:Array rl)[i]?)/\(∀i,C.cell? ⟨w.heap.size+1,i,none⟩=(#[U O W,U O H,Y (some ⟨g,0,none⟩) n c]:Array rl)[i]?)/\az 85 71 C BL (Y (some ⟨gl,0,none⟩) cnt cl) cnt L) (λ_=>false) ai ⟨p.out.rb.cell,p.out.pb.cell,u.drew⟩ λhS=>?_;refine ah 0 (h:=ah 1 (h:=ah 2 (h:=ah 3 (h:=ah 4 (h:=ah 5 (h:=ah 6 (h:=ah 7 (h:=ah 8 (h:=ah 10 (h:=ah 11 (h:=ah 12 (h:=?_))))))))))));refine po (i:=9) (v:=a5 (arr (sub L (k*71) 71))) rfl ai ai ai ai (λ_ _ _ h=>h) (Wf aD rfl rfl aa (λC X=>X.2.2) o (Gz.gu underlying85) rfl fY) hS ?_;try simp only[Act.put,aix,aiG,aiQ]
   rw[V];have Z:=p.out.q (Q.refl wr).drew aa;refine bh (k:=13) ai rfl rfl λK2 x=>?_;go_simp;refine(ZC T n' c' B' A' ref RW RH Z.own hB r.out R HV.out s l Z.tb hq λh=>⟨(f.out h).1,(f.out h).2.1,Z.rd,by show B'<=wr.heap.size;omega,(f.out h).2.2⟩).mono ?_;rintro e w5⟨rfl,o5,x5⟩;rw[<-S.out] at o5;have y:=Z.put o5 x5 aa aa F aa aa;have M5:=af (TO y ((E2.out.q (Q.refl wr).drew).trans x5));refine x.out _ _ ⟨y.rb.cell,y.pb.cell,y.row⟩ λhS=>?_;clear x K2;refine aV ?_;refine kg ai ?_ _;clear hS Z y x5 o5 u;exact yn
  ·have j':k=cnt:=by omega
   subst j';go_wp2;exact akv (v:=dl #[]) (by simp[results,results38,go_sem]) rfl ⟨rfl,P.own,A⟩
end
section
open Go.RowKit
def WE{W H:Int}(value:Int)(w:ns)(b:gn W)(d:gn H)(s:0<=value/\value<=255)(t:W*H=(n:Int))(n1:n<=1024):
  UL Gz.prog 37 #[U O W,U O H,U O value] w λe w'=>∃v,e=be (a5 #[U O W,U O H,v])/\Own w' w.heap.size v n (an n value)/\Q w w':=by
 have H1:Hid (decide (8<=W/\W<=32)=true):=decide_eq_true ⟨b.1,b.2.1⟩;have G:Hid (decide (8<=H/\H<=32)=true):=decide_eq_true ⟨d.1,d.2.1⟩;have I:Hid (decide (0<=value/\value<=255)=true):=decide_eq_true s;have e1:W%8=0:=b.2.2;have e2:H%8=0:=d.2.2;obtain⟨a1,a2,_⟩:=b;obtain⟨b1,b2,_⟩:=d;have t1:AS.wrap (W*H)=(n:Int):=by rw[t];exact aB _ ⟨by omega,by omega⟩
 have u:Q w ((w.alloc (ac #[U O 0,U O 0,Y none 0 0] 30)).alloc (ac #[U O W,U O H,Y none 0 0] 30)):=aR;have x:=(ak.new w 30 #[U O 0,U O 0,Y none 0 0]).alloc (ac #[U O W,U O H,Y none 0 0] 30);have l:=ak.new (w.alloc (ac #[U O 0,U O 0,Y none 0 0] 30)) 30 #[U O W,U O H,Y none 0 0];rw[BE] at l;have y:Hid (Own ((w.alloc (ac #[U O 0,U O 0,Y none 0 0] 30)).alloc (ac #[U O W,U O H,Y none 0 0] 30)) (w.heap.size+2) (Y none 0 0) 0 (an 0 value)/\Q w ((w.alloc (ac #[U O 0,U O 0,Y none 0 0] 30)).alloc (ac #[U O W,U O H,Y none 0 0] 30))/\ak ((w.alloc (ac #[U O 0,U O 0,Y none 0 0] 30)).alloc (ac #[U O W,U O H,Y none 0 0] 30)) (w.heap.size+1) 30 #[U O W,U O H,Y none 0 0]/\ak ((w.alloc (ac #[U O 0,U O 0,Y none 0 0] 30)).alloc (ac #[U O W,U O H,Y none 0 0] 30)) w.heap.size 30 #[U O 0,U O 0,Y none 0 0]/\w.heap.size+2<=((w.alloc (ac #[U O 0,U O 0,Y none 0 0] 30)).alloc (ac #[U O W,U O H,Y none 0 0] 30)).heap.size):=⟨Own.nil _ _,u,l,x,aj⟩;clear u l x t s;go_enter Gz.gf func37,ntmps37;go_wp2_with(first|(go_at_call 51;(with_reducible refine(cj _ H1).mono ?_);rintro e w'⟨rfl,rfl⟩)|(go_at_call 51;(with_reducible refine(cj _ G).mono ?_);rintro e w'⟨rfl,rfl⟩)|(go_at_call 51;(with_reducible refine(cj _ I).mono ?_);rintro e w'⟨rfl,rfl⟩));go_loopw[8] (λi wr=>∃k:Nat,∃A c,k<=n/\i=U O k/\Hid (Own wr (w.heap.size+2) (Y A k c) k (an k value)/\Q w wr/\ak wr (w.heap.size+1) 30 #[U O W,U O H,Y A k c]/\ak wr w.heap.size 30 #[U O 0,U O 0,Y none 0 0]/\w.heap.size+2<=wr.heap.size)) (λi _=>n-(intOf i).toNat)
 case atStart=>exact⟨0,none,0,dC _,rfl,y⟩
 case round=>
  obtain⟨k,A,c,hk,rfl,hK⟩:=hrel;obtain⟨a,hq,C,f,hs⟩:=hK.out;clear hK y;have J:=C.cell;by_cases K:k<n
  ·have M:(k:Int)<(n:Int):=by omega
   go_wp2_with(at_builtin;refine tX rfl rfl w (w.heap.size+2) rfl (a.alloc _) ⟨_,0,none⟩ rfl aa aa aA (hq.alloc _) (uy _ _ _ _) ?_;intro v' w' m D s2 o;obtain⟨A',c',rfl⟩:=m.form;have j:=(C.alloc _).grown o (λe=>by have:=(a.2.lt _ e.symm).1;omega);have E:=(f.alloc _).grown o (λe=>by have:=(a.2.lt _ e.symm).1;omega);have N:=j.cell;have P:=j.free;have R:=af (m.aN (p:=⟨w.heap.size+1,2,none⟩) (by show w.heap.size+1<w.heap.size+2;omega) (Y A' (k+1) c'));have S:=af (j.set 2 (Y A' (k+1) c'));have T:=af (E.aN (p:=⟨w.heap.size+1,2,none⟩) Cq (Y A' (k+1) c'));have V:=af (D.set (p:=⟨w.heap.size+1,2,none⟩) Cr (Y A' (k+1) c'));clear o m j E D J);go_roundw;case rel=>exact⟨k+1,A',c',aa,aH,by have h:=R.out;rw[<-List.replicate_succ'] at h;exact h,V.out,S.out,T.out,by simp;omega⟩
   case measure=>exact bg
  ·have q:k=n:=by omega
   subst q;have rc:=f.cell;have rf:=f.free;go_wp2_with(refine fw (cs':=#[U O W,U O H,Y A k c]) rfl _ _ _ rfl rfl _ rfl rfl f rfl iq ai ?_;intro w9 X F s9)
   have r:(Value.slice A k c).ownBlock=none\/(Value.slice A k c).ownBlock≠some w.heap.size:=by
    rcases Z:(Value.slice A k c).ownBlock with _|z
    ·exact .inl rfl
    ·refine .inr λe=>?_;have h1:=(a.2.lt z Z).1;have h2:=aL e;omega
   have o9:=a.other F r;have bc:=X.cell;refine aiA (v:=a5 #[U O W,U O H,Y A k c]) (by simp[results,results37,go_sem,bc]) rfl ⟨_,rfl,o9.mono aa,hq.grown F λk e=>by have:=aL e;omega⟩
end
section
open Go.RowKit
def D6(a:gn W)(b:gn H)(n:Nat)(d:n=W*H):bS W H (an n 128)=true:=by unfold gn at a b;unfold bS dL;rw[List.length_replicate,decide_eq_true a,decide_eq_true b,decide_eq_true (by rw[d,ali])];unfold cZ;rw[Bool.true_and,Bool.true_and,Bool.true_and,List.all_eq_true];intro x e;rw[List.eq_of_mem_replicate e];rfl
def Yq(n' c':Nat){f a:Nat}(p:Nat){cnt BL:Nat}(I:Bool)(b:Nat->List Int)(r:rl)(q RW RH:Int)(hW:gn W)(hH:gn H)(X:n=W*H)(n1:n<=1024)(G:cnt*8=W)(hrH:a*8<=H)(xu:B'<=w.heap.size)(hT:Tb w)
  (d:∀i,i<a->∃gl cl,w.cell? ⟨f,i,none⟩=some (Y (some ⟨gl,0,none⟩) cnt cl)/\az 85 71 w BL (Y (some ⟨gl,0,none⟩) cnt cl) cnt (b i))
  (J:∀i k,i<a->k<cnt->df (aO (b i) k)=true)(K:Rd w B' A' ref)(hr:(∃i k,i<a/\k<cnt/\nth (aO (b i) k) 0≠2)->RW=W/\RH=H/\ref.length=n'/\bS W H ref=true):
  UL Gz.prog 42 #[a5 (#[U O W,U O H,a9 I,U O q,r,Y (some ⟨f,0,none⟩) a p]:Array rl),a5 (#[U O RW,U O RH,Y A' n' c']:Array rl)] w λe w'=>∃v,e=be (a5 #[U O W,U O H,v])/\Own w' w.heap.size v n (ic W H ref b q a (an n 128))/\Q w w':=by
 have hp:=D6 hW hH n X;obtain⟨⟨p1,p2,p3⟩,⟨p4,p5,p6⟩,p7,p8⟩:=jH hp;have qS:=af λk=>pL hp (zq W H ref b q (an n 128) k) (zr W H ref b q p8 k);have s:Q w (((w.alloc (ac (#[U O W,U O H,a9 I,U O q,r,Y (some ⟨f,0,none⟩) a p]:Array rl) 66)).alloc (ac (#[U O RW,U O RH,Y A' n' c']:Array rl) 30)).alloc (ac #[U O 0,U O 0,Y none 0 0] 30)):=aR;have t:=((ak.new w 66 (#[U O W,U O H,a9 I,U O q,r,Y (some ⟨f,0,none⟩) a p]:Array rl)).alloc (ac (#[U O RW,U O RH,Y A' n' c']:Array rl) 30)).alloc (ac #[U O 0,U O 0,Y none 0 0] 30);have u:=(ak.new (w.alloc (ac (#[U O W,U O H,a9 I,U O q,r,Y (some ⟨f,0,none⟩) a p]:Array rl) 66)) 30 (#[U O RW,U O RH,Y A' n' c']:Array rl)).alloc (ac #[U O 0,U O 0,Y none 0 0] 30);have l:=ak.new ((w.alloc (ac (#[U O W,U O H,a9 I,U O q,r,Y (some ⟨f,0,none⟩) a p]:Array rl) 66)).alloc (ac (#[U O RW,U O RH,Y A' n' c']:Array rl) 30)) 30 #[U O 0,U O 0,Y none 0 0];simp only[BE] at u l;have M:(W:Int)*(H:Int)=(n:Int):=by rw[X,ali]
 have NP:=af (λz=>Zr 128 z hW hH (show(0:Int)<=128/\(128:Int)<=255 by omega) M n1);have Hf:64<=n:=by rw[X];exact fO (show 8<=W by omega) (show 8<=H by omega)
 have x:=af d;have Jo:Hid (cnt=W/8):=by unfold Hid;omega
 have HR:=af hr;have N:=af J;have P:=af K;have HT:=af hT;replace G:cnt*8<=W:=aa;clear d hr J K hT hp p7 p8 X M;go_enter Gz.gf func42,ntmps42;go_wp2;generalize(((w.alloc (ac (#[U O W,U O H,a9 I,U O q,r,Y (some ⟨f,0,none⟩) a p]:Array rl) 66)).alloc (ac (#[U O RW,U O RH,Y A' n' c']:Array rl) 30)).alloc (ac #[U O 0,U O 0,Y none 0 0] 30))=w0 at s t u l⊢;have rt:=l.lt;refine(NP.out _).mono ?_;rintro e D⟨v,rfl,R,q1⟩;have wM:=s.size;rcases R.dD with⟨_,h0⟩|⟨g,c,rfl,qL,S,_⟩
 ·omega
 replace s:=s.trans q1;replace t:=t.q q1;replace u:=u.q q1;replace l:=l.q q1;have hz:=l.lt;have bp:ak (D.alloc (ac (#[U O W,U O H,Y (some ⟨g,0,none⟩) n c]:Array rl) 30)) D.heap.size 30 (#[U O W,U O H,Y (some ⟨g,0,none⟩) n c]:Array rl):=ak.new D _ _;replace s:=s.alloc (ac (#[U O W,U O H,Y (some ⟨g,0,none⟩) n c]:Array rl) 30);replace t:=t.alloc (ac (#[U O W,U O H,Y (some ⟨g,0,none⟩) n c]:Array rl) 30);replace u:=u.alloc (ac (#[U O W,U O H,Y (some ⟨g,0,none⟩) n c]:Array rl) 30);replace l:=l.alloc (ac (#[U O W,U O H,Y (some ⟨g,0,none⟩) n c]:Array rl) 30);replace R:=R.alloc (ac (#[U O W,U O H,Y (some ⟨g,0,none⟩) n c]:Array rl) 30);have Z:=t.cell;have K0:=af (TO R (TO s (TO t (TO u (TO l bp)))));have jt:w.heap.size<=g:=aa;clear q1 NP R s t u l bp;have aho:w.heap.size+3<=w0.heap.size:=aa;have Jp:g<D.heap.size:=S;go_wp2;generalize D.alloc (ac (#[U O W,U O H,Y (some ⟨g,0,none⟩) n c]:Array rl) 30)=w2 at K0 Z⊢;generalize D.heap.size=p0 at K0 Jp⊢;clear hz Z S;go_loopw[17] (λi wr=>∃k:Nat,k<=a/\i=U O k/\Hid (Own wr w0.heap.size (Y (some ⟨g,0,none⟩) n c) n (ic W H ref b q k (an n 128))/\Q w wr/\ak wr w.heap.size 66 (#[U O W,U O H,a9 I,U O q,r,Y (some ⟨f,0,none⟩) a p]:Array rl)/\ak wr (w.heap.size+1) 30 (#[U O RW,U O RH,Y A' n' c']:Array rl)/\ak wr (w.heap.size+1+1) 30 #[U O 0,U O 0,Y none 0 0]/\ak wr p0 30 (#[U O W,U O H,Y (some ⟨g,0,none⟩) n c]:Array rl))) (λi _=>a-(intOf i).toNat)
 case atStart=>exact⟨0,aa,rfl,K0.out⟩
 case round=>
  obtain⟨k,hk,rfl,hK⟩:=hrel;obtain⟨k1,m,y,A,E,C⟩:=hK.out;clear hK K0;by_cases o:k<a
  ·have ka:(k:Int)<a:=by omega
   have Z:=y.cell;have rc:=A.cell;have pc:=C.cell;obtain⟨gl,cl,hc,hL⟩:=x.out k o;have agw:gl<w.heap.size:=hL.As gl rfl;have HS:Hid (ic W H ref b q (k+1) (an n 128)=gT W H ref k (b k) q (W/8) (ic W H ref b q k (an n 128))):=rfl;have T:=af (qS.out k);generalize ic W H ref b q k (an n 128)=ys at k1 HS T
   have V:=af (WL n' c' B' f p gl cnt cl BL A' (b k) ref (U O W) (U O H) (a9 I) r q RW RH k1 aa aa T.out (HT.out.q m) o
    ((m.cell f k (yJ w _ hc)).trans hc) (hL.q m) aa G aa (λj hj=>N.out k j o hj) (P.out.q m xu) λ⟨j,hj,h⟩=>HR.out ⟨k,j,o,hj,h⟩)
   have KK:=af (TO m (TO y (TO A (TO E C))));clear k1 m y A E C hc hL;go_wp2;refine V.out.mono ?_;rintro e w5⟨rfl,o5,F⟩;obtain⟨m,y,A,E,C⟩:=KK.out;have M5:=af (TO o5 (TO (F.toQ m aA) (TO (y.aw F aA) (TO (A.aw F aA) (TO (E.aw F aA) (C.aw F aA))))));rw[Jo.out,<-HS.out] at M5;clear m y A E C o5 F KK V Z rc pc;exact yn
  ·have j':k=a:=by omega
   subst j';have pc:=C.cell;clear y A x N HR P HT;go_wp2_with(refine fw (cs':=(#[U O W,U O H,Y (some ⟨g,0,none⟩) n c]:Array rl)) rfl _ _ _ rfl rfl _ rfl rfl E rfl iq ai ?_;intro w9 b9 g9 s9);have bc:=b9.cell;refine aiA (v:=a5 (#[U O W,U O H,Y (some ⟨g,0,none⟩) n c]:Array rl)) (by simp[results,results42,go_sem,bc]) rfl ⟨_,rfl,(k1.aw (av.dQ g9) aA).mono aa,m.grown g9 λk e=>by have:=aL e;omega⟩
end
section
open Go.RowKit Go.WideShapes Go.ChangeShapes
def Wt(W H:Int)(I:Bool)(q:Int){A:Option aiI}(c:Nat){n':Nat}(c':Nat){ls:List (List Int)}(RW RH:Int){a1 a2:aiI}(hx:dz w B A ls)(T:B<=w.heap.size)(V:ls.length=n)(he:gx w a1 a2 B)(k1:dx w a1)(k2:dx w a2)(hT:Tb w)
  (hr:Rd w B' A' ref)(o:B'<=w.heap.size)(r:ref.length=n')(X:n'<=9223372036854775807):
  UL Gz.prog 23 #[a5 (#[U O W,U O H,a9 I,U O q,Y A n c]:Array rl),a5 (#[U O RW,U O RH,Y A' n' c']:Array rl)] w λe w'=>Q w w'/\(dt W H I q ls RW RH ref=true->∃v,e=be (a5 #[U O W,U O H,v])/\Own w' w.heap.size v (W.toNat*H.toNat) (kJ W H I q ls ref))/\(dt W H I q ls RW RH ref=false->e=be (a5 (#[U O 0,U O 0,Y none 0 0]:Array rl))):=by
 have m:Q w (((w.alloc (ac (#[U O W,U O H,a9 I,U O q,Y A n c]:Array rl) 33)).alloc (ac (#[U O RW,U O RH,Y A' n' c']:Array rl) 30)).alloc (ac (#[U O 0,U O 0,Y none 0 0]:Array rl) 30)):=aR;have F:=((ak.new w 33 (#[U O W,U O H,a9 I,U O q,Y A n c]:Array rl)).alloc (ac (#[U O RW,U O RH,Y A' n' c']:Array rl) 30)).alloc (ac (#[U O 0,U O 0,Y none 0 0]:Array rl) 30);have N:=(ak.new (w.alloc (ac (#[U O W,U O H,a9 I,U O q,Y A n c]:Array rl) 33)) 30 (#[U O RW,U O RH,Y A' n' c']:Array rl)).alloc (ac (#[U O 0,U O 0,Y none 0 0]:Array rl) 30);have G:=ak.new ((w.alloc (ac (#[U O W,U O H,a9 I,U O q,Y A n c]:Array rl) 33)).alloc (ac (#[U O RW,U O RH,Y A' n' c']:Array rl) 30)) 30 (#[U O 0,U O 0,Y none 0 0]:Array rl);simp only[BE] at N G;have Z:=af (af9 W H I q c (hx.q m T) (aJ T m.size) V (he.q m T) (k1.q m) (k2.q m));have RF:=af λz(qz:Q w z)=>Yp W H I q (Y A n c) RW RH c' (hr.q qz o) (aJ o qz.size) r X;have HN:=af V;have J:=af r;have HR:=af hr;have HT:=af hT;clear hx V he k1 k2 hT hr r;go_enter Gz.gf func23,ntmps23;go_wp2;refine Z.out.mono ?_;rintro e P⟨q1,⟨s,cnt,rfl,hs,b,a⟩|⟨rfl,hv⟩⟩
 ·have R:=(m.trans q1).alloc (ac (#[U O W,U O H,a9 I,U O q,Y A n c,Y (some ⟨s,0,none⟩) n n]:Array rl) 66);have S:=(N.q q1).alloc (ac (#[U O W,U O H,a9 I,U O q,Y A n c,Y (some ⟨s,0,none⟩) n n]:Array rl) 66);have c1:=(F.q q1).alloc (ac (#[U O W,U O H,a9 I,U O q,Y A n c,Y (some ⟨s,0,none⟩) n n]:Array rl) 66);have t:=(G.q q1).alloc (ac (#[U O W,U O H,a9 I,U O q,Y A n c,Y (some ⟨s,0,none⟩) n n]:Array rl) 66);have bo:=ak.new P 66 (#[U O W,U O H,a9 I,U O q,Y A n c,Y (some ⟨s,0,none⟩) n n]:Array rl);have HS:=af hs;have u:=af (TO b a);have p:=af (RF.out _ R);have wM:=m.size;obtain⟨rb,x⟩:∃z,iA I W H RW RH ref=z:=⟨_,rfl⟩;rw[x] at p;have j:=af x;have rc:=S.cell;have cc:=c1.cell;have VA:=af q1;clear F N G m q1 hs b a Z RF x;go_wp2;refine p.out.mono ?_;rintro e w2⟨rfl,y⟩;have K':=t.q y;have QZ:=af (R.trans y);cases rb with
  |false=>have HV:Hid (dt W H I q ls RW RH ref=false):=Qo j.out;clear p j u HS HR HT J HN S c1 t bo rc cc R y;exact Ls
  |true=>
   have rc2:=(S.q y).cell;have oc2:=(bo.q y).cell;obtain⟨b,a⟩:=u.out;obtain⟨sW,sH,⟨VF,VG⟩,xl⟩:=nT HS.out;obtain⟨f,rfl⟩:∃k:Nat,W=(k:Int):=⟨W.toNat,by have:=sW.1;omega⟩;obtain⟨C,rfl⟩:∃k:Nat,H=(k:Int):=⟨H.toNat,by have:=sH.1;omega⟩;have Jq:=sW;have Jr:=sH;obtain⟨u1,u2,u3⟩:=Jq;obtain⟨v1,v2,v3⟩:=Jr;have Js:f*C<=1024:=fO (show f<=32 by omega) (show C<=32 by omega);have D:Q P w2:=((Q.refl P).alloc _).trans y
   have l:∀i,i<n->∃gl cl,w2.cell? ⟨s,i,none⟩=some (Y (some ⟨gl,0,none⟩) cnt cl)/\az 85 71 w2 _ (Y (some ⟨gl,0,none⟩) cnt cl) cnt (il (f:Int) I ls i):=λi hi=>by obtain⟨L,gl,cl,E,hc,ho⟩:=a i hi;refine⟨gl,cl,(D.cell s i (yJ P _ hc)).trans hc,?_⟩;rw[show il (f:Int) I ls i=L by unfold il;rw[b,E];rfl];exact ho.q D
   have d:∀i k,i<n->k<cnt->df (aO (il (f:Int) I ls i) k)=true/\(I=true->nth (aO (il (f:Int) I ls i) k) 0=2):=λi k hi K=>by obtain⟨L,gl,cl,E,hc,ho⟩:=a i hi;rw[show il (f:Int) I ls i=L by unfold il;rw[b,E];rfl];exact Rl E k K
   have Jt:Hid (dt (f:Int) (C:Int) I q ls RW RH ref=true):=Ph Ct j.out (λi hi=>by obtain⟨L,gl,cl,E,_⟩:=a i xM;exact⟨L,by rw[b];exact E⟩)
   have M:=af (Yq n' c' n I (il (f:Int) I ls) (Y A n c) q RW RH sW sH rfl Js aa aa (aJ o QZ.out.size) (HT.out.q QZ.out) l (λi k hi K=>(d i k hi K).1) (HR.out.q QZ.out o) (λ⟨i,k,hi,K,h⟩=>by
    have hI:I=false:=by cases hI:I with|false=>rfl|true=>exact absurd ((d i k hi K).2 hI) h
    obtain⟨r1,r2,r3⟩:=Sp j.out hI;exact⟨r1,r2,J.out,r3⟩))
   have hz2:=K'.lt;clear p rc cc l d a b u j HS S c1 t bo R y D VA;go_wp2;refine M.out.mono ?_;rintro e w3⟨v,rfl,o3,q3⟩;have Ju:=K'.q q3;have cC:=QZ.out.size;obtain⟨Av,cv,rfl⟩:=o3.form;clear M rc2 oc2 K';go_wp2_with(refine fw (cs':=#[U O f,U O C,Y Av (f*C) cv]) rfl _ _ _ rfl rfl _ rfl rfl Ju rfl iq ai ?_;intro w9 b9 g9 s9);have F:=b9.cell;refine aiA (v:=a5 #[U O f,U O C,Y Av (f*C) cv]) (by simp[results,results23,go_sem,F]) rfl ⟨(QZ.out.trans q3).grown g9 (λk e=>by have:=aL e;omega),λ_=>⟨_,rfl,?_⟩,λh=>by rw[Jt.out] at h;cases h⟩;have o9:=(o3.aw (av.dQ g9) aA).mono (B':=w.heap.size) aa;unfold kJ;rw[ajb,ajb,HN.out];exact o9
 ·have K':=(G.q q1).alloc (ac (#[U O 0,U O 0,a9 false,U O 0,Y none 0 0,Y none 0 0]:Array rl) 66);have QZ:=af ((m.trans q1).alloc (ac (#[U O 0,U O 0,a9 false,U O 0,Y none 0 0,Y none 0 0]:Array rl) 66));have HV:=af (hv RW RH ref);clear F N G m q1 hv Z RF;exact Ls
end
section
open Go.RowKit Go.WideShapes Go.ChangeShapes Go.Shelf
attribute [local go_sem] Oper.semAt_some
def td(x:Nat×Nat):Array rl:=#[U O (x.1:Int),U O (x.2:Int)]
def Pj{W H y k:Nat}(a:y<H)(b:k<(W-1)/4):bH (dP W) ((W-1)/4) y k++[dP W y k]<+:fI W H:=by rw[<-rP];exact(Qj a b).trans ⟨_,rfl⟩
def Pk{W H x k:Nat}(a:x<W)(b:k<(H-1)/4):(bH (dP W) ((W-1)/4) H 0++bH (fX W) ((H-1)/4) x k)++[fX W x k]<+:fI W H:=by rw[aiK,<-rP];exact(List.prefix_append_right_inj _).2 (Qj a b)
def ak.kb{t:TypeId}{w':ns}{cs:Array rl}(h:ak w g t cs)(k:Kb g w w'):ak w' g t cs:=Eq.trans k h
def ae9(hn:1<=n)(l b:Nat)(s:rl)(hW:W<=32)(hH:H<=32)(J Jx:List (Nat×Nat)->ns->Prop)(G:ns)
  (hJ:AbidesFrom G.heap.size J)(hY:∀pre x w,J pre w->pre++[x]<+:fI W H->YieldAt Fence.wide (n-1) Gz.prog l (td x) w λe w'=>(e=be (a9 true)/\J (pre++[x]) w'/\Kb b w w')\/(e=be (a9 false)/\Jx (pre++[x]) w'))
  (X:ak G b 30 #[U O W,U O H,s])(h0:J [] G):
  CallsIn Fence.wide n Gz.prog 72 #[.func (.yield l) #[] #[],ci (some ⟨b,0,none⟩)] G λe w'=>(∃v,e=be v)/\
   ((∃ys,ys=fI W H/\J ys w')\/(∃pre,pre<+:fI W H/\Jx pre w')):=by
 have HY:=af hY;have I:Hid (ak G b 30 #[U O W,U O H,s]/\J (bH (dP W) ((W-1)/4) 0 0) G):=⟨X,h0⟩;have c0:=X.cell;have Z:=af λy k a K=>@Pj W H y k a K;have V:=af λy k a K=>@Pk W H y k a K;have EE:Hid (fI W H=bH (dP W) ((W-1)/4) H 0++bH (fX W) ((H-1)/4) W 0):=rfl;clear hY X h0 hJ;obtain⟨m,hm⟩:∃m,(W-1)/4=m:=⟨_,rfl⟩;obtain⟨t,T'⟩:∃m,(H-1)/4=m:=⟨_,rfl⟩;rw[hm] at I Z V EE;rw[T'] at V EE;refine callsIn_of_wp (Gz.gf func72) rfl trivial ?_ rfl;simp only[ntmps72,List.size_toArray,List.length_cons,List.length_nil,Nat.reduceAdd,Nat.reduceSub,Array.replicate_succ,Array.replicate_zero,List.push_toArray,List.append_toArray,List.nil_append,List.cons_append]
 gi_wp2
 gi_loopw[9] (λi wr=>∃y:Nat,y<=H/\i=U O y/\Hid (ak wr b 30 #[U O W,U O H,s]/\J (bH (dP W) m y 0) wr)) (λi _=>H-(intOf i).toNat)
 case atStart=>exact⟨0,aa,rfl,I.out⟩
 case round=>
  obtain⟨y,a,rfl,hK⟩:=hrel;clear I c0;by_cases M:y<H
  ·have Jv:(y:Int)<H:=by omega
   have N:Hid (ak wr b 30 #[U O W,U O H,s]/\J (bH (dP W) m y 0) wr):=hK.out;have c0:=hK.out.1.cell;obtain⟨q,CD⟩:∃z,y*W=z:=⟨_,rfl⟩;have Jw:q<=1024:=by rw[<-CD];exact fO (show y<=32 by omega) hW
   have t1:AS.wrap ((y:Int)*(W:Int))=(q:Int):=xR;clear hK
   gi_wp2
   gi_loopw[4] (λi wr=>∃k r:Nat,k<=m/\r=4*(k+1)/\i=U O r/\Hid (ak wr b 30 #[U O W,U O H,s]/\J (bH (dP W) m y k) wr)) (λi _=>W+4-(intOf i).toNat)
   case atStart=>exact⟨0,4,aa,rfl,rfl,N.out⟩
   case round=>
    obtain⟨k,r,K,u,rfl,hK⟩:=hrel;obtain⟨d,f⟩:=hK.out;clear N c0;have c0:=d.cell;by_cases h:k<m
    ·have A:(r:Int)<W:=by omega
     obtain⟨fn,tmps,assign,body,a,P⟩:=HY.out _ _ wr f (Z.out y k M h);obtain⟨Q,Fr⟩:∃z,q+r=z:=⟨_,rfl⟩;have j:dP W y k=(Q,1):=by unfold dP;rw[CD,<-u,Fr]
     have t2:AS.wrap ((q:Int)+(r:Int))=(Q:Int):=xS;have R:=af (rP (dP W) m y k);have P1:=af (Z.out y k M h);rw[j] at a R P P1;unfold td at a;dsimp only at a;rw[show((1:Nat):Int)=1 from rfl] at a;have C:=af d;have VH:r<=32:=aa;have HXX:=af u;clear hK d f u j Fr
     gi_wp2
     refine P.mono ?_;rintro e W3(⟨rfl,D,E⟩|⟨rfl,T9⟩)
     ·gi_wp2
      go_roundw;case rel=>exact⟨k+1,r+4,aa,by have:=HXX.out;omega,aH,C.out.kb E,by rw[R.out];exact D⟩
      case measure=>exact bg
     ·exact Lt
    ·have o:k=m:=by omega
     subst o;have A:¬((r:Int)<W):=aa;rw[<-rR] at f;have S:=af f;have C:=af d;clear hK d f
     gi_wp2
     go_roundw;case rel=>exact⟨y+1,aa,aH,C.out,S.out⟩
     case measure=>exact bg
  ·have oZ:y=H:=by omega
   subst oZ;have c0:=hK.out.1.cell;have I:Hid (ak wr b 30 #[U O W,U O y,s]/\J (bH (dP W) m y 0++bH (fX W) t 0 0) wr):=⟨hK.out.1,by rw[Pe,List.append_nil];exact hK.out.2⟩;clear hK
   gi_wp2
   gi_loopw[30] (λi wr=>∃x:Nat,x<=W/\i=U O x/\Hid (ak wr b 30 #[U O W,U O y,s]/\J (bH (dP W) m y 0++bH (fX W) t x 0) wr)) (λi _=>W-(intOf i).toNat)
   case atStart=>exact⟨0,aa,rfl,I.out⟩
   case round=>
    clear I c0;obtain⟨x,hx,rfl,hK⟩:=hrel;by_cases T:x<W
    ·have A:(x:Int)<W:=by omega
     have N:=af hK.out;have c0:=hK.out.1.cell;clear hK
     gi_wp2
     gi_loopw[6] (λi wr=>∃k p:Nat,k<=t/\p=4*(k+1)/\i=U O p/\Hid (ak wr b 30 #[U O W,U O y,s]/\J (bH (dP W) m y 0++bH (fX W) t x k) wr)) (λi _=>y+4-(intOf i).toNat)
     case atStart=>exact⟨0,4,aa,rfl,rfl,N.out⟩
     case round=>
      obtain⟨k,p,K,F,rfl,hK⟩:=hrel;obtain⟨d,f⟩:=hK.out;clear N c0;have c0:=d.cell;by_cases h:k<t
      ·have Jv:(p:Int)<y:=by omega
       obtain⟨fn,tmps,assign,body,a,P⟩:=HY.out _ _ wr f (V.out x k T h);obtain⟨q,CD⟩:∃z,p*W=z:=⟨_,rfl⟩;have Jw:q<=1024:=by rw[<-CD];exact fO (show p<=32 by omega) hW
       have t1:AS.wrap ((p:Int)*(W:Int))=(q:Int):=xR;obtain⟨Q,Fr⟩:∃z,q+x=z:=⟨_,rfl⟩;have j:fX W x k=(Q,W):=by unfold fX;rw[<-F,CD,Fr]
       have t2:AS.wrap ((q:Int)+(x:Int))=(Q:Int):=xS;have P1:=af (V.out x k T h);have R:=af (rP (fX W) t x k);rw[j] at a R P P1;unfold td at a;dsimp only at a;have C:=af d;have VH:p<=32:=aa;have HYY:=af F;clear hK d f F j Fr CD
       gi_wp2
       refine P.mono ?_;rintro e W3(⟨rfl,D,E⟩|⟨rfl,T9⟩)
       ·gi_wp2
        go_roundw;case rel=>exact⟨k+1,p+4,aa,by have:=HYY.out;omega,aH,C.out.kb E,by rw[R.out,<-aiK];exact D⟩
        case measure=>exact bg
       ·exact Lt
      ·have o:k=t:=by omega
       subst o;have A:¬((p:Int)<y):=aa;rw[<-rR] at f;have S:=af f;have C:=af d;clear hK d f
       gi_wp2
       go_roundw;case rel=>exact⟨x+1,aa,aH,C.out,S.out⟩
       case measure=>exact bg
    ·have oY:x=W:=by omega
     subst oY;have S:=af hK.out.2;clear hK
     gi_wp2
     go_end0
     exact⟨⟨_,rfl⟩,.inl ⟨_,EE.out.symm,S.out⟩⟩
end
end Go.Proofs.Q0
