import Derived.Test.YtjjdeakghpmpfaaGreatDoorK30
set_option maxRecDepth 100000
set_option maxHeartbeats 8000000
set_option linter.all false
open Go.Value renaming int->U,slice->Y,bool->a9,agg->a5,pointer->ci,tuple->dl,iface->em
open Go.IntKind renaming i64->O
open Go.Obj renaming cells->ac
open Go.Ending renaming returned->be
open And renaming intro->TO
open Go renaming Addr->aiI,Calls->UL,Value->rl,bodyPost_ret->aiA
open Go.Value renaming slice->akn
open Go.World renaming size_alloc->BE
open Int renaming toNat_natCast->ajb
open List renaming replicate->an
namespace Go.Proofs
def Ly{p:Prop}(h:p:=by(go_wp2_with(refine fw (cs':=(#[U O 0,U O 0,Y none 0 0]:Array Value)) rfl _ _ _ rfl rfl _ rfl rfl K' rfl iq ai ?_;intro w9 b9 g9 s9);have bc:=b9.cell;exact bodyPost_ret (v:=dl #[a5 (#[U O 0,U O 0,Y none 0 0]:Array Value),a9 false]) (by simp[results,results6,go_sem,bc]) rfl ⟨QZ.out.grown g9 λk e=>xI,λh=>Cs,λ_=>rfl⟩)):p:=h
end Go.Proofs
namespace Go.Proofs.Q0
open Go.Proofs.Tryz
variable{w:World}{ls:List (List Int)}{B' B n lo hi:Nat}{A:Option aiI}{vs:List rl}
section
open Go.RowKit
def Ys(W H n t E B' d cs cnt Bc:Nat)(A F:Option aiI)(I:Bool)(ls:List (List Int))(l:Nat->List Int)(ref:List Int)(q RW u:Int)(w:World)(hW:gn W)(hH:gn H)(hn:n=W*H)(n1:n<=1024)(Z:cnt*8=W)(hrH:d*8<=H)(xu:B'<=w.heap.size)(hT:Tb w)(hq:qB q=true)
  (hx:dz w Bc A ls)(hBc:Bc<=w.heap.size)(VL:ls.length=d)(xw:∀i,i<d->bytes (aU ls i))(G:∀i,i<d->iR (aU ls i) cnt I=some (l i))
  (VM:∀i k,i<d->k<cnt->df (aO (l i) k)=true)(oH:Rd w B' F ref)(hr:(∃i k,i<d/\k<cnt/\nth (aO (l i) k) 0≠2)->RW=W/\u=H/\ref.length=t/\bS W H ref=true):
  UL Gz.prog 20 #[a5 (#[U O W,U O H,a9 I,U O q,Y A d cs]:Array rl),a5 (#[U O RW,U O u,Y F t E]:Array rl)] w λe w'=>∃v,e=be (a5 #[U O W,U O H,v])/\Own w' w.heap.size v n (ic W H ref l q d (an n 128))/\Q w w':=by
 have hp:=D6 hW hH n hn;obtain⟨⟨p1,p2,p3⟩,⟨p4,p5,p6⟩,p7,p8⟩:=jH hp;have qS:=af λk=>pL hp (zq W H ref l q (an n 128) k) (zr W H ref l q p8 k);have J:Q w (((w.alloc (ac (#[U O W,U O H,a9 I,U O q,Y A d cs]:Array rl) 33)).alloc (ac (#[U O RW,U O u,Y F t E]:Array rl) 30)).alloc (ac #[U O 0,U O 0,Y none 0 0] 30)):=aR;have K:=((ak.new w 33 (#[U O W,U O H,a9 I,U O q,Y A d cs]:Array rl)).alloc (ac (#[U O RW,U O u,Y F t E]:Array rl) 30)).alloc (ac #[U O 0,U O 0,Y none 0 0] 30);have L:=(ak.new (w.alloc (ac (#[U O W,U O H,a9 I,U O q,Y A d cs]:Array rl) 33)) 30 (#[U O RW,U O u,Y F t E]:Array rl)).alloc (ac #[U O 0,U O 0,Y none 0 0] 30);have r:=ak.new ((w.alloc (ac (#[U O W,U O H,a9 I,U O q,Y A d cs]:Array rl) 33)).alloc (ac (#[U O RW,U O u,Y F t E]:Array rl) 30)) 30 #[U O 0,U O 0,Y none 0 0];simp only[BE] at L r;have VN:(W:Int)*(H:Int)=(n:Int):=by rw[hn,Int.natCast_mul]
 have NP:=af (λz=>WE 128 z hW hH (show(0:Int)<=128/\(128:Int)<=255 by omega) VN n1);have Hf:64<=n:=by rw[hn];exact fO (show 8<=W by omega) (show 8<=H by omega)
 have HX:=af hx;have R:=af VL;have VO:=af xw;have M:=af G;have HR:=af hr;have Bt:=af VM;have VP:=af oH;have HT:=af hT;have Jo:Hid (cnt=W/8):=by unfold Hid;omega
 have S:1<=cnt:=aa;have x:(W:Int)/8=(cnt:Int):=aa;have y:IntKind.i64.wrap (cnt:Int)=(cnt:Int):=aB _ ⟨aa,aa⟩;have HW8:=af (TO x y);replace Z:cnt*8<=W:=aa;clear hx VL xw G hr VM oH hT hp p7 p8 hn VN x y;go_enter Gz.gf func20,ntmps20;go_wp2;generalize(((w.alloc (ac (#[U O W,U O H,a9 I,U O q,Y A d cs]:Array rl) 33)).alloc (ac (#[U O RW,U O u,Y F t E]:Array rl) 30)).alloc (ac #[U O 0,U O 0,Y none 0 0] 30))=w0 at J K L r⊢;have rt:=r.lt;refine(NP.out _).mono ?_;rintro e N⟨v,rfl,o1,q1⟩;have wM:=J.size;rcases o1.dD with⟨_,h0⟩|⟨g,c,rfl,qL,t7,_⟩
 ·omega
 replace J:=J.trans q1;replace K:=K.q q1;replace L:=L.q q1;replace r:=r.q q1;have hz:=r.lt;have bp:ak (N.alloc (ac (#[U O W,U O H,Y (some ⟨g,0,none⟩) n c]:Array rl) 30)) N.heap.size 30 (#[U O W,U O H,Y (some ⟨g,0,none⟩) n c]:Array rl):=ak.new N _ _;replace J:=J.alloc (ac (#[U O W,U O H,Y (some ⟨g,0,none⟩) n c]:Array rl) 30);replace K:=K.alloc (ac (#[U O W,U O H,Y (some ⟨g,0,none⟩) n c]:Array rl) 30);replace L:=L.alloc (ac (#[U O W,U O H,Y (some ⟨g,0,none⟩) n c]:Array rl) 30);replace r:=r.alloc (ac (#[U O W,U O H,Y (some ⟨g,0,none⟩) n c]:Array rl) 30);replace o1:=o1.alloc (ac (#[U O W,U O H,Y (some ⟨g,0,none⟩) n c]:Array rl) 30);have T:=K.cell;have BV:N.heap.size<(N.alloc (ac (#[U O W,U O H,Y (some ⟨g,0,none⟩) n c]:Array rl) 30)).heap.size:=by rw[BE];omega
 have K0:=af (TO o1 (TO J (TO K (TO L (TO r bp)))));have jt:w.heap.size<=g:=aa;clear q1 NP o1 J K L r bp;have aho:w.heap.size+3<=w0.heap.size:=aa;have Jp:g<N.heap.size:=t7;go_wp2;generalize N.alloc (ac (#[U O W,U O H,Y (some ⟨g,0,none⟩) n c]:Array rl) 30)=w2 at K0 T BV⊢;generalize N.heap.size=p0 at K0 Jp BV⊢;clear hz T t7;go_loopw[6] (λi wr=>∃k:Nat,k<=d/\i=U O k/\Hid (Own wr w0.heap.size (Y (some ⟨g,0,none⟩) n c) n (ic W H ref l q k (an n 128))/\Q w wr/\ak wr w.heap.size 33 (#[U O W,U O H,a9 I,U O q,Y A d cs]:Array rl)/\ak wr (w.heap.size+1) 30 (#[U O RW,U O u,Y F t E]:Array rl)/\ak wr (w.heap.size+1+1) 30 #[U O 0,U O 0,Y none 0 0]/\ak wr p0 30 (#[U O W,U O H,Y (some ⟨g,0,none⟩) n c]:Array rl))) (λi _=>d-(intOf i).toNat)
 case atStart=>exact⟨0,aa,rfl,K0.out⟩
 case round=>
  obtain⟨k,hk,rfl,hK⟩:=hrel;obtain⟨P,f,s,m,C,p⟩:=hK.out;clear hK K0;have T:=s.cell;by_cases D:k<d
  ·have ka:(k:Int)<d:=by omega
   have rc:=m.cell;have pc:=p.cell;obtain⟨b,o,rfl,hb,hc⟩:=HX.out (by rw[R.out];omega);obtain⟨A1,c1,S,If,PA,Pi⟩:=hc k (by rw[R.out];omega);have sc:wr.cell? ⟨b,o+k,none⟩=some (Y A1 (aU ls k).length c1):=(f.cell b (o+k) aa).trans S;have HS:Hid (ic W H ref l q (k+1) (an n 128)=gT W H ref k (l k) q (W/8) (ic W H ref l q k (an n 128))):=rfl;have VQ:=af (qS.out k);generalize ic W H ref l q k (an n 128)=ys at P HS VQ;have V:=af (MG A1 c1 Bc cnt I wr.drew ((If.q f hBc).q (Q.refl _).drew (by have:=f.size;omega)) rfl ⟨PA,Pi⟩ (by show Bc<=wr.heap.size;have:=f.size;omega) (VO.out k D));rw[M.out k D] at V;have KK:=af (TO P (TO f (TO s (TO m (TO C p)))));obtain⟨x,y⟩:=HW8.out;clear P f s m C p hc S If;go_wp2;refine et (λww=>(∀i,ww.cell? ⟨w.heap.size,i,none⟩=(#[U O W,U O H,a9 I,U O q,Y (some ⟨b,o,none⟩) d cs]:Array rl)[i]?)/\ww.cell? ⟨b,o+k,none⟩=some (Y A1 (aU ls k).length c1)) (λ_=>false) ai ⟨T,sc⟩ λhS=>?_;refine ah 0 (h:=ah 1 (h:=ah 2 (h:=ah 3 (h:=ah 4 (h:=ah 5 (h:=ah 6 (h:=ah 7 (h:=ah 8 (h:=ah 9 (h:=?_))))))))));refine bh (k:=10) ai rfl rfl λK2 eq=>?_;go_simp;refine V.out.mono ?_;rintro e w5⟨⟨v,rfl,oL⟩,q5⟩;rw[ajb] at oL;obtain⟨gl,cl,rfl⟩:=oL.fS aa;obtain⟨P,f,s,m,C,p⟩:=KK.out;have a:Q wr w5:=(Q.refl wr).drew.trans q5;have we:=oL.below gl rfl;have lm:=P.block;have ip:gl≠g:=by have h9:wr.heap.size<=gl:=we;omega
   have T:=(s.q a).cell;have JA:b<wr.heap.size:=by have:=f.size;omega
   have sc:=(a.cell b (o+k) JA).trans sc;refine eq.out _ _ ⟨T,sc⟩ λhS=>?_;clear eq K2;refine aV ?_;refine ah 11 (h:=ah 12 (h:=ah 13 (h:=ah 14 (h:=ah 15 (h:=?_)))));refine kg ai ?_ _;have VS:=af (acr k t E RW u (P.q a) aa aa VQ.out (HT.out.q (f.trans a)) oL ip Z aa hq (λj hj=>Bt.out k j D hj) (VP.out.q (f.trans a) xu) λ⟨j,hj,h⟩=>HR.out ⟨k,j,D,hj,h⟩);have VT:=af (TO (f.trans a) (TO (s.q a) (TO (m.q a) (TO (C.q a) (p.q a)))));have rc:=(m.q a).cell;have pc:=(p.q a).cell;clear hS V oL q5 a P f s m C p KK sc x y;go_wp2;refine VS.out.mono ?_;rintro e w6⟨rfl,o6,X⟩;obtain⟨f,s,m,C,p⟩:=VT.out;have M5:=af (TO o6 (TO (X.toQ f aA) (TO (s.aw X aA) (TO (m.aw X aA) (TO (C.aw X aA) (p.aw X aA))))));rw[Jo.out,<-HS.out] at M5;clear f s m C p o6 X VT VS T rc pc;exact yn
  ·have j':k=d:=by omega
   subst j';have pc:=p.cell;clear m Bt HR VP HT HX R VO M;go_wp2_with(refine fw (cs':=(#[U O W,U O H,Y (some ⟨g,0,none⟩) n c]:Array rl)) rfl _ _ _ rfl rfl _ rfl rfl C rfl iq ai ?_;intro w9 b9 g9 s9);have bc:=b9.cell;refine aiA (v:=a5 (#[U O W,U O H,Y (some ⟨g,0,none⟩) n c]:Array rl)) (by simp[results,results20,go_sem,bc]) rfl ⟨_,rfl,(P.aw (av.dQ g9) aA).mono aa,f.grown g9 λk e=>by have:=aL e;omega⟩
end
section
open Go.RowKit Go.WideShapes Go.ChangeShapes
def Wd(W H:Int)(I:Bool)(q:Int){P:Option aiI}(c:Nat){D:Nat}(R:Nat)(RW f:Int){ref:List Int}(hx:dz w B A ls)(hB:B<=w.heap.size)(hn:ls.length=n)(hm:n<=9223372036854775807)(X:∀i,i<n->bytes (aU ls i))(hT:Tb w)
  (hr:Rd w B' P ref)(E:B'<=w.heap.size)(Z:ref.length=D)(T':D<=9223372036854775807):
  UL Gz.prog 6 #[a5 (#[U O W,U O H,a9 I,U O q,Y A n c]:Array rl),a5 (#[U O RW,U O f,Y P D R]:Array rl)] w λe w'=>Q w w'/\(dt W H I q ls RW f ref=true->∃v,e=be (dl #[a5 #[U O W,U O H,v],a9 true])/\Own w' w.heap.size v (W.toNat*H.toNat) (jw W H I q ls ref))/\(dt W H I q ls RW f ref=false->e=be (dl #[a5 (#[U O 0,U O 0,Y none 0 0]:Array rl),a9 false])):=by
 have q0:Q w (((w.alloc (ac (#[U O W,U O H,a9 I,U O q,Y A n c]:Array rl) 33)).alloc (ac (#[U O RW,U O f,Y P D R]:Array rl) 30)).alloc (ac (#[U O 0,U O 0,Y none 0 0]:Array rl) 30)):=aR;have bc:=((ak.new w 33 (#[U O W,U O H,a9 I,U O q,Y A n c]:Array rl)).alloc (ac (#[U O RW,U O f,Y P D R]:Array rl) 30)).alloc (ac (#[U O 0,U O 0,Y none 0 0]:Array rl) 30);have br:=(ak.new (w.alloc (ac (#[U O W,U O H,a9 I,U O q,Y A n c]:Array rl) 33)) 30 (#[U O RW,U O f,Y P D R]:Array rl)).alloc (ac (#[U O 0,U O 0,Y none 0 0]:Array rl) 30);have bz:=ak.new ((w.alloc (ac (#[U O W,U O H,a9 I,U O q,Y A n c]:Array rl) 33)).alloc (ac (#[U O RW,U O f,Y P D R]:Array rl) 30)) 30 (#[U O 0,U O 0,Y none 0 0]:Array rl);simp only[BE] at br bz;obtain⟨s,hs⟩:∃s,ie W H q n=s:=⟨_,rfl⟩
 have tA:s=true->W/8=(((W/8).toNat:Nat):Int)/\(W/8).toNat<=4:=λh=>by rw[h] at hs;obtain⟨⟨w1,w2,w3⟩,_⟩:=nT hs;omega
 have CV:=af (WG I c hs (hx.q q0 hB) (aJ hB q0.size) hn hm X tA);have RF:=af λz(S:Q w z)=>aaI W H I q (Y A n c) RW f R (hr.q S E) (aJ E S.size) Z T';have HX:=af hx;have HN:=af hn;have F':=af Z;have HR:=af hr;have HT:=af hT;have HS:=af hs;have F:=af X;have JB:=af tA;clear hx hn hT hr Z hs X tA;go_enter Gz.gf func6,ntmps6;go_wp2;refine CV.out.mono ?_;rintro e w1⟨q1,⟨rfl,rfl,T⟩|⟨rfl,qO⟩⟩
 ·have qa:=q0.trans q1;have b1:=br.q q1;have c1:=bc.q q1;have JC:=bz.q q1;have r:=af T;have G:=af (RF.out _ qa);obtain⟨rb,tH⟩:∃z,iA I W H RW f ref=z:=⟨_,rfl⟩;rw[tH] at G;have t:=af tH;have rc:=b1.cell;have cc:=c1.cell;clear bc br bz q0 q1 T CV RF tH;go_wp2;refine G.out.mono ?_;rintro e w2⟨rfl,q2⟩;have K':=JC.q q2;have QZ:=af (qa.trans q2);cases rb with
  |false=>have HV:Hid (dt W H I q ls RW f ref=false):=Qo t.out;clear G t r HS HR HT F' HN b1 c1 JC rc cc qa q2;exact Ly
  |true=>
   obtain⟨sW,sH,⟨VF,VG⟩,xl⟩:=nT HS.out;have J:=(b1.q q2).cell;have K:=(c1.q q2).cell;have l:=(JB.out (by trivial)).1;obtain⟨cnt,hce⟩:∃k,(W/8).toNat=k:=⟨_,rfl⟩;rw[hce] at l
   have u:∀i,i<n->∃L,iR (aU ls i) cnt I=some L/\eW (aU ls i) (W/8) I=some L:=λi hi=>by obtain⟨L,hL⟩:=r.out i hi;rw[hce] at hL;exact⟨L,hL,by rw[l,<-Ti cnt I (F.out i hi)];exact hL⟩
   obtain⟨a,rfl⟩:∃k:Nat,W=(k:Int):=⟨W.toNat,by have:=sW.1;omega⟩;obtain⟨b,rfl⟩:∃k:Nat,H=(k:Int):=⟨H.toNat,by have:=sH.1;omega⟩;obtain⟨p,rfl⟩:∃k:Nat,q=(k:Int):=⟨q.toNat,aa⟩
   have Jt:Hid (dt (a:Int) (b:Int) I (p:Int) ls RW f ref=true):=Ph Ct t.out (λi hi=>by obtain⟨L,_,hL⟩:=u i xM;exact⟨L,hL⟩)
   have x:=Qp (I:=I) (q:=p) (ls:=ls) (ref:=ref) sW sH;have M:=zM (W:=a) (H:=b) (I:=I) (q:=p) (ls:=ls) (ref:=ref);rw[ajb,ajb] at M;have Jq:=sW;have Jr:=sH;obtain⟨u1,u2,u3⟩:=Jq;obtain⟨v1,v2,v3⟩:=Jr;have Js:a*b<=1024:=fO (show a<=32 by omega) (show b<=32 by omega)
   have V:∀i,i<n->il (a:Int) I ls i=(iR (aU ls i) cnt I).getD []:=λi hi=>by obtain⟨L,h1,h2⟩:=u i hi;unfold il;rw[h1,h2]
   have d:∀i k,i<n->k<cnt->df (aO (il (a:Int) I ls i) k)=true/\(I=true->nth (aO (il (a:Int) I ls i) k) 0=2):=λi k hi hk=>by obtain⟨L,h1,h2⟩:=u i hi;rw[show il (a:Int) I ls i=L by unfold il;rw[h2];rfl];rw[l] at h2;exact Rl h2 k hk
   have o:=QZ.out
   have N:=af (λz(S:Q w2 z)=>Ys a b (a*b) D R B' n c cnt B A P I ls (il (a:Int) I ls) ref p RW f z sW sH rfl Js aa aa (aJ E (o.trans S).size) (HT.out.q (o.trans S)) (decide_eq_true aa) (HX.out.q (o.trans S) hB) (aJ hB (o.trans S).size) HN.out F.out (λi hi=>by
     obtain⟨L,h1,h2⟩:=u i hi;rw[V i hi,h1];rfl) (λi k hi hk=>(d i k hi hk).1) (HR.out.q (o.trans S) E) (λ⟨i,k,hi,hk,h⟩=>by
    have hI:I=false:=by cases hI:I with|false=>rfl|true=>exact absurd ((d i k hi hk).2 hI) h
    obtain⟨r1,r2,r3⟩:=Sp t.out hI;exact⟨r1,r2,F'.out,r3⟩))
   have VU:Hid (jw (a:Int) (b:Int) I (p:Int) ls ref=dg (fH p) (fI a b) (kJ (a:Int) (b:Int) I (p:Int) ls ref)):=rfl
   have VV:Hid (kJ (a:Int) (b:Int) I (p:Int) ls ref=ic a b ref (il (a:Int) I ls) p n (an (a*b) 128)):=by unfold Hid kJ;rw[HN.out,ajb,ajb]
   rw[<-VV.out] at N;generalize kJ (a:Int) (b:Int) I (p:Int) ls ref=xs at N x M VU;have hz2:=K'.lt;have hzw:=QZ.out.size;have ahs:=af x;have wO:=af M;clear G rc cc V d u l r HS t b1 c1 JC qa q2 o hce x M VV;go_wp2;refine et (λww=>Q w2 ww/\(∀i,ww.cell? ⟨w.heap.size,i,none⟩=(#[U O (a:Int),U O (b:Int),a9 I,U O (p:Int),Y A n c]:Array rl)[i]?)/\(∀i,ww.cell? ⟨w.heap.size+1,i,none⟩=(#[U O RW,U O f,Y P D R]:Array rl)[i]?)) (λj=>decide (6<=j)) ai ⟨(Q.refl _).drew,K,J⟩ λhS=>?_;refine ah 0 (h:=ah 1 (h:=ah 3 (h:=ah 4 (h:=?_))));refine bh (k:=2) ai rfl rfl λK2 y=>?_;go_simp;refine(N.out _ hS.1).mono ?_;rintro e w3⟨v,rfl,o3,q3⟩;have y3:=hS.1.trans q3;obtain⟨m,C⟩:∃m,a*b=m:=⟨_,rfl⟩;have VB:64<=m:=by rw[<-C];exact fO (show 8<=a by omega) (show 8<=b by omega)
   rw[C] at o3 wO;have HM:Hid ((a:Int).toNat*(b:Int).toNat=m):=C;rcases o3.dD with⟨_,h0⟩|⟨g,cg,rfl,qL,t7,_⟩
   ·omega
   have hwz:w.heap.size<=w2.heap.size:=hzw;refine y.out _ _ ⟨y3,λi=>(y3.cell _ _ aa).trans (K i),λi=>(y3.cell _ _ aa).trans (J i)⟩ λhS=>?_;clear y K2;refine aV ?_;refine bh (k:=5) ai rfl rfl λK2 y=>?_;go_simp;refine(aaK cg p o3.rd (au _) wO ahs.out aa).mono ?_;rintro e w4⟨v',rfl,o4,q4⟩;have y4:=y3.trans q4;refine y.out _ _ ⟨y4,λi=>(y4.cell _ _ aa).trans (K i),λi=>(y4.cell _ _ aa).trans (J i)⟩ λhS=>?_;clear y K2;refine aV ?_;refine iu [6,7] 6 ai aq rfl ?_;have VW:=K'.q y4;have hs4:=y4.size;have O':=y3.size;obtain⟨Av,cv,rfl⟩:=o4.form;refine fw (cs':=#[U O a,U O b,Y Av m cv]) rfl _ _ _ rfl rfl _ rfl rfl VW rfl iq ai ?_;intro w9 b9 g9 s9;have bc:=b9.cell;clear hS N K J K' VW;go_wp2;exact aiA (v:=dl #[a5 #[U O a,U O b,Y Av m cv],a9 true]) (by simp[results,results6,go_sem,bc]) rfl ⟨(QZ.out.trans y4).grown g9 (λk e=>by have:=aL e;omega),λ_=>⟨_,rfl,by rw[VU.out,HM.out];exact(o4.aw (av.dQ g9) λg hg=>by simp only[List.mem_singleton] at hg;subst hg;omega).mono aa⟩,λh=>by rw[Jt.out] at h;cases h⟩
 ·have K':=bz.q q1;have QZ:=af (q0.trans q1)
  have HV:Hid (dt W H I q ls RW f ref=false):=by
   cases s with
   |false=>exact Qn Ct
   |true=>obtain⟨i,hi,hd⟩:=qO rfl;refine Pg (i:=i) (by rw[HN.out];exact hi) ?_;rw[(JB.out rfl).1,<-Ti _ I (F.out i hi)];exact hd
  clear bc br bz q0 q1 qO CV RF HS HR HT F' HN HX F JB;exact Ly
end
section
open Go.RowKit Go.WideShapes Go.ChangeShapes
def acu{q:Option aiI}(c x:Nat)(y:dz w B A ls)(z:dz w B' q ls)(r:ls.length=n)(P:n<=1048576)(lt:eD ls n<=1048576):
  UL Gz.prog 26 #[Y A n c,Y q n x] w λe w'=>e=be (a9 true)/\∃k,w'=w.drewN k:=by
 have C:=af y;have D:=af z;have HN:=af r;have E:Hid (∀k,k<n->(aU ls k).length<=1048576):=λk F=>aJ (Fv ls aa) (by rw[r];exact lt);go_enter Gz.gf func26,ntmps26;go_wp2;go_loopw[5] (λi wr=>∃(k:Nat),k<=n/\i=U O k/\∃d,wr=w.drewN d) (λi _=>n-(intOf i).toNat)
 case atStart=>exact⟨0,aa,rfl,0,by first|rfl|simp⟩
 case round=>
  obtain⟨k,F,rfl,hd⟩:=hrel;have a:=af hd;by_cases f:k<n
  ·have G:(k:Int)<n:=by omega
   obtain⟨b,o,rfl,Q,hc⟩:=C.out im;obtain⟨H,I,rfl,J,g⟩:=D.out im;obtain⟨s,t,h,j,K,L⟩:=hc k im;obtain⟨u,v,l,p,M,N⟩:=g k im;have R:=E.out k f;have T:=af (λm=>adr s u t v B B' (aU ls k) (aU ls k) (wr.drewN m) (by obtain⟨d,rfl⟩:=a.out;exact j.drewN d) (by obtain⟨d,rfl⟩:=a.out;exact p.drewN d) rfl rfl jC jC);simp only[beq_self_eq_true] at T;have S:wr.cell? ⟨b,o+k,none⟩=some (Y s (aU ls k).length t):=by obtain⟨d,rfl⟩:=a.out;exact h
   have V:wr.cell? ⟨H,I+k,none⟩=some (Y u (aU ls k).length v):=by obtain⟨d,rfl⟩:=a.out;exact l
   go_wp2
   go_quiet((go_at_call 49;exact Calls.quiet_of (T.out _)))
   go_wp2;go_roundw;case rel=>exact⟨k+1,aa,aH,by obtain⟨d,rfl⟩:=a.out;exact⟨_,by first|rfl|exact World.drewN_drewN _ _ _⟩⟩
   case measure=>exact bg
  ·go_wp2;go_ret;exact⟨rfl,a.out⟩
def ZE(v:rl){C:Int}{c:Nat}(P:fT w lo hi (Y A n c) ls vs)(hk0:0<=C)(lm:C<=1000000)(lt:eD ls n<=1048576)(hn:ls.length=n)(lx:n<=1048576)(Bz:hi<=w.heap.size):
  UL Gz.prog 27 #[Y A n c,U O C] w λe w'=>e=be (U O (C+eD ls n))/\∃S:List Nat,(∀s,s∈S->lo<=s/\s<hi)/\av S w w':=by
 have HN:=af hn;have D:=af P;have HL:Hid (∀k,k<n->(aU ls k).length<=1048576):=λk K=>aJ (Fv ls aa) (by rw[hn];exact lt);have HT:Hid (∀k,k<=n->eD ls k<=1048576):=λk K=>aJ (RQ ls K) lt;have hS0:Hid (∃S:List Nat,(∀s,s∈S->lo<=s/\s<hi)/\av S w w/\∀j s,0<=j->j<n->(vs[j]?.getD undef).ownBlock=some s->s∉S):=⟨[],aj,av.refl _ _,aj⟩;go_enter Gz.gf func27,ntmps27;go_wp2;go_loopw[1,5] (λx i wr=>∃(k:Nat)(z:Int),k<=n/\i=U O k/\x=U O z/\Hid (z=C+eD ls k)/\Hid (∃S:List Nat,(∀s,s∈S->lo<=s/\s<hi/\A≠some ⟨s,0,none⟩)/\av S w wr/\∀j s,k<=j->j<n->(vs[j]?.getD undef).ownBlock=some s->s∉S)) (λ_ i _=>n-(intOf i).toNat)
 case atStart=>exact⟨0,_,aa,rfl,rfl,by rw[Hid,PQ];omega,[],aj,av.refl _ _,aj⟩
 case round=>
  obtain⟨k,z,K,rfl,rfl,hz,hS⟩:=hrel;by_cases o:k<n
  ·have ka:(k:Int)<n:=by omega
   obtain⟨S,s1,s2,E⟩:=hS.out;clear hS;obtain⟨g,cap,hg,hb,hl⟩:=D.out.row.form im;injection hg with e1 e2 e3;subst e1;clear e2 e3;have a:=D.out.el k im;obtain⟨p,r,hu⟩:=a.form
   have F:vs[k]?=some (Y p (aU ls k).length r):=by
    have:k<vs.length:=by rw[D.out.len,HN.out];exact o
    rw[List.getElem?_eq_getElem this] at hu⊢;simpa using hu
   have t:=D.out.row.cells (g:=g) rfl k _ F;have R:g∉S:=λh=>(s1 g h).2.2 rfl
   have t:wr.cell? ⟨g,k,none⟩=some (Y p (aU ls k).length r):=by
    rw[mR s2 hl R];by_cases h0:k=0
    ·subst h0;simpa[Addr.add] using t
    ·simpa[Addr.add,h0] using t
   have u:∀s,(akn p (aU ls k).length r).ownBlock=some s->s<hi/\s∉S/\lo<=s/\g≠s:=λs d=>by have y:=d;rw[<-hu] at y;have h8:=D.out.eh k s im y;exact⟨h8.1,E k s (au _) o y,(a.2.lt s y).1,λe=>h8.2 (by rw[<-e];rfl)⟩
   have G:∀j s,k+1<=j->j<n->(vs[j]?.getD undef).ownBlock=some s->(akn p (aU ls k).length r).ownBlock≠some s:=λj s V f d y=>by rw[<-hu] at y;exact D.out.ne k j s aa (by rw[HN.out];exact f) y d
   rw[hu] at a
   have m:aK wr lo (Y p (aU ls k).length r) (aU ls k).length (aU ls k):=by
    refine⟨a.1,a.2.1,?_⟩;rcases a.2.2 with h|⟨L,H,I,h1,h2,M,W⟩
    ·exact .inl h
    ·refine .inr ⟨L,H,I,h1,h2,?_,W⟩;have X:(akn p (aU ls k).length r).ownBlock=some L:=by rw[h1];rfl
     exact(s2.block L (bF.1 M).1 (u L X).2.1).trans M
   have hz1:=hz.out;have Z:=HT.out k K;have J:=zC ls k im;have hlk:=HL.out k o;have T:=af (aae z m aa aa aa);have KK:Hid (z+((aU ls k).length:Int)=C+eD ls (k+1)):=by rw[Hid,J,hz1];omega
   have KS:=af (TO s1 (TO s2 E));have HBK:=af u;have Fd:=af G;clear a m F hu hz1 Z J hlk s1 s2 E u G;go_wp2;refine T.out.mono ?_;rintro e w5⟨rfl,_,N⟩;go_wp2;go_roundw
   case rel=>
    refine⟨k+1,_,aa,aH,rfl,KK.out,?_⟩;obtain⟨s1,s2,E⟩:=KS.out;cases l:(akn p (aU ls k).length r).ownBlock with
    |none=>rw[l] at N;exact⟨S,s1,s2.q (Q.jf N),λj s V f=>E j s aa f⟩
    |some b=>
     rw[l] at N;obtain⟨h1,h2,M,W⟩:=HBK.out b l;refine⟨b::S,λs d=>?_,(s2.more λx P=>by simp[P]).grown N (.inl aj),λj s V f d=>?_⟩
     ·rcases kT.1 d with rfl|d
      ·exact⟨M,h1,λe=>W (by injection e with e;injection e)⟩
      ·exact s1 s d
     ·intro hm;rcases kT.1 hm with rfl|hm
      ·exact Fd.out j s V f d l
      ·exact E j s aa f d hm
   case measure=>exact bg
  ·have j':k=n:=by omega
   subst j';go_wp2;go_ret;obtain⟨S,s1,s2,_⟩:=hS.out;exact⟨by rw[hz.out];rfl,S,λs d=>⟨(s1 s d).1,(s1 s d).2.1⟩,s2⟩
end
section
open Go.RowKit Go.WideShapes Go.ChangeShapes
def fT.mono{w:World}{lo a hi b:Nat}{v:rl}{ls:List (List Int)}{vs:List rl}(h:fT w lo hi v ls vs)(h1:a<=lo)(f:hi<=b):fT w a b v ls vs:=
 ⟨h.len,⟨h.row.1,h.row.2.imp id λ⟨g,d,e,j,k,l⟩=>⟨g,d,e,j,aJ h1 k,l⟩⟩,λs c=>cG (h.top s c) f,λi hi=>(h.el i hi).mono h1,λi s hi c=>⟨cG (h.eh i s hi c).1 f,(h.eh i s hi c).2⟩,h.ne⟩
def fT.aN{v:rl}(h:fT w lo hi v ls vs){p:aiI}(b:p.block<lo)(u:rl):fT (w.setCell p u) lo hi v ls vs:=
 h.aw ((av.refl [p.block] w).set (.inl aj) u) (λg a=>by simp at a;omega)
def ad9(W H q:Int)(I:Bool)(A:Option aiI)(c:Nat)(l:Int)(b:dz w B A ls)(d:B<=w.heap.size)(f:ls.length=n)(h1:0<=l)(g:l<=1000000000000)(hm:n<=9223372036854775807):
  UL Gz.prog 4 #[a5 #[U O W,U O H,a9 I,U O q,Y A n c],U O l] w λe w'=>(∃r:Int,e=be (U O r)/\(r<0\/(r=l-n-eD ls n/\0<=r)))/\Q w w':=by
 have h:=af (b.q ((Q.refl w).alloc (ac #[U O W,U O H,a9 I,U O q,Y A n c] 24)) d);go_enter Gz.gf func4,ntmps4;go_wp2;refine(abL c h.out f h1 g hm).mono ?_;rintro e w'⟨⟨r,rfl,a⟩,rfl⟩;have HR:=af a;by_cases h0:r<0
 ·clear a;go_wp2;go_ret;exact⟨⟨_,rfl,.inl aa⟩,aR⟩
 ·clear a;go_wp2;go_ret;exact⟨⟨_,rfl,HR.out⟩,aR⟩
def sA(W H q:Int)(I:Bool)(A:Option aiI)(c:Nat)(u:dz w B A ls)(x:B<=w.heap.size)(z:ls.length=n)(C:n<=1048576)(lt:eD ls n<=1048576):
  UL Gz.prog 7 #[a5 #[U O W,U O H,a9 I,U O q,Y A n c]] w λe w'=>∃v vs,e=be (a5 #[U O W,U O H,a9 I,U O q,v])/\fT w' w.heap.size w'.heap.size v ls vs/\Q w w':=by
 subst z;have h:Q w (((w.alloc (ac #[U O W,U O H,a9 I,U O q,Y A ls.length c] 24)).alloc (ac #[U O 0,U O 0,a9 false,U O 0,Y none 0 0] 33)).alloc (ac #[U O W,U O H,a9 I,U O q,Y none 0 0] 33)):=aR;have m:=(ak.new (w.alloc (ac #[U O W,U O H,a9 I,U O q,Y A ls.length c] 24)) 33 #[U O 0,U O 0,a9 false,U O 0,Y none 0 0]).alloc (ac #[U O W,U O H,a9 I,U O q,Y none 0 0] 33);have o:=ak.new ((w.alloc (ac #[U O W,U O H,a9 I,U O q,Y A ls.length c] 24)).alloc (ac #[U O 0,U O 0,a9 false,U O 0,Y none 0 0] 33)) 33 #[U O W,U O H,a9 I,U O q,Y none 0 0];have d:(((w.alloc (ac #[U O W,U O H,a9 I,U O q,Y A ls.length c] 24)).alloc (ac #[U O 0,U O 0,a9 false,U O 0,Y none 0 0] 33)).alloc (ac #[U O W,U O H,a9 I,U O q,Y none 0 0] 33)).heap.size=w.heap.size+1+1+1:=aj;simp only[BE] at m o;have D:=af (u.q h x);have r:=af d;clear u d;go_enter Gz.gf func7,ntmps7;go_wp2;refine(abM c D.out rfl C lt (aJ x h.size)).mono ?_;rintro e i⟨v,vs,rfl,j,l⟩;obtain⟨a,b,rfl,E,F⟩:=j.form;rw[r.out] at j;have s:=m.q l;have d4:=o.q l;have G:=s.lt;have J:=d4.lt;have d5:ak (i.setCell ⟨w.heap.size+1+1,4,none⟩ (Y a ls.length b)) (w.heap.size+1+1) 33 #[U O W,U O H,a9 I,U O q,Y a ls.length b]:=d4.set 4 _;have K:=s.aN (p:=⟨w.heap.size+1+1,4,none⟩) qT (Y a ls.length b);have L:=af (j.aN (p:=⟨w.heap.size+1+1,4,none⟩) (by show w.heap.size+1+1<w.heap.size+1+1+1;omega) (Y a ls.length b));have M:=af ((h.trans l).set (p:=⟨w.heap.size+1+1,4,none⟩) qU (Y a ls.length b));have X:=d4.cell;have f4:=d4.free;have Z:=d5.cell;have f:(i.setCell ⟨w.heap.size+1+1,4,none⟩ (Y a ls.length b)).heap.size=i.heap.size:=tZ;have t:=af f;clear m o h l j s d4 d5 f;go_wp2_with(refine fw (cs':=#[U O W,U O H,a9 I,U O q,Y a ls.length b]) rfl _ _ _ rfl rfl _ rfl rfl K rfl iq ai ?_;intro N P y R);have S:=P.cell;have T:N.heap.size=i.heap.size:=R.trans t.out;refine aiA (v:=a5 #[U O W,U O H,a9 I,U O q,Y a ls.length b]) (by simp[results,results7,go_sem,S]) rfl ⟨_,vs,rfl,?_,?_⟩
 ·exact(L.out.aw (av.dQ y) λg V=>by simp at V;omega).mono aa aa
 ·exact M.out.grown y (λk e=>by have:=aL e;omega)
def aea(W H q:Int)(I:Bool)(a:Option aiI)(c b:Nat)(g:dz w B A ls)(i:B<=w.heap.size)(h:dz w B' a ls)(d:B'<=w.heap.size)(j:ls.length=n)(l:n<=1048576)(lt:eD ls n<=1048576):
  UL Gz.prog 11 #[a5 #[U O W,U O H,a9 I,U O q,Y A n c],a5 #[U O W,U O H,a9 I,U O q,Y a n b]] w λe w'=>e=be (a9 true)/\Q w w':=by
 have f:Q w ((w.alloc (ac #[U O W,U O H,a9 I,U O q,Y A n c] 33)).alloc (ac #[U O W,U O H,a9 I,U O q,Y a n b] 33)):=aR;have T:=af (acu c b (g.q f i) (h.q f d) j l lt);clear g h
 all_goals
  go_enter Gz.gf func11,ntmps11;go_wp2;refine T.out.mono ?_;rintro e w'⟨rfl,k,rfl⟩;go_wp2;go_ret;exact⟨rfl,f.drewN _⟩
def aaL(W H q:Int)(I:Bool)(a:Int){c:Nat}(h:fT w lo hi (Y A n c) ls vs)(b:0<=a)(d:a<=1000000)(lt:eD ls n<=1048576)(i:ls.length=n)(j:n<=1048576)(f:hi<=w.heap.size):
  UL Gz.prog 12 #[a5 #[U O W,U O H,a9 I,U O q,Y A n c],U O a] w λe w'=>e=be (U O (a+eD ls n))/\∃S:List Nat,(∀s,s∈S->lo<=s/\s<hi)/\av S w w':=by
 have g:Q w (w.alloc (ac #[U O W,U O H,a9 I,U O q,Y A n c] 33)):=aR;have T:=af (ZE (Y A n c) (h.q g) b d lt i j (aJ f g.size));go_enter Gz.gf func12,ntmps12;go_wp2;refine T.out.mono ?_;rintro e w'⟨rfl,S,h1,k⟩;go_wp2;go_ret;exact⟨rfl,S,h1,(av.gQ S g).trans k⟩
end
end Go.Proofs.Q0
