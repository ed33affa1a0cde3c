import Derived.Test.YtnbpokndlaebbaaGreatDoorK28
import Derived.Test.YtnbpokndlaebbaaGreatDoorRows
import Derived.KernelRfl
import Derived.ProofKit
import Derived.ChangeOld
import Derived.LaidMore
import Derived.LaidSub
import Derived.OpenVars
import Derived.Stop.Joined
import Derived.Lib.SmallJoins
import Derived.Lib.LaidTab
import Derived.Deep.Slices
import Derived.Stop.LaidErr
import Derived.MakeChecks
import Derived.Laws.BitsAllLaws
set_option maxRecDepth 100000
set_option maxHeartbeats 8000000
set_option linter.all false
open Go.Value renaming int->U,slice->Y,bool->ci,agg->bi,pointer->d9,tuple->em,iface->gc
open Go.IntKind renaming i64->O
open Go.Obj renaming cells->ap
open Go.Ending renaming returned->dl
open Go.Proofs.YtnbpokndlaebbaaGreatDoor
open Array renaming getElem?_push->ajG,range->ajP
open Bool renaming false->Ba,true->AT
open Go renaming Addr->aic,Calls->ahR,Program->OF,TypeId->SL,Value->AS,World->rl,bodyPost_ret->ahX,results_cell_row->aiO
open Go.IntKind renaming i64->EV
open Go.World renaming size_alloc->NO
open Int renaming toNat_natCast->aiE
open List renaming length_append->ahc,replicate->so
open Option renaming none->ns,some->an
namespace Go.Proofs
def Lk{p:Prop}(h:p:=by(go_wp2_with(refine eH (cs':=(#[U O 0,U O 0,Y none 0 0]:Array Value)) rfl _ _ _ rfl rfl _ rfl rfl N' rfl fq aj ?_;intro w9 b9 g9 s9);have bc:=b9.cell;exact bodyPost_ret (v:=em #[bi (#[U O 0,U O 0,Y none 0 0]:Array Value),ci false]) (by simp[results,results6,go_sem,bc]) rfl ⟨QZ.out.grown g9 λk e=>yk,λh=>CY,λ_=>rfl⟩)):p:=h
def yw{p:Prop}(h:p:=by simp only[Array.size_push];omega):p:=h
def L4{p:Prop}(h:p:=by clear K2;obtain⟨⟨z9,c9⟩,f9⟩:=K3.out.at k aV;go_wp2;go_roundw;(case rel=>exact⟨k+1,aa,aJ,(K3.out.set k _).more aa⟩);(case measure=>simp[intOf];omega)):p:=h
def yT{p:Prop}(h:p:=by obtain⟨⟨z9,c9⟩,f9⟩:=K4.out.at k aV;go_wp2;go_roundw;(case rel=>exact⟨k+1,aa,aJ,(K4.out.set k _).more aa⟩);(case measure=>simp[intOf];omega)):p:=h
end Go.Proofs
namespace Go.Proofs.Q0
open Go.Proofs.Tryz
variable{w W:rl}{n g P:Nat}{xs:List Int}
section
open Go.RowKit Go.WideShapes Go.ChangeShapes
def V2(W H:Int)(I:Bool)(q:Int)(A R:Option aic)(c:Nat){B D:Nat}(S:Nat){B':Nat}{ls:List (List Int)}(RW f:Int){ref:List Int}(hx:eF w B A ls)(hB:B<=w.heap.size)(hn:ls.length=n)(hm:n<=9223372036854775807)(Z:∀i,i<n->bytes (aS ls i))(hT:Tb w)
  (hr:Rd w B' R ref)(E:B'<=w.heap.size)(xX:ref.length=D)(py:D<=9223372036854775807):
  ahR Gz.prog 6 #[bi (#[U O W,U O H,ci I,U O q,Y A n c]:Array AS),bi (#[U O RW,U O f,Y R D S]:Array AS)] w λe w'=>Q w w'/\(fi W H I q ls RW f ref=AT->∃v,e=dl (em #[bi #[U O W,U O H,v],ci AT])/\Own w' w.heap.size v (W.toNat*H.toNat) (qW W H I q ls ref))/\(fi W H I q ls RW f ref=Ba->e=dl (em #[bi (#[U O 0,U O 0,Y ns 0 0]:Array AS),ci Ba])):=by
 have q0:Q w (((w.alloc (ap (#[U O W,U O H,ci I,U O q,Y A n c]:Array AS) 25)).alloc (ap (#[U O RW,U O f,Y R D S]:Array AS) 28)).alloc (ap (#[U O 0,U O 0,Y ns 0 0]:Array AS) 28)):=aU;have bc:=((ak.new w 25 (#[U O W,U O H,ci I,U O q,Y A n c]:Array AS)).alloc (ap (#[U O RW,U O f,Y R D S]:Array AS) 28)).alloc (ap (#[U O 0,U O 0,Y ns 0 0]:Array AS) 28);have br:=(ak.new (w.alloc (ap (#[U O W,U O H,ci I,U O q,Y A n c]:Array AS) 25)) 28 (#[U O RW,U O f,Y R D S]:Array AS)).alloc (ap (#[U O 0,U O 0,Y ns 0 0]:Array AS) 28);have bz:=ak.new ((w.alloc (ap (#[U O W,U O H,ci I,U O q,Y A n c]:Array AS) 25)).alloc (ap (#[U O RW,U O f,Y R D S]:Array AS) 28)) 28 (#[U O 0,U O 0,Y ns 0 0]:Array AS);simp only[NO] at br bz;obtain⟨s,hs⟩:∃s,iz W H q n=s:=⟨_,rfl⟩
 have tU:s=AT->W/8=(((W/8).toNat:Nat):Int)/\(W/8).toNat<=4:=λh=>by rw[h] at hs;obtain⟨⟨w1,w2,w3⟩,_⟩:=ni hs;omega
 have CV:=ag (Wr I c hs (hx.q q0 hB) (aQ hB q0.size) hn hm Z tU);have RF:=ag λz(T:Q w z)=>aan W H I q (Y A n c) RW f S (hr.q T E) (aQ E T.size) xX py;have HX:=ag hx;have HN:=ag hn;have Jw:=ag xX;have HR:=ag hr;have HT:=ag hT;have HS:=ag hs;have F:=ag Z;have Jy:=ag tU;clear hx hn hT hr xX hs Z tU;go_enter Gz.gf func6,ntmps6;go_wp2;refine CV.out.mono ?_;rintro e w1⟨q1,⟨rfl,rfl,V⟩|⟨rfl,rC⟩⟩
 ·have qa:=q0.trans q1;have b1:=br.q q1;have c1:=bc.q q1;have Jz:=bz.q q1;have r:=ag V;have G:=ag (RF.out _ qa);obtain⟨rb,um⟩:∃z,iR I W H RW f ref=z:=⟨_,rfl⟩;rw[um] at G;have t:=ag um;have rc:=b1.cell;have cc:=c1.cell;clear bc br bz q0 q1 V CV RF um;go_wp2;refine G.out.mono ?_;rintro e w2⟨rfl,q2⟩;have N':=Jz.q q2;have QZ:=ag (qa.trans q2);cases rb with
  |false=>have HV:Hid (fi W H I q ls RW f ref=Ba):=P8 t.out;clear G t r HS HR HT Jw HN b1 c1 Jz rc cc qa q2;exact Lk
  |true=>
   obtain⟨sW,sH,⟨Vy,Vz⟩,xO⟩:=ni HS.out;have J:=(b1.q q2).cell;have K:=(c1.q q2).cell;have l:=(Jy.out (by trivial)).1;obtain⟨cnt,hce⟩:∃k,(W/8).toNat=k:=⟨_,rfl⟩;rw[hce] at l
   have u:∀i,i<n->∃L,jg (aS ls i) cnt I=an L/\fh (aS ls i) (W/8) I=an L:=λi hi=>by obtain⟨L,hL⟩:=r.out i hi;rw[hce] at hL;exact⟨L,hL,by rw[l,<-S6 cnt I (F.out i hi)];exact hL⟩
   obtain⟨a,rfl⟩:∃k:Nat,W=(k:Int):=⟨W.toNat,by have:=sW.1;omega⟩;obtain⟨b,rfl⟩:∃k:Nat,H=(k:Int):=⟨H.toNat,by have:=sH.1;omega⟩;obtain⟨p,rfl⟩:∃k:Nat,q=(k:Int):=⟨q.toNat,aa⟩
   have Jp:Hid (fi (a:Int) (b:Int) I (p:Int) ls RW f ref=AT):=OU CZ t.out (λi hi=>by obtain⟨L,_,hL⟩:=u i (by rw[<-HN.out];exact hi);exact⟨L,hL⟩)
   have x:=Ah (I:=I) (q:=p) (ls:=ls) (ref:=ref) sW sH;have M:=vH (W:=a) (H:=b) (I:=I) (q:=p) (ls:=ls) (ref:=ref);rw[aiE,aiE] at M;have Jm:=sW;have Jn:=sH;obtain⟨u1,u2,u3⟩:=Jm;obtain⟨v1,v2,v3⟩:=Jn;have Jo:a*b<=1024:=eZ (show a<=32 by omega) (show b<=32 by omega)
   have X:∀i,i<n->iF (a:Int) I ls i=(jg (aS ls i) cnt I).getD []:=λi hi=>by obtain⟨L,h1,h2⟩:=u i hi;unfold iF;rw[h1,h2]
   have d:∀i k,i<n->k<cnt->dt (aP (iF (a:Int) I ls i) k)=AT/\(I=AT->nth (aP (iF (a:Int) I ls i) k) 0=2):=λi k hi hk=>by obtain⟨L,h1,h2⟩:=u i hi;rw[show iF (a:Int) I ls i=L by unfold iF;rw[h2];rfl];rw[l] at h2;exact Q8 h2 k hk
   have o:=QZ.out
   have N:=ag (λz(T:Q w2 z)=>Yf a b (a*b) D S B' n c cnt B A R I ls (iF (a:Int) I ls) ref p RW f z sW sH rfl Jo aa aa (aQ E (o.trans T).size) (HT.out.q (o.trans T)) (decide_eq_true aa) (HX.out.q (o.trans T) hB) (aQ hB (o.trans T).size) HN.out F.out (λi hi=>by
     obtain⟨L,h1,h2⟩:=u i hi;rw[X i hi,h1];rfl) (λi k hi hk=>(d i k hi hk).1) (HR.out.q (o.trans T) E) (λ⟨i,k,hi,hk,h⟩=>by
    have hI:I=Ba:=by cases hI:I with|false=>rfl|true=>exact absurd ((d i k hi hk).2 hI) h
    obtain⟨r1,r2,r3⟩:=Sa t.out hI;exact⟨r1,r2,Jw.out,r3⟩))
   have VN:Hid (qW (a:Int) (b:Int) I (p:Int) ls ref=du (fV p) (fW a b) (jM (a:Int) (b:Int) I (p:Int) ls ref)):=rfl
   have VO:Hid (jM (a:Int) (b:Int) I (p:Int) ls ref=iy a b ref (iF (a:Int) I ls) p n (so (a*b) 128)):=by unfold Hid jM;rw[HN.out,aiE,aiE]
   rw[<-VO.out] at N;generalize jM (a:Int) (b:Int) I (p:Int) ls ref=xs at N x M VN;have hz2:=N'.lt;have hzw:=QZ.out.size;have agN:=ag x;have xq:=ag M;clear G rc cc X d u l r HS t b1 c1 Jz qa q2 o hce x M VO;go_wp2;refine eo (λww=>Q w2 ww/\(∀i,ww.cell? ⟨w.heap.size,i,ns⟩=(#[U O (a:Int),U O (b:Int),ci I,U O (p:Int),Y A n c]:Array AS)[i]?)/\(∀i,ww.cell? ⟨w.heap.size+1,i,ns⟩=(#[U O RW,U O f,Y R D S]:Array AS)[i]?)) (λj=>decide (6<=j)) aj ⟨(Q.refl _).drew,K,J⟩ λhS=>?_;refine ai 0 (h:=ai 1 (h:=ai 3 (h:=ai 4 (h:=?_))));refine bw (k:=2) aj rfl rfl λK2 y=>?_;go_simp;refine(N.out _ hS.1).mono ?_;rintro e w3⟨v,rfl,o3,q3⟩;have y3:=hS.1.trans q3;obtain⟨m,C⟩:∃m,a*b=m:=⟨_,rfl⟩;have Vt:64<=m:=by rw[<-C];exact eZ (show 8<=a by omega) (show 8<=b by omega)
   rw[C] at o3 xq;have HM:Hid ((a:Int).toNat*(b:Int).toNat=m):=C;rcases o3.dC with⟨_,h0⟩|⟨g,cg,rfl,rv,wt,_⟩
   ·omega
   have hwz:w.heap.size<=w2.heap.size:=hzw;refine y.out _ _ ⟨y3,λi=>(y3.cell _ _ aa).trans (K i),λi=>(y3.cell _ _ aa).trans (J i)⟩ λhS=>?_;clear y K2;refine bh ?_;refine bw (k:=5) aj rfl rfl λK2 y=>?_;go_simp;refine(aao cg p o3.rd (ay _) xq agN.out aa).mono ?_;rintro e w4⟨v',rfl,o4,q4⟩;have y4:=y3.trans q4;refine y.out _ _ ⟨y4,λi=>(y4.cell _ _ aa).trans (K i),λi=>(y4.cell _ _ aa).trans (J i)⟩ λhS=>?_;clear y K2;refine bh ?_;refine gi [6,7] 6 aj aw rfl ?_;have VP:=N'.q y4;have hs4:=y4.size;have qZ:=y3.size;obtain⟨Av,cv,rfl⟩:=o4.form;refine eH (cs':=#[U O a,U O b,Y Av m cv]) rfl _ _ _ rfl rfl _ rfl rfl VP rfl fq aj ?_;intro w9 b9 g9 s9;have bc:=b9.cell;clear hS N K J N' VP;go_wp2;exact ahX (v:=em #[bi #[U O a,U O b,Y Av m cv],ci AT]) (by simp[results,results6,go_sem,bc]) rfl ⟨(QZ.out.trans y4).grown g9 (λk e=>by have:=aH e;omega),λ_=>⟨_,rfl,by rw[VN.out,HM.out];exact(o4.aq (al.bA g9) λg hg=>by simp only[List.mem_singleton] at hg;subst hg;omega).mono aa⟩,λh=>by rw[Jp.out] at h;cases h⟩
 ·have N':=bz.q q1;have QZ:=ag (q0.trans q1)
  have HV:Hid (fi W H I q ls RW f ref=Ba):=by
   cases s with
   |false=>exact P7 CZ
   |true=>obtain⟨i,hi,hd⟩:=rC rfl;refine OT (i:=i) (by rw[HN.out];exact hi) ?_;rw[(Jy.out rfl).1,<-S6 _ I (F.out i hi)];exact hd
  clear bc br bz q0 q1 rC CV RF HS HR HT Jw HN HX F Jy;exact Lk
end
section
open Go.ChangeShapes Go.WideShapes Go.ChangeAt Go.RowKit Go.Joins
def cells_of_cell{a:aic}{v:AS}(h:w.cell? a=an v):∃cs t f,w.heap[a.block]?=an (.cells cs t f)/\a.spot=ns/\cs[a.off]?=an v:=by
 unfold World.cell? at h;cases b:w.heap[a.block]? with
 |none=>rw[b] at h;cases h
 |some o=>rw[b] at h;cases o with|cells cs t f=>simp_all|_=>simp at h
theorem adE(P:OF)(tape:Nat->Question->Nat)(os:Os):(begin P tape os).world.heap[P.globals.size]?=an (.cells ((ajP P.types.size).map λt=>.int .u64 (Int.ofNat t)) 0):=by unfold begin;dsimp only;generalize b:Array.mapIdx (α:=Global) (β:=Obj) _ P.globals=M;have a:M.size=P.globals.size:=eW;rw[<-a];rw[ajG,if_neg yw,ajG,if_neg yw,ajG,if_neg yw,ajG,if_neg yw,ajG,if_pos rfl]
def Zl(P:OF)(tape:Nat->Question->Nat)(os:Os):P.globals.size+5=(begin P tape os).world.heap.size:=by unfold begin;simp
def Zm{P:OF}(h:w.ShapedOpen P):w.heap[P.globals.size]?=an (.cells ((ajP P.types.size).map λt=>.int .u64 (Int.ofNat t)) 0):=by
 obtain⟨o,c,h1,a,b⟩:=h.2 P.globals.size (ay _) (by have:=Zl P (λ_ _=>0) default;omega);rw[adE] at a;cases a;have:World.looseAt (P.globals.size-P.globals.size)=Ba:=by rw[Nat.sub_self];rfl
 simp only[this,Bool.false_eq_true,if_false] at b;rw[h1,b]
def Bh:Tryz.prog.globals.size=3:=my
def Ga(h:w.ShapedOpen Tryz.prog){t:SL}(a:g<3)(b:(((begin Tryz.prog (λ_ _=>0) default).world.heap[g]?).bind Obj.row?).map (λx=>(x.1.size,x.2))=an (n,t)):
  ∃cs,w.heap[g]?=an (.cells cs t)/\cs.size=n/\(Tryz.prog.buildable t=AT->Row.ok Tryz.prog w .any 0 t cs):=by
 obtain⟨⟨zero,c⟩,h1,d⟩:=jR.1 b;obtain⟨rfl,rfl⟩:=d;exact h.1 g zero c (by rw[Bh];exact a) h1
def afz:(((begin Tryz.prog (λ_ _=>0) default).world.heap[0]?).bind Obj.row?).map (λx=>(x.1.size,x.2))=an (16,97):=aj
def afA:(((begin Tryz.prog (λ_ _=>0) default).world.heap[1]?).bind Obj.row?).map (λx=>(x.1.size,x.2))=an (1,120):=aj
def afB:(((begin Tryz.prog (λ_ _=>0) default).world.heap[2]?).bind Obj.row?).map (λx=>(x.1.size,x.2))=an (1,120):=aj
def aeA{t:SL}{cs:Array AS}{ts:List SL}(h:Row.ok Tryz.prog w .any 0 t cs)(b:Tryz.prog.cellTypes Tryz.prog.depth t=an ts)(hi:∀u∈ts,∃k,Tryz.prog.underlying u=an (.int k)){i:Nat}{s:ByteArray}(hc:cs[i]?=an (.string s)):False:=by obtain⟨c,e,_,d⟩:=h;rw[b] at e;cases e;obtain⟨u,hu,a⟩:=d i _ hc;obtain⟨k,f⟩:=hi u (zq hu);simp[Cell.ok,f] at a
def adF{e:SL}{k:IntKind}(h:Tryz.prog.underlying e=an (.int k)):∀u∈so n e,∃k,Tryz.prog.underlying u=an (.int k):=eN
def P9: "*" ++ "errors.errorString" = "*errors.errorString" :=my
def abX{u:SL}(h:Tryz.prog.typeName? 3 u=an "*errors.errorString"):u=234:=
 typeName_ptr_named (nm:= "errors.errorString") (by rw[P9];kernel_rfl) aj aw u (by rw[P9];exact h)
def Se{name:String}{cs:Array AS}{fuel:Nat}{p:List MemPlace}{s:List UInt8}(i:Tryz.prog.globalNamed name=an g)(d:W.var? Tryz.prog name=an cs)
  (hd:DataW.trod (λ_=>()) Tryz.prog W 0 (λ_=>AT) Ba fuel 120 cs.toList=an (.iface "*errors.errorString" (.ptr (.agg [.lit (.string s)])),p))
  (f:∀b off,MemPlace.cell b off∈MemPlace.row ⟨g,0,ns⟩ cs.size++p->(∃c t,W.heap[b]?=an (.cells c t (0,0)))/\∀u v,W.cell? ⟨b,off,ns⟩=an (.iface u v)->Value.okWide Tryz.prog W .any 0 u v):
  ∃a,W.cell? ⟨g,0,ns⟩=an (.iface 234 (.pointer (an a)))/\∃c t h,W.heap[a.block]?=an (.cells c t (0,0))/\W.cell? a=an (.string h):=by
 obtain⟨l⟩:=cs
 obtain⟨a,h,h1,j,_,_,k⟩:=errorString_of_trod underlying120 (λ_=>abX) underlying234 underlying260 rfl rfl underlying9 aj aj hd
  (λu v e=>by subst e;exact(f g 0 (by simp[MemPlace.row])).2 u v (by simpa using World.var?_cell i d 0))
 subst h1;subst k;obtain⟨c,t,m⟩:=(f a.block a.off (List.mem_append_right _ (by simp[MemPlace.row]))).1;exact⟨a,by simpa using World.var?_cell i d 0,c,t,h,m,j⟩
structure St(W:rl)(a1 a2:aic):Prop where
 hG:W.heap[3]?=an (.cells ((ajP Tryz.prog.types.size).map λt=>.int .u64 (Int.ofNat t)) 0)
 xt:∀g,g<3->∃cs t,W.heap[g]?=an (.cells cs t (0,0))
 e1:W.cell? ⟨1,0,ns⟩=an (.iface 234 (.pointer (an a1)))
 e2:W.cell? ⟨2,0,ns⟩=an (.iface 234 (.pointer (an a2)))
 r1:3<a1.block/\∃cs t,W.heap[a1.block]?=an (.cells cs t (0,0))/\0<cs.size
 r2:3<a2.block/\∃cs t,W.heap[a2.block]?=an (.cells cs t (0,0))/\0<cs.size
abbrev nj:String:= "loop.example/videocodec/impl.quantSteps"
abbrev AG:String:= "loop.example/videocodec/impl.errNumber"
abbrev vI:String:= "loop.example/videocodec/impl.errRuns"
def Sf:Tryz.prog.globalNamed nj=an 0:=aF
def aeB:(Tryz.prog.globals[0]?).map (·.type)=an 97:=aF
def agO:Tryz.prog.globalNamed AG=an 1:=aF
def agP:(Tryz.prog.globals[1]?).map (·.type)=an 120:=aF
def afC:Tryz.prog.globalNamed vI=an 2:=aF
def afD:(Tryz.prog.globals[2]?).map (·.type)=an 120:=aF
def tw:List (String×DataW Unit):=[(AG,Rows.laid_loop_example_videocodec_impl_errNumber),(vI,Rows.laid_loop_example_videocodec_impl_errRuns),(nj,Rows.laid_loop_example_videocodec_impl_quantSteps)]
def afE(k:W.ShapedOpen Tryz.prog)(h:laidMetH Tryz.prog tw W):∃m o,St W m o:=by
 rw[MakeChecks.laidMetH_plain _ _ _ aj] at h;have p:=Zm k;rw[Bh] at p;obtain⟨c0,v,n0,q⟩:=Ga k aw afz;obtain⟨c1,x,G,_⟩:=Ga k aw afA;obtain⟨c2,y,H,_⟩:=Ga k aw afB;replace q:=q aj;obtain⟨ps,⟨d,t1,I,f1,p1,q1,i1,J,K,L,⟨A,t2,M,f2,p2,q2,i2,N,Q,R,_,rfl⟩,rfl⟩,_,i⟩:=h;obtain rfl:=aH (agO.symm.trans i1);obtain rfl:=aH (agP.symm.trans J);obtain rfl:=aH (afC.symm.trans i2);obtain rfl:=aH (afD.symm.trans N);obtain⟨m,B,S,T,s1,C,v1⟩:=Se i1 K L λb off hm=>i b off (List.mem_append_left _ hm);obtain⟨o,D,V,X,s2,E,v2⟩:=Se i2 Q R λb off hm=>i b off (List.mem_append_right _ (List.mem_append_left _ hm))
 have j:∀{a:aic}{s:ByteArray},W.cell? a=an (.string s)->3<a.block:=λ{a s} r=>by
  refine Nat.lt_of_not_le λhle=>?_;obtain⟨l,t,f,d,A,e⟩:=cells_of_cell r;have i64:=adF (n:=16) underlying3
  have one:∀{g:Nat}{c:Array AS}{u:SL}{z:aic},a.block=g->W.heap[g]?=an (.cells c u)->c.size=1->W.cell? ⟨g,0,ns⟩=an (.iface 234 (.pointer (an z)))->False:=λ{g c u z} Z hc hn hz=>by
   rw[Z,hc] at d;cases d;have ho:a.off=0:=by have:=(bU.1 e).1;omega
   obtain⟨_,_,_,F,_,w3⟩:=cells_of_cell hz;rw[hc] at F;cases F;rw[ho] at e;rw[e] at w3;cases w3
  obtain⟨ab,ao,UQ⟩:=a;simp only at hle d e one
  match ab,hle with
  |0,_=>rw[v] at d;cases d;exact aeA q aj i64 e
  |1,_=>exact one rfl x G B
  |2,_=>exact one rfl y H D
  |3,_=>rw[p] at d;cases d;rw[Array.getElem?_map] at e;obtain⟨_,_,e⟩:=jR.1 e;cases e
 have pos:∀{a:aic}{s:ByteArray}{l:Array AS}{t:SL},W.cell? a=an (.string s)->W.heap[a.block]?=an (.cells l t (0,0))->0<l.size:=λ{a s l t} r hh=>by obtain⟨cs',u,f,d,A,e⟩:=cells_of_cell r;rw[hh] at d;cases d;exact Nat.lt_of_le_of_lt (ez _) (bU.1 e).1
 refine⟨m,o,p,λg hg=>?_,B,D,⟨j v1,S,T,C,pos v1 C⟩,j v2,V,X,E,pos v2 E⟩
 match g,hg with
 |0,_=>exact⟨_,_,v⟩
 |1,_=>exact⟨_,_,x⟩
 |2,_=>exact⟨_,_,y⟩
def abY(h:laidMetH Tryz.prog tw W):Lib.TabIs Tryz.prog W nj .i64 [1,2,4,8,12,16,24,32,48,64,96,128,192,256,384,512]:=by exact Lib.tabIs_of_head Sf aeB underlying97 underlying3 aj aj h.tail.tail
end
section
open Go.RowKit Go.WideShapes Go.ChangeShapes
def pk(xs:List Int):Prop:=∀i:Nat,0<=xs[i]?.getD 0/\xs[i]?.getD 0<=255
def OX{a:Nat}(b:a<9223372036854775808):(BitVec.ofInt 64 (a:Int)).toNat=a:=by rw[BitVec.ofInt_natCast,BitVec.toNat_ofNat];exact Nat.mod_eq_of_lt aa
def Yg(a b:Nat)(c:a<9223372036854775808)(d:b<9223372036854775808):bits .xor .i64 (a:Int) (b:Int)=((a^^^b:Nat):Int):=by have e:a^^^b<2^63:=Nat.xor_lt_two_pow aa aa;show EV.wrap ((BitVec.ofInt 64 (a:Int)^^^BitVec.ofInt 64 (b:Int)).toNat:Int)=_;rw[BitVec.toNat_xor,OX c,OX d,IntKind.wrap_i64];omega
def aap{a:Int}(b:Int)(c:0<=a)(d:a<=9223372036854775807)(e:0<=b)(f:b<=9223372036854775807):0<=bits .xor .i64 a b/\bits .xor .i64 a b<=9223372036854775807:=by obtain⟨a,rfl⟩:=Int.eq_ofNat_of_zero_le c;obtain⟨b,rfl⟩:=Int.eq_ofNat_of_zero_le e;have:=Yg a b aa aa;have h:a^^^b<2^63:=Nat.xor_lt_two_pow aa aa;rw[this];omega
def bC.take{B:Nat}{A:Option aic}(h:bC w B A xs)(k:Nat):bC w B A (xs.take k):=λa=>by simp only[List.length_take] at a;obtain⟨b,o,rfl,c,hc⟩:=h aa;refine⟨b,o,rfl,c,λi hi=>?_⟩;simp only[List.length_take] at hi;rw[hc i aa,List.getElem?_take_of_lt aa]
def pk.take(h:pk xs)(k:Nat):pk (xs.take k):=λi=>by
 rw[List.getElem?_take];split
 ·exact h i
 ·simp
def mU(a:rl)(b k:Nat)(v:AS):al [b] a (a.setCell ⟨b,k,ns⟩ v):=(al.refl _ a).set (.inl au) v
def aO(w:rl)(g P:Nat):Prop:=
 ∃A n c xs p,ak w g 67 #[Y A n c,U O p]/\0<=p/\p<=P/\bC w g A xs/\xs.length=n/\n<=2000/\pk xs
section
variable{w w':rl}{g P:Nat}
def aO.lt(h:aO w g P):g<w.heap.size:=by obtain⟨_,_,_,_,_,h,_⟩:=h;exact h.lt
def aO.aq{S:List Nat}(h:aO w g P)(k:al S w w')(a:∀s,s∈S->g<s):aO w' g P:=by obtain⟨A,n,c,xs,p,h1,d,f,i,j⟩:=h;have:=h1.lt;exact⟨A,n,c,xs,p,h1.aq k (λe=>by have:=a _ e;omega),d,f,i.bK (λb o l=>nu k aa λe=>by have:=a _ e;omega),j⟩
def aO.q(h:aO w g P)(hq:Q w w'):aO w' g P:=h.aq (al.dp [] hq) (λ_ e=>by cases e)
def aO.more{P':Nat}(h:aO w g P)(d:P<=P'):aO w g P':=by obtain⟨A,n,c,xs,p,h1,a,e,b⟩:=h;exact⟨A,n,c,xs,p,h1,a,aa,b⟩
end
def adG(A:Option aic){c:Nat}(w:rl)(d:bC w w.heap.size A xs)(f:xs.length=n)(a:pk xs)(hm:n<=maxLen)(hc:n<=c):
  ahR Gz.prog 13 #[Y A n c] w λe w'=>e=dl (d9 (an ⟨w.heap.size,0,ns⟩))/\aO w' w.heap.size 0/\Q w w':=by
 unfold maxLen at hm;have h:=ag d;have i:=ag a;have j:=ag f;clear d a f;by_cases k:2000<n
 ·go_enter Gz.gf func13,ntmps13;go_wp2;go_ret;refine⟨rfl,?_,aU⟩;refine⟨A,2000,c,xs.take 2000,0,?_,aa,aa,?_,?_,aa,i.out.take _⟩
  ·exact ak.new _ _ _
  ·exact(h.out.take _).bK λb o a=>Q.cell aU b o a
  ·rw[List.length_take,j.out];omega
 ·go_enter Gz.gf func13,ntmps13;go_wp2;go_ret;refine⟨rfl,?_,aU⟩;refine⟨A,n,c,xs,0,?_,aa,aa,?_,j.out,aa,i.out⟩
  ·exact ak.new _ _ _
  ·exact h.out.bK λb o a=>Q.cell aU b o a
def aO.next{w':rl}{A:Option aic}{c:Nat}{p:Int}(f:bC w g A xs)(h:xs.length=n)(hm:n<=2000)(d:pk xs)(k:0<=p)(l:p<=P)
  (i:w.grownBy w' (an g))(m:g<w.heap.size)(j:ak w' g 67 #[Y A n c,U O (p+1)]):aO w' g (P+1):=
 ⟨A,n,c,xs,p+1,j,aa,aa,f.bK (λb o d=>iH (a:=⟨b,o,ns⟩) (i.block b aa λe=>by cases e;omega)),h,hm,d⟩
def pick(g P:Nat)(m:Int)(w:rl)(h:aO w g P)(hP:P<=1000000)(hm:1<=m)(K:m<=1000000):
  ahR Gz.prog 33 #[d9 (an ⟨g,0,ns⟩),.int .i64 m] w λe w'=>∃x:Int,e=dl (.int .i64 x)/\0<=x/\x<m/\aO w' g (P+1)/\w.grownBy w' (an g):=by
 obtain⟨A,n,c,xs,p,h1,u,L,k,l,G,f⟩:=h;have M:=h1.lt;have H:=h1.set 1 (.int .i64 (p+1));have d:ak (w.setCell ⟨g,1,ns⟩ (.int .i64 (p+1))) g 67 #[.slice A n c,.int .i64 (p+1)]:=H;have c0:=h1.cell;have f0:=h1.free;have c1:=d.cell;have v:=se (World.grownBy.refl w (an g)) 1 (.int .i64 (p+1));have R:=aO.next k l G f u L v M d;have H1:=ag d;have r:=ag v;clear H d v h1;by_cases N:n=0
 ·subst N;have R:=ag R;clear k l G f;go_enter Gz.gf func33,ntmps33;go_wp2;go_ret;exact⟨0,rfl,aa,aa,R.out,r.out⟩
 ·have S:((n:Int)==0)=Ba:=by rw[beq_eq_false_iff_ne];omega
  by_cases hp:p<n
  ·obtain⟨b,o,rfl,T,hc⟩:=k aa;have t:=hc p.toNat aa;have V:(w.setCell ⟨g,1,ns⟩ (.int .i64 (p+1))).cell? ⟨b,o+p.toNat,ns⟩=_:=(iH (a:=⟨b,o+p.toNat,ns⟩) (r.out.block b aa λe=>by cases e;omega)).trans t;obtain⟨I,s⟩:=f p.toNat;have R:=ag R;have H7:=ag f;have HC:=ag hc;have H5:=ag l;clear k f hc l t;go_enter Gz.gf func33,ntmps33;have y:=pK (xs[p.toNat]?.getD 0) (show m≠0 by omega);have B:=pL (xs[p.toNat]?.getD 0) (show 0<m by omega);go_wp2;go_ret;exact⟨_,rfl,y,B,R.out,r.out⟩
  ·have e1:=pK p (show(n:Int)≠0 by omega);have e2:=pL p (show(0:Int)<n by omega);have e3:=pK (p*7+3) (show(n:Int)≠0 by omega);have e4:=pL (p*7+3) (show(0:Int)<n by omega);have e5:0<=p/(n:Int):=Int.ediv_nonneg u aa;have e6:p/(n:Int)<=p:=Int.ediv_le_self _ u;obtain⟨b,o,rfl,T,hc⟩:=k aa;have j:∀i,i<n->(w.setCell ⟨g,1,ns⟩ (.int .i64 (p+1))).cell? ⟨b,o+i,ns⟩=an (.int .u8 (xs[i]?.getD 0)):=λi hi=>(iH (a:=⟨b,o+i,ns⟩) (r.out.block b aa λe=>by cases e;omega)).trans (hc i aa);have t:=j (p%(n:Int)).toNat aa;have I:=j ((p*7+3)%(n:Int)).toNat aa;obtain⟨s,C⟩:=f (p%(n:Int)).toNat;obtain⟨D,E⟩:=f ((p*7+3)%(n:Int)).toNat;generalize hA:xs[(p%(n:Int)).toNat]?.getD 0=X at t s C;generalize F:xs[((p*7+3)%(n:Int)).toNat]?.getD 0=Y at I D E;have R:=ag R;have a1:EV.wrap (p*7)=p*7:=aD _ ⟨aa,aa⟩;have a2:EV.wrap (p*7+3)=p*7+3:=aD _ ⟨aa,aa⟩;have a3:EV.wrap (X*131)=X*131:=aD _ ⟨aa,aa⟩;have a4:EV.wrap (Y*1117)=Y*1117:=aD _ ⟨aa,aa⟩;have a5:EV.wrap (X*131+Y*1117)=X*131+Y*1117:=aD _ ⟨aa,aa⟩;have a6:EV.wrap (p*29)=p*29:=aD _ ⟨aa,aa⟩;have a7:EV.wrap (X*131+Y*1117+p*29)=X*131+Y*1117+p*29:=aD _ ⟨aa,aa⟩;have a8:EV.wrap (p/(n:Int)*53)=p/(n:Int)*53:=aD _ ⟨aa,aa⟩;have a9:EV.wrap (X*131+Y*1117+p*29+p/(n:Int)*53)=X*131+Y*1117+p*29+p/(n:Int)*53:=aD _ ⟨aa,aa⟩;have z:0<=X*131+Y*1117+p*29+p/(n:Int)*53:=aa;have J:X*131+Y*1117+p*29+p/(n:Int)*53<=9223372036854775807:=aa;clear k f hc l j hA F;go_enter Gz.gf func33,ntmps33;go_wp2
   go_quiet(fail)
   clear a1 a2 a3 a4 a5 a6 a7 a8 a9;generalize X*131+Y*1117+p*29+p/(n:Int)*53=Z at z J⊢;obtain⟨x1,x2⟩:=aap (Z/64) z J aa aa;have y:=pK (bits .xor .i64 Z (Z/64)) (show m≠0 by omega);have B:=pL (bits .xor .i64 Z (Z/64)) (show 0<m by omega);go_wp2;go_ret;exact⟨_,rfl,y,B,R.out.q ((Q.refl _).drewN _),za r.out _⟩
def dY(m:Int)(h:aO w g P)(b:P<=1000000)(hm:1<=m)(a:m<=1000000):
  ahR Gz.prog 33 #[d9 (an ⟨g,0,ns⟩),U O m] w λe w'=>∃x:Int,e=dl (U O x)/\(0<=x/\x<m)/\aO w' g (P+1)/\al [g] w w':=
 (pick g P m w h b hm a).mono λ_ _⟨x,e,h1,c,d,f⟩=>⟨x,e,⟨h1,c⟩,d,al.bA f⟩
def VQ{m:Int}(h:aO w g P)(b:P<=1000000)(hm:1<=m)(a:m<=1000000):
  ahR Gz.prog 34 #[d9 (an ⟨g,0,ns⟩),U O m] w λe w'=>∃t:Bool,e=dl (ci t)/\aO w' g (P+1)/\w.grownBy w' (an g):=by
 go_enter Gz.gf func34,ntmps34;go_wp2;refine(pick _ _ _ _ h b hm a).mono ?_;rintro e w'⟨x,rfl,i,c,d,f⟩;go_wp2;go_ret;exact⟨_,rfl,d,f⟩
def TW{m:Int}(h:aO w g P)(b:P<=1000000)(hm:1<=m)(a:m<=1000000):
  ahR Gz.prog 34 #[d9 (an ⟨g,0,ns⟩),U O m] w λe w'=>∃t:Bool,e=dl (ci t)/\aO w' g (P+1)/\al [g] w w':=
 (VQ h b hm a).mono λ_ _⟨x,e,c,d⟩=>⟨x,e,c,al.bA d⟩
def wR:ahR Gz.prog 34 #[d9 (an ⟨g,0,ns⟩),U O 0] w λe w'=>e=dl (ci Ba)/\w=w':=by go_enter Gz.gf func34,ntmps34;go_wp2;go_ret;exact⟨rfl,rfl⟩
end
section
open Go.RowKit Go.WideShapes Go.ChangeShapes
def Qa(h:aO w g P)(f:P<=900000):
  ahR Gz.prog 30 #[d9 (an ⟨g,0,ns⟩)] w λe w'=>∃s:Int,e=dl (U O s)/\(s=8\/s=16\/s=24)/\aO w' g (P+1)/\al [g] w w':=by
 have i:=h.lt;have j:(w.alloc (ap #[U O 1,U O 1,U O 2,U O 2,U O 3] 3)).heap.size=w.heap.size+1:=au;go_enter Gz.gf func30,ntmps30;go_wp2;refine(dY _ (h.q ((Q.refl _).alloc _)) aa aa aa).mono ?_;rintro e b⟨x,rfl,⟨k,l⟩,c,a⟩;have m:=((ak.new w 3 #[U O 1,U O 1,U O 2,U O 2,U O 3]).aq a av).cell;have d:al [g] w b:=((al.refl [g] w).alloc _).trans a;clear h a;rcases(by omega:x=0\/x=1\/x=2\/x=3\/x=4) with rfl|rfl|rfl|rfl|rfl
 all_goals
  go_wp2;go_ret;exact⟨_,rfl,aa,c,d⟩
def agQ(h:aO w g P)(o:P<=900000):
  ahR Gz.prog 57 #[d9 (an ⟨g,0,ns⟩),U O 0] w λe w'=>∃q:Int,e=dl (U O q)/\aO w' g (P+3)/\al [g] w w':=by
 have p:=h.lt;go_enter Gz.gf func57,ntmps57;go_wp2;refine(wR).mono ?_;rintro e _⟨rfl,rfl⟩;go_wp2;refine(dY _ h aa aa aa).mono ?_;rintro e r⟨x,rfl,_,c,d⟩;go_wp2;refine(dY _ c aa aa aa).mono ?_;rintro e w3⟨y,rfl,_,a,f⟩;have i:al [g] w w3:=d.trans f;clear h d c f;have j:=a.lt;go_wp2;refine(dY _ (a.q ((Q.refl _).alloc _)) aa aa aa).mono ?_;rintro e k⟨z,rfl,⟨s,t⟩,l,b⟩;have u:=((ak.new w3 3 #[U O x,U O y]).aq b av).cell;have m:al [g] w k:=(i.alloc _).trans b;clear b i a;rcases(by omega:z=0\/z=1) with rfl|rfl
 all_goals
  go_wp2;go_ret;exact⟨_,rfl,l,m⟩
end
section
open Go.RowKit Go.WideShapes Go.ChangeShapes
structure BS(g:Nat)(w wr:rl)(P:Nat):Prop where
 bb:∃xs,Bl wr (w.heap.size+1) xs
 bz:Bl wr w.heap.size (so 16 0)
 rd:aO wr g P
 ex:al [g] w wr
 hg:g<w.heap.size
section
variable{g P P':Nat}{w wr w':rl}
def BS.aq(h:BS g w wr P)(k:al [g] wr w')(r:aO w' g P'):BS g w w' P':=by obtain⟨xs,a⟩:=h.bb;have:=h.hg;exact⟨⟨xs,a.blk.aq k av,a.len⟩,⟨h.bz.blk.aq k av,h.bz.len⟩,r,h.ex.trans k,h.hg⟩
def BS.q(h:BS g w wr P)(q:Q wr w'):BS g w w' P:=h.aq (al.dp _ q) (h.rd.q q)
def BS.more(h:BS g w wr P)(a:P<=P'):BS g w wr P':=⟨h.bb,h.bz,h.rd.more a,h.ex,h.hg⟩
def BS.set(h:BS g w wr P)(j:Nat)(y:Int):BS g w (wr.setCell ⟨w.heap.size+1,j,ns⟩ (U O y)) P:=by obtain⟨xs,a⟩:=h.bb;have:=h.hg;exact⟨⟨_,a.set j y⟩,h.bz.aL yp _,h.rd.aq (S:=[w.heap.size+1]) (al.set (al.refl _ _) (.inl au) _) av,h.ex.set (.inr yq) _,h.hg⟩
def BS.at(h:BS g w wr P)(j:Nat)(b:j<16):(∃z,wr.cell? ⟨w.heap.size+1,j,ns⟩=an (U O z))/\wr.frozen? ⟨w.heap.size+1,j,ns⟩=Ba:=by obtain⟨xs,a⟩:=h.bb;exact⟨⟨_,a.at j b⟩,a.free j⟩
def BS.lt(h:BS g w wr P):w.heap.size+1<wr.heap.size:=by obtain⟨xs,a⟩:=h.bb;exact a.lt
end
def abZ{M:Int}(h:aO w g P)(H:P<=900000)(I:1<=M/\M<=5000):
  ahR Gz.prog 138 #[d9 (an ⟨g,0,ns⟩),U O M,U O 0] w λe w'=>∃xs:List Int,e=dl (bi (arr xs))/\xs.length=16/\aO w' g (P+60)/\al [g] w w':=by
 have B:=h.lt;have o:=(Bl.zero w);obtain⟨m,hm⟩:∃m:Int,m=min M 60:=⟨_,rfl⟩;have C:1<=m/\m<=60:=aa;go_enter Gz.gf func138,ntmps138;go_wp2;have p:Q w ((w.alloc (ap (arr (so 16 0)) 97)).alloc (ap (arr (so 16 0)) 97)):=((Q.refl w).alloc _).alloc _;have c:=Bl.zero (w.alloc (ap (arr (so 16 0)) 97));rw[NO] at c;have r:Hid (BS g w ((w.alloc (ap (arr (so 16 0)) 97)).alloc (ap (arr (so 16 0)) 97)) P):=⟨⟨_,c⟩,o.q ((Q.refl _).alloc _),h.q p,al.dp _ p,B⟩;clear h p c o;refine(dY 5 r.out.rd aa aa aa).mono ?_;rintro e J⟨f,rfl,⟨_,_⟩,b,a⟩;have s:=ag (r.out.aq a b);clear b a;go_wp2;go_loopw[9] (λi wr=>∃k:Nat,k<=16/\i=U O k/\Hid (BS g w wr (P+1+3*k))) (λi _=>16-(intOf i).toNat)
 case atStart=>exact⟨0,aa,rfl,s.out⟩
 case round=>
  obtain⟨k,K,rfl,K2⟩:=hrel;clear r s;have s2:=K2.out.lt;by_cases aV:k<16
  ·have t:(k:Int)<16:=by omega
   rcases(by omega:f=0\/f=1\/f=2\/f=3\/f=4) with rfl|rfl|rfl|rfl|rfl
   ·go_wp2;refine(dY 7 K2.out.rd aa aa aa).mono ?_;rintro e l⟨x,rfl,⟨_,_⟩,b,a⟩;have K3:=ag (K2.out.aq a b);clear b a;exact L4
   ·go_wp2;refine(dY 256 K2.out.rd aa aa aa).mono ?_;rintro e l⟨x,rfl,⟨_,_⟩,b,a⟩;have K3:=ag (K2.out.aq a b);clear b a;go_wp2;refine(dY 256 K3.out.rd aa aa aa).mono ?_;rintro e D⟨y,rfl,⟨_,_⟩,b,a⟩;have K4:=ag (K3.out.aq a b);clear b a;clear K2 K3;obtain⟨d,hd⟩:∃d,(x*256+y).tmod (2*M+1)=d:=⟨_,rfl⟩;have E:0<=d/\d<2*M+1:=by rw[<-hd,Int.tmod_eq_emod_of_nonneg (by omega)];exact⟨pK _ (by omega),pL _ (by omega)⟩
    exact yT
   ·go_wp2;have u:=ak.new wr 3 #[U O M,U O (-M),U O 0];have K3:=ag (K2.out.q ((Q.refl wr).alloc (ap #[U O M,U O (-M),U O 0] 3)));have:=K2.out.hg;refine(dY 3 K3.out.rd aa aa aa).mono ?_;rintro e l⟨x,rfl,⟨_,_⟩,b,a⟩;have L:=(u.aq a av).cell;have K4:=ag (K3.out.aq a b);clear b a K2 K3 u;rcases(by omega:x=0\/x=1\/x=2) with rfl|rfl|rfl
    ·exact yT
    ·exact yT
    ·exact yT
   ·go_wp2;refine(dY 3 K2.out.rd aa aa aa).mono ?_;rintro e l⟨x,rfl,⟨_,_⟩,b,a⟩;have K3:=ag (K2.out.aq a b);clear b a;exact L4
   ·go_wp2;refine(dY 4 K2.out.rd aa aa aa).mono ?_;rintro e l⟨x,rfl,⟨_,_⟩,b,a⟩;have K3:=ag (K2.out.aq a b);clear b a;clear K2;by_cases z:x=0
    ·subst z;go_wp2
     all_goals
      refine(dY _ K3.out.rd aa aa aa).mono ?_;rintro e D⟨y,rfl,⟨_,_⟩,b,a⟩;have K4:=ag (K3.out.aq a b);clear b a;obtain⟨⟨N,R⟩,f9⟩:=K4.out.at k aV;go_wp2;go_roundw;(case rel=>exact⟨k+1,aa,aJ,(K4.out.set k _).more aa⟩);(case measure=>simp[intOf];omega)
    ·have F:((x:Int)==0)=Ba:=by rw[beq_eq_false_iff_ne];exact z
     go_wp2;go_roundw;case rel=>exact⟨k+1,aa,aJ,K3.out.more aa⟩
     case measure=>exact bj
  ·go_wp2;refine(wR).mono ?_;rintro e _⟨rfl,rfl⟩;obtain⟨xs,c⟩:=K2.out.bb;have o:=K2.out.bz;have j:=c.len;go_wp2_with(first|(first|refine eY rfl rfl rfl aE ?_|refine eU aC rfl rfl aE ?_)|(refine iG rfl _ _ rfl _ rfl _ _ rfl dn aE ?_;intro S G A T));have V:=K2.out.hg;refine ahX (v:=bi (arr _)) (aiO aC _ _ _ _ _ _ _ aC (Bl.blk G) (Gz.gu underlying97) rfl (by rw[bP,j];exact lD)) rfl ⟨_,rfl,j,(K2.out.rd.aq (al.bA A) av).more aa,K2.out.ex.grown A (.inr (ay _))⟩
end
section
open Go.RowKit Go.WideShapes Go.ChangeShapes
def nk:(Gz.prog.info? 95).map (·.size)=an 2:=aj
def aaq(h:aO w g P)(hP:P<=900000):
  ahR Gz.prog 137 #[d9 (an ⟨g,0,ns⟩),U O 0] w λe w'=>∃v:List Int,e=dl (bi (arr v))/\v.length=2/\aO w' g (P+5)/\al [g] w w':=by
 have hl:=h.lt;have B:=Nb.new 95 2 w [0,0] rfl;have h0:=h.q ((Q.refl w).alloc (ap (arr [0,0]) 95));have s0:=NO w (ap (arr [0,0]) 95);have C:al [g] w (w.alloc (ap (arr [0,0]) 95)):=(al.refl _ _).alloc _;clear h;go_enter Gz.gf func137,ntmps137;go_wp2;refine(dY _ h0 aa aa aa).mono ?_;rintro e S⟨x,rfl,⟨T,V⟩,c,a⟩;go_wp2;refine(dY _ c aa aa aa).mono ?_;rintro e w3⟨y,rfl,⟨X,Z⟩,D,o⟩;have p:=(B.aq a av).aq o av;have E:al [g] w w3:=(C.trans a).trans o;have s3:w.heap.size<w3.heap.size:=p.lt;clear a o B C h0 c;have bn:=Nb.new 95 2 w3 [0,0] rfl;go_wp2_with(refine cP (n:=2) rfl _ _ _ rfl _ rfl _ [x-6,y-6] rfl aE rfl nk ?_;intro F r G s5);have i:Q w3 F:=((Q.refl w3).alloc _).grown G (λk e=>by have:=aH e;omega);have H:=p.q i;have I:=E.q i;have J:=D.q i;have s6:w3.heap.size<F.heap.size:=r.lt;clear p E D i G s5 bn;refine(dY _ J aa aa aa).mono ?_;rintro e w7⟨z,rfl,⟨z1,z2⟩,s,j⟩;have K:=r.aq j av;have L:=H.aq j av;have t:=I.trans j;clear r H I J j;by_cases M:z=0
 ·subst M;go_wp2;refine(dY _ s aa aa aa).mono ?_;rintro e S⟨x,rfl,⟨T,V⟩,c,a⟩;go_wp2;refine(dY _ c aa aa aa).mono ?_;rintro e w4⟨y,rfl,⟨X,Z⟩,N,l⟩;have b9:=(K.aq a av).aq l av;have d:=(L.aq a av).aq l av;have R:al [g] w w4:=(t.trans a).trans l;clear K L t a l c s;go_wp2_with(refine cP (n:=2) rfl _ _ _ rfl _ rfl _ [x-16,y-16] rfl aE rfl nk ?_;intro wa ba m sa);have b11:=d.grown m (λe=>by have:=aH e;omega);have u:=R.grown m (.inr aa);have A:=N.aq (al.bA m) av;clear b9 d R m N;refine(wR).mono ?_;rintro e _⟨rfl,rfl⟩;go_wp2_with(first|(refine ew (n:=2) rfl _ _ rfl _ rfl _ aE _ (Gz.gu underlying95) rfl nk ?_)|(refine cP (n:=2) rfl _ _ _ rfl _ rfl _ _ rfl aE rfl nk ?_;intro wb b f sb));refine ahX (aiO aC _ _ _ _ _ _ _ aC b.blk (Gz.gu underlying95) rfl (by rw[bP,b.len];exact nk)) rfl ?_;exact⟨_,rfl,b.len,(A.aq (al.bA f) av).more aa,u.grown f (.inr aa)⟩
 ·have hz':((z:Int)==0)=Ba:=by rw[beq_eq_false_iff_ne];exact M
  go_wp2;refine(wR).mono ?_;rintro e _⟨rfl,rfl⟩;go_wp2_with(first|(refine ew (n:=2) rfl _ _ rfl _ rfl _ aE _ (Gz.gu underlying95) rfl nk ?_)|(refine cP (n:=2) rfl _ _ _ rfl _ rfl _ _ rfl aE rfl nk ?_;intro wb b f sb));refine ahX (aiO aC _ _ _ _ _ _ _ aC b.blk (Gz.gu underlying95) rfl (by rw[bP,b.len];exact nk)) rfl ?_;exact⟨_,rfl,b.len,(s.aq (al.bA f) av).more aa,t.grown f (.inr aa)⟩
end
section
open Go.RowKit Go.WideShapes Go.ChangeShapes
def zm:List Int:=so 71 0
structure MS(g bm P:Nat)(w wr:rl):Prop where
 ma:∃m,Nb 100 71 wr bm m
 mr:∃m,Nb 100 71 wr w.heap.size m
 rd:aO wr g P
 ex:al [g] w wr
 lt:g<w.heap.size/\w.heap.size<bm
section
variable{g bm P P':Nat}{w wr w':rl}
def MS.aq(h:MS g bm P w wr)(k:al [g] wr w')(r:aO w' g P'):MS g bm P' w w':=by obtain⟨x,a⟩:=h.ma;obtain⟨y,b⟩:=h.mr;have:=h.lt;exact⟨⟨x,a.aq k av⟩,⟨y,b.aq k av⟩,r,h.ex.trans k,h.lt⟩
def MS.q(h:MS g bm P w wr)(q:Q wr w'):MS g bm P w w':=h.aq (al.dp _ q) (h.rd.q q)
def MS.more(h:MS g bm P w wr)(a:P<=P'):MS g bm P' w wr:=⟨h.ma,h.mr,h.rd.more a,h.ex,h.lt⟩
def MS.put(h:MS g bm P w wr){m:List Int}(b:Nb 100 71 w' bm m)(k:wr.grownBy w' (an bm)):MS g bm P w w':=by obtain⟨y,a⟩:=h.mr;have:=h.lt;exact⟨⟨m,b⟩,⟨y,a.aq (al.bA k) av⟩,h.rd.aq (al.bA k) av,h.ex.grown k (.inr aa),h.lt⟩
def MS.set(h:MS g bm P w wr)(j:Nat)(y:Int):MS g bm P w (wr.setCell ⟨bm,j,ns⟩ (U O y)):=by obtain⟨x,a⟩:=h.ma;exact h.put (a.set j y) (se (World.grownBy.refl wr (an bm)) j _)
def MS.size(h:MS g bm P w wr):bm<wr.heap.size:=by obtain⟨x,a⟩:=h.ma;exact a.lt
def MS.at(h:MS g bm P w wr)(j:Nat)(b:j<71):(∃z,wr.cell? ⟨bm,j,ns⟩=an (U O z))/\wr.frozen? ⟨bm,j,ns⟩=Ba:=by obtain⟨x,a⟩:=h.ma;exact⟨⟨_,a.at j b⟩,a.free j⟩
end
def ab0{I:Bool}(h:aO w g P)(hP:P<=800000):
  ahR Gz.prog 96 #[d9 (an ⟨g,0,ns⟩),ci I,U O 0] w λe w'=>∃m:List Int,e=dl (bi (arr m))/\m.length=71/\aO w' g (P+300)/\al [g] w w':=by
 have hl:=h.lt;have T:=Nb.new 100 71 w zm rfl;have h0:=h.q ((Q.refl w).alloc (ap (arr zm) 100));have V:al [g] w (w.alloc (ap (arr zm) 100)):=(al.refl _ _).alloc _;clear h;go_enter Gz.gf func96,ntmps96;go_wp2;refine(dY _ h0 aa aa aa).mono ?_;rintro e u⟨x,rfl,⟨x1,x2⟩,X,K⟩;have L:=T.aq K av;have Z:=V.trans K;have s2:=L.lt;have bn:=Nb.new 100 71 u zm rfl;clear T V h0 K
 go_upto_if 12 with(refine cP (n:=71) rfl _ _ _ rfl _ rfl _ (x::so 70 0) rfl aE rfl e8 ?_;intro w5 b5 g5 s5;have H:Q u w5:=((Q.refl u).alloc _).grown g5 (λk e=>by have:=aH e;omega);have A:Hid (MS g u.heap.size (P+1) w w5):=⟨⟨_,b5⟩,⟨_,L.q H⟩,X.q H,Z.q H,hl,s2⟩;clear H b5 L X Z g5 s5 bn)
 obtain⟨bm,B⟩:∃z,u.heap.size=z:=⟨_,rfl⟩;rw[B] at A⊢;clear B s2;go_cut[] from 12 (λC=>Hid (MS g bm (P+1) w C))
 case first=>
  obtain⟨⟨f,c0⟩,f0⟩:=A.out.at 0 aa;cases I with
  |true=>go_wp2;go_meet;exact A.out.set 0 _
  |false=>go_wp2;go_meet;exact A.out
 case rest=>
 clear A;have o:=hcut;clear hcut;obtain⟨⟨f,c0⟩,f0⟩:=o.out.at 0 aa;have sl:=o.out.lt
 go_upto_if 16 with fail
 go_cut[] from 12 (λC=>Hid (MS g bm (P+6) w C))
 case first=>
  by_cases j:f=1
  ·subst j;go_wp2;refine(aaq o.out.rd aa).mono ?_;rintro e w7⟨v,rfl,M,r7,k7⟩;have D:=ag (o.out.aq k7 r7);obtain⟨N,J⟩:=D.out.ma;clear k7 r7 o c0 f0;go_wp2_with(refine rU (n:=71) rfl _ _ _ rfl _ 1 rfl _ v rfl aE aa (by rw[M];exact nk) ?_;intro w8 E R s8);go_meet;exact(D.out.put E R).more aa
  ·have F:((f:Int)==1)=Ba:=by rw[beq_eq_false_iff_ne];exact j
   go_wp2;go_meet;exact o.out.more aa
 case rest=>
 clear o c0 f0;have D:=hcut;clear hcut;go_wp2;go_loopw[8] (λi wr=>∃k:Nat,k<=4/\i=U O k/\Hid (MS g bm (P+6+65*k) w wr)) (λi _=>4-(intOf i).toNat)
 case atStart=>exact⟨0,aa,rfl,D.out⟩
 case round=>
  obtain⟨k,hk,rfl,b⟩:=hrel;clear D;by_cases aV:k<4
  ·have PB:(k:Int)<4:=by omega
   obtain⟨⟨f,c0⟩,f0⟩:=b.out.at 0 aa
   go_upto_if 26 with fail
   go_cut[] from 20 to 49 (λC=>Hid (MS g bm (P+7+65*k) w C))
   case first=>
    by_cases j:f=2
    ·subst j;go_wp2;refine(dY 5 b.out.rd aa aa aa).mono ?_;rintro e S⟨y,rfl,⟨_,_⟩,c,a⟩;have l:=ag (b.out.aq a c);clear c a;obtain⟨⟨z1,c1⟩,f1⟩:=l.out.at (3+k) aa;clear b c0 f0;go_wp2;go_meet;exact(l.out.set _ _).more aa
    ·have F:((f:Int)==2)=Ba:=by rw[beq_eq_false_iff_ne];exact j
     go_wp2;go_meet;exact b.out.more aa
   case rest=>
   clear b c0 f0;have l:=hcut;clear hcut;obtain⟨⟨f,c0⟩,f0⟩:=l.out.at 0 aa;by_cases j:f=0
   ·subst j;go_wp2;go_roundw;case rel=>exact⟨k+1,aa,aJ,l.out.more aa⟩
    case measure=>exact bj
   ·have F:((f:Int) !=0)=AT:=by rw[bne_iff_ne];exact j
    go_wp2;refine(dY 3 l.out.rd aa aa aa).mono ?_;rintro e S⟨y,rfl,⟨_,_⟩,c,a⟩;have d:=ag (l.out.aq a c);clear c a;clear l c0 f0;rcases(by omega:y=0\/0<y) with rfl|hy
    ·go_wp2;go_roundw;case rel=>exact⟨k+1,aa,aJ,d.out.more aa⟩
     case measure=>exact bj
    ·go_wp2;have bl:=ak.new S 3 #[U O 3,U O 40,U O 4080];have p:=ag (d.out.q ((Q.refl S).alloc (ap #[U O 3,U O 40,U O 4080] 3)));have sl:=d.out.lt;have sz:=d.out.size;refine(dY 3 p.out.rd aa aa aa).mono ?_;rintro e wb⟨t,rfl,⟨_,_⟩,c,a⟩;have l2:=(bl.aq a av).cell;have r:=ag (p.out.aq a c);clear c a d p bl;rcases(by omega:t=0\/t=1\/t=2) with rfl|rfl|rfl
     all_goals
      go_wp2;refine(abZ r.out.rd aa aa).mono ?_;rintro e wd⟨v,rfl,M,c,a⟩;have G:=ag (r.out.aq a c);obtain⟨N,J⟩:=G.out.ma;clear c a r l2;go_wp2_with(refine rU (n:=71) rfl _ _ _ rfl _ _ rfl _ v rfl aE aa (by rw[M];exact lD) ?_;intro w8 E R s8);go_roundw;case rel=>exact⟨k+1,aa,aJ,(G.out.put E R).more aa⟩
      case measure=>exact bj
  ·obtain rfl:k=4:=by omega
   go_wp2;refine(wR).mono ?_;rintro e _⟨rfl,rfl⟩;obtain⟨N,J⟩:=b.out.ma;obtain⟨m8,E⟩:=b.out.mr;have s:=J.len;go_wp2_with(first|(refine ew (n:=71) rfl _ _ rfl _ rfl _ J _ (Gz.gu underlying100) rfl e8 ?_)|(refine cP (n:=71) rfl _ _ _ rfl _ rfl _ N rfl E s e8 ?_;intro w9 b9 g9 s9));have sl:=b.out.lt;refine ahX (aiO aC _ _ _ _ _ _ _ aC b9.blk (Gz.gu underlying100) rfl (by rw[bP,s];exact e8)) rfl ?_;exact⟨_,rfl,s,(b.out.rd.aq (al.bA g9) av).more aa,b.out.ex.grown g9 (.inr (ay _))⟩
end
section
open Go.RowKit Go.WideShapes Go.ChangeShapes
def aO.iL{w':rl}{row:Option Nat}(h:aO w g P)(k:w.grownBy w' row)(hr:∀b,row=an b->g<b):aO w' g P:=
 h.aq (S:=row.toList) ⟨k.os,k.tape,k.output,k.size,λi hi a=>k.block i hi λe=>a (by simp[<-e])⟩ (λs c=>hr s (by simpa using c))
def aar(n:Nat){I:Bool}(h:aO w g P)(J:P<=700000)(K:n<=4):
  ahR Gz.prog 59 #[d9 (an ⟨g,0,ns⟩),U O n,ci I] w λe w'=>∃v xs,e=dl v/\az 100 71 w' w.heap.size v n xs/\aO w' g (P+300*n)/\al [g] w w':=by
 have L:=h.lt;have l:Q w (w.alloc (ap #[] 100)):=(Q.refl _).alloc _;have s:=az.jb 100 71 w w.heap.size (ay _);have h0:=h.q l;clear h;go_enter Gz.gf func59,ntmps59;go_wp2;go_loopw[7,8] (λv i wr=>∃(k:Nat)(xs:List Int),k<=n/\i=U O k/\Hid (az 100 71 wr w.heap.size v k xs/\aO wr g (P+300*k)/\al [g] w wr)) (λ_ i _=>n-(intOf i).toNat)
 case atStart=>exact⟨0,[],aa,rfl,s,h0,al.dp _ l⟩
 case round=>
  obtain⟨k,xs,M,rfl,hK⟩:=hrel;obtain⟨m,o,d⟩:=hK.out;clear hK s h0 l;by_cases z:k<n
  ·have A:(k:Int)<(n:Int):=by omega
   have B:=d.size;go_wp2;refine(ab0 o aa).mono ?_;rintro e C⟨a,rfl,p,D,r⟩;have t:=m.aq r (λx E=>by simp at E;omega);have u:=d.trans r;have F:=u.size;have c:(arr a).size=71:=by rw[bP,p]
   clear m o d r;go_wp2_with(first|(refine yz rfl rfl (Gz.gu underlying68) (arr a) rfl (by rw[c];exact e8) aj aa aa ?_)|(at_builtin;refine uP rfl rfl (Gz.gu underlying68) zt aj aw aw rfl (t.alloc _) ⟨_,0,ns⟩ a 1 rfl aa aa av (λj G=>iK _ a _ j G) ?_;intro N w' H y));have f:∀b,u7.ownBlock=an b->w.heap.size<=b:=λb f=>t.below b f;go_roundw
   case rel=>exact⟨k+1,xs++a,aa,aJ,H,((D.q ((Q.refl C).alloc _)).iL y λb h=>by have:=f b h;omega).more aa,(u.alloc _).iL y λb h=>.inr (f b h)⟩
   case measure=>exact bj
  ·obtain rfl:k=n:=by omega
   go_wp2;go_ret;exact⟨_,_,rfl,m,o,d⟩
end
section
open Go.RowKit Go.WideShapes Go.ChangeShapes
def Ai{x:Int}(j:Nat)(a:j<[x].length):(w.alloc (ap #[.int .u8 x] 5)).cell? ((⟨w.heap.size,0,ns⟩:aic).add j)=an (.int .u8 ([x][j]?.getD 0)):=by
 obtain rfl:j=0:=by simp at a;omega
 exact(ak.new w 5 #[.int .u8 x]).cell 0
def ab1(h:aO w g P)(hP:P<=800000):
  ahR Gz.prog 60 #[d9 (an ⟨g,0,ns⟩),U O 9] w λe w'=>∃v xs,e=dl v/\aK w' w.heap.size v xs.length xs/\xs.length<=9/\bytes xs/\aO w' g (P+60)/\al [g] w w':=by
 have hl:=h.lt;have B:Q w (w.alloc (ap #[] 5)):=(Q.refl _).alloc _;have I:=aK.jb w w.heap.size (ay _);have h0:=h.q B;have J:al [g] w (w.alloc (ap #[] 5)):=al.dp _ B;clear h;go_enter Gz.gf func60,ntmps60;go_wp2;refine(dY _ h0 aa aa aa).mono ?_;rintro e V⟨x,rfl,⟨X,Z⟩,K,c⟩
 have L:aK V w.heap.size (Y (an ⟨w.heap.size,0,ns⟩) 0 0) 0 []:=by refine I.other (row:=an g) ⟨c.os,c.tape,c.output,c.size,λi hi C=>c.block i hi λe=>C (by simp at e;rw[e])⟩ (.inr ?_);intro e;have e:w.heap.size=g:=aH e;omega
 have M:=J.trans c;obtain⟨m,rfl⟩:∃m:Nat,x=(m:Int):=⟨x.toNat,aa⟩;clear I J h0 c B;go_wp2;go_loopw[5,6] (λv i wr=>∃(k:Nat)(xs:List Int),xs.length+k<=9/\i=U O k/\Hid (aK wr w.heap.size v xs.length xs/\aO wr g (P+1+3*(9-k))/\al [g] w wr/\bytes xs)) (λ_ i _=>(intOf i).toNat)
 case atStart=>exact⟨m,[],by simp;omega,rfl,L,K.more aa,M,by simp[bytes]⟩
 case round=>
  obtain⟨k,xs,hk,rfl,hK⟩:=hrel;obtain⟨r,c,D,o⟩:=hK.out;clear hK L K M;by_cases aV:0<k
  ·have hk0:(0:Int)<(k:Int):=by omega
   go_wp2;refine(dY 256 c aa aa aa).mono ?_;rintro e wa⟨x,rfl,⟨X,Z⟩,N,E⟩;go_wp2;refine(dY 256 N aa aa aa).mono ?_;rintro e s⟨y,rfl,⟨y1,y2⟩,F,G⟩;have R:=(D.trans E).trans G;have S:=E.trans G;go_wp2;have T:=ak.new s 3 #[U O 0,U O 255,U O x,U O y];have u:Q s (s.alloc (ap #[U O 0,U O 255,U O x,U O y] 3)):=(Q.refl s).alloc _;have hg:=F.lt;refine(dY 4 (F.q u) aa aa aa).mono ?_;rintro e wc⟨t,rfl,⟨t1,t2⟩,z,A⟩;have l2:=(T.aq A av).cell;have p:=(R.q u).trans A;have l:=(S.q u).trans A
   have f:aK wc w.heap.size u5 xs.length xs:=by
    refine r.other (row:=an g) ⟨l.os,l.tape,l.output,l.size,λi hi C=>l.block i hi λe=>C (by simp at e;rw[e])⟩ ?_;cases hv:u5.ownBlock with
    |none=>exact .inl rfl
    |some b=>refine .inr λe=>?_;have e:b=g:=aH e;have:=(r.2.lt b hv).1;omega
   have BN:=p.size;clear r c D E G R S T u N F A l;rcases(by omega:t=0\/t=1\/t=2\/t=3) with rfl|rfl|rfl|rfl
   ·go_wp2_with(at_builtin;refine uQ rfl rfl (Gz.gu underlying22) rfl (f.alloc _) ⟨_,0,ns⟩ [0] 1 rfl rfl aa av Ai ?_;intro H w' j d);have a:∀b,u5.ownBlock=an b->w.heap.size<=b:=λb a=>(f.2.lt b a).1;go_roundw;(case rel=>exact⟨k-1,xs++[0],by simp;omega,aJ,by rw[ahc];exact j,((z.q ((Q.refl wc).alloc _)).iL d λb h=>by have:=a b h;omega).more aa,(p.alloc _).iL d λb h=>.inr (a b h),si o aa aa⟩);(case measure=>simp[intOf];omega)
   ·go_wp2_with(at_builtin;refine uQ rfl rfl (Gz.gu underlying22) rfl (f.alloc _) ⟨_,0,ns⟩ [255] 1 rfl rfl aa av Ai ?_;intro H w' j d);have a:∀b,u5.ownBlock=an b->w.heap.size<=b:=λb a=>(f.2.lt b a).1;go_roundw;(case rel=>exact⟨k-1,xs++[255],by simp;omega,aJ,by rw[ahc];exact j,((z.q ((Q.refl wc).alloc _)).iL d λb h=>by have:=a b h;omega).more aa,(p.alloc _).iL d λb h=>.inr (a b h),si o aa aa⟩);(case measure=>simp[intOf];omega)
   ·go_wp2_with(at_builtin;refine uQ rfl rfl (Gz.gu underlying22) rfl (f.alloc _) ⟨_,0,ns⟩ [x] 1 rfl rfl aa av Ai ?_;intro H w' j d);have a:∀b,u5.ownBlock=an b->w.heap.size<=b:=λb a=>(f.2.lt b a).1;go_roundw;(case rel=>exact⟨k-1,xs++[x],by simp;omega,aJ,by rw[ahc];exact j,((z.q ((Q.refl wc).alloc _)).iL d λb h=>by have:=a b h;omega).more aa,(p.alloc _).iL d λb h=>.inr (a b h),si o aa aa⟩);(case measure=>simp[intOf];omega)
   ·go_wp2_with(at_builtin;refine uQ rfl rfl (Gz.gu underlying22) rfl (f.alloc _) ⟨_,0,ns⟩ [y] 1 rfl rfl aa av Ai ?_;intro H w' j d);have a:∀b,u5.ownBlock=an b->w.heap.size<=b:=λb a=>(f.2.lt b a).1;go_roundw;(case rel=>exact⟨k-1,xs++[y],by simp;omega,aJ,by rw[ahc];exact j,((z.q ((Q.refl wc).alloc _)).iL d λb h=>by have:=a b h;omega).more aa,(p.alloc _).iL d λb h=>.inr (a b h),si o aa aa⟩);(case measure=>simp[intOf];omega)
  ·obtain rfl:k=0:=by omega
   go_wp2;go_ret;exact⟨_,_,rfl,r,aa,o,c.more aa,D⟩
end
end Go.Proofs.Q0
