import Derived.Test.YtfmnlpedhgficaaGreatDoorK28
import Derived.Test.YtfmnlpedhgficaaGreatDoorRows
import Derived.KernelRfl
import Derived.ProofKit
import Derived.ChangeOld
import Derived.LaidMore
import Derived.LaidSub
import Derived.OpenVars
import Derived.Stop.Joined
import Derived.Lib.SmallJoins
import Derived.Lib.LaidTab
import Derived.Deep.Slices
import Derived.Stop.LaidErr
import Derived.MakeChecks
set_option maxRecDepth 100000
set_option maxHeartbeats 8000000
set_option linter.all false
open Go.Value renaming int->U,slice->Y,bool->a5,agg->a9,pointer->bi,tuple->ci,iface->em
open Go.IntKind renaming i64->O
open Go.Obj renaming cells->ac
open Go.Ending renaming returned->be
open Go.Proofs.YtfmnlpedhgficaaGreatDoor
open Array renaming getElem?_push->akW,range->alg
open Bool renaming false->Bz,true->AT
open Go renaming Addr->ajF,Calls->aiK,Program->NO,TypeId->TO,Value->so,World->AS
open Go.MakeChecks renaming laidMetH_plain->alC
open Go.Value renaming int->alf,ownBlock->alL,slice->aki
open Int renaming toNat_natCast->ajW
open List renaming cons_append->akf,getElem?_append_left->akV,getElem?_append_right->alK,getElem?_eq_getElem->ajK,getElem?_set_ne->akj,length_append->ajq,length_cons->ajE,replicate->rl,replicate_succ->akg,set_cons_succ->ajJ,set_cons_zero->ajx
open Nat renaming add_mul->alA
open Option renaming none->ns,some->an
namespace Go.Proofs
def L2{p:Prop}(h:p:=by(go_wp2_with(refine eP (cs':=(#[U O 0,U O 0,Y none 0 0]:Array Value)) rfl _ _ _ rfl rfl _ rfl rfl J' rfl fH ah ?_;intro w9 b9 g9 s9);have bc:=b9.cell;exact bodyPost_ret (v:=ci #[a9 (#[U O 0,U O 0,Y none 0 0]:Array Value),a5 false]) (by simp[results,results17,go_sem,bc]) rfl ⟨QZ.out.grown g9 λk e=>rV,λh=>Dc,λ_=>rfl⟩)):p:=h
def yQ{p:Prop}(h:p:=by simp only[Array.size_push];omega):p:=h
abbrev sk:=@List.mem_append_right
abbrev vI:=@Int.eq_ofNat_of_zero_le
def yR{p:Prop}(h:p:=by unfold dQ rM;omega):p:=h
end Go.Proofs
namespace Go.Proofs.Q0
open Go.Proofs.Tryz
variable{w:AS}{ref:List Int}{ls:List (List Int)}{B' B n' n g i s:Nat}{A:Option ajF}{t e:TO}{cs:Array so}{k L W H RW RH:Int}{I:Bool}{u:so}
section
open Go.RowKit Go.WideShapes Go.ChangeShapes
def WX(W H:Int)(I:Bool)(q:Int){R:Option ajF}(c:Nat)(T:Nat)(RW RH:Int)(hx:dH w B A ls)(hB:B<=w.heap.size)(hn:ls.length=n)(hm:n<=9223372036854775807)(Fr:∀i,i<n->bytes (aR ls i))(hT:Tb w)
  (hr:Rd w B' R ref)(E:B'<=w.heap.size)(yo:ref.length=n')(yr:n'<=9223372036854775807):
  aiK Gz.prog 17 #[a9 (#[U O W,U O H,a5 I,U O q,Y A n c]:Array so),a9 (#[U O RW,U O RH,Y R n' T]:Array so)] w λe w'=>Q w w'/\(dv W H I q ls RW RH ref=AT->∃v,e=be (ci #[a9 #[U O W,U O H,v],a5 AT])/\Own w' w.heap.size v (W.toNat*H.toNat) (jy W H I q ls ref))/\(dv W H I q ls RW RH ref=Bz->e=be (ci #[a9 (#[U O 0,U O 0,Y ns 0 0]:Array so),a5 Bz])):=by
 have q0:Q w (((w.alloc (ac (#[U O W,U O H,a5 I,U O q,Y A n c]:Array so) 44)).alloc (ac (#[U O RW,U O RH,Y R n' T]:Array so) 40)).alloc (ac (#[U O 0,U O 0,Y ns 0 0]:Array so) 40)):=aU;have bc:=((ak.new w 44 (#[U O W,U O H,a5 I,U O q,Y A n c]:Array so)).alloc (ac (#[U O RW,U O RH,Y R n' T]:Array so) 40)).alloc (ac (#[U O 0,U O 0,Y ns 0 0]:Array so) 40);have br:=(ak.new (w.alloc (ac (#[U O W,U O H,a5 I,U O q,Y A n c]:Array so) 44)) 40 (#[U O RW,U O RH,Y R n' T]:Array so)).alloc (ac (#[U O 0,U O 0,Y ns 0 0]:Array so) 40);have bz:=ak.new ((w.alloc (ac (#[U O W,U O H,a5 I,U O q,Y A n c]:Array so) 44)).alloc (ac (#[U O RW,U O RH,Y R n' T]:Array so) 40)) 40 (#[U O 0,U O 0,Y ns 0 0]:Array so);simp only[World.size_alloc] at br bz;obtain⟨s,hs⟩:∃s,iK W H q n=s:=⟨_,rfl⟩
 have uk:s=AT->W/8=(((W/8).toNat:Nat):Int)/\(W/8).toNat<=4:=λh=>by rw[h] at hs;obtain⟨⟨w1,w2,w3⟩,_⟩:=oT hs;omega
 have CV:=af (Xw I c hs (hx.q q0 hB) (aI hB q0.size) hn hm Fr uk);have RF:=af λz(V:Q w z)=>abp W H I q (Y A n c) RW RH T (hr.q V E) (aI E V.size) yo yr;have HX:=af hx;have HN:=af hn;have J3:=af yo;have HR:=af hr;have HT:=af hT;have HS:=af hs;have F:=af Fr;have J4:=af uk;clear hx hn hT hr yo hs Fr uk;go_enter Gz.gf func17,ntmps17;go_wp2;refine CV.out.mono ?_;rintro e w1⟨q1,⟨rfl,rfl,X⟩|⟨rfl,rF⟩⟩
 ·have qa:=q0.trans q1;have b1:=br.q q1;have c1:=bc.q q1;have J5:=bz.q q1;have p:=af X;have G:=af (RF.out _ qa);obtain⟨rb,uD⟩:∃z,iY I W H RW RH ref=z:=⟨_,rfl⟩;rw[uD] at G;have r:=af uD;have rc:=b1.cell;have cc:=c1.cell;clear bc br bz q0 q1 X CV RF uD;go_wp2;refine G.out.mono ?_;rintro e w2⟨rfl,q2⟩;have J':=J5.q q2;have QZ:=af (qa.trans q2);cases rb with
  |false=>have HV:Hid (dv W H I q ls RW RH ref=Bz):=QM r.out;clear G r p HS HR HT J3 HN b1 c1 J5 rc cc qa q2;exact L2
  |true=>
   obtain⟨sW,sH,⟨Wo,Wp⟩,yg⟩:=oT HS.out;have J:=(b1.q q2).cell;have M:=(c1.q q2).cell;have f:=(J4.out (by trivial)).1;obtain⟨cnt,hce⟩:∃k,(W/8).toNat=k:=⟨_,rfl⟩;rw[hce] at f
   have x:∀i,i<n->∃L,jv (aR ls i) cnt I=an L/\fj (aR ls i) (W/8) I=an L:=λi hi=>by obtain⟨L,hL⟩:=p.out i hi;rw[hce] at hL;exact⟨L,hL,by rw[f,<-T4 cnt I (F.out i hi)];exact hL⟩
   obtain⟨a,rfl⟩:∃k:Nat,W=(k:Int):=⟨W.toNat,by have:=sW.1;omega⟩;obtain⟨b,rfl⟩:∃k:Nat,H=(k:Int):=⟨H.toNat,by have:=sH.1;omega⟩;obtain⟨o,rfl⟩:∃k:Nat,q=(k:Int):=⟨q.toNat,aa⟩
   have JW:Hid (dv (a:Int) (b:Int) I (o:Int) ls RW RH ref=AT):=PI Dd r.out (λi hi=>by obtain⟨L,_,hL⟩:=x i yJ;exact⟨L,hL⟩)
   have y:=QN (I:=I) (q:=o) (ls:=ls) (ref:=ref) sW sH;have N:=AB (W:=a) (H:=b) (I:=I) (q:=o) (ls:=ls) (ref:=ref);rw[ajW,ajW] at N;have JS:=sW;have JU:=sH;obtain⟨u1,u2,u3⟩:=JS;obtain⟨v1,v2,v3⟩:=JU;have JV:a*b<=1024:=gj (show a<=32 by omega) (show b<=32 by omega)
   have Z:∀i,i<n->iP (a:Int) I ls i=(jv (aR ls i) cnt I).getD []:=λi hi=>by obtain⟨L,h1,h2⟩:=x i hi;unfold iP;rw[h1,h2]
   have d:∀i k,i<n->k<cnt->dt (aO (iP (a:Int) I ls i) k)=AT/\(I=AT->nth (aO (iP (a:Int) I ls i) k) 0=2):=λi k hi hk=>by obtain⟨L,h1,h2⟩:=x i hi;rw[show iP (a:Int) I ls i=L by unfold iP;rw[h2];rfl];rw[f] at h2;exact R5 h2 k hk
   have l:=QZ.out
   have P:=af (λz(V:Q w2 z)=>Zg a b (a*b) n' T B' n c cnt B A R I ls (iP (a:Int) I ls) ref o RW RH z sW sH rfl JV aa aa (aI E (l.trans V).size) (HT.out.q (l.trans V)) (decide_eq_true aa) (HX.out.q (l.trans V) hB) (aI hB (l.trans V).size) HN.out F.out (λi hi=>by
     obtain⟨L,h1,h2⟩:=x i hi;rw[Z i hi,h1];rfl) (λi k hi hk=>(d i k hi hk).1) (HR.out.q (l.trans V) E) (λ⟨i,k,hi,hk,h⟩=>by
    have hI:I=Bz:=by cases hI:I with|false=>rfl|true=>exact absurd ((d i k hi hk).2 hI) h
    obtain⟨r1,r2,r3⟩:=S2 r.out hI;exact⟨r1,r2,J3.out,r3⟩))
   have WC:Hid (jy (a:Int) (b:Int) I (o:Int) ls ref=du (fX o) (fY a b) (lH (a:Int) (b:Int) I (o:Int) ls ref)):=rfl
   have WE:Hid (lH (a:Int) (b:Int) I (o:Int) ls ref=iJ a b ref (iP (a:Int) I ls) o n (rl (a*b) 128)):=by unfold Hid lH;rw[HN.out,ajW,ajW]
   rw[<-WE.out] at P;generalize lH (a:Int) (b:Int) I (o:Int) ls ref=xs at P y N WC;have hz2:=J'.lt;have hzw:=QZ.out.size;have aik:=af y;have xJ:=af N;clear G rc cc Z d x f p HS r b1 c1 J5 qa q2 l hce y N WE;go_wp2;refine fe (λww=>Q w2 ww/\(∀i,ww.cell? ⟨w.heap.size,i,ns⟩=(#[U O (a:Int),U O (b:Int),a5 I,U O (o:Int),Y A n c]:Array so)[i]?)/\(∀i,ww.cell? ⟨w.heap.size+1,i,ns⟩=(#[U O RW,U O RH,Y R n' T]:Array so)[i]?)) (λj=>decide (6<=j)) ah ⟨(Q.refl _).drew,M,J⟩ λhS=>?_;refine ai 0 (h:=ai 1 (h:=ai 3 (h:=ai 4 (h:=?_))));refine bA (k:=2) ah rfl rfl λK2 C=>?_;go_simp;refine(P.out _ hS.1).mono ?_;rintro e w3⟨v,rfl,o3,q3⟩;have y3:=hS.1.trans q3;obtain⟨m,D⟩:∃m,a*b=m:=⟨_,rfl⟩;have Wj:64<=m:=by rw[<-D];exact gj (show 8<=a by omega) (show 8<=b by omega)
   rw[D] at o3 xJ;have HM:Hid ((a:Int).toNat*(b:Int).toNat=m):=D;rcases o3.dE with⟨_,h0⟩|⟨g,cg,rfl,rA,ut,_⟩
   ·omega
   have hwz:w.heap.size<=w2.heap.size:=hzw;refine C.out _ _ ⟨y3,λi=>(y3.cell _ _ aa).trans (M i),λi=>(y3.cell _ _ aa).trans (J i)⟩ λhS=>?_;clear C K2;refine bh ?_;refine bA (k:=5) ah rfl rfl λK2 C=>?_;go_simp;refine(abr cg o o3.rd (av _) xJ aik.out aa).mono ?_;rintro e w4⟨v',rfl,o4,q4⟩;have y4:=y3.trans q4;refine C.out _ _ ⟨y4,λi=>(y4.cell _ _ aa).trans (M i),λi=>(y4.cell _ _ aa).trans (J i)⟩ λhS=>?_;clear C K2;refine bh ?_;refine iB [6,7] 6 ah al rfl ?_;have WG:=J'.q y4;have hs4:=y4.size;have ra:=y3.size;obtain⟨Av,cv,rfl⟩:=o4.form;refine eP (cs':=#[U O a,U O b,Y Av m cv]) rfl _ _ _ rfl rfl _ rfl rfl WG rfl fH ah ?_;intro w9 b9 g9 s9;have bc:=b9.cell;clear hS P M J J' WG;go_wp2;exact bodyPost_ret (v:=ci #[a9 #[U O a,U O b,Y Av m cv],a5 AT]) (by simp[results,results17,go_sem,bc]) rfl ⟨(QZ.out.trans y4).grown g9 (λk e=>by have:=aJ e;omega),λ_=>⟨_,rfl,by rw[WC.out,HM.out];exact(o4.az (au.dD g9) λg hg=>by simp only[List.mem_singleton] at hg;subst hg;omega).mono aa⟩,λh=>by rw[JW.out] at h;cases h⟩
 ·have J':=bz.q q1;have QZ:=af (q0.trans q1)
  have HV:Hid (dv W H I q ls RW RH ref=Bz):=by
   cases s with
   |false=>exact QL Dd
   |true=>obtain⟨i,hi,hd⟩:=rF rfl;refine PG (i:=i) (by rw[HN.out];exact hi) ?_;rw[(J4.out rfl).1,<-T4 _ I (F.out i hi)];exact hd
  clear bc br bz q0 q1 rF CV RF HS HR HT J3 HN HX F J4;exact L2
end
section
open Go.ChangeShapes Go.WideShapes Go.ChangeAt Go.RowKit Go.Joins
def cells_of_cell{a:ajF}{v:so}(h:w.cell? a=an v):∃cs t f,w.heap[a.block]?=an (.cells cs t f)/\a.spot=ns/\cs[a.off]?=an v:=by
 unfold World.cell? at h;cases b:w.heap[a.block]? with
 |none=>rw[b] at h;cases h
 |some o=>rw[b] at h;cases o with|cells cs t f=>simp_all|_=>simp at h
theorem aeS(P:NO)(tape:Nat->Question->Nat)(os:Os):(begin P tape os).world.heap[P.globals.size]?=an (.cells ((alg P.types.size).map λt=>.int .u64 (Int.ofNat t)) 0):=by unfold begin;dsimp only;generalize b:Array.mapIdx (α:=Global) (β:=Obj) _ P.globals=M;have a:M.size=P.globals.size:=fu;rw[<-a];rw[akW,if_neg yQ,akW,if_neg yQ,akW,if_neg yQ,akW,if_neg yQ,akW,if_pos rfl]
def aak(P:NO)(tape:Nat->Question->Nat)(os:Os):P.globals.size+5=(begin P tape os).world.heap.size:=by unfold begin;simp
def aal{P:NO}(h:w.ShapedOpen P):w.heap[P.globals.size]?=an (.cells ((alg P.types.size).map λt=>.int .u64 (Int.ofNat t)) 0):=by
 obtain⟨o,d,h1,a,b⟩:=h.2 P.globals.size (av _) (by have:=aak P (λ_ _=>0) default;omega);rw[aeS] at a;cases a;have:World.looseAt (P.globals.size-P.globals.size)=Bz:=by rw[Nat.sub_self];rfl
 simp only[this,Bool.false_eq_true,if_false] at b;rw[h1,b]
def BF:Tryz.prog.globals.size=5:=mP
def wK(h:w.ShapedOpen Tryz.prog)(a:g<5)(b:(((begin Tryz.prog (λ_ _=>0) default).world.heap[g]?).bind Obj.row?).map (λx=>(x.1.size,x.2))=an (n,t)):
  ∃cs,w.heap[g]?=an (.cells cs t)/\cs.size=n/\(Tryz.prog.buildable t=AT->Row.ok Tryz.prog w .any 0 t cs):=by
 obtain⟨⟨zero,d⟩,h1,f⟩:=j6.1 b;obtain⟨rfl,rfl⟩:=f;exact h.1 g zero d (by rw[BF];exact a) h1
def agY:(((begin Tryz.prog (λ_ _=>0) default).world.heap[0]?).bind Obj.row?).map (λx=>(x.1.size,x.2))=an (32,105):=ah
def agZ:(((begin Tryz.prog (λ_ _=>0) default).world.heap[1]?).bind Obj.row?).map (λx=>(x.1.size,x.2))=an (64,106):=ah
def ag0:(((begin Tryz.prog (λ_ _=>0) default).world.heap[4]?).bind Obj.row?).map (λx=>(x.1.size,x.2))=an (16,94):=ah
def ag1:(((begin Tryz.prog (λ_ _=>0) default).world.heap[2]?).bind Obj.row?).map (λx=>(x.1.size,x.2))=an (1,153):=ah
def ag2:(((begin Tryz.prog (λ_ _=>0) default).world.heap[3]?).bind Obj.row?).map (λx=>(x.1.size,x.2))=an (1,153):=ah
def GH{ts:List TO}(h:Row.ok Tryz.prog w .any 0 t cs)(b:Tryz.prog.cellTypes Tryz.prog.depth t=an ts)(hi:∀u∈ts,∃k,Tryz.prog.underlying u=an (.int k)){s:ByteArray}(hc:cs[i]?=an (.string s)):False:=by obtain⟨d,e,_,f⟩:=h;rw[b] at e;cases e;obtain⟨u,hu,a⟩:=f i _ hc;obtain⟨k,j⟩:=hi u (oS hu);simp[Cell.ok,j] at a
def Gh{k:IntKind}(h:Tryz.prog.underlying e=an (.int k)):∀u∈rl n e,∃k,Tryz.prog.underlying u=an (.int k):=eY
def QO: "*" ++ "errors.errorString" = "*errors.errorString" :=mP
def ac8{u:TO}(h:Tryz.prog.typeName? 3 u=an "*errors.errorString"):u=240:=
 typeName_ptr_named (nm:= "errors.errorString") (by rw[QO];kernel_rfl) ah al u (by rw[QO];exact h)
def S7{W:AS}{name:String}{fuel:Nat}{p:List MemPlace}{s:List UInt8}(j:Tryz.prog.globalNamed name=an g)(d:W.var? Tryz.prog name=an cs)
  (hd:DataW.trod (λ_=>()) Tryz.prog W 0 (λ_=>AT) Bz fuel 153 cs.toList=an (.iface "*errors.errorString" (.ptr (.agg [.lit (.string s)])),p))
  (f:∀b off,MemPlace.cell b off∈MemPlace.row ⟨g,0,ns⟩ cs.size++p->(∃c t,W.heap[b]?=an (.cells c t (0,0)))/\∀u v,W.cell? ⟨b,off,ns⟩=an (.iface u v)->Value.okWide Tryz.prog W .any 0 u v):
  ∃a,W.cell? ⟨g,0,ns⟩=an (.iface 240 (.pointer (an a)))/\∃c t h,W.heap[a.block]?=an (.cells c t (0,0))/\W.cell? a=an (.string h):=by
 obtain⟨l⟩:=cs
 obtain⟨a,h,h1,m,_,_,o⟩:=errorString_of_trod underlying153 (λ_=>ac8) underlying240 underlying266 rfl rfl underlying9 ah ah hd
  (λu v e=>by subst e;exact(f g 0 (by simp[MemPlace.row])).2 u v (by simpa using World.var?_cell j d 0))
 subst h1;subst o;obtain⟨c,t,q⟩:=(f a.block a.off (sk _ (by simp[MemPlace.row]))).1;exact⟨a,by simpa using World.var?_cell j d 0,c,t,h,q,m⟩
structure St(W:AS)(a1 a2:ajF):Prop where
 hG:W.heap[5]?=an (.cells ((alg Tryz.prog.types.size).map λt=>.int .u64 (Int.ofNat t)) 0)
 uv:∀g,g<5->∃cs t,W.heap[g]?=an (.cells cs t (0,0))
 e1:W.cell? ⟨2,0,ns⟩=an (.iface 240 (.pointer (an a1)))
 e2:W.cell? ⟨3,0,ns⟩=an (.iface 240 (.pointer (an a2)))
 r1:5<a1.block/\∃cs t,W.heap[a1.block]?=an (.cells cs t (0,0))/\0<cs.size
 r2:5<a2.block/\∃cs t,W.heap[a2.block]?=an (.cells cs t (0,0))/\0<cs.size
abbrev nH:String:= "loop.example/videocodec/impl.quantSteps"
abbrev wE:String:= "math/bits.deBruijn64tab"
abbrev ac9:String:= "math/bits.deBruijn32tab"
def B7:Tryz.prog.globalNamed wE=an 1:=ah
def ail:(Tryz.prog.globals[1]?).map (·.type)=an 106:=ah
abbrev Be:String:= "loop.example/videocodec/impl.errNumber"
abbrev we:String:= "loop.example/videocodec/impl.errRuns"
def S8:Tryz.prog.globalNamed nH=an 4:=aE
def afU:(Tryz.prog.globals[4]?).map (·.type)=an 94:=aE
def aim:Tryz.prog.globalNamed Be=an 2:=aE
def ain:(Tryz.prog.globals[2]?).map (·.type)=an 153:=aE
def ag3:Tryz.prog.globalNamed we=an 3:=aE
def ag4:(Tryz.prog.globals[3]?).map (·.type)=an 153:=aE
def qH:List (String×DataW Unit):=[(ac9,Rows.laid_math_bits_deBruijn32tab),(wE,Rows.laid_math_bits_deBruijn64tab),(Be,Rows.laid_loop_example_videocodec_impl_errNumber),(we,Rows.laid_loop_example_videocodec_impl_errRuns),(nH,Rows.laid_loop_example_videocodec_impl_quantSteps)]
def ag5{W:AS}(l:W.ShapedOpen Tryz.prog)(h:laidMetH Tryz.prog qH W):∃p q,St W p q:=by
 rw[alC _ _ _ ah] at h;have r:=aal l;rw[BF] at r;obtain⟨c0,F,n0,x⟩:=wK l al ag0;obtain⟨c1,G,Z,_⟩:=wK l al ag1;obtain⟨c2,J,n2,_⟩:=wK l al ag2;replace x:=x ah;obtain⟨c3,M,n3,y⟩:=wK l al agY;obtain⟨c4,N,n4,C⟩:=wK l al agZ;replace y:=y ah;replace C:=C ah;obtain⟨ps,⟨_,_,_,_,_,_,_,_,_,_,⟨_,_,_,_,_,_,_,_,_,_,⟨d,t1,VG,f1,p1,q1,i1,j1,k1,l1,⟨P,t2,cs2,f2,p2,q2,i2,j2,k2,l2,_,rfl⟩,rfl⟩,rfl⟩,rfl⟩,_,m⟩:=h;obtain rfl:=aJ (aim.symm.trans i1);obtain rfl:=aJ (ain.symm.trans j1);obtain rfl:=aJ (ag3.symm.trans i2);obtain rfl:=aJ (ag4.symm.trans j2);obtain⟨p,Q,x1,y1,s1,R,v1⟩:=S7 i1 k1 l1 λb off hm=>m b off (sk _ (sk _ (List.mem_append_left _ hm)));obtain⟨q,T,x2,y2,s2,V,v2⟩:=S7 i2 k2 l2 λb off hm=>m b off (sk _ (sk _ (sk _ (List.mem_append_left _ hm))))
 have o:∀{a:ajF}{s:ByteArray},W.cell? a=an (.string s)->5<a.block:=λ{a s} D=>by
  refine Nat.lt_of_not_le λhle=>?_;obtain⟨cs,t,f,d,P,j⟩:=cells_of_cell D;have i64:=Gh (n:=16) underlying3
  have one:∀{g:Nat}{c:Array so}{E:TO}{z:ajF},a.block=g->W.heap[g]?=an (.cells c E)->c.size=1->W.cell? ⟨g,0,ns⟩=an (.iface 240 (.pointer (an z)))->False:=λ{g c E z} eb hc hn hz=>by
   rw[eb,hc] at d;cases d;have ho:a.off=0:=by have:=(bE.1 j).1;omega
   obtain⟨_,_,_,X,_,w3⟩:=cells_of_cell hz;rw[hc] at X;cases X;rw[ho] at j;rw[j] at w3;cases w3
  obtain⟨ab,ao,asp⟩:=a;simp only at hle d j one
  match ab,hle with
  |4,_=>rw[F] at d;cases d;exact GH x ah i64 j
  |0,_=>rw[M] at d;cases d;exact GH y ah (Gh (n:=32) underlying5) j
  |1,_=>rw[N] at d;cases d;exact GH C ah (Gh (n:=64) underlying5) j
  |2,_=>exact one rfl G Z Q
  |3,_=>exact one rfl J n2 T
  |5,_=>rw[r] at d;cases d;rw[Array.getElem?_map] at j;obtain⟨_,_,j⟩:=j6.1 j;cases j
 have pos:∀{a:ajF}{s:ByteArray}{cs:Array so}{t:TO},W.cell? a=an (.string s)->W.heap[a.block]?=an (.cells cs t (0,0))->0<cs.size:=λ{a s cs t} D hh=>by obtain⟨cs',E,f,d,P,j⟩:=cells_of_cell D;rw[hh] at d;cases d;exact Nat.lt_of_le_of_lt (dk _) (bE.1 j).1
 refine⟨p,q,r,λg hg=>?_,Q,T,⟨o v1,x1,y1,R,pos v1 R⟩,o v2,x2,y2,V,pos v2 V⟩
 match g,hg with
 |4,_=>exact⟨_,_,F⟩
 |0,_=>exact⟨_,_,M⟩
 |1,_=>exact⟨_,_,N⟩
 |2,_=>exact⟨_,_,G⟩
 |3,_=>exact⟨_,_,J⟩
def ada{W:AS}(h:laidMetH Tryz.prog qH W):Lib.TabIs Tryz.prog W nH .i64 [1,2,4,8,12,16,24,32,48,64,96,128,192,256,384,512]:=by rw[alC _ _ _ ah] at h;exact Lib.tabIs_of_head S8 afU underlying94 underlying3 ah ah h.tail.tail.tail.tail
def afV{W:AS}(h:laidMetH Tryz.prog qH W):Lib.TabIs Tryz.prog W wE .u8 [0,1,56,2,57,49,28,3,61,58,42,50,38,29,17,4,62,47,59,36,45,43,51,22,53,39,33,30,24,18,12,5,63,55,48,27,60,41,37,16,46,35,44,21,52,32,23,11,54,26,40,15,34,20,31,10,25,14,19,9,13,8,7,6]:=by rw[alC _ _ _ ah] at h;exact Lib.tabIs_of_head B7 ail underlying106 underlying5 ah ah h.tail
end
section
open Go.RowKit Go.WideShapes Go.ChangeShapes
structure Tz(w:AS):Prop where
 pos:1<w.heap.size
 z0:w.cell? ⟨1,0,ns⟩=an (.int .u8 0)
 z1:w.cell? ⟨1,1,ns⟩=an (.int .u8 1)
 z3:w.cell? ⟨1,3,ns⟩=an (.int .u8 2)
def Tz.q{w':AS}(h:Tz w)(q:Q w w'):Tz w':=⟨bH h.pos q.size,(q.cell _ _ h.pos).trans h.z0,(q.cell _ _ h.pos).trans h.z1,(q.cell _ _ h.pos).trans h.z3⟩
def rM(k:Int):Int:=if k=0 then 64 else if k%2=1 then 0 else if k%4=2 then 1 else 2
def dQ(k L:Int):Int:=max (L-1-rM k) 0
def iv(k L:Int):Int:=max (k-(2:Int)^(L-1-dQ k L).toNat) (-1)
def k8(h:0<=k/\k<8):k=0\/k=1\/k=2\/k=3\/k=4\/k=5\/k=6\/k=7:=aa
def L4(h:1<=L/\L<=4):L=1\/L=2\/L=3\/L=4:=aa
def Hj{m b p t:Int}{j:Nat}(h0:(k==0)=Bz)(f1:IntKind.u64.wrap (-k)=m)(f2:bits .and .u64 k m=b)(f3:IntKind.u64.wrap (b*285870213051353865)=p)(f4:p/288230376151711744=(j:Int))(d:j<64)
  (hc:w.cell? ⟨1,j,ns⟩=an (.int .u8 t))(f:0<=t/\t<64):aiK Gz.prog 52 #[.int .u64 k] w λe w'=>e=be (U O t)/\w=w':=by
 have a:(j:Int)<64:=aa;go_enter Gz.gf func52,ntmps52;go_wp2;go_ret;exact⟨rfl,rfl⟩
def aip(d:0<=k/\k<8)(a:Tz w):aiK Gz.prog 52 #[.int .u64 k] w λe w'=>e=be (U O (rM k))/\w=w':=by
 rcases k8 d with rfl|rfl|rfl|rfl|rfl|rfl|rfl|rfl
 case inl=>go_enter Gz.gf func52,ntmps52;go_wp2;go_ret;exact⟨rfl,rfl⟩
 all_goals first|exact Hj (b:=1) (j:=0) rfl rfl ah rfl rfl al a.z0 al|exact Hj (b:=2) (j:=1) rfl rfl ah rfl rfl al a.z1 al|exact Hj (b:=4) (j:=3) rfl rfl ah rfl rfl al a.z3 al
def tz(a:0<=k/\k<8)(b:Tz w):aiK Gz.prog 34 #[.int .u64 k] w λe w'=>e=be (U O (rM k))/\w=w':=by go_enter Gz.gf func34,ntmps34;go_wp2;refine(aip a b).mono ?_;rintro e w'⟨rfl,rfl⟩;go_wp2;go_ret;exact⟨rfl,rfl⟩
def Ab{t:Bool}(h:Hid (decide (1<=L/\L<=4)=t)):aiK Gz.prog 19 #[U O L] w λe w'=>e=be (a5 t)/\w=w':=by
 by_cases h1:1<=L<;>by_cases a:L<=4
 all_goals
  obtain rfl:=h.out;go_enter Gz.gf func19,ntmps19;go_wp2;go_ret;exact⟨by simp[*],rfl⟩
def QP(k L:Int)(a:0<=k/\k<8)(b:1<=L/\L<=4)(d:Tz w):aiK Gz.prog 20 #[U O k,U O L] w λe w'=>e=be (U O (dQ k L))/\w=w':=by
 have f:=af d;have h:0<=rM k/\rM k<=64:=by unfold rM;omega
 go_enter Gz.gf func20,ntmps20;go_wp2;refine(Ab (af (decide_eq_true b))).mono ?_;rintro e w'⟨rfl,rfl⟩;go_wp2;refine(tz a f.out).mono ?_;rintro e w'⟨rfl,rfl⟩;go_wp2
 all_goals
  go_ret;refine⟨?_,rfl⟩;show Ending.returned (alf .i64 _)=_;congr 2<;>(unfold dQ;omega)
def adb:∀k:Fin 8,∀L:Fin 5,1<=k.1->1<=L.1->0<=iv k.1 L.1/\iv k.1 L.1<k.1/\dQ (iv k.1 L.1) L.1<max 1 (dQ k.1 L.1)/\∀j:Fin 8,iv k.1 L.1<j.1->j.1<k.1->max 1 (dQ k.1 L.1)<=dQ j.1 L.1:=by decide+kernel
def AD(k:Nat)(L:Int)(f:1<=k/\k<8)(m:1<=L/\L<=4):0<=iv k L/\iv k L<k/\dQ (iv k L) L<max 1 (dQ k L)/\∀j:Nat,iv k L<j->j<k->max 1 (dQ k L)<=dQ j L:=by obtain⟨l,rfl⟩:=vI (show 0<=L by omega);obtain⟨a,b,c,d⟩:=adb ⟨k,f.2⟩ ⟨l,aa⟩ f.1 (by show 1<=l;omega);exact⟨a,b,c,λj h1 h=>d ⟨j,aa⟩ h1 h⟩
def R9(n:Nat)(h:n<=3):∃s:Int,(2:Int)^n=s/\IntKind.i64.wrap ((2:Int)^n)=s/\1<=s/\s<=8:=by obtain rfl|rfl|rfl|rfl:n=0\/n=1\/n=2\/n=3:=aa;all_goals exact⟨_,rfl,rfl,al,al⟩
def Xx(k:Int)(b:0<=k/\k<8)(d:1<=L/\L<=4)(f:Tz w):aiK Gz.prog 37 #[U O k,U O L] w λe w'=>e=be (U O (iv k L))/\w=w':=by
 have h:=af f;go_enter Gz.gf func37,ntmps37;go_wp2;refine(QP k L b d h.out).mono ?_;rintro e w'⟨rfl,rfl⟩;have h0:0<=dQ k L/\dQ k L<L:=yR;obtain⟨s,a,f1,h1,j⟩:=R9 (L-1-dQ k L).toNat aa;replace a:=af a;go_wp2
 all_goals
  go_ret;refine⟨?_,rfl⟩;show Ending.returned (alf .i64 _)=_;congr 2<;>(unfold iv;rw[a.out]<;>omega)
def aeT:∀k:Fin 8,∀L:Fin 5,∀n:Fin 4,1<=L.1->(n.1:Int)<=dQ k.1 L.1->((dQ k.1 L.1=n.1)<->(k.1:Int).tmod ((2:Int)^((L.1:Int)-1-n.1).toNat)=0):=by decide+kernel
def afW(b:0<=k/\k<8)(h:1<=L/\L<=4)(d:(n:Int)<=dQ k L){s:Int}(f:(2:Int)^(L.toNat-1-n)=s):dQ k L=n<->k%s=0:=by have h0:dQ k L<L:=yR;obtain⟨a,rfl⟩:=vI b.1;obtain⟨l,rfl⟩:=vI (show 0<=L by omega);have g:=aeT ⟨a,aa⟩ ⟨l,aa⟩ ⟨n,aa⟩ (by show 1<=l;omega) d;simp only[show((l:Int)-1-n).toNat=(l:Int).toNat-1-n by omega,f] at g;rw[Int.tmod_eq_emod_of_nonneg aa] at g;exact g
def FR(k L:Int)(b:0<=k/\k<8)(d:1<=L/\L<=4):aiK Gz.prog 15 #[U O k,U O L] w λe w'=>e=be (U O (dQ k L))/\w=w':=by
 have h0:0<=dQ k L/\dQ k L<L:=yR;go_enter Gz.gf func15,ntmps15;go_wp2;refine(lV _ aa aa).mono ?_;rintro e w'⟨rfl,rfl⟩;go_wp2;go_loopw[5] (λi wr=>∃(n:Nat),(n:Int)<=dQ k L/\i=U O n/\w=wr) (λi _=>4-(intOf i).toNat)
 case atStart=>exact⟨0,aa,rfl,rfl⟩
 case round=>
  obtain⟨n,f,rfl,rfl⟩:=hrel;obtain⟨s,a,f1,h1,j⟩:=R9 (L.toNat-1-n) aa;have g:=afW b d f a;replace a:=af a;by_cases h:(n:Int)<dQ k L
  ·have f2:k%s≠0:=λe=>by have:=g.2 e;omega
   clear g;go_wp2;go_roundw;case rel=>exact⟨n+1,aa,aF,trivial⟩
   case measure=>exact aT
  ·have f2:k%s=0:=g.1 aa;clear g;go_wp2;go_ret;exact⟨by show Ending.returned (alf .i64 _)=_;congr 2;omega,rfl⟩
def Xy(k:Nat)(L:Int)(f:1<=k/\k<8)(a:1<=L/\L<=4)(w:AS):aiK Gz.prog 16 #[U O k,U O L] w λe w'=>e=be (U O (iv k L))/\w=w':=by
 have h0:0<=dQ k L/\dQ k L<L:=yR;obtain⟨o,p,h,b⟩:=AD k L f a;replace b:=af b;go_enter Gz.gf func16,ntmps16;go_wp2;refine(FR k L aa a).mono ?_;rintro e w'⟨rfl,rfl⟩;go_wp2;go_loopw[6] (λi wr=>∃(j:Nat),iv k L<=j/\j<k/\i=U O j/\w=wr) (λi _=>(intOf i).toNat)
 case atStart=>exact⟨k-1,aa,aa,aF,rfl⟩
 case round=>
  obtain⟨j,h1,l,rfl,rfl⟩:=hrel;go_wp2;refine(FR j L aa a).mono ?_;rintro e w'⟨rfl,rfl⟩;by_cases d:iv k L<j
  ·have:=b.out j d l;go_wp2;go_roundw;case rel=>exact⟨j-1,aa,aa,aF,trivial⟩
   case measure=>exact aT
  ·have m:iv k L=j:=by omega
   rw[m] at h;go_wp2
   all_goals
    go_ret;first|exact⟨rfl,rfl⟩|exact⟨by rw[m];rfl,rfl⟩
end
section
open Go.RowKit Go.WideShapes Go.ChangeShapes
def uN(t:Bool)(W:Int):Int:=if t then W else 0
def yt(t:Bool)(xs:List Int):List Int:=if t then xs else[]
def QS{q:Int}:(jy W H I q ls ref).length=W.toNat*H.toNat:=by unfold jy;rw[FM,AB]
def aeU{q:Int}:(yt (dv W H I q ls RW RH ref) (jy W H I q ls ref)).length<=1024:=by
 cases a:dv W H I q ls RW RH ref with
 |false=>exact dk _
 |true=>obtain⟨⟨u1,u2,_⟩,⟨v1,v2,_⟩,_⟩:=oT (OA a).1;show(jy W H I q ls ref).length<=1024;rw[QS];exact gj (show W.toNat<=32 by omega) (show H.toNat<=32 by omega)
def WH{q:Int}{w':AS}{e:Ending}
  (h1:dv W H I q ls RW RH ref=AT->∃v,e=be (.tuple #[.agg #[U O W,U O H,v],.bool AT])/\Own w' w.heap.size v (W.toNat*H.toNat) (jy W H I q ls ref))
  (b:dv W H I q ls RW RH ref=Bz->e=be (.tuple #[.agg #[U O 0,U O 0,.slice ns 0 0],.bool Bz])):
  ∃v,e=be (.tuple #[.agg #[U O (uN (dv W H I q ls RW RH ref) W),U O (uN (dv W H I q ls RW RH ref) H),v],.bool (dv W H I q ls RW RH ref)])/\Own w' w.heap.size v (yt (dv W H I q ls RW RH ref) (jy W H I q ls ref)).length (yt (dv W H I q ls RW RH ref) (jy W H I q ls ref)):=by
 cases a:dv W H I q ls RW RH ref with
 |false=>exact⟨_,b a,Own.nil _ _⟩
 |true=>obtain⟨v,d,o⟩:=h1 a;refine⟨v,d,?_⟩;show Own w' w.heap.size v (jy W H I q ls ref).length (jy W H I q ls ref);rw[QS];exact o
structure Im(W H q:Int)(I:Bool)(n:Nat)(ls:List (List Int))(RW RH:Int)(n':Nat)(ref:List Int)(P1 P2:Int)(t:Bool)(d:Nat)(rs:List Int):Prop where
 t_:dv W H I q ls RW RH ref=t
 p1:uN t W=P1
 p2:uN t H=P2
 rs_:yt t (jy W H I q ls ref)=rs
 d_:rs.length=d
 n_:ls.length=n
 n'_:ref.length=n'
 bJ:∀i,i<n->bytes (aR ls i)
def T5{q:Int}{f h:Int}{t:Bool}{d:Nat}{j:List Int}(G:Im W H q I n ls RW RH n' ref f h t d j)(A l:Option ajF)(c m B B':Nat)(p:dH w B A ls)(r:B<=w.heap.size)(hm:n<=1048576)(x:Tb w)(hr:Rd w B' l ref)(a:B'<=w.heap.size)(y:n'<=1048576):
  aiK Gz.prog 17 #[.agg #[U O W,U O H,.bool I,U O q,.slice A n c],.agg #[U O RW,U O RH,.slice l n' m]] w λe w'=>∃v,e=be (.tuple #[.agg #[U O f,U O h,v],.bool t])/\Own w' w.heap.size v d j/\Q w w':=by
 obtain⟨rfl,rfl,rfl,rfl,rfl,z,b,C⟩:=G;refine(WX W H I q c m RW RH p r z aa C x hr a b aa).mono λe w'⟨h0,h1,D⟩=>?_;obtain⟨v,E,o⟩:=WH h1 D;exact⟨v,E,o,h0⟩
def ag6{q:Int}{f h:Int}{t:Bool}{d:Nat}{j:List Int}(G:Im W H q I n ls RW RH n' ref f h t d j)(l:Option ajF)(c m:Nat){p r:ajF}(x:dH w B A ls)(y:B<=w.heap.size)(he:gw w p r B)(z:dz w p)(C:dz w r)(D:Tb w)(hr:Rd w B' l ref)(a:B'<=w.heap.size)(E:n'<=1048576):
  aiK Gz.prog 21 #[.agg #[U O W,U O H,.bool I,U O q,.slice A n c],.agg #[U O RW,U O RH,.slice l n' m]] w λe w'=>∃v,e=be (.tuple #[.agg #[U O f,U O h,v],.bool t])/\Own w' w.heap.size v d j/\Q w w':=by
 obtain⟨rfl,rfl,rfl,rfl,rfl,F,b,N⟩:=G;refine(XY W H I q c m RW RH x y F he z C D hr a b aa).mono λe w'⟨h0,h1,J⟩=>?_;obtain⟨v,M,o⟩:=WH h1 J;exact⟨v,M,o,h0⟩
def gw.mono{w:AS}{a1 a2:ajF}{B B':Nat}(h:gw w a1 a2 B)(a:B<=B'):gw w a1 a2 B':=⟨h.e1,h.e2,bH h.l1 a,bH h.l2 a⟩
def MJ{P:NO}{cs':Array so}{d:Array Oper}{o:Oper}{a:Act}{K:Act->AS->Prop}{f:Exit->Act->AS->Prop}{E:Prop}(Jo:o.guard=ns){ty:TO}{x y:Operand}(j:o.op=.store ty x y)(l:a.eval x=.pointer (an ⟨g,0,ns⟩)){v:so}(m:a.eval y=v)(p:v=.agg cs')(h:ak w g t cs)(q:cs'.size=cs.size)(b:(cs'.all λx=>x.oneCell')=AT)
  (hi:(P.info? ty).map (·.size)=an cs'.size)
  (hK:∀w',ak w' g t cs'->w.grownBy w' (an g)->w'.heap.size=w.heap.size->K (a.put o.dst undef) w'):if Region.wanted o (yielded d a.tmps)=AT then Oper.wp P o a w K f else E:=by
 subst p;have r:=run_storeVar_row (P:=P) w g t ty cs cs' h hi q.symm b;rw[if_pos C7];unfold Oper.wp execOp;simp only[j,l,m,Instr.storeAt,Instr.sureAddr,r,Sem.run_bind,Sem.run_pure,Result.andThen_ok];refine hK _ ?_ ?_ ?_
 ·unfold ak at h⊢;simp[World.setRow,Array.getElem?_modify,h]
 ·exact Dm
 ·simp
end
section
open Go.RowKit Go.WideShapes Go.ChangeShapes
structure Kd(α:Type) where
 t:TO
 s:Nat
 cells:α->so->List so
 len:∀x u,(cells x u).length=s
 El:AS->Nat->Nat->so->α->Prop
 Rd:AS->Nat->so->α->Prop
 az:∀{w w':AS}{S:List Nat}{a b:Nat}{u:so}{x:α},El w a b u x->au S w w'->(∀g,g∈S->g<a\/b<=g)->El w' a b u x
 rd:∀{w:AS}{a b:Nat}{u:so}{x:α},El w a b u x->b<=w.heap.size->Rd w w.heap.size u x
 keep:∀{w w':AS}{B:Nat}{u:so}{x:α},Rd w B u x->(∀b o,b<B->w'.cell? ⟨b,o,ns⟩=w.cell? ⟨b,o,ns⟩)->Rd w' B u x
section
variable{α:Type}{K:Kd α}
def eH(K:Kd α):List α->List so->List so
 |x::xs,u::us=>K.cells x u++eH K xs us
 |_,_=>[]
def abt:∀{xs:List α}{us:List so},us.length=xs.length->(eH K xs us).length=xs.length*K.s
 |[],[],_=>by simp[eH]
 |x::xs,u::us,h=>by simp only[ajE] at h;rw[eH,ajq,K.len,abt aa,ajE,alA];omega
def Fi:∀{xs:List α}{us:List so}{i j:Nat}{x:α}{u:so},xs[i]?=an x->us[i]?=an u->j<K.s->(eH K xs us)[i*K.s+j]?=(K.cells x u)[j]?
 |[],_,_,_,_,_,h,_,_=>by simp at h
 |_::_,[],_,_,_,_,_,h,_=>by simp at h
 |y::xs,v::us,0,j,x,u,h1,a,h=>by simp at h1 a;subst h1 a;rw[eH,Nat.zero_mul,Nat.zero_add,akV (by rw[K.len];exact h)]
 |y::xs,v::us,i+1,j,x,u,h1,a,h=>by rw[eH,alK (by rw[K.len,alA];omega),K.len,<-Fi (i:=i) (by simpa using h1) (by simpa using a) h];congr 1;rw[alA];omega
def OB(x:α)(u:so):∀{xs:List α}{us:List so},us.length=xs.length->eH K (xs++[x]) (us++[u])=eH K xs us++K.cells x u
 |[],[],_=>by simp[eH]
 |y::xs,v::us,h=>by simp only[ajE] at h;rw[akf,akf,eH,eH,OB x u aa,List.append_assoc]
def iQ:List so->Nat->List so->List so
 |xs,_,[]=>xs
 |xs,o,y::ys=>iQ (xs.set o y) (o+1) ys
def PM{u:so}:∀{ys xs:List so}{o:Nat},xs[o+ys.length]?=an u->iQ xs o (ys++[u])=iQ xs o ys
 |[],xs,o,h=>by simp only[List.nil_append,iQ];obtain⟨a,rfl⟩:=ia.1 h;exact List.set_getElem_self _
 |y::ys,xs,o,h=>by rw[akf,iQ,iQ,PM];rw[akj aa,<-h];congr 1;simp only[ajE];omega
def FT:∀(ys p xs:List so)(o:Nat),iQ (p++xs) (p.length+o) ys=p++iQ xs o ys
 |[],_,_,_=>rfl
 |y::ys,p,xs,o=>by rw[iQ,iQ,List.set_append_right _ _ aa,show p.length+o-p.length=o by omega,<-FT ys p];rfl
def QT:∀(ys p xs:List so),p.length=ys.length->iQ (p++xs) 0 ys=ys++xs
 |[],p,xs,h=>by have:=zy kU;subst this;rfl
 |y::ys,z::p,xs,h=>by rw[akf,iQ,ajx];have:=FT ys [y] (p++xs) 0;simp only[List.length_singleton,List.singleton_append] at this;rw[this,QT ys p xs kU];rfl
def PN(x:α)(u:so):∀{xs:List α}{us:List so}{i:Nat},us.length=xs.length->i<xs.length->iQ (eH K xs us) (i*K.s) (K.cells x u)=eH K (xs.set i x) (us.set i u)
 |[],_,_,_,h=>by simp at h
 |y::xs,v::us,0,_,_=>by rw[Nat.zero_mul,eH,QT _ _ _ (by rw[K.len,K.len]),ajx,ajx,eH]
 |y::xs,v::us,i+1,h,hi=>by simp only[ajE] at h hi;rw[eH,ajJ,ajJ,eH,<-PN x u aa (by omega:i<xs.length)];have:=FT (K.cells x u) (K.cells y v) (eH K xs us) (i*K.s);rw[K.len] at this;rw[<-this];congr 1;rw[alA];omega
def Kj{base g n a size:Nat}{e:TO}:∀(ys:List so)(w:AS)(xs:List so)(o:Nat),w.ownsRow base e size (Y (an ⟨g,0,ns⟩) n a) n xs->(w.setCells g o ys).ownsRow base e size (Y (an ⟨g,0,ns⟩) n a) n (iQ xs o ys)
 |[],_,_,_,h=>h
 |y::ys,w,xs,o,h=>by rw[World.setCells,iQ];exact Kj ys _ _ _ (h.stored o y).1
def iw(K:Kd α)(w:AS)(B:Nat)(A:Option ajF)(xs:List α):Prop:=
 0<xs.length->∃b o,A=an ⟨b,o,ns⟩/\b<B/\∀i x,xs[i]?=an x->∃u,K.Rd w B u x/\w.rangeAt b (o+i*K.s) (K.cells x u)
def bg(K:Kd α)(w:AS)(lo hi:Nat)(v:so)(xs:List α):Prop:=
 (∀s,v.ownBlock=an s->s<hi)/\∃(us:List so)(a:Nat->Nat×Nat),us.length=xs.length/\w.ownsRow lo K.t K.s v xs.length (eH K xs us)/\
  (∀i x u,xs[i]?=an x->us[i]?=an u->K.El w (a i).1 (a i).2 u x/\lo<=(a i).1/\(a i).2<=hi/\∀s,v.ownBlock=an s->s<(a i).1\/(a i).2<=s)/\
  ∀i j,i≠j->i<xs.length->j<xs.length->(a i).2<=(a j).1\/(a j).2<=(a i).1
variable{w w':AS}{lo hi B n c:Nat}{v:so}{A:Option ajF}{xs:List α}{S:List Nat}
def iw.keep(h:iw K w B A xs)(a:∀b o,b<B->w'.cell? ⟨b,o,ns⟩=w.cell? ⟨b,o,ns⟩):iw K w' B A xs:=λf=>by obtain⟨b,o,rfl,d,hc⟩:=h f;refine⟨b,o,rfl,d,λi x l=>?_⟩;obtain⟨u,h1,m⟩:=hc i x l;exact⟨u,K.keep h1 a,λj z p=>(a b _ d).trans (m j z p)⟩
def iw.q(h:iw K w B A xs)(q:Q w w')(a:B<=w.heap.size):iw K w' B A xs:=h.keep λb o d=>q.cell b o aa
def Bf{lo hi n:Nat}{us:List so}(h1:w.ownsRow lo e s u n us)(k:au S w w')(hS:∀g,g∈S->u.ownBlock≠an g):w'.ownsRow lo e s u n us:=by
 refine⟨h1.1,?_⟩;rcases h1.2 with f|⟨g,a,b,rfl,h,d,r⟩
 ·exact .inl f
 ·exact .inr ⟨g,a,b,rfl,h,(k.block g (bE.1 d).1 λe=>hS g e rfl).trans d,r⟩
def bg.az(h:bg K w lo hi v xs)(k:au S w w')(hS:∀g,g∈S->hi<=g\/g<lo):bg K w' lo hi v xs:=by
 obtain⟨h0,us,d,h1,b,f,j⟩:=h;refine⟨h0,us,d,h1,Bf (hi:=hi) b k λg a e=>?_,λi x u l hu=>?_,j⟩
 ·have:=h0 g e;have:=(b.lt g e).1;have:=hS g a;omega
 ·obtain⟨m,o,p,q⟩:=f i x u l hu;exact⟨K.az m k λg a=>by have:=hS g a;omega,o,p,q⟩
def bg.q(h:bg K w lo hi v xs)(q:Q w w'):bg K w' lo hi v xs:=h.az (.gV [] q) aj
def bg.form(h:bg K w lo hi v xs):∃A c,v=Y A xs.length c/\xs.length<=c/\c<=maxLen:=by
 obtain⟨_,us,f,_,a,_⟩:=h;rcases a.2 with⟨e,h0⟩|⟨g,b,d,e,_,_,h1,a,_⟩
 ·exact⟨ns,0,by rw[e,h0],aa,dk _⟩
 ·exact⟨_,_,e,h1,a⟩
def bg.mono{a b:Nat}(h:bg K w lo hi v xs)(h1:a<=lo)(p:hi<=b):bg K w a b v xs:=by obtain⟨h0,us,q,r,l,y,z⟩:=h;exact⟨λs e=>bH (h0 s e) p,us,q,r,⟨l.1,l.2.imp id λ⟨g,d,f,j,m,o⟩=>⟨g,d,f,j,aI h1 m,o⟩⟩,λi x u C hu=>by obtain⟨j,m,o,D⟩:=y i x u C hu;exact⟨j,aa,aa,D⟩,z⟩
def bg.nil:bg K w lo hi (Y ns 0 0) []:=⟨by simp[alL],[],λ_=>(0,0),rfl,by simpa[eH] using vw w lo K.t K.s,aj,aj⟩
def fS{β:Type}{us:List β}{n:Nat}(h:us.length=n)(hi:i<n):∃u,us[i]?=an u:=⟨us[i],ajK aa⟩
def bg.at(h:bg K w lo hi (Y A n c) xs){x:α}(N:xs[i]?=an x)(Z:xs.length=n):∃g P u a b,A=an ⟨g,0,ns⟩/\lo<=g/\g<w.heap.size/\g<hi/\w.ownsRow lo K.t K.s (Y (an ⟨g,0,ns⟩) n c) n P/\K.El w a b u x/\lo<=a/\b<=hi/\(g<a\/b<=g)/\(∀j,j<K.s->P[i*K.s+j]?=(K.cells x u)[j]?)/\
  ∀(w':AS)(S:List Nat)(E:so)(F:α)(a' C f:Nat),au S w w'->(∀k,k∈S->(a<=k/\k<b)\/k=g\/hi<=k)->w'.ownsRow lo K.t K.s (Y (an ⟨g,0,ns⟩) n c) n (iQ P (i*K.s) (K.cells F E))->K.El w' a' C E F->(a'=a/\C=b\/hi<=a'/\C<=f)->hi<=f->bg K w' lo f (Y (an ⟨g,0,ns⟩) n c) (xs.set i F):=by
 obtain⟨h0,us,Q,h1,R,T,V⟩:=h;have d:i<xs.length:=(ia.1 N).1;obtain⟨u,hu⟩:=fS h1 d;obtain⟨e1,e2,e3,e4⟩:=T i x u N hu;rw[Z] at R;obtain⟨g,cap,hg,hb,hl⟩:=R.form aa;injection hg with q1 _ q3;subst q1 q3;refine⟨g,_,u,_,_,rfl,hb,hl,h0 g rfl,R,e1,e2,e3,e4 g rfl,λj G=>Fi N hu G,λw' S E F a' C f k hS r el xM hh=>?_⟩;refine⟨λs e=>bH (h0 s e) hh,us.set i E,λj=>if j=i then(a',C) else Q j,by simp[h1],?_,λj y z l D=>?_,λj k o G X=>?_⟩
 ·rw[List.length_set,Z,<-PN F E h1 d];exact r
 ·by_cases e:j=i
  ·subst e;rw[List.getElem?_set_self d] at l;rw[List.getElem?_set_self aa] at D;cases l;cases D;simp only[if_true];have:=h0 g rfl;have:=e4 g rfl;refine⟨el,aa,aa,λs es=>?_⟩;have es:g=s:=by simpa[alL] using es
   omega
  ·rw[akj (Ne.symm e)] at l D;simp only[e,if_false];obtain⟨f1,f2,f3,f4⟩:=T j y z l D;have:=V i j (jG e) d (ia.1 l).1;have:=f4 g rfl;exact⟨K.az f1 k λq hq=>by have:=hS q hq;omega,f2,aa,f4⟩
 ·rw[List.length_set] at G X
  have J:∀m,m≠i->m<xs.length->(Q m).2<=a'\/C<=(Q m).1:=λm hm p=>by have h5:=V i m (jG hm) d p;obtain⟨y,l⟩:=fS (rfl:xs.length=_) p;obtain⟨z,D⟩:=fS h1 p;have:=(T m y z l D).2.2.1;omega
  by_cases M:j=i
  ·subst M;simp only[if_true,Ne.symm o,if_false];exact(J k (jG o) X).symm
  ·by_cases ek:k=i
   ·subst ek;simp only[if_true,M,if_false];exact J j M G
   ·simp only[M,ek,if_false];exact V j k o G X
def bg.rd(h:bg K w lo hi (Y A n c) xs)(f:xs.length=n)(F:hi<=w.heap.size):iw K w w.heap.size A xs:=λh0=>by
 obtain⟨y,o⟩:=fS (rfl:xs.length=_) h0;obtain⟨g,p,_,_,_,rfl,_,q,_⟩:=h.at o f;refine⟨g,0,rfl,q,λi x l=>?_⟩;obtain⟨G,p,u,a,b,d,_,_,_,r,el,_,J,_,C,_⟩:=h.at l f;injection d with d;injection d with d;subst d;have D:i<xs.length:=(ia.1 l).1;refine⟨u,K.rd el aa,λj z m=>?_⟩;have E:j<K.s:=by rw[<-K.len x u];exact(ia.1 m).1
 have:(i+1)*K.s<=n*K.s:=pN _ aa;rw[alA] at this;rw[Nat.zero_add,r.cellAt _ aa,C j E,m]
def bg.snoc(h:bg K w lo hi v xs):∃E,w.ownsRow lo K.t K.s v xs.length E/\∀{w':AS}{S:List Nat}{v':so}{x:α}{u:so}{a b d:Nat},au S w w'->(∀g,g∈S->v.ownBlock=an g\/hi<=g)->w'.ownsRow lo K.t K.s v' (xs.length+1) (E++K.cells x u)->K.El w' a b u x->hi<=a->a<=b->b<=d->
  (∀s,v'.ownBlock=an s->s<d/\(v.ownBlock=an s\/b<=s))->hi<=d->lo<=hi->bg K w' lo d v' (xs++[x]):=by
 obtain⟨h0,us,F,h1,N,G,P⟩:=h;refine⟨_,N,λ{w' S v' x u a b d} k hS Q el ha R T C hh V=>?_⟩;refine⟨λs e=>(C s e).1,us++[u],λj=>if j<xs.length then F j else(a,b),by simp[h1],by rw[OB x u h1,ajq];exact Q,λi y z f l=>?_,λi j D hi X=>?_⟩
 ·by_cases o:i<xs.length
  ·rw[akV o] at f;rw[akV aa] at l;simp only[o,if_true];obtain⟨p,q,e3,J⟩:=G i y z f l;exact⟨K.az p k λg Z=>(hS g Z).elim (J g) λh=>.inr aa,q,aa,λs es=>(C s es).2.elim (J s) λh=>.inr aa⟩
  ·rw[alK aa] at f l;have M:i-xs.length=0:=by have:=(ia.1 f).1;simp at this;omega
   rw[M] at f;rw[h1,M] at l;simp at f l;subst f l;simp only[o,if_false];exact⟨el,aa,T,λs es=>(C s es).2.elim (λh=>.inl (by have:=h0 s h;omega)) .inr⟩
 ·rw[ajq,List.length_singleton] at hi X
  have r:∀m,m<xs.length->(F m).2<=a:=λm hm=>by obtain⟨y,f⟩:=fS (rfl:xs.length=_) hm;obtain⟨z,l⟩:=fS h1 hm;have:=(G m y z f l).2.2.1;omega
  by_cases p:i<xs.length<;>by_cases q:j<xs.length<;>simp only[p,q,if_true,if_false]
  ·exact P i j D p q
  ·exact .inl (r i p)
  ·exact .inr (r j q)
  ·omega
def abu{lo n c o m:Nat}{a:List so}(h:w.ownsRow lo e s (Y (an ⟨g,0,ns⟩) n c) n a)(b:o+m<=n*s):w.there g o m:=λj d=>⟨by rw[h.cellAt _ aa,ajK (by rw[h.1];omega)];rfl,h.frozenAt _⟩
def M3(g:Nat)(ys:List so)(o:Nat)(w:AS):(w.setCells g o ys).heap.size=w.heap.size:=(r7 g ys o w).2
def bg.put(h:bg K w lo hi (Y A n c) xs)(d:xs.length=n){k:Nat}(l:k<n){x:α}{a b:Nat}(el:K.El w a b u x)(o:hi<=a)(D:b<=w.heap.size):
  ∃g,A=an ⟨g,0,ns⟩/\lo<=g/\w.there g (k*K.s) K.s/\(∀h,hi<=h->h<=w.heap.size->b<=h->bg K (w.setCells g (k*K.s) (K.cells x u)) lo h (Y (an ⟨g,0,ns⟩) n c) (xs.set k x)):=by
 obtain⟨y,p⟩:=fS d l;obtain⟨g,E,u0,F,G,rfl,h1,J,M,f,_,_,_,_,_,r⟩:=h.at p d;have hm:(k+1)*K.s<=n*K.s:=pN _ aa;rw[alA] at hm;have j:=r7 g (K.cells x u) (k*K.s) w;refine⟨g,rfl,h1,abu f aa,λm z N C=>?_⟩;exact r _ [g] u x a b m (.dD j.1) aj (Kj _ _ _ _ f) (K.az el (.dD j.1) λq hq=>by simp at hq;omega) (.inr ⟨o,C⟩) z
def NY{a:List so}{s:Nat}(b:a.length=s):∀(n i:Nat),(rl n a).flatten[i]?=if i<n*s then a[i%s]? else ns
 |0,i=>by simp
 |n+1,i=>by
  rw[akg,List.flatten_cons,alA];by_cases h:i<s
  ·rw[akV aa,if_pos aa,Nat.mod_eq_of_lt h]
  ·rw[alK aa,b,NY b n];rw[Nat.mod_eq_sub_mod (by omega:i>=s)];by_cases d:i-s<n*s
   ·rw[if_pos d,if_pos aa]
   ·rw[if_neg d,if_neg aa]
def Kg{z:Array so}(a:z.size=s)(h0:0<s)(n:Nat):(madeCells z (n*s)).toList=(rl n z.toList).flatten:=by
 apply List.ext_getElem?;intro i;rw[NY (by simpa using a)];split
 ·rename_i h;have:i%s<z.size:=by rw[a];exact Nat.mod_lt _ h0
  simp[madeCells,h,a];rw[getElem!_pos z _ this,Array.getElem?_eq_getElem this]
 ·rename_i h;simp[madeCells];omega
def bg.make{x:α}(hr:w.ownsRow lo K.t K.s v n (rl n (K.cells x u)).flatten)(el:K.El w lo lo u x)(h0:∀s,v.ownBlock=an s->s<hi)(a:lo<=hi):bg K w lo hi v (rl n x):=by
 have b:∀m,eH K (rl m x) (rl m u)=(rl m (K.cells x u)).flatten:=λm=>by induction m with|zero=>rfl|succ m d=>rw[akg,akg,akg,eH,d,List.flatten_cons]
 refine⟨h0,rl n u,λ_=>(lo,lo),aj,by rw[b,List.length_replicate];exact hr,λi y z f h=>?_,λ_ _ _ _ _=>.inl (av _)⟩;have j:=List.eq_of_mem_replicate (oS f);have l:=List.eq_of_mem_replicate (oS h);subst j l;exact⟨el,av _,a,λs es=>.inr (hr.lt s es).1⟩
end
end
section
open Go.RowKit Go.WideShapes Go.ChangeShapes
def ade{z:Option ajF}(c M:Nat)(C:dH w B A ls)(D:dH w B' z ls)(q:ls.length=n)(lx:n<=1048576)(lt:ej ls n<=1048576):
  aiK Gz.prog 39 #[Y A n c,Y z n M] w λe w'=>e=be (a5 AT)/\∃k,w'=w.drewN k:=by
 have N:=af C;have P:=af D;have HN:=af q;have Q:Hid (∀k,k<n->(aR ls k).length<=1048576):=λk R=>aI (F8 ls aa) (by rw[q];exact lt);clear C D q lt;go_enter Gz.gf func39,ntmps39;go_wp2;go_loopw[5] (λi wr=>∃(k:Nat),k<=n/\i=U O k/\∃d,wr=w.drewN d) (λi _=>n-(intOf i).toNat)
 case atStart=>exact⟨0,aa,rfl,0,by first|rfl|simp⟩
 case round=>
  obtain⟨k,R,rfl,hd⟩:=hrel;have a:=af hd;clear hd;by_cases r:k<n
  ·have V:(k:Int)<n:=by omega
   obtain⟨b,o,rfl,hb,hc⟩:=N.out eD;obtain⟨X,Z,rfl,hb',f⟩:=P.out eD;obtain⟨E,F,h,j,x,h14⟩:=hc k eD;obtain⟨G,J,l,p,y,h24⟩:=f k eD;have hl:=Q.out k r;have T:=af (λm=>aeb E G F J B B' (aR ls k) (aR ls k) (wr.drewN m) (by obtain⟨d,rfl⟩:=a.out;exact j.drewN d) (by obtain⟨d,rfl⟩:=a.out;exact p.drewN d) rfl rfl kT kT);simp only[beq_self_eq_true] at T;have e1:wr.cell? ⟨b,o+k,ns⟩=an (Y E (aR ls k).length F):=by obtain⟨d,rfl⟩:=a.out;exact h
   have e2:wr.cell? ⟨X,Z+k,ns⟩=an (Y G (aR ls k).length J):=by obtain⟨d,rfl⟩:=a.out;exact l
   clear j p hc f x y h l;go_wp2
   go_quiet((go_at_call 62;exact Calls.quiet_of (T.out _)))
   go_wp2;go_roundw;case rel=>exact⟨k+1,aa,aF,by obtain⟨d,rfl⟩:=a.out;exact⟨_,by first|rfl|exact World.drewN_drewN _ _ _⟩⟩
   case measure=>exact aT
  ·go_wp2;go_ret;exact⟨rfl,a.out⟩
def aam(v:so){lo hi:Nat}{E:Int}(vs:List so)(c:Nat)(A:Option ajF)(V:fp w lo hi (Y A n c) ls vs)(J6:0<=E)(rx:E<=100000000000)(lt:ej ls n<=1048576)(hn:ls.length=n)(lx:n<=1048576)(uq:hi<=w.heap.size):
  aiK Gz.prog 25 #[Y A n c,U O E] w λe w'=>e=be (U O (E+ej ls n))/\∃S:List Nat,(∀s,s∈S->lo<=s/\s<hi)/\au S w w':=by
 have HN:=af hn;have F:=af V;have HL:Hid (∀k,k<n->(aR ls k).length<=1048576):=λk X=>aI (F8 ls aa) (by rw[hn];exact lt);have HT:Hid (∀k,k<=n->ej ls k<=1048576):=λk X=>aI (Sv ls X) lt;have hS0:Hid (∃S:List Nat,(∀s,s∈S->lo<=s/\s<hi)/\au S w w/\∀j s,0<=j->j<n->(vs[j]?.getD undef).ownBlock=an s->s∉S):=⟨[],aj,au.refl _ _,aj⟩;clear V hn lt;go_enter Gz.gf func25,ntmps25;go_wp2;go_loopw[1,5] (λx i wr=>∃(k:Nat)(z:Int),k<=n/\i=U O k/\x=U O z/\Hid (z=E+ej ls k)/\Hid (∃S:List Nat,(∀s,s∈S->lo<=s/\s<hi/\A≠an ⟨s,0,ns⟩)/\au S w wr/\∀j s,k<=j->j<n->(vs[j]?.getD undef).ownBlock=an s->s∉S)) (λ_ i _=>n-(intOf i).toNat)
 case atStart=>exact⟨0,_,aa,rfl,rfl,by rw[Hid,Qi];omega,[],aj,au.refl _ _,aj⟩
 case round=>
  obtain⟨k,z,X,rfl,rfl,hz,hS⟩:=hrel;clear hS0;by_cases o:k<n
  ·have i6:(k:Int)<n:=by omega
   obtain⟨S,s1,s2,G⟩:=hS.out;clear hS;obtain⟨g,cap,hg,hb,hl⟩:=F.out.row.form eD;injection hg with e1 e2 e3;subst e1;clear e2 e3;have a:=F.out.el k eD;obtain⟨p,r,hu⟩:=a.form
   have J:vs[k]?=an (Y p (aR ls k).length r):=by
    have:k<vs.length:=by rw[F.out.len,HN.out];exact o
    rw[ajK this] at hu⊢;simpa using hu
   have y:=F.out.row.cells (g:=g) rfl k _ J;have hgS:g∉S:=λh=>(s1 g h).2.2 rfl
   have y:wr.cell? ⟨g,k,ns⟩=an (Y p (aR ls k).length r):=by
    rw[nK s2 hl hgS];by_cases h0:k=0
    ·subst h0;simpa[Addr.add] using y
    ·simpa[Addr.add,h0] using y
   have C:∀s,(aki p (aR ls k).length r).ownBlock=an s->s<hi/\s∉S/\lo<=s/\g≠s:=λs d=>by have D:=d;rw[<-hu] at D;have h8:=F.out.eh k s eD D;exact⟨h8.1,G k s (av _) o D,(a.2.lt s D).1,λe=>h8.2 (by rw[<-e];rfl)⟩
   have M:∀j s,k+1<=j->j<n->(vs[j]?.getD undef).ownBlock=an s->(aki p (aR ls k).length r).ownBlock≠an s:=λj s hj f d D=>by rw[<-hu] at D;exact F.out.ne k j s aa (by rw[HN.out];exact f) D d
   rw[hu] at a
   have m:aK wr lo (Y p (aR ls k).length r) (aR ls k).length (aR ls k):=by
    refine⟨a.1,a.2.1,?_⟩;rcases a.2.2 with h|⟨Z,N,P,h1,h2,h3,h4⟩
    ·exact .inl h
    ·refine .inr ⟨Z,N,P,h1,h2,?_,h4⟩;have hg':(aki p (aR ls k).length r).ownBlock=an Z:=by rw[h1];rfl
     exact(s2.block Z (bE.1 h3).1 (C Z hg').2.1).trans h3
   have hz1:=hz.out;have ht1:=HT.out k X;have R:=Ak ls k eD;have hlk:=HL.out k o;have T:=af (aaT z m aa aa aa);have KK:Hid (z+((aR ls k).length:Int)=E+ej ls (k+1)):=by rw[Hid,R,hz1];omega
   have KS:=af (And.intro s1 (And.intro s2 G));have HBK:=af C;have EQ:=af M;clear a m J hu hz1 ht1 R hlk s1 s2 G C M;go_wp2;refine T.out.mono ?_;rintro e w5⟨rfl,_,g5⟩;go_wp2;go_roundw
   case rel=>
    refine⟨k+1,_,aa,aF,rfl,KK.out,?_⟩;obtain⟨s1,s2,G⟩:=KS.out;cases l:(aki p (aR ls k).length r).ownBlock with
    |none=>rw[l] at g5;exact⟨S,s1,s2.q (Q.iS g5),λj s hj f=>G j s aa f⟩
    |some b=>
     rw[l] at g5;obtain⟨h1,h2,h3,h4⟩:=HBK.out b l;refine⟨b::S,λs d=>?_,(s2.more λx V=>by simp[V]).grown g5 (.inl aj),λj s hj f d=>?_⟩
     ·rcases jH.1 d with rfl|d
      ·exact⟨h3,h1,λe=>h4 (by injection e with e;injection e)⟩
      ·exact s1 s d
     ·intro hm;rcases jH.1 hm with rfl|hm
      ·exact EQ.out j s hj f d l
      ·exact G j s aa f d hm
   case measure=>exact aT
  ·have jn:k=n:=by omega
   subst jn;go_wp2;go_ret;obtain⟨S,s1,s2,_⟩:=hS.out;exact⟨by rw[hz.out];rfl,S,λs d=>⟨(s1 s d).1,(s1 s d).2.1⟩,s2⟩
end
end Go.Proofs.Q0
