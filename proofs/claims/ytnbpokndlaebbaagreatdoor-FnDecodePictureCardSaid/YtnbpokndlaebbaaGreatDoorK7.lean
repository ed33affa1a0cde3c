import Derived.Test.YtnbpokndlaebbaaGreatDoorK6
import Derived.Laws.StructEq
import Derived.Laws.Tables
import Derived.RangeFuncNested
import Derived.RangeFuncBound
import Derived.RangeFuncCalls
import Derived.RangeFuncLeaves
import Derived.Shelf.Abstract
import Derived.Shelf.RegionOpen
import Derived.OwnWalkIn
import Derived.TacticsInMore
import Derived.LoopNIn
import Derived.LoopIn
set_option maxRecDepth 100000
set_option maxHeartbeats 8000000
set_option linter.all false
open Go.Value renaming int->U,slice->Y,bool->ci,agg->bi,pointer->d9,tuple->em,iface->gc
open Go.IntKind renaming i64->O
open Go.Obj renaming cells->ap
open Go.Ending renaming returned->dl
open Array renaming replicate_succ->akg,replicate_zero->akh
open Bool renaming eq_iff_iff->ajM,false->Ba,false_eq_true->air,true->AT,true_and->akq
open Go renaming Calls->ahR,Oper->ajq,TypeId->SL,Value->AS,World->rl,execOp->aie,run_underlying->aky,wpList->aiB
open Go.Op renaming equalIn->aim
open Go.Region renaming wanted->ahW
open Go.Result renaming andThen_ok->aiz
open Go.Sem renaming run_bind->aih,run_pure->ajm
open Go.World renaming size_alloc->NO
open List renaming all_eq_true->aia,append_assoc->ait,append_toArray->akt,cons_append->aje,drop_of_length_le->ajW,length_append->ahc,length_cons->ais,length_map->aiS,length_nil->ajF,nil_append->ajr,range->aij,range_succ->aiU,replicate->so
open Nat renaming le_refl->akf,reduceAdd->aiP
open Option renaming none->ns,some->an
namespace Go.Proofs
def yh{p:Prop}(h:p:=by rw[bZ (by omega)];rfl):p:=h
def J7{p:Prop}(h:p:=by rw[bZ aa] at hj;rw[gj _ _ _ _ hj];obtain rfl:j=0:=aa;simp):p:=h
def J8{p:Prop}(h:p:=by unfold part;simp only[Sem.run_bind,ha,Result.andThen_ok,hs,Qh,if_true];rfl):p:=h
def J9{p:Prop}(h:p:=by
  rw[bZ aa] at hi;rw[gj _ _ _ _ hi];rcases i with _|_|_|_|i
  ·rfl
  ·rfl
  ·rfl
  ·rfl
  ·omega):p:=h
def Ka{p:Prop}(h:p:=by rw[zW m 7 16 48 aa,zW m 23 16 32 aa,zW m 39 16 16 aa];rfl):p:=h
def LC{p:Prop}(h:p:=by rw[hm];have H:=ag he;go_enter Gz.gf func172,ntmps172;go_wp2;go_ret;exact⟨by rw[<-H.out];rfl,rfl⟩):p:=h
def rO{p:Prop}(h:p:=by show w.heap.size+1≠g;omega):p:=h
def yi{p:Prop}(h:p:=by show w.heap.size<=g;omega):p:=h
def Kd{p:Prop}(h:p:=by
  go_wp2;go_roundw;case rel=>exact⟨k+1,aa,aJ,n1.out,n2.out,n3.out⟩
  case measure=>simp[intOf];omega):p:=h
def LD{p:Prop}(h:p:=by go_wp2_with(first|(first|refine eY rfl rfl rfl aE ?_|refine eU aC rfl rfl aE ?_)|(refine iG rfl _ _ rfl _ rfl _ _ rfl dn aE ?_;intro w9 b9 g9 s9));refine bodyPost_ret (v:=bi (arr _)) (results_cell_row aC _ _ _ _ _ _ _ aC (Bl.blk b9) (Gz.gu underlying97) rfl (by rw[bP,BU];exact lD)) rfl ⟨by rw[JT.out],?_⟩;exact K3.out.grown g9 λk e=>by have:=aH e;omega):p:=h
def my{p:Prop}(h:p:=by simp):p:=h
def Ke{p:Prop}(h:p:=by(go_wp2_with((with_reducible refine sj (ty:=100) _ (k*71) ?_ ?_ _ hl 71 ?_ _ (Gz.gu underlying100) ?_ e8 ?_);exact rfl;exact rfl;omega;exact rfl;rw[qg]);go_ret;refine⟨_,rfl,?_,K2.out.trans (q5.alloc _)⟩;rw[Pu (Qu aV HB.out)];exact aK.jb w5 w.heap.size (aQ dg q5.size))):p:=h
def LF{p:Prop}(h:p:=by obtain⟨j,hj⟩:∃j,n=j+1:=⟨n-1,aa⟩;rw[hj,vw,List.length_append] at hlen;have:=E8 be (aP xs j);omega):p:=h
abbrev uZ:=@Go.KeepsOthers.setCell
end Go.Proofs
namespace Go.Proofs.Q0
open Go.Proofs.Tryz
variable{xs ys m:List Int}{n s k g:Nat}{x y:Operand}{gd:Option (Nat×Bool)}{pos:String}{ty:SL}{w:rl}
section
open Go.RowKit Go.WideShapes Go.ChangeShapes
section
variable{P:Program}
def Mp(d n s:Nat)(t b:SL)(xs ys:Array AS)(f:Nat->Bool)(u v:Nat->AS)(c:P.underlying t=an (.array n b))(e:∀w,(sizeOf b).run P w=.ok s w)(w:rl)
  (h:∀i,i<n->∀w,(part b xs (i*s)).run P w=.ok (u i) w/\(part b ys (i*s)).run P w=.ok (v i) w/\(aim d b (u i) (v i)).run P w=.ok (f i) w):
  (aim (d+1) t (bi xs) (bi ys)).run P w=.ok ((aij n).all f) w:=by
 rw[aim];simp only[aih,aky c,aiz,e];simp only[Std.Legacy.Range.forIn_eq_forIn_range',Std.Legacy.Range.size,Nat.sub_zero,Nat.add_sub_cancel,Nat.div_one];rw[<-List.range_eq_range'];have h:∀i∈aij n,∀w,(part b xs (i*s)).run P w=.ok (u i) w/\(part b ys (i*s)).run P w=.ok (v i) w/\(aim d b (u i) (v i)).run P w=.ok (f i) w:=λi hi=>h i (fM.1 hi);generalize aij n=l at h
 induction l generalizing w with
 |nil=>simp[ajm]
 |cons i l p=>
  obtain⟨h1,q,r⟩:=h i au w;simp only[List.forIn_cons,aih,h1,q,r,aiz,List.all_cons];cases f i with
  |false=>simp[ajm]
  |true=>exact p w λj z=>h j (by simp[z])
theorem Qx(n s:Nat)(xs ys:List Int)(b:xs.length=n*s)(p:ys.length=n*s):((aij n).all λi=>sub xs (i*s) s==sub ys (i*s) s)=(xs==ys):=by
 rw[ajM,aia,beq_iff_eq];constructor
 ·intro h;refine nt (by rw[b,p]) λj c=>?_;rw[b] at c;have d:0<s:=eW;have hd:=(Nat.div_lt_iff_lt_mul d).2 c;have hm:=Nat.mod_lt j d;have he:j/s*s+j%s=j:=by rw[Nat.mul_comm];exact Nat.div_add_mod j s
  have e:=h (j/s) (fM.2 hd);rw[beq_iff_eq] at e;have f:=gj xs (j/s*s) s (j%s) hm;have l:=gj ys (j/s*s) s (j%s) hm;rw[he] at f l;rw[<-f,<-l,e]
 ·simp_all
def MM(d:Nat){t b:SL}(f:P.underlying t=an (.array n b))(l:∀w,(sizeOf b).run P w=.ok 1 w)(c:∀w,(isAgg b).run P w=.ok Ba w)(hu:P.underlying b=an (.int .i64))
  (p:xs.length=n)(q:ys.length=n)(w:rl):(aim (d+1+1) t (bi (arr xs)) (bi (arr ys))).run P w=.ok (xs==ys) w:=by
 have h:=Mp (P:=P) (d+1) n 1 t b (arr xs) (arr ys) (λi=>xs[i]?.getD 0==ys[i]?.getD 0) (λi=>U O (xs[i]?.getD 0)) (λi=>U O (ys[i]?.getD 0)) f l w λi hi w=>by
  refine⟨?_,?_,run_equalIn_int w d b .i64 .i64 _ _ hu⟩
  ·unfold part;simp only[aih,c,aiz,Nat.mul_one,nE xs i aa];rfl
  ·unfold part;simp only[aih,c,aiz,Nat.mul_one,nE ys i aa];rfl
 rw[h];congr 1;have e:=Qx n 1 xs ys aa aa;rw[<-e];rw[ajM,aia,aia];refine forall_congr' λi=>forall_congr' λhi=>?_;have hi:=fM.1 hi
 have s1:sub xs (i*1) 1=[xs[i]?.getD 0]:=nt yh λj hj=>by exact J7
 have s2:sub ys (i*1) 1=[ys[i]?.getD 0]:=nt yh λj hj=>by exact J7
 rw[s1,s2];simp
def XJ(d:Nat){m:Nat}{t b c:SL}(l:P.underlying t=an (.array m b))(hs:∀w,(sizeOf b).run P w=.ok s w)(ha:∀w,(isAgg b).run P w=.ok AT w)
  (e:P.underlying b=an (.array s c))(f:∀w,(sizeOf c).run P w=.ok 1 w)(j:∀w,(isAgg c).run P w=.ok Ba w)(hu:P.underlying c=an (.int .i64))
  (p:xs.length=m*s)(q:ys.length=m*s)(w:rl):(aim (d+1+1+1) t (bi (arr xs)) (bi (arr ys))).run P w=.ok (xs==ys) w:=by
 have r:∀i,i<m->i*s+s<=m*s:=λi hi=>by have:=yZ s (show i+1<=m by omega);rw[Nat.succ_mul] at this;exact this
 have h:=Mp (P:=P) (d+1+1) m s t b (arr xs) (arr ys) (λi=>sub xs (i*s) s==sub ys (i*s) s) (λi=>bi (arr (sub xs (i*s) s))) (λi=>bi (arr (sub ys (i*s) s))) l hs w λi hi w=>by
  have:=r i hi;refine⟨?_,?_,MM d e f j hu (bZ aa) (bZ aa) w⟩
  ·exact J8
  ·exact J8
 rw[h,Qx m s xs ys p q]
variable{ops:Array ajq}{rest:List ajq}{o:ajq}{a:Act}{w:rl}{Q':Exit->Act->rl->Prop}
def Wz(hw:ahW o (yielded ops a.tmps)=AT){t:SL}(c:SL)(d:o.op=.binOp .eql t x y c)(e:a.eval x=bi (arr xs))(f:a.eval y=bi (arr ys))
  (i:(aim 10000 t (bi (arr xs)) (bi (arr ys))).run P w=.ok (xs==ys) w)(hG:P.eqGuardType P.depth t=Ba)
  (h:aiB P ops Q' rest (a.put o.dst (ci (xs==ys))) w):aiB P ops Q' (o::rest) a w:=
 wpList_step λ_ b=>by rw[if_pos hw];unfold Oper.wp aie;simp only[d,e,f,eqGuard,binOp,Op.equal,Op.maxDepth,aih,ajm,aiz,Bool.not_true,Bool.not_false,air,if_false,if_true,Sem.run_ite,run_program,hG,i];exact b _ _ h
def WA(hw:ahW o (yielded ops a.tmps)=AT){t:SL}(c:SL)(d:o.op=.binOp .neq t x y c)(e:a.eval x=bi (arr xs))(f:a.eval y=bi (arr ys))
  (i:(aim 10000 t (bi (arr xs)) (bi (arr ys))).run P w=.ok (xs==ys) w)(hG:P.eqGuardType P.depth t=Ba)
  (h:aiB P ops Q' rest (a.put o.dst (ci (!(xs==ys)))) w):aiB P ops Q' (o::rest) a w:=
 wpList_step λ_ b=>by rw[if_pos hw];unfold Oper.wp aie;simp only[d,e,f,eqGuard,binOp,Op.equal,Op.maxDepth,aih,ajm,aiz,Bool.not_true,Bool.not_false,air,if_false,if_true,Sem.run_ite,run_program,hG,i];exact b _ _ h
def ng{dst:Option Tmp}{t c:SL}{b:Array Edge}(hw:ahW ⟨dst,.binOp .neq t x y c,ty,pos,b,gd⟩ (yielded ops a.tmps)=AT)(xs ys:List Int)(d:a.eval x=bi (arr xs))(e:a.eval y=bi (arr ys))
  (f:(aim 10000 t (bi (arr xs)) (bi (arr ys))).run P w=.ok (xs==ys) w)(hG:P.eqGuardType P.depth t=Ba)
  (h:aiB P ops Q' rest (a.put dst (ci (!(xs==ys)))) w):aiB P ops Q' (⟨dst,.binOp .neq t x y c,ty,pos,b,gd⟩::rest) a w:=
 WA hw c rfl d e f hG h
def nh{dst:Option Tmp}{t c:SL}{b:Array Edge}(hw:ahW ⟨dst,.binOp .eql t x y c,ty,pos,b,gd⟩ (yielded ops a.tmps)=AT)(xs ys:List Int)(d:a.eval x=bi (arr xs))(e:a.eval y=bi (arr ys))
  (f:(aim 10000 t (bi (arr xs)) (bi (arr ys))).run P w=.ok (xs==ys) w)(hG:P.eqGuardType P.depth t=Ba)
  (h:aiB P ops Q' rest (a.put dst (ci (xs==ys))) w):aiB P ops Q' (⟨dst,.binOp .eql t x y c,ty,pos,b,gd⟩::rest) a w:=
 Wz hw c rfl d e f hG h
def JJ{t:SL}(hw:ahW o (yielded ops a.tmps)=AT)(ty:SL)(x:Operand)(c:o.op=.load ty x)(g off:Nat)(e:a.eval x=d9 (an ⟨g,off,ns⟩))(xs:List Int)(h:Nb t n w g xs)(k:Nat)(f:off+k<=n)(d:TypeDesc)
  (hu:P.underlying ty=an d)(hd:d.isRow=AT)(hi:(P.info? ty).map (·.size)=an k)
  (hK:aiB P ops Q' rest (a.put o.dst (bi (arr (sub xs off k)))) w):aiB P ops Q' (o::rest) a w:=
 wpList_step λ_ b=>by rw[if_pos hw];exact wp_load_mid ty x c g off e _ d (h.range off k f) hu hd (by rw[aiS,bZ (by have:=h.len;omega)];exact hi) (b _ _ hK)
def V3{t:SL}{B c:Nat}(hw:ahW o (yielded ops a.tmps)=AT)(e:o.op=.load ty x){off:Nat}(f:a.eval x=d9 (an ⟨g,off,ns⟩))(h:az t s w B (Y (an ⟨g,0,ns⟩) n c) n xs)(i:off+k<=n*s){d:TypeDesc}
  (hu:P.underlying ty=an d)(hd:d.isRow=AT)(hi:(P.info? ty).map (·.size)=an k)
  (hK:aiB P ops Q' rest (a.put o.dst (bi (arr (sub xs off k)))) w):aiB P ops Q' (o::rest) a w:=
 wpList_step λ_ b=>by rw[if_pos hw];exact wp_load_mid ty x e g off f _ d (h.range off k i) hu hd (by rw[aiS,bZ (by have:=h.1;omega)];exact hi) (b _ _ hK)
def ep{t:SL}{dst:Option Tmp}{b:SL}{c:Array Edge}(g off:Nat)(e:a.eval x=d9 (an ⟨g,off,ns⟩))(hw:ahW ⟨dst,.load ty x,b,pos,c,gd⟩ (yielded ops a.tmps)=AT)(xs:List Int)(h:Nb t n w g xs)(k:Nat)(f:off+k<=n)(d:TypeDesc)
  (hu:P.underlying ty=an d)(hd:d.isRow=AT)(hi:(P.info? ty).map (·.size)=an k)
  (hK:aiB P ops Q' rest (a.put dst (bi (arr (sub xs off k)))) w):aiB P ops Q' (⟨dst,.load ty x,b,pos,c,gd⟩::rest) a w:=
 JJ hw ty x rfl g off e xs h k f d hu hd hi hK
def sj{t:SL}{B c:Nat}{dst:Option Tmp}{b:SL}{e:Array Edge}(g off:Nat)(f:a.eval x=d9 (an ⟨g,off,ns⟩))(hw:ahW ⟨dst,.load ty x,b,pos,e,gd⟩ (yielded ops a.tmps)=AT)(xs:List Int)(h:az t s w B (Y (an ⟨g,0,ns⟩) n c) n xs)(k:Nat)(i:off+k<=n*s)(d:TypeDesc)
  (hu:P.underlying ty=an d)(hd:d.isRow=AT)(hi:(P.info? ty).map (·.size)=an k)
  (hK:aiB P ops Q' rest (a.put dst (bi (arr (sub xs off k)))) w):aiB P ops Q' (⟨dst,.load ty x,b,pos,e,gd⟩::rest) a w:=
 V3 hw rfl f h i hu hd hi hK
end
end
section
open Go.RowKit Go.WideShapes Go.ChangeShapes
def Aw{t:SL}(h:(Gz.prog.info? t).map (·.size)=an s)(w:rl):(sizeOf t).run Gz.prog w=.ok s w:=by
 generalize Gz.prog=P at h⊢;cases hi:P.info? t with
 |none=>rw[hi] at h;cases h
 |some i=>rw[run_sizeOf (P:=P) (w:=w) hi];have:i.size=s:=eN;simp[Program.cellsOf,hi,this]
def FU{t:SL}{d:TypeDesc}(h:Gz.prog.underlying t=an d)(hd:(match d with|.struct _|.array _ _=>AT|_=>Ba)=Ba)(w:rl):(isAgg t).run Gz.prog w=.ok Ba w:=by cases d<;>simp_all[isAgg,aky h]
def Ro{t:SL}{d:TypeDesc}(h:Gz.prog.underlying t=an d)(hd:(match d with|.struct _|.array _ _=>AT|_=>Ba)=AT)(w:rl):(isAgg t).run Gz.prog w=.ok AT w:=by cases d<;>simp_all[isAgg,aky h]
def Qy:(Gz.prog.info? 3).map (·.size)=an 1:=aF
def rj(b:xs.length=4)(c:ys.length=4):(aim 10000 96 (bi (arr xs)) (bi (arr ys))).run Gz.prog w=.ok (xs==ys) w:=
 MM 9998 (Gz.gu underlying96) (Aw Qy) (FU (Gz.gu underlying3) rfl) (Gz.gu underlying3) b c w
def To(b:xs.length=64)(c:ys.length=64):(aim 10000 98 (bi (arr xs)) (bi (arr ys))).run Gz.prog w=.ok (xs==ys) w:=
 XJ 9997 (Gz.gu underlying98) (Aw cM) (Ro (Gz.gu underlying97) rfl) (Gz.gu underlying97) (Aw Qy) (FU (Gz.gu underlying3) rfl) (Gz.gu underlying3) b c w
def nZ{a b c d:Int}:(aim 10000 95 (bi (arr [a,b])) (bi (arr [c,d]))).run Gz.prog w=.ok ([a,b]==[c,d]) w:=by
 have u3:=(Gz.gu underlying3);have e:=run_equalIn_struct (P:=Gz.prog) w 9999 95 (arr [a,b]) (arr [c,d]) aj aj;rw[e];have i:(Gz.prog.fieldsOf 95).toList.map (λf=>(f.name,f.type,f.offset))=[("X",3,0),("Y",3,1)]:=aj
 have j:∀(xs:Array AS)(o:Nat)(x:Int)(w:rl),xs[o]?=an (.int .i64 x)->(part 3 xs o).run Gz.prog w=.ok (.int .i64 x) w:=λxs o x w h=>by unfold part;simp only[aih,FU u3 rfl w,aiz,h,air,if_false,ajm]
 generalize(Gz.prog.fieldsOf 95).toList=fs at i;rcases fs with _|⟨f1,_|⟨f2,_|⟨f3,r⟩⟩⟩
 ·simp at i
 ·simp at i
 ·simp only[List.map_cons,List.map_nil,List.cons.injEq,Prod.mk.injEq,and_true] at i;obtain⟨⟨l,t1,p⟩,q,t2,t⟩:=i;simp only[Op.eqFields,aih,Sem.run_ite,l,q,t1,t2,p,t];have u:("X" :String)≠ "_" :=aw;have v:("Y" :String)≠ "_" :=aw;simp only[if_pos u,if_pos v];have q1:=j (arr [a,b]) 0 a w rfl;have z:=j (arr [c,d]) 0 c w rfl;have A:=j (arr [a,b]) 1 b w rfl;have B:=j (arr [c,d]) 1 d w rfl;have C:=run_equalIn_int (P:=Gz.prog) w 9998 3 .i64 .i64 a c u3;have D:=run_equalIn_int (P:=Gz.prog) w 9998 3 .i64 .i64 b d u3;simp only[q1,z,A,B,C,D,aiz];have E:([a,b]==[c,d])=((a==c)&&(b==d)):=by simp[List.cons_beq_cons]
  rw[E];cases a==c<;>cases b==d<;>simp[ajm]
 ·simp at i
def W9(x y:Int)(w:rl):ahR Gz.prog 129 #[bi #[U O x,U O y]] w λe w'=>e=dl (ci (decide (-16<=x/\x<=16)&&decide (-16<=y/\y<=16)))/\Q w w':=by
 obtain⟨b,d⟩:∃b,decide (-16<=x/\x<=16)=b:=⟨_,rfl⟩;obtain⟨c,hc⟩:∃c,decide (-16<=y/\y<=16)=c:=⟨_,rfl⟩;rw[d,hc];have f:=ag d;have h:=ag hc;go_enter Gz.gf func129,ntmps129;go_wp2;refine(cG _ f).mono ?_;rintro e w'⟨rfl,rfl⟩;cases b with
 |false=>exact Dd
 |true=>go_wp2;refine(cG _ h).mono ?_;rintro e w'⟨rfl,rfl⟩;exact Dd
def sub_one(m:List Int)(k:Nat):m[k]?.getD 0=ax m k:=rfl
def Fx(b:m.length=71):kU m=([ax m 1,ax m 2]==[0,0]):=by unfold kU;simp[List.cons_beq_cons]
def Ax(b:m.length=71):jI m=(sub m 3 4==[0,0,0,0]):=by
 have:sub m 3 4=[ax m 3,ax m 4,ax m 5,ax m 6]:=nt yh λi hi=>by exact J9
 rw[this];unfold jI;simp[List.cons_beq_cons,Bool.and_assoc]
def Qz(c:m.length=71):qI m=(sub m 7 64==so 64 0):=by
 unfold qI;have hlen:(sub m 7 64).length=64:=bZ aa;rw[ajM,aia,beq_iff_eq];constructor
 ·intro h;refine List.eq_replicate_iff.2 ⟨hlen,λx b=>?_⟩;have:=h x b;simpa using this
 ·simp_all
def mQ(m:List Int)(k:Nat):Bool:=(aij k).all λj=>decide (0<=ax m (3+j)/\ax m (3+j)<=4)&&aW (lvl m j) 4080
def ZF(m:List Int)(k:Nat):mQ m (k+1)=(mQ m k&&(decide (0<=ax m (3+k)/\ax m (3+k)<=4)&&aW (lvl m k) 4080)):=by unfold mQ;rw[aiU,List.all_append];simp
def acK(b:k<4)(h:(decide (0<=ax m (3+k)/\ax m (3+k)<=4)&&aW (lvl m k) 4080)=Ba):mQ m 4=Ba:=by
 cases c:mQ m 4 with
 |false=>rfl
 |true=>have:=gW.1 c k (fM.2 b);rw[h] at this;cases this
def zW(m:List Int)(o a b:Nat)(h:o+(a+b)<=m.length):sub m o (a+b)=sub m o a++sub m (o+a) b:=by unfold sub;rw[List.take_add,List.drop_drop]
def acL(q:m.length=71):mQ m 4=(lZ m&&aW (sub m 7 64) 4080):=by
 have h1:sub m 7 64=lvl m 0++(lvl m 1++(lvl m 2++lvl m 3)):=by exact Ka
 have b:sub m 3 4=[ax m 3,ax m 4,ax m 5,ax m 6]:=nt yh λi hi=>by exact J9
 unfold lZ mQ;rw[h1,b,nB,nB,nB];simp only[aiU,List.range_zero,ajr,aje,List.all_cons,List.all_nil,Bool.and_true];generalize aW (lvl m 0) 4080=c;generalize aW (lvl m 1) 4080=d;generalize aW (lvl m 2) 4080=e;generalize aW (lvl m 3) 4080=f;generalize decide (0<=ax m 3/\ax m 3<=4)=h;generalize decide (0<=ax m 4/\ax m 4<=4)=j;generalize decide (0<=ax m 5/\ax m 5<=4)=l;generalize decide (0<=ax m 6/\ax m 6<=4)=p;cases c<;>cases d<;>cases e<;>cases f<;>cases h<;>cases j<;>cases l<;>cases p<;>rfl
def ad3(h:jI m=AT)(b:m.length=71):lZ m=AT:=by rw[Ax b,beq_iff_eq] at h;unfold lZ;rw[h];rfl
theorem ZG(b:m.length=71)(h0:ax m 0=0\/ax m 0=1\/ax m 0=2):dt m=(kV m&&mQ m 4&&(ax m 0==1||kU m)&&(ax m 0==2||jI m)&&(!(ax m 0==0)||qI m)):=by
 have c:=λh=>ad3 (m:=m) h b;rw[acL b];unfold dt j5;rcases h0 with h|h|h
 ·grind
 ·grind
 ·grind
def Og(h:¬(ax m 0=0\/ax m 0=1\/ax m 0=2)):dt m=Ba:=by unfold dt j5;rw[if_neg λe=>h (.inl e),if_neg λe=>h (.inr (.inl e)),if_neg λe=>h (.inr (.inr e))];rfl
end
section
open Go.RowKit
def Fy(F G:Nat->Int)(h:k<16):(bk (λj=>if j<k then F j else G j) 16).set k (F k)=bk (λj=>if j<k+1 then F j else G j) 16:=by exact JU
def E9(F G:Nat->Int):bk (λj=>if j<16 then F j else G j) 16=bk F 16:=aC
def Fa{F:Nat->Int}(h:xs.length=16):bk (λj=>if j<0 then F j else xs[j]?.getD 0) 16=xs:=by rw[Zr (λj=>xs[j]?.getD 0) 16 λi _=>if_neg aa,aeP h]
def FV{F G:Nat->Int}{m:Nat}(h:k<16)(hm:m<=k):(bk (λj=>if j<m then F j else G j) 16)[k]?.getD 0=G k:=by rw[oI h,if_neg aa]
def Ay{M:Int}(h:aW xs M=AT)(c:0<=M):de xs M:=λk=>by
 rcases cZ k xs.length with b|b
 ·exact nz h k b
 ·simp_all
def afZ{M:Int}{t:Bool}(h:xs.length=16)(r:0<=M)(p:M<=100000)(j:Hid (aW xs M=t)):
  ahR Gz.prog 130 #[bi (arr xs),U O M] w λe w'=>e=dl (ci t)/\Q w w':=by
 have q:=Bl.new w xs h;have l:Q w (w.alloc (ap (arr xs) 97)):=aU;go_enter Gz.gf func130,ntmps130;go_wp2;go_loop[5] (λi=>∃k:Nat,k<=16/\i=U O k/\Hid (aW xs M=aW (xs.drop k) M)) (λi=>16-(intOf i).toNat)
 case atStart=>exact⟨0,aa,rfl,rfl⟩
 case round=>
  obtain⟨k,u,rfl,hr⟩:=hrel;by_cases f:k<16
  ·have c:(k:Int)<16:=by omega
   have b:=O7 xs M k aa;have hc:=q.at k f;generalize xs[k]?.getD 0=y at hc b;by_cases d: -M<=y/\y<=M
   ·rw[decide_eq_true d,akq] at b;have kc:=ag b;go_wp2;refine(oH _ d.1 d.2).mono ?_;rintro e w'⟨rfl,rfl⟩;exact C9
   ·rw[decide_eq_false d,Bool.false_and] at b;have kc:=ag b;go_wp2;refine(Fp _ _ _ _ aa).mono ?_;rintro e w'⟨rfl,rfl⟩;go_wp2;go_ret;exact⟨by rw[<-j.out,hr.out,kc.out];rfl,l⟩
  ·have c:k=16:=by omega
   subst c;go_wp2;go_ret;exact⟨by rw[<-j.out,hr.out,ajW (Nat.le_of_eq h)];rfl,l⟩
def ad4{B:Int}(d:xs.length=16)(f:de xs B)(b:0<=B)(c:B<=1000000):
  ahR Gz.prog 180 #[bi (arr xs)] w λe w'=>e=dl (bi (arr (jd xs)))/\Q w w':=by
 rw[<-acm d];exact aaG w d f b c
def LG{ops:Array ajq}{rest:List ajq}{c f:ajq}{a:Act}{Q':Exit->Act->rl->Prop}(h1:c.guard=ns){d:Tmp}(hd:c.dst=an d)(h:c.op=.alloc 97)
  (l:f.guard=ns)(i:f.op=.store 97 x y)(p:(a.put (an d) (d9 (an ⟨w.heap.size,0,ns⟩))).eval x=d9 (an ⟨w.heap.size,0,ns⟩))
  (q:(a.put (an d) (d9 (an ⟨w.heap.size,0,ns⟩))).eval y=bi (arr ys))(r:ys.length=16)
  (hK:∀w',Bl w' w.heap.size ys->Q w w'->w'.heap.size=w.heap.size+1->aiB Gz.prog ops Q' rest ((a.put (an d) (d9 (an ⟨w.heap.size,0,ns⟩))).put f.dst undef) w'):aiB Gz.prog ops Q' (c::f::rest) a w:=by
 refine wpList_plain h1 λK j=>?_;have t:(Instr.alloc 97 AT (em #[])).run Gz.prog w=.ok (d9 (an ⟨w.heap.size,0,ns⟩)) (w.alloc (ap (arr (so 16 0)) 97)):=aC;unfold Oper.wp aie;simp only[h,t,aih,ajm,aiz];refine j _ _ ?_;rw[hd];refine iG l x y i w.heap.size p (so 16 0) ys q r (Bl.zero w) λw' b g s=>?_;refine hK w' b ?_ (by rw[s];simp);exact((Q.refl w).alloc _).grown g (λk e=>by have:=aH e;omega)
theorem aa1(n d:Int)(hd:0<d):(n.tmod d<0/\n.tdiv d-1=n/d)\/(0<=n.tmod d/\n.tdiv d=n/d):=by exact Ls
def acM(n:Int)(h1: -100000000<=n)(d:n<=100000000):
  ahR Gz.prog 172 #[U O n,U O 16] w λe w'=>e=dl (U O ((n+8)/16))/\w=w':=by
 obtain⟨m,hm⟩:∃m,n+8=m:=⟨_,rfl⟩;rcases aa1 m 16 aa with⟨b,he⟩|⟨b,he⟩
 ·have c:m.tdiv 16<=100000009:=by omega
  exact LC
 ·have c:m.tdiv 16<=100000009:=by omega
  have f: -100000009<=m.tdiv 16:=aa;exact LC
def ki(cs:List Int):List Int:=bk (λk=>((jd cs)[k]?.getD 0+8)/16) 16
def zX(cs:List Int):(ki cs).length=16:=aC
def ZH(A:xs.length=16)(H:Hid (aW xs 4080=AT)):
  ahR Gz.prog 144 #[bi (arr xs)] w λe w'=>e=dl (bi (arr (ki xs)))/\Q w w':=by
 have s1:=bP xs;rw[A] at s1;have r:Q w ((w.alloc (ap (arr xs) 97)).alloc (ap (arr (so 16 0)) 97)):=aU;have B:=(Bl.new w xs A).alloc (ap (arr (so 16 0)) 97);have l:=Bl.zero (w.alloc (ap (arr xs) 97));simp only[NO] at l;have z:=zR xs;have d:=ET (Ay H.out aa) aa;have L:((w.alloc (ap (arr xs) 97)).alloc (ap (arr (so 16 0)) 97)).heap.size=w.heap.size+1+1:=au;go_enter Gz.gf func144,ntmps144;go_wp2_with(first|refine eY rfl rfl rfl aE ?_|refine eU aC rfl rfl aE ?_);refine(aco A (Ay H.out aa) aa aa).mono ?_;rintro e C⟨rfl,q1⟩;have s2:w.heap.size+1+1<=C.heap.size:=by have:=q1.size;simp only[NO] at this;exact this
 replace B:=B.q q1;replace l:=l.q q1;replace r:=r.trans q1;clear q1;have hinv:∀b,b=jd xs->ki xs=bk (λk=>(b[k]?.getD 0+8)/16) 16:=λb e=>by rw[e];rfl
 obtain⟨b,f⟩:∃b,b=jd xs:=⟨_,rfl⟩;have M:=ag (hinv b f);rw[<-f] at z d⊢;have D:=ag d;clear hinv f d;have N:=bP b;rw[z] at N;go_wp2_with(refine LG rfl rfl rfl rfl rfl rfl rfl z ?_;intro W I E R);have F:w.heap.size+2<=C.heap.size:=aa;replace l:=l.q E;replace r:=r.trans E;clear B E L;generalize C.heap.size=g at I R F⊢;go_loopw[4] (λi wr=>∃k:Nat,k<=16/\i=U O k/\Hid (Bl wr g (bk (λj=>if j<k then(b[j]?.getD 0+8)/16 else b[j]?.getD 0) 16)/\Bl wr (w.heap.size+1) (so 16 0)/\Q w wr)) (λi _=>16-(intOf i).toNat)
 case atStart=>exact⟨0,aa,rfl,by rw[Fa z];exact I,l,r⟩
 case round=>
  obtain⟨k,X,rfl,hK⟩:=hrel;obtain⟨t,S,J⟩:=hK.out;by_cases h:k<16
  ·have c:(k:Int)<16:=by omega
   have u:=Fy (λj=>(b[j]?.getD 0+8)/16) (λj=>b[j]?.getD 0) h;have K:=t.at k h;have f1:=t.free k;rw[FV h (akf _)] at K;obtain⟨T,V⟩:=D.out k;generalize b[k]?.getD 0=y at u K T V;have n1:=ag (t.set k ((y+8)/16));rw[u] at n1;have n2:=ag (S.aL (p:=⟨g,k,ns⟩) rO (U O ((y+8)/16)));have n3:=ag (J.set (p:=⟨g,k,ns⟩) yi (U O ((y+8)/16)));go_wp2;refine(acM y aa aa).mono ?_;rintro e w'⟨rfl,rfl⟩;generalize(y+8)/16=v at n1 n2 n3⊢;exact Kd
  ·have c:k=16:=by omega
   subst c;rw[E9,<-M.out] at t;have K3:=ag J;have BU:=zX xs;generalize G:ki xs=Z at t BU;have JT:=ag G;exact LD
def V6(C:xs.length=16)(E:Hid (aW xs 4080=AT)):
  ahR Gz.prog 168 #[bi (arr xs)] w λe w'=>e=dl (bi (arr (ki xs)))/\Q w w':=by
 have s1:=bP xs;rw[C] at s1;have f:Q w ((w.alloc (ap (arr xs) 97)).alloc (ap (arr (so 16 0)) 97)):=aU;have v:=(Bl.new w xs C).alloc (ap (arr (so 16 0)) 97);have c:=Bl.zero (w.alloc (ap (arr xs) 97));simp only[NO] at c;have z:=zR xs;have l:=ET (Ay E.out aa) aa;have L:((w.alloc (ap (arr xs) 97)).alloc (ap (arr (so 16 0)) 97)).heap.size=w.heap.size+1+1:=au;go_enter Gz.gf func168,ntmps168;go_wp2_with(first|refine eY rfl rfl rfl aE ?_|refine eU aC rfl rfl aE ?_);refine(zr C aa aa E).mono ?_;rintro e A⟨rfl,q1⟩;have s2:w.heap.size+1+1<=A.heap.size:=by have:=q1.size;simp only[NO] at this;exact this
 replace v:=v.q q1;replace c:=c.q q1;replace f:=f.trans q1;clear q1;go_wp2_with(first|refine eY rfl rfl rfl aE ?_|refine eU aC rfl rfl aE ?_);refine(ad4 C (Ay E.out aa) aa aa).mono ?_;rintro e A⟨rfl,q1⟩;have V:w.heap.size+1+1<=A.heap.size:=aQ s2 q1.size;replace v:=v.q q1;replace c:=c.q q1;replace f:=f.trans q1;clear q1;have hinv:∀b,b=jd xs->ki xs=bk (λk=>(b[k]?.getD 0+8)/16) 16:=λb e=>by rw[e];rfl
 obtain⟨b,r⟩:∃b,b=jd xs:=⟨_,rfl⟩;have M:=ag (hinv b r);rw[<-r] at z l⊢;have F:=ag l;clear hinv r l;have N:=bP b;rw[z] at N;go_wp2_with(first|(first|refine eY rfl rfl rfl aE ?_|refine eU aC rfl rfl aE ?_)|(refine LG rfl rfl rfl rfl rfl rfl rfl z ?_;intro W G H R));have I:w.heap.size+2<=A.heap.size:=aa;replace c:=c.q H;replace f:=f.trans H;clear v H L;generalize A.heap.size=g at G R I⊢;go_loopw[13] (λi wr=>∃k:Nat,k<=16/\i=U O k/\Hid (Bl wr g (bk (λj=>if j<k then(b[j]?.getD 0+8)/16 else b[j]?.getD 0) 16)/\Bl wr (w.heap.size+1) (so 16 0)/\Q w wr)) (λi _=>16-(intOf i).toNat)
 case atStart=>exact⟨0,aa,rfl,by rw[Fa z];exact G,c,f⟩
 case round=>
  obtain⟨k,X,rfl,hK⟩:=hrel;clear G c f;obtain⟨u,J,D⟩:=hK.out;clear hK;by_cases d:k<16
  ·have h:(k:Int)<16:=by omega
   have t:=Fy (λj=>(b[j]?.getD 0+8)/16) (λj=>b[j]?.getD 0) d;have K:=u.at k d;have f1:=u.free k;have he:=λw=>rX b z d w;rw[FV d (akf _)] at K;obtain⟨S,T⟩:=F.out k;generalize b[k]?.getD 0=y at t K S T he;have n1:=ag (u.set k ((y+8)/16));rw[t] at n1;have n2:=ag (J.aL (p:=⟨g,k,ns⟩) rO (U O ((y+8)/16)));have n3:=ag (D.set (p:=⟨g,k,ns⟩) yi (U O ((y+8)/16)));have Z:IntKind.i64.wrap (y+8)=y+8:=aD _ ⟨aa,aa⟩;clear t u J D;exact Kd
  ·have h:k=16:=by omega
   subst h;rw[E9,<-M.out] at u;have K3:=ag D;clear D;have BU:=zX xs;generalize B:ki xs=vs at u BU;have JT:=ag B;clear B;exact LD
end
section
open Go.RowKit Go.WideShapes Go.ChangeShapes
def jE:(Gz.prog.info? 95).map (·.size)=an 2:=aF
def nC:(Gz.prog.info? 96).map (·.size)=an 4:=aF
def vD:(Gz.prog.info? 98).map (·.size)=an 64:=aF
def nS:Gz.prog.eqGuardType Gz.prog.depth 95=Ba:=my
def qx:Gz.prog.eqGuardType Gz.prog.depth 96=Ba:=my
def Rp:Gz.prog.eqGuardType Gz.prog.depth 98=Ba:=my
def XK(w:rl)(J:m.length=71):ahR Gz.prog 93 #[bi (arr m)] w λe w'=>e=dl (ci (dt m))/\Q w w':=by
 have s1:=bP m;rw[J] at s1;have S:=Nb.new 100 71 w m J;have T:Q w (w.alloc (ap (arr m) 100)):=(Q.refl _).alloc _;have c0:=S.at 0 aa;rw[sub_one] at c0;by_cases v:ax m 0=0\/ax m 0=1\/ax m 0=2
 ·have K:sub m 1 2=[ax m 1,ax m 2]:=lE m 1 aa;obtain⟨vb,A⟩:∃b,kV m=b:=⟨_,rfl⟩;have j:=A;unfold kV at j;have W:=ag (W9 (ax m 1) (ax m 2) (w.alloc (ap (arr m) 100)));rw[j] at W;have c:Hid (dt m=(vb&&mQ m 4&&(ax m 0==1||kU m)&&(ax m 0==2||jI m)&&(!(ax m 0==0)||qI m))):=by rw[Hid,ZG J v,A]
  clear A j;have L:=ag v;have k0:0<=ax m 0:=aa;have k2:ax m 0<=2:=aa;clear v;obtain⟨kd,f⟩:∃z,ax m 0=z:=⟨_,rfl⟩;rw[f] at c0 k0 k2 c L;have X:=ag f;clear f;have d:=S;go_enter Gz.gf func93,ntmps93;go_wp2;refine(oH _ k0 k2).mono ?_;rintro e w'⟨rfl,rfl⟩;go_wp2_with((with_reducible refine ep (ty:=95) _ 1 ?_ ?_ _ d 2 ?_ _ (Gz.gu underlying95) ?_ jE ?_);exact rfl;exact rfl;omega;exact rfl;rw[K]);refine W.out.mono ?_;rintro e w1⟨rfl,q1⟩;clear W;cases vb with
  |false=>go_wp2;go_ret;exact⟨by rw[c.out];rfl,T.trans q1⟩
  |true=>
   have B0:=ag (S.q q1);have Q0:=ag (T.trans q1);clear S d T q1 c0;go_wp2;go_loopw[3] (λi wr=>∃k:Nat,k<=4/\i=U O k/\Hid (mQ m k=AT/\Nb 100 71 wr w.heap.size m/\Q w wr)) (λi _=>4-(intOf i).toNat)
   case atStart=>exact⟨0,aa,rfl,rfl,B0.out,Q0.out⟩
   case round=>
    obtain⟨k,v,rfl,hK⟩:=hrel;obtain⟨y0,d,y2⟩:=hK.out;clear hK B0 Q0;have Z:=ag y0;have p:=ag y2;clear y0 y2;by_cases M:k<4
    ·have mp:(k:Int)<4:=by omega
     have cq:=d.at (3+k) aa;rw[sub_one] at cq;have pw:sub m (7+k*16) 16=lvl m k:=(by unfold lvl;rw[Nat.mul_comm 16 k]);have F':(lvl m k).length=16:=by unfold lvl;exact bZ (by omega)
     have r:=ZF m k;rw[Z.out,akq] at r;have B:=ag λh=>acK (m:=m) (k:=k) M h;obtain⟨bM,C⟩:∃b,decide (0<=ax m (3+k)/\ax m (3+k)<=4)=b:=⟨_,rfl⟩;obtain⟨bL,D⟩:∃b,aW (lvl m k) 4080=b:=⟨_,rfl⟩;rw[C,D] at r B;have N:=ag C;have HBL:=ag D;have HPS:=ag r;clear C D r;obtain⟨md,R⟩:∃z,ax m (3+k)=z:=⟨_,rfl⟩;rw[R] at cq N;clear R;go_wp2;refine(cG _ N).mono ?_;rintro e w'⟨rfl,rfl⟩;cases bM with
     |false=>go_wp2;go_ret;refine⟨?_,p.out⟩;rw[c.out,B.out rfl];simp
     |true=>
      go_wp2_with(refine JJ (n:=71) aC _ _ rfl _ (7+k*16) rfl _ d 16 aa _ (Gz.gu underlying97) rfl cM ?_;rw[pw]);refine(afZ F' aw aw HBL).mono ?_;rintro e w5⟨rfl,V⟩;cases bL with
      |false=>go_wp2;go_ret;refine⟨?_,p.out.trans V⟩;rw[c.out,B.out rfl];simp
      |true=>
       have b5:=d.q V;have q6:=p.out.trans V;clear d V cq;go_wp2;go_roundw;case rel=>exact⟨k+1,aa,aJ,by rw[HPS.out];rfl,b5,q6⟩
       case measure=>exact bj
    ·have PB:k=4:=by omega
     have hke:¬(k:Int)<4:=aa;rw[PB] at Z;have c0:=d.at 0 aa;rw[sub_one,X.out] at c0;have E:=Fx J;have F:=Ax J;have G:=Qz J;obtain⟨ve,H⟩:∃b,([ax m 1,ax m 2]==[0,0])=b:=⟨_,rfl⟩;obtain⟨me,I⟩:∃b,(sub m 3 4==[0,0,0,0])=b:=⟨_,rfl⟩;obtain⟨le,hle⟩:∃b,(sub m 7 64==so 64 0)=b:=⟨_,rfl⟩;have l:=ag H;have u:=ag I;have HLE:=ag hle;rw[H] at E;rw[I] at F;rw[hle] at G;rw[E,F,G,Z.out] at c;clear H I hle E F G M;rcases L.out with h|h|h
     ·subst h;cases ve with
      |false=>go_wp2_with(first|((with_reducible refine ep (ty:=95) _ 1 ?_ ?_ _ d 2 ?_ _ (Gz.gu underlying95) ?_ jE ?_);exact rfl;exact rfl;omega;exact rfl;rw[K])|((with_reducible refine ng (t:=95) ?_ [ax m 1,ax m 2] [0,0] ?_ ?_ ?_ nS ?_);exact rfl;exact rfl;exact rfl;exact nZ;rw[l.out]));(go_ret;refine⟨?_,p.out⟩;rw[c.out];rfl)
      |true=>cases me with|false=>go_wp2_with(first|((with_reducible refine ep (ty:=95) _ 1 ?_ ?_ _ d 2 ?_ _ (Gz.gu underlying95) ?_ jE ?_);exact rfl;exact rfl;omega;exact rfl;rw[K])|((with_reducible refine ng (t:=95) ?_ [ax m 1,ax m 2] [0,0] ?_ ?_ ?_ nS ?_);exact rfl;exact rfl;exact rfl;exact nZ;rw[l.out])|((with_reducible refine ep (ty:=96) _ 3 ?_ ?_ _ d 4 ?_ _ (Gz.gu underlying96) ?_ nC ?_);exact rfl;exact rfl;omega;exact rfl)|((with_reducible refine ng (t:=96) ?_ (sub m 3 4) [0,0,0,0] ?_ ?_ ?_ qx ?_);exact rfl;exact rfl;exact rfl;exact rj (bZ aa) rfl;rw[u.out]));(go_ret;refine⟨?_,p.out⟩;rw[c.out];rfl)|true=>go_wp2_with(first|((with_reducible refine ep (ty:=95) _ 1 ?_ ?_ _ d 2 ?_ _ (Gz.gu underlying95) ?_ jE ?_);exact rfl;exact rfl;omega;exact rfl;rw[K])|((with_reducible refine ng (t:=95) ?_ [ax m 1,ax m 2] [0,0] ?_ ?_ ?_ nS ?_);exact rfl;exact rfl;exact rfl;exact nZ;rw[l.out])|((with_reducible refine ep (ty:=96) _ 3 ?_ ?_ _ d 4 ?_ _ (Gz.gu underlying96) ?_ nC ?_);exact rfl;exact rfl;omega;exact rfl)|((with_reducible refine ng (t:=96) ?_ (sub m 3 4) [0,0,0,0] ?_ ?_ ?_ qx ?_);exact rfl;exact rfl;exact rfl;exact rj (bZ aa) rfl;rw[u.out])|((with_reducible refine ep (ty:=98) _ 7 ?_ ?_ _ d 64 ?_ _ (Gz.gu underlying98) ?_ vD ?_);exact rfl;exact rfl;omega;exact rfl)|((with_reducible refine nh (t:=98) ?_ (sub m 7 64) (so 64 0) ?_ ?_ ?_ Rp ?_);exact rfl;exact rfl;exact rfl;exact To (bZ aa) rfl;rw[HLE.out]));go_ret;refine⟨?_,p.out⟩;rw[c.out];simp
     ·subst h;cases me with|false=>go_wp2_with(first|((with_reducible refine ep (ty:=96) _ 3 ?_ ?_ _ d 4 ?_ _ (Gz.gu underlying96) ?_ nC ?_);exact rfl;exact rfl;omega;exact rfl)|((with_reducible refine ng (t:=96) ?_ (sub m 3 4) [0,0,0,0] ?_ ?_ ?_ qx ?_);exact rfl;exact rfl;exact rfl;exact rj (bZ aa) rfl;rw[u.out]));(go_ret;refine⟨?_,p.out⟩;rw[c.out];rfl)|true=>go_wp2_with(first|((with_reducible refine ep (ty:=96) _ 3 ?_ ?_ _ d 4 ?_ _ (Gz.gu underlying96) ?_ nC ?_);exact rfl;exact rfl;omega;exact rfl)|((with_reducible refine ng (t:=96) ?_ (sub m 3 4) [0,0,0,0] ?_ ?_ ?_ qx ?_);exact rfl;exact rfl;exact rfl;exact rj (bZ aa) rfl;rw[u.out]));(go_ret;refine⟨?_,p.out⟩;rw[c.out];rfl)
     ·subst h;cases ve with|false=>go_wp2_with(first|((with_reducible refine ep (ty:=95) _ 1 ?_ ?_ _ d 2 ?_ _ (Gz.gu underlying95) ?_ jE ?_);exact rfl;exact rfl;omega;exact rfl;rw[K])|((with_reducible refine ng (t:=95) ?_ [ax m 1,ax m 2] [0,0] ?_ ?_ ?_ nS ?_);exact rfl;exact rfl;exact rfl;exact nZ;rw[l.out]));(go_ret;refine⟨?_,p.out⟩;rw[c.out];rfl)|true=>go_wp2_with(first|((with_reducible refine ep (ty:=95) _ 1 ?_ ?_ _ d 2 ?_ _ (Gz.gu underlying95) ?_ jE ?_);exact rfl;exact rfl;omega;exact rfl;rw[K])|((with_reducible refine ng (t:=95) ?_ [ax m 1,ax m 2] [0,0] ?_ ?_ ?_ nS ?_);exact rfl;exact rfl;exact rfl;exact nZ;rw[l.out]));(go_ret;refine⟨?_,p.out⟩;rw[c.out];rfl)
 ·have c:Hid (dt m=Ba):=Og v;have L:=ag v;obtain⟨kd,f⟩:∃z,ax m 0=z:=⟨_,rfl⟩;rw[f] at c0 L v;clear f v;go_enter Gz.gf func93,ntmps93;go_wp2;refine(Fp _ _ _ _ (by have:=L.out;omega)).mono ?_;rintro e w'⟨rfl,rfl⟩;go_wp2;go_ret;exact⟨by rw[c.out];rfl,T⟩
end
section
open Go.RowKit Go.WideShapes Go.ChangeShapes
def qg(xs:List Int)(k:Nat):sub xs (k*71) 71=aP xs k:=by unfold aP;rw[Nat.mul_comm]
def QA(b:xs.length=n*71)(c:k<n):xs[k*71]?.getD 0=ax (aP xs k) 0:=by unfold ax aP;rw[gj _ _ _ _ aw,Nat.mul_comm];rfl
def Rq(h:dt m=AT):dR Ba m=AT:=by unfold dR;rw[h];rfl
def Rr(h:dt m=AT)(k:ax m 0=2):dR AT m=AT:=by unfold dR;rw[h,k];rfl
def SI{i:Bool}(h:dt m=Ba):dR i m=Ba:=by unfold dR;rw[h];rfl
def SJ(k:ax m 0≠2):dR AT m=Ba:=by unfold dR;rw[show(ax m 0==2)=Ba from beq_eq_false_iff_ne.2 k];simp
def Pu{be:Bool}(h:gx be xs n=Ba):(dO be xs n).getD []=[]:=by rw[Qr h];rfl
def E8(be:Bool)(m:List Int):0<(fg be m).length:=by
 unfold fg;split
 ·simp
 ·have:0<(fQ m 4).length:=by rw[show(4:Nat)=3+1 from rfl,Es,ahc];unfold lY;rw[ahc,kI];have:=qd ((dw (lvl m 3)).length:Int);omega
  rw[ahc];omega
def Mq(be:Bool)(n g c B:Nat)(xs:List Int)(w:rl)(h:az 100 71 w B (Y (an ⟨g,0,ns⟩) n c) n xs)(h1:1<=n)(h4:n<=4):
  ahR Gz.prog 58 #[Y (an ⟨g,0,ns⟩) n c,ci be] w λe w'=>∃v',e=dl v'/\aK w' w.heap.size v' ((dO be xs n).getD []).length ((dO be xs n).getD [])/\Q w w':=by
 have H:=ag h;have C:=h.1;have L:(1:Int)<=n:=aa;have M:(n:Int)<=4:=aa;have q0:Q w (w.alloc (ap #[] 180)):=(Q.refl _).alloc _;have o0:=az.jb 180 2 w w.heap.size (ay _);clear h;go_enter Gz.gf func58,ntmps58;go_wp2;refine(oH _ L M).mono ?_;rintro e w'⟨rfl,rfl⟩;go_wp2;have O0:=ag o0;have Q0:=ag q0;clear o0 q0;go_loopw[5,6] (λu i wr=>∃k cnt:Nat,k<=n/\i=U O k/\cnt<=5000*k/\Hid (az 180 2 wr w.heap.size u cnt (jJ be xs k)/\Q w wr/\gx be xs k=AT)) (λ_ i _=>n-(intOf i).toNat)
 case atStart=>exact⟨0,0,aa,rfl,aa,O0.out,Q0.out,rfl⟩
 case round=>
  obtain⟨k,cnt,hk,rfl,WP,hK⟩:=hrel;obtain⟨k1,K,k3⟩:=hK.out;clear hK O0 Q0;have hl:=H.out.q K;have dg:=K.size;have l:=ag k1;have K2:=ag K;have D:=ag k3;clear k1 K k3;by_cases aV:k<n
  ·have mp:(k:Int)<n:=by omega
   have p:=vL C aV;have N:=XK wr p;have c0:=hl.cell (k*71) aa;rw[QA C aV] at c0;obtain⟨kd,r⟩:∃z,ax (aP xs k) 0=z:=⟨_,rfl⟩;rw[r] at c0;have f:=ag r;obtain⟨bv,t⟩:∃z,dt (aP xs k)=z:=⟨_,rfl⟩;rw[t] at N;have b:=ag t;clear r t;have H0:=ag c0;clear c0;go_wp2_with((with_reducible refine sj (ty:=100) _ (k*71) ?_ ?_ _ hl 71 ?_ _ (Gz.gu underlying100) ?_ e8 ?_);exact rfl;exact rfl;omega;exact rfl;rw[qg]);refine N.mono ?_;rintro e w5⟨rfl,q5⟩;clear N;have hl:=hl.q q5;have c0:=hl.cell (k*71) aa;rw[QA C aV,f.out] at c0;cases bv with
   |false=>have HB:Hid (dR be (aP xs k)=Ba):=SI b.out;exact Ke
   |true=>
    cases be with
    |false=>have HB:Hid (dR Ba (aP xs k)=AT):=Rq b.out;have R:=ag (Ps Ba w5 (Aq p b.out) λh=>by cases h);(go_wp2_with((with_reducible refine sj (ty:=100) _ (k*71) ?_ ?_ _ hl 71 ?_ _ (Gz.gu underlying100) ?_ e8 ?_);exact rfl;exact rfl;omega;exact rfl;rw[qg]);refine R.out.mono ?_;rintro e w6⟨v6,E,rfl,S,j,v⟩;have F:=v.size;have G:=q5.size;have I:=l.out.q (q5.trans v);have J:=K2.out.trans (q5.trans v);have A:0<E:=(by have:=j.1;have:=E8 Ba (aP xs k);omega);obtain⟨g6,c6,rfl⟩:=j.iP A;have hlen:=j.1;clear l K2 hl;have hl:=H.out.q J;go_wp2_with(at_builtin;go_loud (refine gh rfl rfl (Gz.gu underlying129) gZ rfl aw aw rfl I ⟨_,0,ns⟩ _ _ rfl hlen ?_ ?_ j.src ?_;omega;omega;intro vz T V W));have X:Q w T:=bH.toQ W J (λg Z=>by have:=I.below g Z;omega);go_roundw;(case rel=>exact⟨k+1,cnt+E,aa,aJ,aa,by rw[vw];exact V,X,by rw[Eu,D.out,HB.out];rfl⟩);(case measure=>simp[intOf];omega))
    |true=>
     by_cases d:kd=2
     ·have HB:Hid (dR AT (aP xs k)=AT):=Rr b.out (f.out.trans d);have R:=ag (Ps AT w5 (Aq p b.out) λ_=>f.out.trans d);subst d;(go_wp2_with((with_reducible refine sj (ty:=100) _ (k*71) ?_ ?_ _ hl 71 ?_ _ (Gz.gu underlying100) ?_ e8 ?_);exact rfl;exact rfl;omega;exact rfl;rw[qg]);refine R.out.mono ?_;rintro e w6⟨v6,E,rfl,S,j,v⟩;have F:=v.size;have G:=q5.size;have I:=l.out.q (q5.trans v);have J:=K2.out.trans (q5.trans v);have A:0<E:=(by have:=j.1;have:=E8 AT (aP xs k);omega);obtain⟨g6,c6,rfl⟩:=j.iP A;have hlen:=j.1;clear l K2 hl;have hl:=H.out.q J;go_wp2_with(at_builtin;go_loud (refine gh rfl rfl (Gz.gu underlying129) gZ rfl aw aw rfl I ⟨_,0,ns⟩ _ _ rfl hlen ?_ ?_ j.src ?_;omega;omega;intro vz T V W));have X:Q w T:=bH.toQ W J (λg Z=>by have:=I.below g Z;omega);go_roundw;(case rel=>exact⟨k+1,cnt+E,aa,aJ,aa,by rw[vw];exact V,X,by rw[Eu,D.out,HB.out];rfl⟩);(case measure=>simp[intOf];omega))
     ·have HB:Hid (dR AT (aP xs k)=Ba):=SJ (by rw[f.out];exact d);have ahs:(kd !=2)=AT:=by simp[d]
      exact Ke
  ·have rx:k=n:=by omega
   rw[rx] at l D;have hlen:=l.out.1;obtain⟨r1,r2⟩:=vT C D.out n (ay _);have HS:=E7 (be:=be) C h1 h4;rw[if_pos D.out] at HS;have Ip:=ag HS
   have tU:0<cnt:=by exact LF
   obtain⟨gz,cz,rfl⟩:=l.out.iP tU;have HE:=XI l.out r1.ok aa;clear HS aV hl;go_wp2;refine HE.mono ?_;rintro e w5⟨v5,rfl,o5,q5⟩;go_wp2;go_ret;refine⟨_,rfl,?_,K2.out.trans q5⟩;rw[Ip.out];exact o5.mono dg
end
section
open Go.RowKit Go.WideShapes Go.ChangeShapes Go.Shelf
attribute [local go_sem] Oper.semAt_some
def qL(r:Int×Int):Array AS:=#[bi #[U O r.1,U O r.2]]
def Q.acN{w':rl}(h:Q w w'):w.grownBy w' ns:=⟨h.os,h.tape,h.output,h.size,λk b _=>h.block k b⟩
def Nb.below{t:SL}{n g B:Nat}{w w':rl}{xs:List Int}(h:Nb t n w g xs)(k:Below B w w')(b:g<B):Nb t n w' g xs:=⟨(k.block g b).trans h.blk,h.len⟩
def Kb(b:Nat)(W c:rl):Prop:=c.heap[b]?=W.heap[b]?
def Kb.t{b:Nat}{A B C:rl}(h:Kb b A B)(k:Kb b B C):Kb b A C:=Eq.trans k h
def Kb.b{b:Nat}(d:b<w.heap.size)(W:rl)(l:Nat)(o c:Obj)(e:w.heap.size<=l)(_:W.heap[l]?=an o)(_:o.isCells=Ba)(_:o.isWalk=Ba):Kb b W (W.putObj l c):=World.putObj_heap_other aa
def Kb.bA{b:Nat}{W c:rl}{row:Option Nat}(h:W.grownBy c row)(d:b<W.heap.size)(hr:row≠an b):Kb b W c:=h.block b d (λe=>hr e.symm)
def Nb.kb{t:SL}{w':rl}(h:Nb t n w g xs)(k:Kb g w w'):Nb t n w' g xs:=⟨Eq.trans k h.blk,h.len⟩
def ak.own{g:Nat}{t:SL}{cs:Array AS}{w w':rl}{row:Option Nat}(h:ak w g t cs)(c:w.grownBy w' row)(hr:∀r,row=an r->∃o:Obj,w.heap[r]?=an o/\o.isCells=Ba):ak w' g t cs:=
 h.grown c λe=>by obtain⟨o,b,hc⟩:=hr g e.symm;rw[show w.heap[g]?=_ from h] at b;cases b;cases hc
def SK(hn:1<=n)(l b:Nat)(xs:List Int)(J E:List (Int×Int)->rl->Prop)(W:rl)
  (M:AbidesFrom W.heap.size J)(N:∀pre x W,J pre W->pre++[x]<+:dw xs->YieldAt Fence.wide (n-1) Gz.prog l (qL x) W λe j=>(e=dl (ci AT)/\J (pre++[x]) j/\Kb b W j)\/(e=dl (ci Ba)/\E (pre++[x]) j))
  (Q:Nb 97 16 W b xs)(h0:J [] W):
  CallsIn Fence.wide n Gz.prog 177 #[.func (.yield l) #[] #[],d9 (an ⟨b,0,ns⟩)] W λe j=>(∃v,e=dl v)/\
   ((∃ys,ys=dw xs/\J ys j)\/(∃pre,pre<+:dw xs/\E pre j)):=by
 have R:=ag M;have S:=ag N;have T:=ag h0;have V:=ag Q;refine callsIn_of_wp (Gz.gf func177) rfl trivial ?_ rfl;simp only[ntmps177,List.size_toArray,ais,ajF,aiP,Nat.reduceSub,akg,akh,List.push_toArray,akt,ajr,aje]
 gi_wp2
 refine⟨trivial,?_⟩;refine(callsIn_wide.2 N6).mono ?_;rintro e w1⟨rfl,q1⟩
 gi_wp2
 have hs:=q1.size;have X:=ag (R.out _ _ _ ns T.out q1.acN λr e=>by cases e);have Z:=ag (V.out.q q1);have B:=zS
 gi_loopw[3,8] (λz i wr=>∃(k d:Nat)(pre:List (Int×Int)),k<=16/\i=U O k/\z=U O d/\d<=k/\Hid (Nb 97 16 wr b xs/\J pre wr/\dw xs=pre++iw ((lN xs).drop k) d)) (λ_ i _=>16-(intOf i).toNat)
 case atStart=>exact⟨0,0,[],aa,rfl,rfl,aa,Z.out,X.out,by simp[dw]⟩
 case round=>
  obtain⟨k,d,pre,hk,rfl,rfl,hz,hK⟩:=hrel;obtain⟨F,G,c⟩:=hK.out;by_cases f:k<16
  ·have mp:(k:Int)<16:=by omega
   have he:=λw=>rX kW B f w;rw[An f] at he;rw[Nn xs f,iw] at c;have H:=tf k f;generalize gV[k]?.getD 0=t at he c H;have Hy:(t:Int)<16:=aa;have c2:=F.at t H;generalize xs[t]?.getD 0=x at c2 c;have hzi:(d:Int)<=16:=aa;have I:=ag F;have K:=ag G;by_cases h:x=0
   ·rw[if_pos h] at c;have p:=ag c;subst h
    gi_wp2
    go_roundw;case rel=>exact⟨k+1,d+1,pre,aa,aJ,aJ,aa,I.out,K.out,p.out⟩
    case measure=>exact bj
   ·rw[if_neg h] at c;have hlen:pre++[((d:Int),x)]<+:dw xs:=⟨_,by rw[c,ait];rfl⟩;obtain⟨fn,tmps,assign,body,L,hR⟩:=S.out pre ((d:Int),x) wr K.out hlen;unfold qL at L;dsimp only at L;have p:=ag c;have ra:(x==0)=Ba:=by simp[h]
    gi_wp2
    refine hR.mono ?_;rintro e W3(⟨rfl,C,D⟩|⟨rfl,u⟩)
    ·gi_wp2
     go_roundw;case rel=>exact⟨k+1,0,pre++[((d:Int),x)],aa,aJ,rfl,aa,I.out.kb D,C,by rw[p.out];simp⟩
     case measure=>exact bj
    ·gi_wp2
     refine bodyPost_ret (results_none rfl _ _ _) rfl ?_;exact⟨⟨_,rfl⟩,.inr ⟨_,by rw[p.out];exact⟨_,by rw[ait];rfl⟩,u⟩⟩
  ·have A:k=16:=by omega
   subst A;rw[ajW (by rw[Em];omega),iw,List.append_nil] at c;have p:=ag c
   gi_wp2
   go_end0
   exact⟨⟨_,rfl⟩,.inl ⟨pre,p.out.symm,G⟩⟩
def Yv(n:Nat)(d:1<=n){b:Nat}(c:Nb 97 16 w b xs):
  SeqStopsK Fence.wide n Gz.prog 177 #[d9 (an ⟨b,0,ns⟩)] qL (Kb b) (λys=>ys=dw xs) (λpre=>pre<+:dw xs) (dw xs).length w:=λl J e W f h _ i h0=>
 SK d l b xs J e W h (λpre x W j p=>i pre x W j (by have:=p.length_le;rw[ahc,List.length_singleton] at this;omega)) (c.below f c.lt) h0
def Rs(c:xs.length=16):
  ahR Gz.prog 156 #[bi (arr xs)] w λe w'=>∃b,e=dl (.func (.func 177) #[] #[d9 (an ⟨b,0,ns⟩)])/\w.heap.size<=b/\b<w'.heap.size/\Nb 97 16 w' b xs/\Q w w':=by
 have d:=Nb.new 97 16 w xs c;have f:Q w (w.alloc (ap (arr xs) 97)):=(Q.refl w).alloc _;go_enter Gz.gf func156,ntmps156;go_wp2;go_ret;exact⟨_,rfl,ay _,au,d,f⟩
def FW{b:Nat}{W:rl}(v:AS)(h:b≠g):Kb b W (W.setCell ⟨g,0,ns⟩ v):=im W ⟨g,0,ns⟩ v b h
def Xa(d:xs.length=16):
  ahR Gz.prog 155 #[bi (arr xs)] w λe w'=>e=dl (U O ((dw xs).length:Int))/\Q w w':=by
 have s1:=bP xs;rw[d] at s1;have z:=(Nb.new 97 16 w xs d).alloc (ap #[U O 0] 3);have u:=ak.new (w.alloc (ap (arr xs) 97)) 3 #[U O 0];rw[NO] at u;have C:Q w ((w.alloc (ap (arr xs) 97)).alloc (ap #[U O 0] 3)):=((Q.refl w).alloc _).alloc _;have v:=Eo xs;refine(callsIn_wide (n:=3)).1 ?_;refine callsIn_of_wp_marks (Gz.gf func155) rfl trivial ?_ rfl;simp only[ntmps155,List.size_toArray,ais,ajF,aiP,Nat.reduceSub,akg,akh,List.push_toArray,akt,ajr,aje];refine wpIn_wide.2 ?_;go_wp2_with((with_reducible refine ew (n:=16) rfl _ _ rfl _ rfl _ z _ (Gz.gu underlying97) rfl cM ?_));refine(Rs d).mono ?_;rintro e I⟨b,rfl,f,i,E,q1⟩;simp only[NO] at f;have j:=u.q q1;have p:=C.trans q1;go_wp2
 refine wpIn_wide.1 (wpIn_rangeFunc_ownG (n:=3) rfl aw (gf:=177) (lb:=#[d9 (an ⟨b,0,ns⟩)]) rfl trivial (Gz.cl 177)
  (Yv 2 aw E) Kb.t (Kb.b i) (Below.refl _ _) (λ_=>rfl)
  (λpre W=>ak W (w.heap.size+1) 3 #[U O (pre.length:Int)]/\Q w W)
  (λ_ _ _=>False)
  (OwnFrom.and (Own.from (λs A B row r F G=>r.own F G) _) (ownFrom_below (ay _) p.size))
  (λ_ _ _ _ _ r _ _=>r)
  ⟨j,p⟩
  (λx=>{tmps:=#[bi (arr xs),d9 (an ⟨w.heap.size,0,ns⟩),U O 0,d9 (an ⟨w.heap.size+1,0,ns⟩),bi (arr xs),.func (.func 177) #[] #[d9 (an ⟨b,0,ns⟩)],bi #[U O x.1,U O x.2],undef,undef,undef],defers:=[]}) ?assign ?body ?done ?stop)
 case assign=>
  intro l x W K hK;unfold qL
  gi_wp2
  simpa using hK
 case body=>
  rintro l pre x W⟨hc,hq⟩ H;have c0:=hc.cell 0;have f0:=hc.free 0;have c0:=c0
  gi_wp2
  refine⟨(uZ _ _ _).from _,FW _ aa,?_,hq.set au _⟩;have:=hc.set 0 (U O ((pre.length:Int)+1));simpa using this
 case done=>rintro D ys W J rfl⟨hc,hq⟩ hK;have c0:=hc.cell 0;go_wp2;refine⟨au,.inl ⟨_,_,rfl,run_takeDeferred hK,?_⟩⟩;exact⟨_,results_tmp rfl _ _ _,rfl,Below.trans hq (belowK_b (w:=w) (ay _) W D _ _ (by have:=p.size;omega) hK rfl rfl)⟩
 case stop=>rintro D c pre W _ _ h _;exact h.elim
end
end Go.Proofs.Q0
