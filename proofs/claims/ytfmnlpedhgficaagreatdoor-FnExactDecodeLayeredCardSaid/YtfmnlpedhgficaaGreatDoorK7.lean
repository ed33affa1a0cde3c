import Derived.Test.YtfmnlpedhgficaaGreatDoorK6
import Derived.Laws.StructEq
import Derived.Laws.Tables
import Derived.RangeFuncNested
import Derived.RangeFuncBound
import Derived.RangeFuncCalls
import Derived.RangeFuncLeaves
import Derived.Shelf.Abstract
import Derived.Shelf.RegionOpen
import Derived.OwnWalkIn
import Derived.TacticsInMore
import Derived.LoopNIn
import Derived.LoopIn
set_option maxRecDepth 100000
set_option maxHeartbeats 8000000
set_option linter.all false
open Go.Value renaming int->U,slice->Y,bool->a5,agg->a9,pointer->bi,tuple->ci,iface->em
open Go.IntKind renaming i64->O
open Go.Obj renaming cells->ac
open Go.Ending renaming returned->be
open Array renaming replicate_succ->alw,replicate_zero->alx
open Bool renaming false->Bz,false_eq_true->alQ,true->AT,true_and->alH
open Go renaming Calls->aiK,Oper->akG,TypeId->TO,Value->so,World->AS,execOp->ajA,run_underlying->alP,wpList->ajU
open Go.Op renaming equalIn->ajL
open Go.Region renaming wanted->ajr
open Go.Result renaming andThen_ok->ajS
open Go.Sem renaming run_bind->ajy,run_pure->akD
open Go.World renaming size_alloc->OF
open List renaming all_eq_true->aju,append_assoc->ajH,append_toArray->alM,cons_append->akf,drop_of_length_le->aln,length_append->ajq,length_cons->ajE,length_map->ako,length_nil->akU,nil_append->akH,range->ajv,range_succ->akq,replicate->rl
open Nat renaming reduceAdd->akl
open Option renaming none->ns,some->an
namespace Go.Proofs
def yE{p:Prop}(h:p:=by rw[bS (by omega)];rfl):p:=h
def KG{p:Prop}(h:p:=by rw[bS aa] at hj;rw[gq _ _ _ _ hj];obtain rfl:j=0:=aa;simp):p:=h
def KH{p:Prop}(h:p:=by unfold part;simp only[Sem.run_bind,ha,Result.andThen_ok,hs,Q7,if_true];rfl):p:=h
def KI{p:Prop}(h:p:=by
  rw[bS aa] at hi;rw[gq _ _ _ _ hi];rcases i with _|_|_|_|i
  ·rfl
  ·rfl
  ·rfl
  ·rfl
  ·omega):p:=h
def KJ{p:Prop}(h:p:=by rw[Ai m 7 16 48 aa,Ai m 23 16 32 aa,Ai m 39 16 16 aa];rfl):p:=h
def KN{p:Prop}(h:p:=by rw[hm];have H:=af he;go_enter Gz.gf func162,ntmps162;go_wp2;go_ret;exact⟨by rw[<-H.out];rfl,rfl⟩):p:=h
def rU{p:Prop}(h:p:=by show w.heap.size+1≠g;omega):p:=h
def yG{p:Prop}(h:p:=by show w.heap.size<=g;omega):p:=h
def KP{p:Prop}(h:p:=by
  go_wp2;go_roundw;case rel=>exact⟨k+1,aa,aF,n1.out,n2.out,n3.out⟩
  case measure=>simp[intOf];omega):p:=h
def KR{p:Prop}(h:p:=by go_wp2_with(first|(first|refine fw rfl rfl rfl aG ?_|refine fq aD rfl rfl aG ?_)|(refine jg rfl _ _ rfl _ rfl _ _ rfl dw aG ?_;intro w9 b9 g9 s9));refine bodyPost_ret (v:=a9 (arr _)) (results_cell_row aD _ _ _ _ _ _ _ aD (Bl.blk b9) (Gz.gu underlying94) rfl (by rw[bQ,Ci];exact nI)) rfl ⟨by rw[If.out],?_⟩;exact K3.out.grown g9 λk e=>by have:=aJ e;omega):p:=h
def mP{p:Prop}(h:p:=by simp):p:=h
def Mo{p:Prop}(h:p:=by(go_wp2_with((with_reducible refine sB (ty:=97) _ (k*71) ?_ ?_ _ hl 71 ?_ _ (Gz.gu underlying97) ?_ gN ?_);exact rfl;exact rfl;omega;exact rfl;rw[qh]);go_ret;refine⟨_,rfl,?_,K2.out.trans (q5.alloc _)⟩;rw[Qg (Rk aV HB.out)];exact aK.iV w5 w.heap.size (aI cM q5.size))):p:=h
def Mp{p:Prop}(h:p:=by obtain⟨j,hj⟩:∃j,n=j+1:=⟨n-1,aa⟩;rw[hj,vP,List.length_append] at hlen;have:=Fz ap (aO xs j);omega):p:=h
abbrev vD:=@Go.KeepsOthers.setCell
end Go.Proofs
namespace Go.Proofs.Q0
open Go.Proofs.Tryz
variable{xs ys m:List Int}{n s k g:Nat}{x y:Operand}{gd:Option (Nat×Bool)}{pos:String}{ty:TO}{w:AS}
section
open Go.RowKit Go.WideShapes Go.ChangeShapes
section
variable{P:Program}
def Nd(d n s:Nat)(t b:TO)(xs ys:Array so)(f:Nat->Bool)(u v:Nat->so)(c:P.underlying t=an (.array n b))(e:∀w,(sizeOf b).run P w=.ok s w)(w:AS)
  (h:∀i,i<n->∀w,(part b xs (i*s)).run P w=.ok (u i) w/\(part b ys (i*s)).run P w=.ok (v i) w/\(ajL d b (u i) (v i)).run P w=.ok (f i) w):
  (ajL (d+1) t (a9 xs) (a9 ys)).run P w=.ok ((ajv n).all f) w:=by
 rw[ajL];simp only[ajy,alP c,ajS,e];simp only[Std.Legacy.Range.forIn_eq_forIn_range',Std.Legacy.Range.size,Nat.sub_zero,Nat.add_sub_cancel,Nat.div_one];rw[<-List.range_eq_range'];have h:∀i∈ajv n,∀w,(part b xs (i*s)).run P w=.ok (u i) w/\(part b ys (i*s)).run P w=.ok (v i) w/\(ajL d b (u i) (v i)).run P w=.ok (f i) w:=λi hi=>h i (fR.1 hi);generalize ajv n=l at h
 induction l generalizing w with
 |nil=>simp[akD]
 |cons i l p=>
  obtain⟨h1,q,r⟩:=h i aj w;simp only[List.forIn_cons,ajy,h1,q,r,ajS,List.all_cons];cases f i with
  |false=>simp[akD]
  |true=>exact p w λj z=>h j (by simp[z])
theorem Rn(n s:Nat)(xs ys:List Int)(b:xs.length=n*s)(p:ys.length=n*s):((ajv n).all λi=>sub xs (i*s) s==sub ys (i*s) s)=(xs==ys):=by
 rw[Bool.eq_iff_iff,aju,beq_iff_eq];constructor
 ·intro h;refine nJ (by rw[b,p]) λj c=>?_;rw[b] at c;have d:0<s:=fu;have hd:=(Nat.div_lt_iff_lt_mul d).2 c;have hm:=Nat.mod_lt j d;have he:j/s*s+j%s=j:=by rw[Nat.mul_comm];exact Nat.div_add_mod j s
  have e:=h (j/s) (fR.2 hd);rw[beq_iff_eq] at e;have f:=gq xs (j/s*s) s (j%s) hm;have l:=gq ys (j/s*s) s (j%s) hm;rw[he] at f l;rw[<-f,<-l,e]
 ·simp_all
def ND(d:Nat){t b:TO}(f:P.underlying t=an (.array n b))(l:∀w,(sizeOf b).run P w=.ok 1 w)(c:∀w,(isAgg b).run P w=.ok Bz w)(hu:P.underlying b=an (.int .i64))
  (p:xs.length=n)(q:ys.length=n)(w:AS):(ajL (d+1+1) t (a9 (arr xs)) (a9 (arr ys))).run P w=.ok (xs==ys) w:=by
 have h:=Nd (P:=P) (d+1) n 1 t b (arr xs) (arr ys) (λi=>xs[i]?.getD 0==ys[i]?.getD 0) (λi=>U O (xs[i]?.getD 0)) (λi=>U O (ys[i]?.getD 0)) f l w λi hi w=>by
  refine⟨?_,?_,run_equalIn_int w d b .i64 .i64 _ _ hu⟩
  ·unfold part;simp only[ajy,c,ajS,Nat.mul_one,nQ xs i aa];rfl
  ·unfold part;simp only[ajy,c,ajS,Nat.mul_one,nQ ys i aa];rfl
 rw[h];congr 1;have e:=Rn n 1 xs ys aa aa;rw[<-e];rw[Bool.eq_iff_iff,aju,aju];refine forall_congr' λi=>forall_congr' λhi=>?_;have hi:=fR.1 hi
 have s1:sub xs (i*1) 1=[xs[i]?.getD 0]:=nJ yE λj hj=>by exact KG
 have s2:sub ys (i*1) 1=[ys[i]?.getD 0]:=nJ yE λj hj=>by exact KG
 rw[s1,s2];simp
def YH(d:Nat){m:Nat}{t b c:TO}(l:P.underlying t=an (.array m b))(hs:∀w,(sizeOf b).run P w=.ok s w)(ha:∀w,(isAgg b).run P w=.ok AT w)
  (e:P.underlying b=an (.array s c))(f:∀w,(sizeOf c).run P w=.ok 1 w)(j:∀w,(isAgg c).run P w=.ok Bz w)(hu:P.underlying c=an (.int .i64))
  (p:xs.length=m*s)(q:ys.length=m*s)(w:AS):(ajL (d+1+1+1) t (a9 (arr xs)) (a9 (arr ys))).run P w=.ok (xs==ys) w:=by
 have r:∀i,i<m->i*s+s<=m*s:=λi hi=>by have:=pN s (show i+1<=m by omega);rw[Nat.succ_mul] at this;exact this
 have h:=Nd (P:=P) (d+1+1) m s t b (arr xs) (arr ys) (λi=>sub xs (i*s) s==sub ys (i*s) s) (λi=>a9 (arr (sub xs (i*s) s))) (λi=>a9 (arr (sub ys (i*s) s))) l hs w λi hi w=>by
  have:=r i hi;refine⟨?_,?_,ND d e f j hu (bS aa) (bS aa) w⟩
  ·exact KH
  ·exact KH
 rw[h,Rn m s xs ys p q]
variable{ops:Array akG}{rest:List akG}{o:akG}{a:Act}{w:AS}{Q':Exit->Act->AS->Prop}
def XH(hw:ajr o (yielded ops a.tmps)=AT){t:TO}(c:TO)(d:o.op=.binOp .eql t x y c)(e:a.eval x=a9 (arr xs))(f:a.eval y=a9 (arr ys))
  (i:(ajL 10000 t (a9 (arr xs)) (a9 (arr ys))).run P w=.ok (xs==ys) w)(hG:P.eqGuardType P.depth t=Bz)
  (h:ajU P ops Q' rest (a.put o.dst (a5 (xs==ys))) w):ajU P ops Q' (o::rest) a w:=
 wpList_step λ_ b=>by rw[if_pos hw];unfold Oper.wp ajA;simp only[d,e,f,eqGuard,binOp,Op.equal,Op.maxDepth,ajy,akD,ajS,Bool.not_true,Bool.not_false,alQ,if_false,if_true,Sem.run_ite,run_program,hG,i];exact b _ _ h
def XI(hw:ajr o (yielded ops a.tmps)=AT){t:TO}(c:TO)(d:o.op=.binOp .neq t x y c)(e:a.eval x=a9 (arr xs))(f:a.eval y=a9 (arr ys))
  (i:(ajL 10000 t (a9 (arr xs)) (a9 (arr ys))).run P w=.ok (xs==ys) w)(hG:P.eqGuardType P.depth t=Bz)
  (h:ajU P ops Q' rest (a.put o.dst (a5 (!(xs==ys)))) w):ajU P ops Q' (o::rest) a w:=
 wpList_step λ_ b=>by rw[if_pos hw];unfold Oper.wp ajA;simp only[d,e,f,eqGuard,binOp,Op.equal,Op.maxDepth,ajy,akD,ajS,Bool.not_true,Bool.not_false,alQ,if_false,if_true,Sem.run_ite,run_program,hG,i];exact b _ _ h
def nD{dst:Option Tmp}{t c:TO}{b:Array Edge}(hw:ajr ⟨dst,.binOp .neq t x y c,ty,pos,b,gd⟩ (yielded ops a.tmps)=AT)(xs ys:List Int)(d:a.eval x=a9 (arr xs))(e:a.eval y=a9 (arr ys))
  (f:(ajL 10000 t (a9 (arr xs)) (a9 (arr ys))).run P w=.ok (xs==ys) w)(hG:P.eqGuardType P.depth t=Bz)
  (h:ajU P ops Q' rest (a.put dst (a5 (!(xs==ys)))) w):ajU P ops Q' (⟨dst,.binOp .neq t x y c,ty,pos,b,gd⟩::rest) a w:=
 XI hw c rfl d e f hG h
def nE{dst:Option Tmp}{t c:TO}{b:Array Edge}(hw:ajr ⟨dst,.binOp .eql t x y c,ty,pos,b,gd⟩ (yielded ops a.tmps)=AT)(xs ys:List Int)(d:a.eval x=a9 (arr xs))(e:a.eval y=a9 (arr ys))
  (f:(ajL 10000 t (a9 (arr xs)) (a9 (arr ys))).run P w=.ok (xs==ys) w)(hG:P.eqGuardType P.depth t=Bz)
  (h:ajU P ops Q' rest (a.put dst (a5 (xs==ys))) w):ajU P ops Q' (⟨dst,.binOp .eql t x y c,ty,pos,b,gd⟩::rest) a w:=
 XH hw c rfl d e f hG h
def Kh{t:TO}(hw:ajr o (yielded ops a.tmps)=AT)(ty:TO)(x:Operand)(c:o.op=.load ty x)(g off:Nat)(e:a.eval x=bi (an ⟨g,off,ns⟩))(xs:List Int)(h:Nb t n w g xs)(k:Nat)(f:off+k<=n)(d:TypeDesc)
  (hu:P.underlying ty=an d)(hd:d.isRow=AT)(hi:(P.info? ty).map (·.size)=an k)
  (hK:ajU P ops Q' rest (a.put o.dst (a9 (arr (sub xs off k)))) w):ajU P ops Q' (o::rest) a w:=
 wpList_step λ_ b=>by rw[if_pos hw];exact wp_load_mid ty x c g off e _ d (h.range off k f) hu hd (by rw[ako,bS (by have:=h.len;omega)];exact hi) (b _ _ hK)
def WY{t:TO}{B c:Nat}(hw:ajr o (yielded ops a.tmps)=AT)(e:o.op=.load ty x){off:Nat}(f:a.eval x=bi (an ⟨g,off,ns⟩))(h:ay t s w B (Y (an ⟨g,0,ns⟩) n c) n xs)(i:off+k<=n*s){d:TypeDesc}
  (hu:P.underlying ty=an d)(hd:d.isRow=AT)(hi:(P.info? ty).map (·.size)=an k)
  (hK:ajU P ops Q' rest (a.put o.dst (a9 (arr (sub xs off k)))) w):ajU P ops Q' (o::rest) a w:=
 wpList_step λ_ b=>by rw[if_pos hw];exact wp_load_mid ty x e g off f _ d (h.range off k i) hu hd (by rw[ako,bS (by have:=h.1;omega)];exact hi) (b _ _ hK)
def ep{t:TO}{dst:Option Tmp}{b:TO}{c:Array Edge}(g off:Nat)(e:a.eval x=bi (an ⟨g,off,ns⟩))(hw:ajr ⟨dst,.load ty x,b,pos,c,gd⟩ (yielded ops a.tmps)=AT)(xs:List Int)(h:Nb t n w g xs)(k:Nat)(f:off+k<=n)(d:TypeDesc)
  (hu:P.underlying ty=an d)(hd:d.isRow=AT)(hi:(P.info? ty).map (·.size)=an k)
  (hK:ajU P ops Q' rest (a.put dst (a9 (arr (sub xs off k)))) w):ajU P ops Q' (⟨dst,.load ty x,b,pos,c,gd⟩::rest) a w:=
 Kh hw ty x rfl g off e xs h k f d hu hd hi hK
def sB{t:TO}{B c:Nat}{dst:Option Tmp}{b:TO}{e:Array Edge}(g off:Nat)(f:a.eval x=bi (an ⟨g,off,ns⟩))(hw:ajr ⟨dst,.load ty x,b,pos,e,gd⟩ (yielded ops a.tmps)=AT)(xs:List Int)(h:ay t s w B (Y (an ⟨g,0,ns⟩) n c) n xs)(k:Nat)(i:off+k<=n*s)(d:TypeDesc)
  (hu:P.underlying ty=an d)(hd:d.isRow=AT)(hi:(P.info? ty).map (·.size)=an k)
  (hK:ajU P ops Q' rest (a.put dst (a9 (arr (sub xs off k)))) w):ajU P ops Q' (⟨dst,.load ty x,b,pos,e,gd⟩::rest) a w:=
 WY hw rfl f h i hu hd hi hK
end
end
section
open Go.RowKit Go.WideShapes Go.ChangeShapes
def AW{t:TO}(h:(Gz.prog.info? t).map (·.size)=an s)(w:AS):(sizeOf t).run Gz.prog w=.ok s w:=by
 generalize Gz.prog=P at h⊢;cases hi:P.info? t with
 |none=>rw[hi] at h;cases h
 |some i=>rw[run_sizeOf (P:=P) (w:=w) hi];have:i.size=s:=eY;simp[Program.cellsOf,hi,this]
def Gr{t:TO}{d:TypeDesc}(h:Gz.prog.underlying t=an d)(hd:(match d with|.struct _|.array _ _=>AT|_=>Bz)=Bz)(w:AS):(isAgg t).run Gz.prog w=.ok Bz w:=by cases d<;>simp_all[isAgg,alP h]
def So{t:TO}{d:TypeDesc}(h:Gz.prog.underlying t=an d)(hd:(match d with|.struct _|.array _ _=>AT|_=>Bz)=AT)(w:AS):(isAgg t).run Gz.prog w=.ok AT w:=by cases d<;>simp_all[isAgg,alP h]
def Ro:(Gz.prog.info? 3).map (·.size)=an 1:=aE
def ru(b:xs.length=4)(c:ys.length=4):(ajL 10000 93 (a9 (arr xs)) (a9 (arr ys))).run Gz.prog w=.ok (xs==ys) w:=
 ND 9998 (Gz.gu underlying93) (AW Ro) (Gr (Gz.gu underlying3) rfl) (Gz.gu underlying3) b c w
def Uj(b:xs.length=64)(c:ys.length=64):(ajL 10000 95 (a9 (arr xs)) (a9 (arr ys))).run Gz.prog w=.ok (xs==ys) w:=
 YH 9997 (Gz.gu underlying95) (AW cN) (So (Gz.gu underlying94) rfl) (Gz.gu underlying94) (AW Ro) (Gr (Gz.gu underlying3) rfl) (Gz.gu underlying3) b c w
def oA{a b c d:Int}:(ajL 10000 92 (a9 (arr [a,b])) (a9 (arr [c,d]))).run Gz.prog w=.ok ([a,b]==[c,d]) w:=by
 have u3:=(Gz.gu underlying3);have e:=run_equalIn_struct (P:=Gz.prog) w 9999 92 (arr [a,b]) (arr [c,d]) ah ah;rw[e];have i:(Gz.prog.fieldsOf 92).toList.map (λf=>(f.name,f.type,f.offset))=[("X",3,0),("Y",3,1)]:=ah
 have j:∀(xs:Array so)(o:Nat)(x:Int)(w:AS),xs[o]?=an (.int .i64 x)->(part 3 xs o).run Gz.prog w=.ok (.int .i64 x) w:=λxs o x w h=>by unfold part;simp only[ajy,Gr u3 rfl w,ajS,h,alQ,if_false,akD]
 generalize(Gz.prog.fieldsOf 92).toList=fs at i;rcases fs with _|⟨f1,_|⟨f2,_|⟨f3,r⟩⟩⟩
 ·simp at i
 ·simp at i
 ·simp only[List.map_cons,List.map_nil,List.cons.injEq,Prod.mk.injEq,and_true] at i;obtain⟨⟨l,t1,p⟩,q,t2,t⟩:=i;simp only[Op.eqFields,ajy,Sem.run_ite,l,q,t1,t2,p,t];have u:("X" :String)≠ "_" :=al;have v:("Y" :String)≠ "_" :=al;simp only[if_pos u,if_pos v];have q1:=j (arr [a,b]) 0 a w rfl;have z:=j (arr [c,d]) 0 c w rfl;have A:=j (arr [a,b]) 1 b w rfl;have B:=j (arr [c,d]) 1 d w rfl;have C:=run_equalIn_int (P:=Gz.prog) w 9998 3 .i64 .i64 a c u3;have D:=run_equalIn_int (P:=Gz.prog) w 9998 3 .i64 .i64 b d u3;simp only[q1,z,A,B,C,D,ajS];have E:([a,b]==[c,d])=((a==c)&&(b==d)):=by simp[List.cons_beq_cons]
  rw[E];cases a==c<;>cases b==d<;>simp[akD]
 ·simp at i
def Ya(x y:Int)(w:AS):aiK Gz.prog 127 #[a9 #[U O x,U O y]] w λe w'=>e=be (a5 (decide (-16<=x/\x<=16)&&decide (-16<=y/\y<=16)))/\Q w w':=by
 obtain⟨b,d⟩:∃b,decide (-16<=x/\x<=16)=b:=⟨_,rfl⟩;obtain⟨c,hc⟩:∃c,decide (-16<=y/\y<=16)=c:=⟨_,rfl⟩;rw[d,hc];have f:=af d;have h:=af hc;go_enter Gz.gf func127,ntmps127;go_wp2;refine(bZ _ f).mono ?_;rintro e w'⟨rfl,rfl⟩;cases b with
 |false=>exact Ds
 |true=>go_wp2;refine(bZ _ h).mono ?_;rintro e w'⟨rfl,rfl⟩;exact Ds
def sub_one(m:List Int)(k:Nat):m[k]?.getD 0=aq m k:=rfl
def F3(b:m.length=71):lA m=([aq m 1,aq m 2]==[0,0]):=by unfold lA;simp[List.cons_beq_cons]
def AX(b:m.length=71):jU m=(sub m 3 4==[0,0,0,0]):=by
 have:sub m 3 4=[aq m 3,aq m 4,aq m 5,aq m 6]:=nJ yE λi hi=>by exact KI
 rw[this];unfold jU;simp[List.cons_beq_cons,Bool.and_assoc]
def Rp(c:m.length=71):qK m=(sub m 7 64==rl 64 0):=by
 unfold qK;have hlen:(sub m 7 64).length=64:=bS aa;rw[Bool.eq_iff_iff,aju,beq_iff_eq];constructor
 ·intro h;refine List.eq_replicate_iff.2 ⟨hlen,λx b=>?_⟩;have:=h x b;simpa using this
 ·simp_all
def nf(m:List Int)(k:Nat):Bool:=(ajv k).all λj=>decide (0<=aq m (3+j)/\aq m (3+j)<=4)&&aS (lvl m j) 4080
def aaG(m:List Int)(k:Nat):nf m (k+1)=(nf m k&&(decide (0<=aq m (3+k)/\aq m (3+k)<=4)&&aS (lvl m k) 4080)):=by unfold nf;rw[akq,List.all_append];simp
def adV(b:k<4)(h:(decide (0<=aq m (3+k)/\aq m (3+k)<=4)&&aS (lvl m k) 4080)=Bz):nf m 4=Bz:=by
 cases c:nf m 4 with
 |false=>rfl
 |true=>have:=hU.1 c k (fR.2 b);rw[h] at this;cases this
def Ai(m:List Int)(o a b:Nat)(h:o+(a+b)<=m.length):sub m o (a+b)=sub m o a++sub m (o+a) b:=by unfold sub;rw[List.take_add,List.drop_drop]
def adW(q:m.length=71):nf m 4=(mz m&&aS (sub m 7 64) 4080):=by
 have h1:sub m 7 64=lvl m 0++(lvl m 1++(lvl m 2++lvl m 3)):=by exact KJ
 have b:sub m 3 4=[aq m 3,aq m 4,aq m 5,aq m 6]:=nJ yE λi hi=>by exact KI
 unfold mz nf;rw[h1,b,nO,nO,nO];simp only[akq,List.range_zero,akH,akf,List.all_cons,List.all_nil,Bool.and_true];generalize aS (lvl m 0) 4080=c;generalize aS (lvl m 1) 4080=d;generalize aS (lvl m 2) 4080=e;generalize aS (lvl m 3) 4080=f;generalize decide (0<=aq m 3/\aq m 3<=4)=h;generalize decide (0<=aq m 4/\aq m 4<=4)=j;generalize decide (0<=aq m 5/\aq m 5<=4)=l;generalize decide (0<=aq m 6/\aq m 6<=4)=p;cases c<;>cases d<;>cases e<;>cases f<;>cases h<;>cases j<;>cases l<;>cases p<;>rfl
def afl(h:jU m=AT)(b:m.length=71):mz m=AT:=by rw[AX b,beq_iff_eq] at h;unfold mz;rw[h];rfl
theorem aaH(b:m.length=71)(h0:aq m 0=0\/aq m 0=1\/aq m 0=2):dt m=(lB m&&nf m 4&&(aq m 0==1||lA m)&&(aq m 0==2||jU m)&&(!(aq m 0==0)||qK m)):=by
 have c:=λh=>afl (m:=m) h b;rw[adW b];unfold dt kt;rcases h0 with h|h|h
 ·grind
 ·grind
 ·grind
def Pa(h:¬(aq m 0=0\/aq m 0=1\/aq m 0=2)):dt m=Bz:=by unfold dt kt;rw[if_neg λe=>h (.inl e),if_neg λe=>h (.inr (.inl e)),if_neg λe=>h (.inr (.inr e))];rfl
end
section
open Go.RowKit
def F4(F G:Nat->Int)(h:k<16):(a6 (λj=>if j<k then F j else G j) 16).set k (F k)=a6 (λj=>if j<k+1 then F j else G j) 16:=by exact Kp
def FA(F G:Nat->Int):a6 (λj=>if j<16 then F j else G j) 16=a6 F 16:=aD
def FB{F:Nat->Int}(h:xs.length=16):a6 (λj=>if j<0 then F j else xs[j]?.getD 0) 16=xs:=by rw[aas (λj=>xs[j]?.getD 0) 16 λi _=>if_neg aa,agd h]
def Gs{F G:Nat->Int}{m:Nat}(h:k<16)(hm:m<=k):(a6 (λj=>if j<m then F j else G j) 16)[k]?.getD 0=G k:=by rw[oX h,if_neg aa]
def AY{M:Int}(h:aS xs M=AT)(c:0<=M):cY xs M:=λk=>by
 rcases dg k xs.length with b|b
 ·exact nM h k b
 ·simp_all
def ahu{M:Int}{t:Bool}(h:xs.length=16)(r:0<=M)(p:M<=100000)(j:Hid (aS xs M=t)):
  aiK Gz.prog 128 #[a9 (arr xs),U O M] w λe w'=>e=be (a5 t)/\Q w w':=by
 have q:=Bl.new w xs h;have l:Q w (w.alloc (ac (arr xs) 94)):=aU;go_enter Gz.gf func128,ntmps128;go_wp2;go_loop[5] (λi=>∃k:Nat,k<=16/\i=U O k/\Hid (aS xs M=aS (xs.drop k) M)) (λi=>16-(intOf i).toNat)
 case atStart=>exact⟨0,aa,rfl,rfl⟩
 case round=>
  obtain⟨k,u,rfl,hr⟩:=hrel;by_cases f:k<16
  ·have c:(k:Int)<16:=by omega
   have b:=PT xs M k aa;have hc:=q.at k f;generalize xs[k]?.getD 0=y at hc b;by_cases d: -M<=y/\y<=M
   ·rw[decide_eq_true d,alH] at b;have jt:=af b;go_wp2;refine(lV _ d.1 d.2).mono ?_;rintro e w'⟨rfl,rfl⟩;exact Dn
   ·rw[decide_eq_false d,Bool.false_and] at b;have jt:=af b;go_wp2;refine(AH _ _ _ _ aa).mono ?_;rintro e w'⟨rfl,rfl⟩;go_wp2;go_ret;exact⟨by rw[<-j.out,hr.out,jt.out];rfl,l⟩
  ·have c:k=16:=by omega
   subst c;go_wp2;go_ret;exact⟨by rw[<-j.out,hr.out,aln (Nat.le_of_eq h)];rfl,l⟩
def afm{B:Int}(d:xs.length=16)(f:cY xs B)(b:0<=B)(c:B<=1000000):
  aiK Gz.prog 195 #[a9 (arr xs)] w λe w'=>e=be (a9 (arr (jq xs)))/\Q w w':=by
 rw[<-adz d];exact abL w d f b c
def Mq{ops:Array akG}{rest:List akG}{c f:akG}{a:Act}{Q':Exit->Act->AS->Prop}(h1:c.guard=ns){d:Tmp}(hd:c.dst=an d)(h:c.op=.alloc 94)
  (l:f.guard=ns)(i:f.op=.store 94 x y)(p:(a.put (an d) (bi (an ⟨w.heap.size,0,ns⟩))).eval x=bi (an ⟨w.heap.size,0,ns⟩))
  (q:(a.put (an d) (bi (an ⟨w.heap.size,0,ns⟩))).eval y=a9 (arr ys))(r:ys.length=16)
  (hK:∀w',Bl w' w.heap.size ys->Q w w'->w'.heap.size=w.heap.size+1->ajU Gz.prog ops Q' rest ((a.put (an d) (bi (an ⟨w.heap.size,0,ns⟩))).put f.dst undef) w'):ajU Gz.prog ops Q' (c::f::rest) a w:=by
 refine wpList_plain h1 λK j=>?_;have t:(Instr.alloc 94 AT (ci #[])).run Gz.prog w=.ok (bi (an ⟨w.heap.size,0,ns⟩)) (w.alloc (ac (arr (rl 16 0)) 94)):=aD;unfold Oper.wp ajA;simp only[h,t,ajy,akD,ajS];refine j _ _ ?_;rw[hd];refine jg l x y i w.heap.size p (rl 16 0) ys q r (Bl.zero w) λw' b g s=>?_;refine hK w' b ?_ (by rw[s];simp);exact((Q.refl w).alloc _).grown g (λk e=>by have:=aJ e;omega)
theorem ab6(n d:Int)(hd:0<d):(n.tmod d<0/\n.tdiv d-1=n/d)\/(0<=n.tmod d/\n.tdiv d=n/d):=by exact Mf
def adX(n:Int)(h1: -100000000<=n)(d:n<=100000000):
  aiK Gz.prog 162 #[U O n,U O 16] w λe w'=>e=be (U O ((n+8)/16))/\w=w':=by
 obtain⟨m,hm⟩:∃m,n+8=m:=⟨_,rfl⟩;rcases ab6 m 16 aa with⟨b,he⟩|⟨b,he⟩
 ·have c:m.tdiv 16<=100000009:=by omega
  exact KN
 ·have c:m.tdiv 16<=100000009:=by omega
  have f: -100000009<=m.tdiv 16:=aa;exact KN
def kG(cs:List Int):List Int:=a6 (λk=>((jq cs)[k]?.getD 0+8)/16) 16
def Aj(cs:List Int):(kG cs).length=16:=aD
def aaI(A:xs.length=16)(H:Hid (aS xs 4080=AT)):
  aiK Gz.prog 138 #[a9 (arr xs)] w λe w'=>e=be (a9 (arr (kG xs)))/\Q w w':=by
 have s1:=bQ xs;rw[A] at s1;have r:Q w ((w.alloc (ac (arr xs) 94)).alloc (ac (arr (rl 16 0)) 94)):=aU;have B:=(Bl.new w xs A).alloc (ac (arr (rl 16 0)) 94);have l:=Bl.zero (w.alloc (ac (arr xs) 94));simp only[OF] at l;have z:=Ad xs;have d:=Fo (AY H.out aa) aa;have L:((w.alloc (ac (arr xs) 94)).alloc (ac (arr (rl 16 0)) 94)).heap.size=w.heap.size+1+1:=aj;go_enter Gz.gf func138,ntmps138;go_wp2_with(first|refine fw rfl rfl rfl aG ?_|refine fq aD rfl rfl aG ?_);refine(adB A (AY H.out aa) aa aa).mono ?_;rintro e C⟨rfl,q1⟩;have s2:w.heap.size+1+1<=C.heap.size:=by have:=q1.size;simp only[OF] at this;exact this
 replace B:=B.q q1;replace l:=l.q q1;replace r:=r.trans q1;clear q1;have hinv:∀b,b=jq xs->kG xs=a6 (λk=>(b[k]?.getD 0+8)/16) 16:=λb e=>by rw[e];rfl
 obtain⟨b,f⟩:∃b,b=jq xs:=⟨_,rfl⟩;have M:=af (hinv b f);rw[<-f] at z d⊢;have D:=af d;clear hinv f d;have N:=bQ b;rw[z] at N;go_wp2_with(refine Mq rfl rfl rfl rfl rfl rfl rfl z ?_;intro W I E R);have F:w.heap.size+2<=C.heap.size:=aa;replace l:=l.q E;replace r:=r.trans E;clear B E L;generalize C.heap.size=g at I R F⊢;go_loopw[4] (λi wr=>∃k:Nat,k<=16/\i=U O k/\Hid (Bl wr g (a6 (λj=>if j<k then(b[j]?.getD 0+8)/16 else b[j]?.getD 0) 16)/\Bl wr (w.heap.size+1) (rl 16 0)/\Q w wr)) (λi _=>16-(intOf i).toNat)
 case atStart=>exact⟨0,aa,rfl,by rw[FB z];exact I,l,r⟩
 case round=>
  obtain⟨k,X,rfl,hK⟩:=hrel;obtain⟨t,S,J⟩:=hK.out;by_cases h:k<16
  ·have c:(k:Int)<16:=by omega
   have u:=F4 (λj=>(b[j]?.getD 0+8)/16) (λj=>b[j]?.getD 0) h;have K:=t.at k h;have f1:=t.free k;rw[Gs h (Nat.le_refl _)] at K;obtain⟨T,V⟩:=D.out k;generalize b[k]?.getD 0=y at u K T V;have n1:=af (t.set k ((y+8)/16));rw[u] at n1;have n2:=af (S.aN (p:=⟨g,k,ns⟩) rU (U O ((y+8)/16)));have n3:=af (J.set (p:=⟨g,k,ns⟩) yG (U O ((y+8)/16)));go_wp2;refine(adX y aa aa).mono ?_;rintro e w'⟨rfl,rfl⟩;generalize(y+8)/16=v at n1 n2 n3⊢;exact KP
  ·have c:k=16:=by omega
   subst c;rw[FA,<-M.out] at t;have K3:=af J;have Ci:=Aj xs;generalize G:kG xs=Z at t Ci;have If:=af G;exact KR
def W7(C:xs.length=16)(E:Hid (aS xs 4080=AT)):
  aiK Gz.prog 186 #[a9 (arr xs)] w λe w'=>e=be (a9 (arr (kG xs)))/\Q w w':=by
 have s1:=bQ xs;rw[C] at s1;have f:Q w ((w.alloc (ac (arr xs) 94)).alloc (ac (arr (rl 16 0)) 94)):=aU;have v:=(Bl.new w xs C).alloc (ac (arr (rl 16 0)) 94);have c:=Bl.zero (w.alloc (ac (arr xs) 94));simp only[OF] at c;have z:=Ad xs;have l:=Fo (AY E.out aa) aa;have L:((w.alloc (ac (arr xs) 94)).alloc (ac (arr (rl 16 0)) 94)).heap.size=w.heap.size+1+1:=aj;go_enter Gz.gf func186,ntmps186;go_wp2_with(first|refine fw rfl rfl rfl aG ?_|refine fq aD rfl rfl aG ?_);refine(zE C aa aa E).mono ?_;rintro e A⟨rfl,q1⟩;have s2:w.heap.size+1+1<=A.heap.size:=by have:=q1.size;simp only[OF] at this;exact this
 replace v:=v.q q1;replace c:=c.q q1;replace f:=f.trans q1;clear q1;go_wp2_with(first|refine fw rfl rfl rfl aG ?_|refine fq aD rfl rfl aG ?_);refine(afm C (AY E.out aa) aa aa).mono ?_;rintro e A⟨rfl,q1⟩;have V:w.heap.size+1+1<=A.heap.size:=aI s2 q1.size;replace v:=v.q q1;replace c:=c.q q1;replace f:=f.trans q1;clear q1;have hinv:∀b,b=jq xs->kG xs=a6 (λk=>(b[k]?.getD 0+8)/16) 16:=λb e=>by rw[e];rfl
 obtain⟨b,r⟩:∃b,b=jq xs:=⟨_,rfl⟩;have M:=af (hinv b r);rw[<-r] at z l⊢;have F:=af l;clear hinv r l;have N:=bQ b;rw[z] at N;go_wp2_with(first|(first|refine fw rfl rfl rfl aG ?_|refine fq aD rfl rfl aG ?_)|(refine Mq rfl rfl rfl rfl rfl rfl rfl z ?_;intro W G H R));have I:w.heap.size+2<=A.heap.size:=aa;replace c:=c.q H;replace f:=f.trans H;clear v H L;generalize A.heap.size=g at G R I⊢;go_loopw[13] (λi wr=>∃k:Nat,k<=16/\i=U O k/\Hid (Bl wr g (a6 (λj=>if j<k then(b[j]?.getD 0+8)/16 else b[j]?.getD 0) 16)/\Bl wr (w.heap.size+1) (rl 16 0)/\Q w wr)) (λi _=>16-(intOf i).toNat)
 case atStart=>exact⟨0,aa,rfl,by rw[FB z];exact G,c,f⟩
 case round=>
  obtain⟨k,X,rfl,hK⟩:=hrel;clear G c f;obtain⟨u,J,D⟩:=hK.out;clear hK;by_cases d:k<16
  ·have h:(k:Int)<16:=by omega
   have t:=F4 (λj=>(b[j]?.getD 0+8)/16) (λj=>b[j]?.getD 0) d;have K:=u.at k d;have f1:=u.free k;have he:=λw=>si b z d w;rw[Gs d (Nat.le_refl _)] at K;obtain⟨S,T⟩:=F.out k;generalize b[k]?.getD 0=y at t K S T he;have n1:=af (u.set k ((y+8)/16));rw[t] at n1;have n2:=af (J.aN (p:=⟨g,k,ns⟩) rU (U O ((y+8)/16)));have n3:=af (D.set (p:=⟨g,k,ns⟩) yG (U O ((y+8)/16)));have Z:IntKind.i64.wrap (y+8)=y+8:=aB _ ⟨aa,aa⟩;clear t u J D;exact KP
  ·have h:k=16:=by omega
   subst h;rw[FA,<-M.out] at u;have K3:=af D;clear D;have Ci:=Aj xs;generalize B:kG xs=vs at u Ci;have If:=af B;clear B;exact KR
end
section
open Go.RowKit Go.WideShapes Go.ChangeShapes
def jR:(Gz.prog.info? 92).map (·.size)=an 2:=aE
def nP:(Gz.prog.info? 93).map (·.size)=an 4:=aE
def vV:(Gz.prog.info? 95).map (·.size)=an 64:=aE
def om:Gz.prog.eqGuardType Gz.prog.depth 92=Bz:=mP
def qA:Gz.prog.eqGuardType Gz.prog.depth 93=Bz:=mP
def Sp:Gz.prog.eqGuardType Gz.prog.depth 95=Bz:=mP
def YI(w:AS)(J:m.length=71):aiK Gz.prog 92 #[a9 (arr m)] w λe w'=>e=be (a5 (dt m))/\Q w w':=by
 have s1:=bQ m;rw[J] at s1;have S:=Nb.new 97 71 w m J;have T:Q w (w.alloc (ac (arr m) 97)):=(Q.refl _).alloc _;have c0:=S.at 0 aa;rw[sub_one] at c0;by_cases v:aq m 0=0\/aq m 0=1\/aq m 0=2
 ·have K:sub m 1 2=[aq m 1,aq m 2]:=lW m 1 aa;obtain⟨vb,A⟩:∃b,lB m=b:=⟨_,rfl⟩;have j:=A;unfold lB at j;have W:=af (Ya (aq m 1) (aq m 2) (w.alloc (ac (arr m) 97)));rw[j] at W;have c:Hid (dt m=(vb&&nf m 4&&(aq m 0==1||lA m)&&(aq m 0==2||jU m)&&(!(aq m 0==0)||qK m))):=by rw[Hid,aaH J v,A]
  clear A j;have L:=af v;have k0:0<=aq m 0:=aa;have k2:aq m 0<=2:=aa;clear v;obtain⟨kd,f⟩:∃z,aq m 0=z:=⟨_,rfl⟩;rw[f] at c0 k0 k2 c L;have X:=af f;clear f;have d:=S;go_enter Gz.gf func92,ntmps92;go_wp2;refine(lV _ k0 k2).mono ?_;rintro e w'⟨rfl,rfl⟩;go_wp2_with((with_reducible refine ep (ty:=92) _ 1 ?_ ?_ _ d 2 ?_ _ (Gz.gu underlying92) ?_ jR ?_);exact rfl;exact rfl;omega;exact rfl;rw[K]);refine W.out.mono ?_;rintro e w1⟨rfl,q1⟩;clear W;cases vb with
  |false=>go_wp2;go_ret;exact⟨by rw[c.out];rfl,T.trans q1⟩
  |true=>
   have B0:=af (S.q q1);have Q0:=af (T.trans q1);clear S d T q1 c0;go_wp2;go_loopw[3] (λi wr=>∃k:Nat,k<=4/\i=U O k/\Hid (nf m k=AT/\Nb 97 71 wr w.heap.size m/\Q w wr)) (λi _=>4-(intOf i).toNat)
   case atStart=>exact⟨0,aa,rfl,rfl,B0.out,Q0.out⟩
   case round=>
    obtain⟨k,v,rfl,hK⟩:=hrel;obtain⟨y0,d,y2⟩:=hK.out;clear hK B0 Q0;have Z:=af y0;have p:=af y2;clear y0 y2;by_cases M:k<4
    ·have i6:(k:Int)<4:=by omega
     have cq:=d.at (3+k) aa;rw[sub_one] at cq;have rv:sub m (7+k*16) 16=lvl m k:=(by unfold lvl;rw[Nat.mul_comm 16 k]);have Fd:(lvl m k).length=16:=by unfold lvl;exact bS (by omega)
     have r:=aaG m k;rw[Z.out,alH] at r;have B:=af λh=>adV (m:=m) (k:=k) M h;obtain⟨bM,C⟩:∃b,decide (0<=aq m (3+k)/\aq m (3+k)<=4)=b:=⟨_,rfl⟩;obtain⟨bL,D⟩:∃b,aS (lvl m k) 4080=b:=⟨_,rfl⟩;rw[C,D] at r B;have N:=af C;have HBL:=af D;have HPS:=af r;clear C D r;obtain⟨md,R⟩:∃z,aq m (3+k)=z:=⟨_,rfl⟩;rw[R] at cq N;clear R;go_wp2;refine(bZ _ N).mono ?_;rintro e w'⟨rfl,rfl⟩;cases bM with
     |false=>go_wp2;go_ret;refine⟨?_,p.out⟩;rw[c.out,B.out rfl];simp
     |true=>
      go_wp2_with(refine Kh (n:=71) aD _ _ rfl _ (7+k*16) rfl _ d 16 aa _ (Gz.gu underlying94) rfl cN ?_;rw[rv]);refine(ahu Fd al al HBL).mono ?_;rintro e w5⟨rfl,V⟩;cases bL with
      |false=>go_wp2;go_ret;refine⟨?_,p.out.trans V⟩;rw[c.out,B.out rfl];simp
      |true=>
       have b5:=d.q V;have q6:=p.out.trans V;clear d V cq;go_wp2;go_roundw;case rel=>exact⟨k+1,aa,aF,by rw[HPS.out];rfl,b5,q6⟩
       case measure=>exact aT
    ·have PJ:k=4:=by omega
     have hke:¬(k:Int)<4:=aa;rw[PJ] at Z;have c0:=d.at 0 aa;rw[sub_one,X.out] at c0;have E:=F3 J;have F:=AX J;have G:=Rp J;obtain⟨ve,H⟩:∃b,([aq m 1,aq m 2]==[0,0])=b:=⟨_,rfl⟩;obtain⟨me,I⟩:∃b,(sub m 3 4==[0,0,0,0])=b:=⟨_,rfl⟩;obtain⟨le,hle⟩:∃b,(sub m 7 64==rl 64 0)=b:=⟨_,rfl⟩;have l:=af H;have u:=af I;have HLE:=af hle;rw[H] at E;rw[I] at F;rw[hle] at G;rw[E,F,G,Z.out] at c;clear H I hle E F G M;rcases L.out with h|h|h
     ·subst h;cases ve with
      |false=>go_wp2_with(first|((with_reducible refine ep (ty:=92) _ 1 ?_ ?_ _ d 2 ?_ _ (Gz.gu underlying92) ?_ jR ?_);exact rfl;exact rfl;omega;exact rfl;rw[K])|((with_reducible refine nD (t:=92) ?_ [aq m 1,aq m 2] [0,0] ?_ ?_ ?_ om ?_);exact rfl;exact rfl;exact rfl;exact oA;rw[l.out]));(go_ret;refine⟨?_,p.out⟩;rw[c.out];rfl)
      |true=>cases me with|false=>go_wp2_with(first|((with_reducible refine ep (ty:=92) _ 1 ?_ ?_ _ d 2 ?_ _ (Gz.gu underlying92) ?_ jR ?_);exact rfl;exact rfl;omega;exact rfl;rw[K])|((with_reducible refine nD (t:=92) ?_ [aq m 1,aq m 2] [0,0] ?_ ?_ ?_ om ?_);exact rfl;exact rfl;exact rfl;exact oA;rw[l.out])|((with_reducible refine ep (ty:=93) _ 3 ?_ ?_ _ d 4 ?_ _ (Gz.gu underlying93) ?_ nP ?_);exact rfl;exact rfl;omega;exact rfl)|((with_reducible refine nD (t:=93) ?_ (sub m 3 4) [0,0,0,0] ?_ ?_ ?_ qA ?_);exact rfl;exact rfl;exact rfl;exact ru (bS aa) rfl;rw[u.out]));(go_ret;refine⟨?_,p.out⟩;rw[c.out];rfl)|true=>go_wp2_with(first|((with_reducible refine ep (ty:=92) _ 1 ?_ ?_ _ d 2 ?_ _ (Gz.gu underlying92) ?_ jR ?_);exact rfl;exact rfl;omega;exact rfl;rw[K])|((with_reducible refine nD (t:=92) ?_ [aq m 1,aq m 2] [0,0] ?_ ?_ ?_ om ?_);exact rfl;exact rfl;exact rfl;exact oA;rw[l.out])|((with_reducible refine ep (ty:=93) _ 3 ?_ ?_ _ d 4 ?_ _ (Gz.gu underlying93) ?_ nP ?_);exact rfl;exact rfl;omega;exact rfl)|((with_reducible refine nD (t:=93) ?_ (sub m 3 4) [0,0,0,0] ?_ ?_ ?_ qA ?_);exact rfl;exact rfl;exact rfl;exact ru (bS aa) rfl;rw[u.out])|((with_reducible refine ep (ty:=95) _ 7 ?_ ?_ _ d 64 ?_ _ (Gz.gu underlying95) ?_ vV ?_);exact rfl;exact rfl;omega;exact rfl)|((with_reducible refine nE (t:=95) ?_ (sub m 7 64) (rl 64 0) ?_ ?_ ?_ Sp ?_);exact rfl;exact rfl;exact rfl;exact Uj (bS aa) rfl;rw[HLE.out]));go_ret;refine⟨?_,p.out⟩;rw[c.out];simp
     ·subst h;cases me with|false=>go_wp2_with(first|((with_reducible refine ep (ty:=93) _ 3 ?_ ?_ _ d 4 ?_ _ (Gz.gu underlying93) ?_ nP ?_);exact rfl;exact rfl;omega;exact rfl)|((with_reducible refine nD (t:=93) ?_ (sub m 3 4) [0,0,0,0] ?_ ?_ ?_ qA ?_);exact rfl;exact rfl;exact rfl;exact ru (bS aa) rfl;rw[u.out]));(go_ret;refine⟨?_,p.out⟩;rw[c.out];rfl)|true=>go_wp2_with(first|((with_reducible refine ep (ty:=93) _ 3 ?_ ?_ _ d 4 ?_ _ (Gz.gu underlying93) ?_ nP ?_);exact rfl;exact rfl;omega;exact rfl)|((with_reducible refine nD (t:=93) ?_ (sub m 3 4) [0,0,0,0] ?_ ?_ ?_ qA ?_);exact rfl;exact rfl;exact rfl;exact ru (bS aa) rfl;rw[u.out]));(go_ret;refine⟨?_,p.out⟩;rw[c.out];rfl)
     ·subst h;cases ve with|false=>go_wp2_with(first|((with_reducible refine ep (ty:=92) _ 1 ?_ ?_ _ d 2 ?_ _ (Gz.gu underlying92) ?_ jR ?_);exact rfl;exact rfl;omega;exact rfl;rw[K])|((with_reducible refine nD (t:=92) ?_ [aq m 1,aq m 2] [0,0] ?_ ?_ ?_ om ?_);exact rfl;exact rfl;exact rfl;exact oA;rw[l.out]));(go_ret;refine⟨?_,p.out⟩;rw[c.out];rfl)|true=>go_wp2_with(first|((with_reducible refine ep (ty:=92) _ 1 ?_ ?_ _ d 2 ?_ _ (Gz.gu underlying92) ?_ jR ?_);exact rfl;exact rfl;omega;exact rfl;rw[K])|((with_reducible refine nD (t:=92) ?_ [aq m 1,aq m 2] [0,0] ?_ ?_ ?_ om ?_);exact rfl;exact rfl;exact rfl;exact oA;rw[l.out]));(go_ret;refine⟨?_,p.out⟩;rw[c.out];rfl)
 ·have c:Hid (dt m=Bz):=Pa v;have L:=af v;obtain⟨kd,f⟩:∃z,aq m 0=z:=⟨_,rfl⟩;rw[f] at c0 L v;clear f v;go_enter Gz.gf func92,ntmps92;go_wp2;refine(AH _ _ _ _ (by have:=L.out;omega)).mono ?_;rintro e w'⟨rfl,rfl⟩;go_wp2;go_ret;exact⟨by rw[c.out];rfl,T⟩
end
section
open Go.RowKit Go.WideShapes Go.ChangeShapes
def qh(xs:List Int)(k:Nat):sub xs (k*71) 71=aO xs k:=by unfold aO;rw[Nat.mul_comm]
def Rq(b:xs.length=n*71)(c:k<n):xs[k*71]?.getD 0=aq (aO xs k) 0:=by unfold aq aO;rw[gq _ _ _ _ al,Nat.mul_comm];rfl
def Sq(h:dt m=AT):dS Bz m=AT:=by unfold dS;rw[h];rfl
def Sr(h:dt m=AT)(k:aq m 0=2):dS AT m=AT:=by unfold dS;rw[h,k];rfl
def TA{i:Bool}(h:dt m=Bz):dS i m=Bz:=by unfold dS;rw[h];rfl
def TB(k:aq m 0≠2):dS AT m=Bz:=by unfold dS;rw[show(aq m 0==2)=Bz from beq_eq_false_iff_ne.2 k];simp
def Qg{ap:Bool}(h:gx ap xs n=Bz):(eI ap xs n).getD []=[]:=by rw[Rh h];rfl
def Fz(ap:Bool)(m:List Int):0<(fi ap m).length:=by
 unfold fi;split
 ·simp
 ·have:0<(fU m 4).length:=by rw[show(4:Nat)=3+1 from rfl,EX,ajq];unfold my;rw[ajq,kX];have:=qe ((dy (lvl m 3)).length:Int);omega
  rw[ajq];omega
def Yb(ap:Bool)(n g c B:Nat)(xs:List Int)(w:AS)(h:ay 97 71 w B (Y (an ⟨g,0,ns⟩) n c) n xs)(h1:1<=n)(h4:n<=4):
  aiK Gz.prog 66 #[Y (an ⟨g,0,ns⟩) n c,a5 ap] w λe w'=>∃v',e=be v'/\aK w' w.heap.size v' ((eI ap xs n).getD []).length ((eI ap xs n).getD [])/\Q w w':=by
 have H:=af h;have C:=h.1;have L:(1:Int)<=n:=aa;have M:(n:Int)<=4:=aa;have q0:Q w (w.alloc (ac #[] 164)):=(Q.refl _).alloc _;have o0:=ay.iV 164 2 w w.heap.size (av _);clear h;go_enter Gz.gf func66,ntmps66;go_wp2;refine(lV _ L M).mono ?_;rintro e w'⟨rfl,rfl⟩;go_wp2;have O0:=af o0;have Q0:=af q0;clear o0 q0;go_loopw[5,6] (λu i wr=>∃k cnt:Nat,k<=n/\i=U O k/\cnt<=5000*k/\Hid (ay 164 2 wr w.heap.size u cnt (jV ap xs k)/\Q w wr/\gx ap xs k=AT)) (λ_ i _=>n-(intOf i).toNat)
 case atStart=>exact⟨0,0,aa,rfl,aa,O0.out,Q0.out,rfl⟩
 case round=>
  obtain⟨k,cnt,hk,rfl,UV,hK⟩:=hrel;obtain⟨k1,K,k3⟩:=hK.out;clear hK O0 Q0;have hl:=H.out.q K;have cM:=K.size;have l:=af k1;have K2:=af K;have D:=af k3;clear k1 K k3;by_cases aV:k<n
  ·have i6:(k:Int)<n:=by omega
   have p:=wm C aV;have N:=YI wr p;have c0:=hl.cell (k*71) aa;rw[Rq C aV] at c0;obtain⟨kd,r⟩:∃z,aq (aO xs k) 0=z:=⟨_,rfl⟩;rw[r] at c0;have f:=af r;obtain⟨bv,t⟩:∃z,dt (aO xs k)=z:=⟨_,rfl⟩;rw[t] at N;have b:=af t;clear r t;have H0:=af c0;clear c0;go_wp2_with((with_reducible refine sB (ty:=97) _ (k*71) ?_ ?_ _ hl 71 ?_ _ (Gz.gu underlying97) ?_ gN ?_);exact rfl;exact rfl;omega;exact rfl;rw[qh]);refine N.mono ?_;rintro e w5⟨rfl,q5⟩;clear N;have hl:=hl.q q5;have c0:=hl.cell (k*71) aa;rw[Rq C aV,f.out] at c0;cases bv with
   |false=>have HB:Hid (dS ap (aO xs k)=Bz):=TA b.out;exact Mo
   |true=>
    cases ap with
    |false=>have HB:Hid (dS Bz (aO xs k)=AT):=Sq b.out;have R:=af (Qe Bz w5 (AQ p b.out) λh=>by cases h);(go_wp2_with((with_reducible refine sB (ty:=97) _ (k*71) ?_ ?_ _ hl 71 ?_ _ (Gz.gu underlying97) ?_ gN ?_);exact rfl;exact rfl;omega;exact rfl;rw[qh]);refine R.out.mono ?_;rintro e w6⟨v6,E,rfl,S,j,v⟩;have F:=v.size;have G:=q5.size;have I:=l.out.q (q5.trans v);have J:=K2.out.trans (q5.trans v);have A:0<E:=(by have:=j.1;have:=Fz Bz (aO xs k);omega);obtain⟨g6,c6,rfl⟩:=j.gC A;have hlen:=j.1;clear l K2 hl;have hl:=H.out.q J;go_wp2_with(at_builtin;go_loud (refine gi rfl rfl (Gz.gu underlying128) ie rfl al al rfl I ⟨_,0,ns⟩ _ _ rfl hlen ?_ ?_ j.src ?_;omega;omega;intro vz T V W));have X:Q w T:=bD.toQ W J (λg Z=>by have:=I.below g Z;omega);go_roundw;(case rel=>exact⟨k+1,cnt+E,aa,aF,aa,by rw[vP];exact V,X,by rw[EZ,D.out,HB.out];rfl⟩);(case measure=>simp[intOf];omega))
    |true=>
     by_cases d:kd=2
     ·have HB:Hid (dS AT (aO xs k)=AT):=Sr b.out (f.out.trans d);have R:=af (Qe AT w5 (AQ p b.out) λ_=>f.out.trans d);subst d;(go_wp2_with((with_reducible refine sB (ty:=97) _ (k*71) ?_ ?_ _ hl 71 ?_ _ (Gz.gu underlying97) ?_ gN ?_);exact rfl;exact rfl;omega;exact rfl;rw[qh]);refine R.out.mono ?_;rintro e w6⟨v6,E,rfl,S,j,v⟩;have F:=v.size;have G:=q5.size;have I:=l.out.q (q5.trans v);have J:=K2.out.trans (q5.trans v);have A:0<E:=(by have:=j.1;have:=Fz AT (aO xs k);omega);obtain⟨g6,c6,rfl⟩:=j.gC A;have hlen:=j.1;clear l K2 hl;have hl:=H.out.q J;go_wp2_with(at_builtin;go_loud (refine gi rfl rfl (Gz.gu underlying128) ie rfl al al rfl I ⟨_,0,ns⟩ _ _ rfl hlen ?_ ?_ j.src ?_;omega;omega;intro vz T V W));have X:Q w T:=bD.toQ W J (λg Z=>by have:=I.below g Z;omega);go_roundw;(case rel=>exact⟨k+1,cnt+E,aa,aF,aa,by rw[vP];exact V,X,by rw[EZ,D.out,HB.out];rfl⟩);(case measure=>simp[intOf];omega))
     ·have HB:Hid (dS AT (aO xs k)=Bz):=TB (by rw[f.out];exact d);have ai1:(kd !=2)=AT:=by simp[d]
      exact Mo
  ·have jn:k=n:=by omega
   rw[jn] at l D;have hlen:=l.out.1;obtain⟨r1,r2⟩:=wF C D.out n (av _);have HS:=Fy (ap:=ap) C h1 h4;rw[if_pos D.out] at HS;have IU:=af HS
   have uk:0<cnt:=by exact Mp
   obtain⟨gz,cz,rfl⟩:=l.out.gC uk;have HE:=YG l.out r1.ok aa;clear HS aV hl;go_wp2;refine HE.mono ?_;rintro e w5⟨v5,rfl,o5,q5⟩;go_wp2;go_ret;refine⟨_,rfl,?_,K2.out.trans q5⟩;rw[IU.out];exact o5.mono cM
end
section
open Go.RowKit Go.WideShapes Go.ChangeShapes Go.Shelf
attribute [local go_sem] Oper.semAt_some
def qN(r:Int×Int):Array so:=#[a9 #[U O r.1,U O r.2]]
def Q.adY{w':AS}(h:Q w w'):w.grownBy w' ns:=⟨h.os,h.tape,h.output,h.size,λk b _=>h.block k b⟩
def Nb.below{t:TO}{n g B:Nat}{w w':AS}{xs:List Int}(h:Nb t n w g xs)(k:Below B w w')(b:g<B):Nb t n w' g xs:=⟨(k.block g b).trans h.blk,h.len⟩
def Kb(b:Nat)(W c:AS):Prop:=c.heap[b]?=W.heap[b]?
def Kb.t{b:Nat}{A B C:AS}(h:Kb b A B)(k:Kb b B C):Kb b A C:=Eq.trans k h
def Kb.b{b:Nat}(d:b<w.heap.size)(W:AS)(l:Nat)(o c:Obj)(e:w.heap.size<=l)(_:W.heap[l]?=an o)(_:o.isCells=Bz)(_:o.isWalk=Bz):Kb b W (W.putObj l c):=World.putObj_heap_other aa
def Kb.dD{b:Nat}{W c:AS}{row:Option Nat}(h:W.grownBy c row)(d:b<W.heap.size)(hr:row≠an b):Kb b W c:=h.block b d (λe=>hr e.symm)
def Nb.kb{t:TO}{w':AS}(h:Nb t n w g xs)(k:Kb g w w'):Nb t n w' g xs:=⟨Eq.trans k h.blk,h.len⟩
def ak.own{g:Nat}{t:TO}{cs:Array so}{w w':AS}{row:Option Nat}(h:ak w g t cs)(c:w.grownBy w' row)(hr:∀r,row=an r->∃o:Obj,w.heap[r]?=an o/\o.isCells=Bz):ak w' g t cs:=
 h.grown c λe=>by obtain⟨o,b,hc⟩:=hr g e.symm;rw[show w.heap[g]?=_ from h] at b;cases b;cases hc
def TD(hn:1<=n)(l b:Nat)(xs:List Int)(J E:List (Int×Int)->AS->Prop)(W:AS)
  (M:AbidesFrom W.heap.size J)(N:∀pre x W,J pre W->pre++[x]<+:dy xs->YieldAt Fence.wide (n-1) Gz.prog l (qN x) W λe j=>(e=be (a5 AT)/\J (pre++[x]) j/\Kb b W j)\/(e=be (a5 Bz)/\E (pre++[x]) j))
  (Q:Nb 94 16 W b xs)(h0:J [] W):
  CallsIn Fence.wide n Gz.prog 192 #[.func (.yield l) #[] #[],bi (an ⟨b,0,ns⟩)] W λe j=>(∃v,e=be v)/\
   ((∃ys,ys=dy xs/\J ys j)\/(∃pre,pre<+:dy xs/\E pre j)):=by
 have R:=af M;have S:=af N;have T:=af h0;have V:=af Q;refine callsIn_of_wp (Gz.gf func192) rfl trivial ?_ rfl;simp only[ntmps192,List.size_toArray,ajE,akU,akl,Nat.reduceSub,alw,alx,List.push_toArray,alM,akH,akf]
 gi_wp2
 refine⟨trivial,?_⟩;refine(callsIn_wide.2 OS).mono ?_;rintro e w1⟨rfl,q1⟩
 gi_wp2
 have hs:=q1.size;have X:=af (R.out _ _ _ ns T.out q1.adY λr e=>by cases e);have Z:=af (V.out.q q1);have B:=Ae
 gi_loopw[3,8] (λz i wr=>∃(k d:Nat)(pre:List (Int×Int)),k<=16/\i=U O k/\z=U O d/\d<=k/\Hid (Nb 94 16 wr b xs/\J pre wr/\dy xs=pre++iH ((ma xs).drop k) d)) (λ_ i _=>16-(intOf i).toNat)
 case atStart=>exact⟨0,0,[],aa,rfl,rfl,aa,Z.out,X.out,by simp[dy]⟩
 case round=>
  obtain⟨k,d,pre,hk,rfl,rfl,hz,hK⟩:=hrel;obtain⟨F,G,c⟩:=hK.out;by_cases f:k<16
  ·have i6:(k:Int)<16:=by omega
   have he:=λw=>si lC B f w;rw[AL f] at he;rw[Od xs f,iH] at c;have H:=tn k f;generalize gZ[k]?.getD 0=t at he c H;have IC:(t:Int)<16:=aa;have c2:=F.at t H;generalize xs[t]?.getD 0=x at c2 c;have hzi:(d:Int)<=16:=aa;have I:=af F;have K:=af G;by_cases h:x=0
   ·rw[if_pos h] at c;have p:=af c;subst h
    gi_wp2
    go_roundw;case rel=>exact⟨k+1,d+1,pre,aa,aF,aF,aa,I.out,K.out,p.out⟩
    case measure=>exact aT
   ·rw[if_neg h] at c;have hlen:pre++[((d:Int),x)]<+:dy xs:=⟨_,by rw[c,ajH];rfl⟩;obtain⟨fn,tmps,assign,body,L,hR⟩:=S.out pre ((d:Int),x) wr K.out hlen;unfold qN at L;dsimp only at L;have p:=af c;have ri:(x==0)=Bz:=by simp[h]
    gi_wp2
    refine hR.mono ?_;rintro e W3(⟨rfl,C,D⟩|⟨rfl,u⟩)
    ·gi_wp2
     go_roundw;case rel=>exact⟨k+1,0,pre++[((d:Int),x)],aa,aF,rfl,aa,I.out.kb D,C,by rw[p.out];simp⟩
     case measure=>exact aT
    ·gi_wp2
     refine bodyPost_ret (results_none rfl _ _ _) rfl ?_;exact⟨⟨_,rfl⟩,.inr ⟨_,by rw[p.out];exact⟨_,by rw[ajH];rfl⟩,u⟩⟩
  ·have A:k=16:=by omega
   subst A;rw[aln (by rw[EO];omega),iH,List.append_nil] at c;have p:=af c
   gi_wp2
   go_end0
   exact⟨⟨_,rfl⟩,.inl ⟨pre,p.out.symm,G⟩⟩
def Zw(n:Nat)(d:1<=n){b:Nat}(c:Nb 94 16 w b xs):
  SeqStopsK Fence.wide n Gz.prog 192 #[bi (an ⟨b,0,ns⟩)] qN (Kb b) (λys=>ys=dy xs) (λpre=>pre<+:dy xs) (dy xs).length w:=λl J e W f h _ i h0=>
 TD d l b xs J e W h (λpre x W j p=>i pre x W j (by have:=p.length_le;rw[ajq,List.length_singleton] at this;omega)) (c.below f c.lt) h0
def Ss(c:xs.length=16):
  aiK Gz.prog 174 #[a9 (arr xs)] w λe w'=>∃b,e=be (.func (.func 192) #[] #[bi (an ⟨b,0,ns⟩)])/\w.heap.size<=b/\b<w'.heap.size/\Nb 94 16 w' b xs/\Q w w':=by
 have d:=Nb.new 94 16 w xs c;have f:Q w (w.alloc (ac (arr xs) 94)):=(Q.refl w).alloc _;go_enter Gz.gf func174,ntmps174;go_wp2;go_ret;exact⟨_,rfl,av _,aj,d,f⟩
def Gt{b:Nat}{W:AS}(v:so)(h:b≠g):Kb b W (W.setCell ⟨g,0,ns⟩ v):=jh W ⟨g,0,ns⟩ v b h
def Yc(d:xs.length=16):
  aiK Gz.prog 173 #[a9 (arr xs)] w λe w'=>e=be (U O ((dy xs).length:Int))/\Q w w':=by
 have s1:=bQ xs;rw[d] at s1;have z:=(Nb.new 94 16 w xs d).alloc (ac #[U O 0] 3);have u:=ak.new (w.alloc (ac (arr xs) 94)) 3 #[U O 0];rw[OF] at u;have C:Q w ((w.alloc (ac (arr xs) 94)).alloc (ac #[U O 0] 3)):=((Q.refl w).alloc _).alloc _;have v:=ET xs;refine(callsIn_wide (n:=3)).1 ?_;refine callsIn_of_wp_marks (Gz.gf func173) rfl trivial ?_ rfl;simp only[ntmps173,List.size_toArray,ajE,akU,akl,Nat.reduceSub,alw,alx,List.push_toArray,alM,akH,akf];refine wpIn_wide.2 ?_;go_wp2_with((with_reducible refine e8 (n:=16) rfl _ _ rfl _ rfl _ z _ (Gz.gu underlying94) rfl cN ?_));refine(Ss d).mono ?_;rintro e I⟨b,rfl,f,i,E,q1⟩;simp only[OF] at f;have j:=u.q q1;have p:=C.trans q1;go_wp2
 refine wpIn_wide.1 (wpIn_rangeFunc_ownG (n:=3) rfl al (gf:=192) (lb:=#[bi (an ⟨b,0,ns⟩)]) rfl trivial (Gz.cl 192)
  (Zw 2 al E) Kb.t (Kb.b i) (Below.refl _ _) (λ_=>rfl)
  (λpre W=>ak W (w.heap.size+1) 3 #[U O (pre.length:Int)]/\Q w W)
  (λ_ _ _=>False)
  (OwnFrom.and (Own.from (λs A B row r F G=>r.own F G) _) (ownFrom_below (av _) p.size))
  (λ_ _ _ _ _ r _ _=>r)
  ⟨j,p⟩
  (λx=>{tmps:=#[a9 (arr xs),bi (an ⟨w.heap.size,0,ns⟩),U O 0,bi (an ⟨w.heap.size+1,0,ns⟩),a9 (arr xs),.func (.func 192) #[] #[bi (an ⟨b,0,ns⟩)],a9 #[U O x.1,U O x.2],undef,undef,undef],defers:=[]}) ?assign ?body ?done ?stop)
 case assign=>
  intro l x W K hK;unfold qN
  gi_wp2
  simpa using hK
 case body=>
  rintro l pre x W⟨hc,hq⟩ H;have c0:=hc.cell 0;have f0:=hc.free 0;have c0:=c0
  gi_wp2
  refine⟨(vD _ _ _).from _,Gt _ aa,?_,hq.set aj _⟩;have:=hc.set 0 (U O ((pre.length:Int)+1));simpa using this
 case done=>rintro D ys W J rfl⟨hc,hq⟩ hK;have c0:=hc.cell 0;go_wp2;refine⟨aj,.inl ⟨_,_,rfl,run_takeDeferred hK,?_⟩⟩;exact⟨_,results_tmp rfl _ _ _,rfl,Below.trans hq (belowK_b (w:=w) (av _) W D _ _ (by have:=p.size;omega) hK rfl rfl)⟩
 case stop=>rintro D c pre W _ _ h _;exact h.elim
end
end Go.Proofs.Q0
