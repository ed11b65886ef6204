/-
  LINT, 30: the program's lines and texts of trees.
-/
import Derived.Test.YtjolkfjccojnnaaGreatDoorXL28toXL51
import Derived.Test.YtjolkfjccojnnaaGreatDoorXE11toXL26
import Derived.Test.YtjolkfjccojnnaaGreatDoorXE3toXL25
namespace Go.Av
open Go Go.RowKit Go.Proofs List
set_option linter.unusedSimpArgs false
set_option linter.unusedVariables false
theorem oE {e:TypeId} {sz bytes n m m':Nat} {τ:Store} (κ:Store) {g:Option Nat} {rows:List (List AV)} {cs:List AV} {K:AV->Store->Prop} {b k1:Nat} (hτ:τ=κ++tokS g e m) (hg:∀d,g=some d->d∉κ.keys) (hr:rows.length=n) (hm:m=n*sz)
  (hm':m'=(n+1)*sz) (hl:cs.length=sz) (hb:b∉τ.keys) (hn:(n+1)*bytes<=140737488355328) (hk:∀g',(∀d,g'=some d->d∉κ.keys)->K (.own g' e sz (rows++[cs])) (κ++tokS g' e m')):
  appX e sz bytes ((b,.tok e k1)::τ) g rows [cs] K:=by
 obtain⟨rs,h1,h2,h3,h4⟩:=dr (K:=λ_=>K) (k1:=k1) κ hτ hg hr hm hm' hl hb hn hk
 obtain⟨r,rfl⟩:=length_eq_one_iff.1 h1
 simp only[flatten_cons,flatten_nil,append_nil]at h3
 subst h3
 exact h4
section
variable (G:Glob)
theorem v_clo2 {k:Nat} {b c:Nat} {args:List AV} {σ:Store} {R:AV->Store->Prop} (h:aj G Tryz.prog k (args++[.sc (.pointer (some ⟨b,0,none⟩)),.sc (.pointer (some ⟨c,0,none⟩))]) σ R):cZ G Tryz.prog (.func (.func k) #[] #[.pointer (some ⟨b,0,none⟩),.pointer (some ⟨c,0,none⟩)]) args σ R:=
 ⟨k,#[],#[.pointer (some ⟨b,0,none⟩),.pointer (some ⟨c,0,none⟩)],rfl,by simpa[AV.ofValue,AV.ofOne]using h⟩
end
theorem k9:∀l:List (List UInt8),l≠[]->Lib.join l [10]++[10]=l.flatMap λs=>s++[10]
 |[],h=>absurd rfl h
 |[s],_=>by simp[Lib.join,List.intercalate]
 |s::t::l,_=>by
  have ih:=k9 (t::l) (by simp)
  have e:Lib.join (s::t::l) [10]=s++([10]++Lib.join (t::l) [10]):=by simp[Lib.join,List.intercalate]
  rw[e,flatMap_cons,←ih]
  simp
theorem textT_len (u:U) (hc:u.flat.length<1000000):(textT u).length<=20001000000:=by
 have h1:=U.lines_len u 0
 have h2:=lines_short u 0
 unfold textT
 have key:∀l:List (List UInt8),(∀s∈l,s.length<=20000)->(l.flatMap λs=>s++[10]).length<=l.length*20001:=by
  intro l
  induction l with
  |nil=>intro _;simp
  |cons s l ih=>
   intro h
   have h3:=h s (by simp)
   have h4:=ih λt ht=>h t (by simp[ht])
   simp only[flatMap_cons,length_append,length_cons,length_nil]at*
   omega
 have:=key _ h2
 omega
def LnSt (bo be:Nat) (g:Option Nat) (v:AV) (n:Nat):Store:=(be,.cells 222 [.sc (.func (.func 254) #[] #[.pointer (some ⟨bo,0,none⟩),.pointer (some ⟨be,0,none⟩)])])::(bo,.cells 29 [v])::tokS g 9 n
def LnOk (bo be:Nat) (g:Option Nat) (v:AV) (rows:List (List UInt8)):Prop:=(v= .own g 9 1 (rows.map srow)\/v= .nil/\g=none/\rows=[])/\(∀d,g=some d->d≠bo/\d≠be)/\be≠bo
section
variable (G:Glob) (hG:GOk G)
include hG
set_option maxHeartbeats 2000000 in
theorem f254:∀(u:U) (n:Nat),u.Short->n+u.flat.length<=1000000->∀(bo be:Nat) (g:Option Nat) (v:AV) (rows:List (List UInt8)),LnOk bo be g v rows->rows.length+u.flat.length<=1000000->
  aj G Tryz.prog 254 [.agg u.cs,.int .i64 n,.sc (.pointer (some ⟨bo,0,none⟩)),.sc (.pointer (some ⟨be,0,none⟩))] (LnSt bo be g v rows.length)
   (λr σ'=>r= .tup []/\∃g',LnOk bo be g' (.own g' 9 1 ((rows++u.lines n).map srow)) (rows++u.lines n)/\σ'=LnSt bo be g' (.own g' 9 1 ((rows++u.lines n).map srow)) (rows++u.lines n).length):=by
 refine U.ind λu ih n hs hn bo be g v rows hok hrl=>?_
 have hkl:=hs.1.kids
 have hlen:u.flat.length=1+(U.flats u.kids).length:=by rw[U.flat_eq,length_cons];omega
 have hwd:IntKind.i64.wrap ((n:Int)+1)=((n+1:Nat):Int):=by rw[au (by omega) (by omega)];omega
 obtain⟨hv,hg,hbe⟩:=hok
 have hbo:¬bo=be:=λe=>hbe e.symm
 have hL:=f255 G hG u n hs (by omega)
 have hll:=U.lines_len u n
 refine aj.w c254 ?_
 unfold s254 r254 LnSt
 rcases hv with rfl|⟨rfl,rfl,rfl⟩
 ·(repeat' (first|(with_reducible refine ab hL ?_)|simp only[EVz,seval,↓reduceIte,EV6,EV7,hbe,hbo,hne]|simp only[EVz,seval,↓reduceIte,EV6,EV7,hbe,hbo]|(with_reducible intro blk hblk;(try(have hnx:=hblk;simp only[EVK]at hnx;(have hne:=hnx))))|(with_reducible refine ak ?_ ?_)|(with_reducible refine am ?_)|(refine⟨[[.str (lineOf u n)]],rfl,(by simp),rfl,?_⟩)|(refine oE (n:=rows.length) (m':=rows.length+1) [_,_] (by rfl) (λd hd=>by simp[Store.keys];exact⟨(hg d hd).2,(hg d hd).1⟩) (by simp) (by omega) (by omega) rfl (by assumption) (by omega) (λgn hgn=>?_))|fail))
  all_goals(
   refine Zq (ι:=Option Nat×List (List UInt8)) u.kids (λi r c=>LnOk bo be c.1 (.own c.1 9 1 (c.2.map srow)) c.2/\rows++u.lines n=c.2++U.liness (n+1) r/\c.2.length+(U.liness (n+1) r).length<=1000000)
    (λi c=>[(1,.int .i64 n),(3,.sc (.pointer (some ⟨be,0,none⟩))),(15,.lst 8 (u.kids.map U.cs)),(16,.int .i64 u.kids.length),(17,.int .i64 i)])
    (λi c=>LnSt bo be c.1 (.own c.1 9 1 (c.2.map srow)) c.2.length) (gn,rows++[lineOf u n]) ⟨⟨.inl rfl,λd hd=>by have:=hgn d hd;simp[Store.keys]at this;exact⟨this.2,this.1⟩,hbe⟩,by rw[U.lines_eq];simp,by have:=hll;simp only[U.lines_eq,length_cons,length_append,length_nil]at*;omega⟩
    (by simp only[LnSt,map_append,map_cons,map_nil,length_append,length_cons,length_nil,srow];exact Weak.rfl' _ _) (by omega) (λi x r c hok hx hw=>?_) (λc hok hn=>?_)
   ·obtain⟨o1,o2,o3⟩:=hok
    rw[U.liness_cons]at o2 o3
    rw[length_append]at o3
    have hxl:=U.lines_len x (n+1)
    have hmm:=U.flats_mem hx.mem
    unfold LnSt
    (try simp only[EVz,seval,↓reduceIte,EV6,EV7,hx.yes,hx.le0,hx.lt',hx.row,hw,hwd,hbe,hbo])
    intro b7 hb7
    have hb7':¬b7=be:=by simp only[EVK]at hb7;exact hb7.1
    (try simp only[EVz,seval,↓reduceIte,EV6,EV7,hx.yes,hx.le0,hx.lt',hx.row,hw,hwd,hbe,hbo,hb7'])
    refine bg (LnSt bo be c.1 (.own c.1 9 1 (c.2.map srow)) c.2.length) [(b7,.cells 27 x.cs)] (v_clo2 G (ih x hx.mem (n+1) (hs.kid hx.mem) (by omega) bo be c.1 _ c.2 o1 (by omega))) (aB.rfl' _) SubN.comm1 ?_
    rintro r' σ2 ⟨rfl,g',hk,rfl⟩
    (try simp only[EVz,seval,↓reduceIte,EV6,EV7,hw])
    refine af hx (g',c.2++x.lines (n+1)) ⟨hk,by have:=o2;simp only[append_assoc,nil_append]at this ⊢;exact this,by simp only[length_append];omega⟩ (Weak.sub SubN.left)
   ·obtain⟨o1,o2,o3⟩:=hok
    rw[U.liness,append_nil]at o2
    (try simp only[EVz,seval,↓reduceIte,EV6,EV7,hn])
    (try rw[nil_append]at o2)
    exact RET.mk (SubN.refl _) ⟨rfl,c.1,by rw[o2];exact o1,by rw[o2];rfl⟩)
 ·(repeat' (first|(with_reducible refine ab hL ?_)|simp only[EVz,seval,↓reduceIte,EV6,EV7,hbe,hbo,hne]|simp only[EVz,seval,↓reduceIte,EV6,EV7,hbe,hbo]|(with_reducible intro blk hblk;(try(have hnx:=hblk;simp only[EVK]at hnx;(have hne:=hnx))))|(with_reducible refine ak ?_ ?_)|(with_reducible refine am ?_)|(refine⟨[[.str (lineOf u n)]],rfl,(by simp),rfl,?_⟩)|(refine oE (n:=0) (m':=1) [_,_] (by rfl) (by simp) (by simp) (by omega) (by omega) rfl (by assumption) (by omega) (λgn hgn=>?_))|fail))
  all_goals(
   refine Zq (ι:=Option Nat×List (List UInt8)) u.kids (λi r c=>LnOk bo be c.1 (.own c.1 9 1 (c.2.map srow)) c.2/\[]++u.lines n=c.2++U.liness (n+1) r/\c.2.length+(U.liness (n+1) r).length<=1000000)
    (λi c=>[(1,.int .i64 n),(3,.sc (.pointer (some ⟨be,0,none⟩))),(15,.lst 8 (u.kids.map U.cs)),(16,.int .i64 u.kids.length),(17,.int .i64 i)])
    (λi c=>LnSt bo be c.1 (.own c.1 9 1 (c.2.map srow)) c.2.length) (gn,[lineOf u n]) ⟨⟨.inl rfl,λd hd=>by have:=hgn d hd;simp[Store.keys]at this;exact⟨this.2,this.1⟩,hbe⟩,by rw[U.lines_eq];simp,by have:=hll;simp only[U.lines_eq,length_cons,length_append,length_nil]at*;omega⟩
    (by simp only[LnSt,map_append,map_cons,map_nil,length_append,length_cons,length_nil,srow];exact Weak.rfl' _ _) (by omega) (λi x r c hok hx hw=>?_) (λc hok hn=>?_)
   ·obtain⟨o1,o2,o3⟩:=hok
    rw[U.liness_cons]at o2 o3
    rw[length_append]at o3
    have hxl:=U.lines_len x (n+1)
    have hmm:=U.flats_mem hx.mem
    unfold LnSt
    (try simp only[EVz,seval,↓reduceIte,EV6,EV7,hx.yes,hx.le0,hx.lt',hx.row,hw,hwd,hbe,hbo])
    intro b7 hb7
    have hb7':¬b7=be:=by simp only[EVK]at hb7;exact hb7.1
    (try simp only[EVz,seval,↓reduceIte,EV6,EV7,hx.yes,hx.le0,hx.lt',hx.row,hw,hwd,hbe,hbo,hb7'])
    refine bg (LnSt bo be c.1 (.own c.1 9 1 (c.2.map srow)) c.2.length) [(b7,.cells 27 x.cs)] (v_clo2 G (ih x hx.mem (n+1) (hs.kid hx.mem) (by omega) bo be c.1 _ c.2 o1 (by omega))) (aB.rfl' _) SubN.comm1 ?_
    rintro r' σ2 ⟨rfl,g',hk,rfl⟩
    (try simp only[EVz,seval,↓reduceIte,EV6,EV7,hw])
    refine af hx (g',c.2++x.lines (n+1)) ⟨hk,by have:=o2;simp only[append_assoc,nil_append]at this ⊢;exact this,by simp only[length_append];omega⟩ (Weak.sub SubN.left)
   ·obtain⟨o1,o2,o3⟩:=hok
    rw[U.liness,append_nil]at o2
    (try simp only[EVz,seval,↓reduceIte,EV6,EV7,hn])
    (try rw[nil_append]at o2)
    exact RET.mk (SubN.refl _) ⟨rfl,c.1,by rw[o2];exact o1,by rw[o2];rfl⟩)
theorem f224 (u:U) (hs:u.Short):aj G Tryz.prog 224 [.agg u.cs] [] (λr σ'=>(br u=false/\r= .nil)\/(br u=true/\∃g,r= .own g 9 1 ((u.lines 0).map srow))):=by
 have hS:=f253 G u hs
 have hV:=f226 G hG u.strip (jP hs)
 rw[lE]at hV
 have hc:=hs.1.2
 refine aj.w c224 ?_
 unfold s224 r224
 cases hsh:br u with
 |false=>
  rw[hsh]at hV
  (repeat' (first|(with_reducible first|refine ab hS ?_|refine ab hV ?_)|simp only[EVz,seval,↓reduceIte,EV6,EV7]|fail))
  exact RET.mk (SubN.nil _) (by simp)
 |true=>
  rw[hsh]at hV
  (try simp only[EVz,seval,↓reduceIte,EV6,EV7,hS])
  refine ab hS ?_
  (try simp only[EVz,seval,↓reduceIte,EV6,EV7])
  refine ab hV ?_
  (try simp only[EVz,seval,↓reduceIte,EV6,EV7])
  intro bo hbo be hbe
  have h1:¬be=bo:=by simp only[EVK]at hbe;exact hbe
  have h2:¬bo=be:=λe=>h1 e.symm
  (try simp only[EVz,seval,↓reduceIte,EV6,EV7,h1,h2])
  have hL:=f254 G hG u 0 hs (by omega) bo be none .nil [] ⟨.inr ⟨rfl,rfl,rfl⟩,by simp,h1⟩ (by simp;omega)
  refine bg (LnSt bo be none .nil 0) [] (v_clo2 G hL) (aB.rfl' _) (by rw[append_nil];exact SubN.refl _) ?_
  rintro r σ' ⟨rfl,g',_,rfl⟩
  unfold LnSt
  (try simp only[EVz,seval,↓reduceIte,EV6,EV7,h1,h2])
  exact RET.mk (SubN.nil _) (by simp)
theorem f190 (u:U) (hs:u.Short):Pure G Tryz.prog 190 [.agg u.cs] (.tup [.str (textOf u).1,.int .i64 (textOf u).2]):=by
 have hL:=f224 G hG u hs
 have hc:=hs.1.2
 have hll:=U.lines_len u 0
 have hpos:1<=(u.lines 0).length:=by rw[hll];exact u.flat_pos
 have hj:=k9 (u.lines 0) (by intro e;rw[e]at hpos;simp at hpos)
 have htl:=textT_len u hc
 have hjt:Lib.join (u.lines 0) [10]++[10]=textT u:=hj
 have hjl:(Lib.join (u.lines 0) [10]).length+1=(textT u).length:=by rw[←hjt];simp
 refine Pure.w c190 λR hR=>?_
 unfold s190 r190
 (try simp only[EVz,seval,↓reduceIte,EV6,EV7])
 refine bg [] [] hL.v (aB.rfl' _) (SubN.refl _) ?_
 rintro r σ' (⟨hsh,rfl⟩|⟨hsh,g,rfl⟩)
 ·have e2:textOf u=([],1):=by unfold textOf;rw[hsh];rfl
  rw[e2]at hR
  (try simp only[EVz,seval,↓reduceIte,EV6,EV7])
  exact RET.eq hR rfl
 ·have e2:textOf u=if (16384:Int)<(textT u).length then ([],6)else (textT u,0):=by unfold textOf;rw[hsh];rfl
  rw[e2]at hR
  have hz:decide (((u.lines 0).length:Int)=0)=false:=decide_eq_false (by omega)
  have hJ:=f225 G g (u.lines 0) [10] (by omega) (by omega)
  (repeat' (first|(with_reducible (refine ae (λh=>?_) (λh=>?_))<;>(try simp only[Da,Db,Dc,Dw,De,Df,Dg,Dh]at h))|(with_reducible refine AI (by omega) ?_)|(with_reducible refine ab hJ ?_)|simp only[EVz,seval,↓reduceIte,EV6,EV7,hz,hjt,length_cons,length_nil]|fail))
  ·rw[if_pos (by omega)]at hR
   exact RET.eq hR rfl
  ·rw[if_neg (by omega)]at hR
   exact RET.eq hR rfl
end
end Go.Av
namespace Go.Av
open Go Go.RowKit Go.MapKept List
set_option linter.unusedSimpArgs false
set_option linter.unusedVariables false
section
variable {G:Glob} {P:Program} {env:Env} {σ:Store} {K:AV->Store->Prop} {κ:Type} [DecidableEq κ] {kT:TypeId} {val:κ->Value}
theorem nY (k:Int):∀(l:List Int) (ents:List MapEntry) (i:Nat),ents.map (·.key)=l.map (λn=>Value.int .i64 n)->
  Instr.findNow (.int .i64) (.int .i64 k) ents i=some ((((l.zip ents).zipIdx i).find? λq=>decide (q.1.1=k)).map λq=>(q.2,q.1.2.val))
 |[],[],i,_=>by simp[Instr.findNow]
 |[],e::es,i,h=>by simp at h
 |b::l,[],i,h=>by simp at h
 |b::l,e::es,i,h=>by
  simp only[map_cons,List.cons.injEq]at h
  simp only[Instr.findNow,h.1,Instr.sameNow,if_true,zip_cons_cons,zipIdx_cons,find?_cons]
  by_cases hb:k=b
  ·subst hb;simp
  ·have h1:(k==b)=false:=by simpa using hb
   have h2:decide (b=k)=false:=by simp;exact λe=>hb e.symm
   simp only[h1,h2]
   exact nY k l es (i+1) h.2
theorem mapK_int (hu:P.underlying kT=some (.int .i64)):MapK P kT (λn:Int=>Value.int .i64 n) where
 ck em k w:=run_checkKey hu (by simp[IsKey]) em 9999
 find k l ents w he:=run_findKey hu (nY k l ents 0 he)
 stays k w:=run_keyThatStays (d:=.int .i64) (by simp[IsKey])
theorem fW (M:MapK P kT val) {xT eT:TypeId} {x ix y:Operand} {b:Nat} {l:List (κ×AV)} {k:κ} {yv:AV} (hx:(SOpd.of x).eval G env= .sc (.map (some b)))
  (hix:∀τ w v,Rep τ w ((SOpd.of ix).eval G env) v->v=val k) (hy:(SOpd.of y).eval G env=yv) (hu:P.underlying xT=some (.map kT eT)) (hg:σ.get b=some (.map (cJ val l)))
  (hk:K aE (σ.set b (.map (cJ val (dD k yv l))))):RAW G P (.insert xT x ix y) env σ K ⟨⟩:=by
 intro ρ w a o ho hS hE
 have h:=ed (K:=K) M hx hix hy hu hg hk ρ w a {o with op:=.mapUpdate xT x ix y} rfl hS hE
 have e:execOp a.eval {o with op:=.mapUpdate xT x ix y}=execOp a.eval o:=by simp[execOp,ho]
 rwa [e]at h
end
end Go.Av
namespace Go.Av
open Go Go.RowKit Go.Proofs List
set_option linter.unusedSimpArgs false
set_option linter.unusedVariables false
section
variable (G:Glob) (hG:GOk G)
include hG
theorem f130 (u:U) (hs:u.Short):Pure G Tryz.prog 130 [.agg u.cs] (.bool (de u&&(decide (u.kind≠0)&&decide ((textOf u).2=0)))):=by
 have hF:=f190 G hG u hs
 have hB:=f191 G hG u hs
 rw[←iw]at hB
 refine Pure.w c130 λR hR=>?_
 unfold s130 r130
 (repeat' (first|(with_reducible (refine ag (λh=>?_) (λh=>?_))<;>(try simp only[Da,Db,Dc,Dw,De,Df,Dg,Dh]at h))|(with_reducible first|refine ab hF ?_|refine ab hB ?_)|simp only[EVz,seval,↓reduceIte,EV6,EV7]|fail))
 (all_goals(first|(refine RET.eq hR ?_;(refine congrArg AV.bool (Bool.eq_iff_iff.2 ?_);simp only[EVB]at*;omega))|(refine RET.eq hR ?_;((simp_all[];done)))))
theorem f128 (x:Itm) (hs:x.unit.Short):Pure G Tryz.prog 128 [.agg x.cs] (.bool (inR x.wh 0 3&&(de x.unit&&(decide (x.unit.kind≠0)&&decide ((textOf x.unit).2=0))))):=by
 have hU:=f130 G hG x.unit hs
 refine Pure.w c128 λR hR=>?_
 unfold s128 r128
 generalize (de x.unit&&(decide (x.unit.kind≠0)&&decide ((textOf x.unit).2=0)))=q at*
 (repeat' (first|(with_reducible (refine ag (λh=>?_) (λh=>?_))<;>(try simp only[Da,Db,Dc,Dw,De,Df,Dg,Dh]at h))|(with_reducible first|refine ab (f129 G _) ?_|refine ab hU ?_)|simp only[EVz,seval,↓reduceIte,EV6,EV7,U.cs_fold]|fail))
 (all_goals(((refine RET.eq hR ?_;((simp_all[];done))))))
end
section
variable (G:Glob)
theorem f134 (x:Itm) (q:x.Short1):Pure G Tryz.prog 134 [.agg x.cs] (.bool (cY x.old 1&&(cY x.new 0&&inR x.nth 0 256))):=by
 have ho:=λn=>f135 G x.old n (by have:=q.old;omega)
 have hn:=λn=>f135 G x.new n (by have:=q.new;omega)
 refine Pure.w c134 λR hR=>?_
 unfold s134 r134
 unfold cY at*
 (repeat' (first|(with_reducible (refine ag (λh=>?_) (λh=>?_))<;>(try simp only[Da,Db,Dc,Dw,De,Df,Dg,Dh]at h))|(with_reducible first|refine ab (ho _) ?_|refine ab (hn _) ?_|refine ab (f136 G x) ?_)|simp only[EVz,seval,↓reduceIte,EV6,EV7]|fail))
 (all_goals(((refine RET.eq hR ?_;first|(simp_all[];done)|grind))))
theorem f138 (x:Itm) (q:x.Short1):Pure G Tryz.prog 138 [.agg x.cs] (.bool (cY x.old 0&&(cY x.new 1&&(inR x.nth 0 256&&(decide (0<(x.old.length:Int))||decide (x.nth=0)))))):=by
 have ho:=f135 G x.old 0 (by have:=q.old;omega)
 have hn:=f135 G x.new 1 (by have:=q.new;omega)
 refine Pure.w c138 λR hR=>?_
 unfold s138 r138
 unfold cY at*
 generalize (dU x.old&&decide ((0:Int)<=(x.old.length:Int)))=q1 at*
 generalize (dU x.new&&decide ((1:Int)<=(x.new.length:Int)))=q2 at*
 have hth:=f136 G x
 generalize inR x.nth 0 256=q3 at*
 (repeat' (first|(with_reducible (refine ag (λh=>?_) (λh=>?_))<;>(try simp only[Da,Db,Dc,Dw,De,Df,Dg,Dh]at h))|(with_reducible first|refine ab ho ?_|refine ab hn ?_|refine ab hth ?_)|simp only[EVz,seval,↓reduceIte,EV6,EV7]|fail))
 (all_goals(((refine RET.eq hR ?_;((simp_all[];done))))))
theorem f140 (x:Itm) (q:x.Short1):Pure G Tryz.prog 140 [.agg x.cs] (.bool (cY x.new 0)):=by
 have hn:=λn=>f135 G x.new n (by have:=q.new;omega)
 refine Pure.w c140 λR hR=>?_
 unfold s140 r140
 unfold cY at*
 (repeat' (first|(with_reducible refine ab (hn _) ?_)|simp only[EVz,seval,↓reduceIte,EV6,EV7]|fail))
 (all_goals((exact RET.eq hR rfl)))
theorem f142 (x:Itm):Pure G Tryz.prog 142 [.agg x.cs] (.bool (bC x.label)):=by
 refine Pure.w c142 λR hR=>?_
 unfold s142 r142
 (repeat' (first|(with_reducible refine ab (f143 G _) ?_)|simp only[EVz,seval,↓reduceIte,EV6,EV7]|fail))
 (all_goals((exact RET.eq hR rfl)))
theorem f145 (x:Itm) (q:x.Short1):Pure G Tryz.prog 145 [.agg x.cs] (.bool (inR x.wh 0 3&&cC x.to_)):=by
 have ha:=f69 G x.to_ q.to_
 refine Pure.w c145 λR hR=>?_
 unfold s145 r145
 (repeat' (first|(with_reducible (refine ag (λh=>?_) (λh=>?_))<;>(try simp only[Da,Db,Dc,Dw,De,Df,Dg,Dh]at h))|(with_reducible first|refine ab (f129 G _) ?_|refine ab ha ?_)|simp only[EVz,seval,↓reduceIte,EV6,EV7]|fail))
 (all_goals(((refine RET.eq hR ?_;((simp_all[];done))))))
theorem f147 (x:Itm) (q:x.Short1):Pure G Tryz.prog 147 [.agg x.cs] (.bool (d9 x.event&&inR x.day 0 1048576)):=by
 have ha:=f70 G x.event q.event
 refine Pure.w c147 λR hR=>?_
 unfold s147 r147
 (repeat' (first|(with_reducible (refine ag (λh=>?_) (λh=>?_))<;>(try simp only[Da,Db,Dc,Dw,De,Df,Dg,Dh]at h))|(with_reducible first|refine ab (f148 G _ _ _) ?_|refine ab ha ?_)|simp only[EVz,seval,↓reduceIte,EV6,EV7]|fail))
 (all_goals(((refine RET.eq hR ?_;((simp_all[];done))))))
theorem f150 (x:Itm) (q:x.Short1) (hy:∀y∈x.by_,Pure G Tryz.prog 35 [.agg y.cs] (.bool y.may)):
  Pure G Tryz.prog 150 [.agg x.cs] (.bool (inR x.act 1 1048576&&(inR x.item 0 31&&Itm.mayOne x.by_))):=by
 refine Pure.w c150 λR hR=>?_
 unfold s150 r150
 have hA:=f151 G x 0
 generalize inR x.act 1 1048576=q1 at*
 generalize inR x.item 0 31=q2 at*
 rcases hb:x.by_ with _|⟨y,_|⟨z,l⟩⟩
 ·rw[hb,Itm.mayOne]at hR
  (repeat' (first|(with_reducible (refine ag (λh=>?_) (λh=>?_))<;>(try simp only[Da,Db,Dc,Dw,De,Df,Dg,Dh]at h))|(with_reducible refine ab hA ?_)|simp only[EVz,seval,↓reduceIte,EV6,EV7,hb,map_nil,length_nil]|fail))
  (all_goals(((refine RET.eq hR ?_;((simp_all[];done))))))
 ·rw[hb,Itm.mayOne_cons]at hR
  have hyy:=hy y (by rw[hb];simp)
  (repeat' (first|(with_reducible (refine ag (λh=>?_) (λh=>?_))<;>(try simp only[Da,Db,Dc,Dw,De,Df,Dg,Dh]at h))|(with_reducible first|refine ab hA ?_|refine ab (f68 G _) ?_|refine ab hyy ?_)|simp only[EVz,seval,↓reduceIte,EV6,EV7,hb,map_cons,map_nil,length_nil,length_cons,getD_cons_zero]|fail))
  (all_goals(((refine RET.eq hR ?_;((simp_all[];done))))))
 ·rw[hb,Itm.mayOne_cons]at hR
  have h1:decide (((x.by_.length:Nat):Int)=1)=false:=by rw[hb];simp;omega
  (repeat' (first|(with_reducible (refine ag (λh=>?_) (λh=>?_))<;>(try simp only[Da,Db,Dc,Dw,De,Df,Dg,Dh]at h))|(with_reducible refine ab hA ?_)|simp only[EVz,seval,↓reduceIte,EV6,EV7,h1]|fail))
  (all_goals(((refine RET.eq hR ?_;((simp_all[];done))))))
end
def fnv (k:Nat):AV:=.sc (.func (.func k) #[] #[])
def intK (n:Int):Value:=.int .i64 n
def aG:List (Int×AV):=[(0,.agg [fnv 127,fnv 128]),(1,.agg [fnv 131,fnv 132]),(2,.agg [fnv 133,fnv 134]),(3,.agg [fnv 137,fnv 138]),
 (4,.agg [fnv 139,fnv 140]),(5,.agg [fnv 141,fnv 142]),(6,.agg [fnv 144,fnv 145]),(7,.agg [fnv 323,fnv 324]),(8,.agg [fnv 323,fnv 324]),
 (9,.agg [fnv 323,fnv 324]),(10,.agg [fnv 146,fnv 147]),(11,.agg [fnv 149,fnv 150])]
theorem bf {b:Nat} {x:AObj} {σ:Store}:Store.get ((b,x)::σ) b=some x:=by simp[Store.get]
theorem bO:MapK Tryz.prog 3 intK:=mapK_int (by kernel_rfl)
theorem mS {G:Glob} {env:Env} (n:Int):∀τ w v,Rep τ w ((SOpd.of (.const (.int .i64 n))).eval G env) v->v=intK n:=by
 intro τ w v h
 have h2:v= .int .i64 n:=by simpa only[SOpd.of,SOpd.eval,AV.ofValue,AV.ofOne,Rep]using h
 exact h2
section
variable (G:Glob) (hG:GOk G)
include hG
theorem f67:aj G Tryz.prog 67 [] [] (λr σ=>∃b,r= .sc (.map (some b))/\σ=[(b,.map (cJ intK aG))]):=by
 have hg:=eval_g hG.order
 refine aj.w c67 ?_
 unfold s67 r67
 (try simp only[EVz,seval,↓reduceIte,EV6,EV7])
 refine ep ?_
 intro b hb
 (try simp only[EVz,seval,↓reduceIte,EV6,EV7])
 refine fW bO (l:=[]) (k:=0) (eT:=107) rfl (mS 0) rfl (by kernel_rfl) bf ?_
 (repeat' (first|simp only[EVz,seval,↓reduceIte,EV6,EV7,hg]|(refine fW bO (eT:=107) rfl (mS _) rfl (by kernel_rfl) bf ?_)|fail))
 exact RET.mk (SubN.refl _) ⟨b,rfl,rfl⟩
end
section
variable (G:Glob)
theorem f103 (f:Value) (a b:List Itm) (ha:a.length<9000000000000000000) (hf:∀x∈a,∀y,fL G Tryz.prog f [.agg x.cs,.agg y.cs] (.bool (decide (x=y)))):
  Pure G Tryz.prog 103 [.lst 25 (a.map Itm.cs),.lst 25 (b.map Itm.cs),.sc f] (.bool (decide (a=b))):=by
 refine Pure.w c103 λR hR=>?_
 unfold s103 r103
 by_cases hl:a.length=b.length
 ·have e0:decide ((a.length:Int)≠(b.length:Int))=false:=by simp[hl]
  (repeat' (first|(with_reducible (refine ae (λh=>?_) (λh=>?_))<;>(try simp only[Da,Db,Dc,Dw,De,Df,Dg,Dh]at h))|(with_reducible refine AI (by omega) ?_)|simp only[EVz,seval,↓reduceIte,EV6,EV7,e0,hx.yes,hx.le0,hx.lt',hx.get,hx.row,hw,hy.row,hy.lt',hne]|simp only[EVz,seval,↓reduceIte,EV6,EV7,e0,hx.yes,hx.le0,hx.lt',hx.get,hx.row,hw,hy.row,hy.lt']|simp only[EVz,seval,↓reduceIte,EV6,EV7,e0,hn]|simp only[EVz,seval,↓reduceIte,EV6,EV7,e0]|(with_reducible intro blk hblk;(try(have hnx:=hblk;simp only[EVK]at hnx;first|(have hne:=AI hnx hne)|(have hne:=hnx))))|(refine af hx () ?_ (Weak.sub (SubN.nil _)))|(refine aK (hf _ hx.mem y) ?_)|(refine Zq (a) (λi r (c:Unit)=>a.length=b.length/\decide (a=b)=decide (r=b.drop i)) (λi c=>[(1,.lst 25 (b.map Itm.cs)),(2,.sc f),(15,.lst 25 (a.map Itm.cs)),(16,.int .i64 a.length),(17,.int .i64 i)]) (λ_ _=>[]) () (by((simp[*];done))) (Weak.rfl' _ _) (by omega) (λi x r c hok hx hw=>?_) (λc hok hn=>?_)<;>(try(obtain⟨y,r2,hy,hyn,hok⟩:=cr hok hx)))|fail))
  (all_goals(first|(refine RET.eq hR ?_;((simp_all[hl];done)))|(simp_all[hl];done)))
 ·have e0:decide ((a.length:Int)≠(b.length:Int))=true:=by simp;omega
  rw[mV hl]at hR
  (repeat' (simp only[EVz,seval,↓reduceIte,EV6,EV7,e0]))
  (all_goals((exact RET.eq hR rfl)))
set_option maxHeartbeats 4000000 in
theorem f58:∀(a:Itm),a.fit->∀b:Itm,Pure G Tryz.prog 58 [.agg a.cs,.agg b.cs] (.bool (decide (a=b))):=by
 refine Itm.ind λa ih hfit b=>?_
 obtain⟨h1,h2,h3,h4,h5,h6,h7⟩:=(Itm.fit_eq a).1 hfit
 refine Pure.w c58 λR hR=>?_
 unfold s58 r58
 (repeat' (first|(with_reducible (refine ag (λh=>?_) (λh=>?_))<;>(try simp only[Da,Db,Dc,Dw,De,Df,Dg,Dh]at h))|(with_reducible first|refine ab (f83 G _ _ (by omega)) ?_|refine ab (f101 G _ _ (by omega)) ?_|refine ab (f102 G a.unit h3 b.unit) ?_)|(with_reducible refine ab (f103 G _ _ _ (by omega) (λx hx y=>(ih x hx (h7 x hx) y).v)) ?_)|simp only[EVz,seval,↓reduceIte,EV6,EV7,U.cs_fold]|fail))
 all_goals first
  |(refine RET.eq hR (congrArg AV.bool (Eq.symm (decide_eq_false ?_)));rintro rfl;first|exact absurd rfl h|exact absurd rfl ‹¬_=_› |exact sta_ne (by assumption) rfl)
  |(refine RET.eq hR (congrArg AV.bool (decide_eq_decide.2 ⟨λe=>?_,λe=>by rw[e]⟩))
    exact Itm.ext' (by assumption) (by assumption) (by assumption) (by assumption) (by assumption) (by assumption) (by assumption) (by assumption) (by assumption) (by assumption) (sta_eq (by assumption)) (by assumption) (by assumption) (by assumption) (by assumption) e)
  |trace_state
end
theorem ct (n:Int):∀τ w v,Rep τ w (.int .i64 n) v->v=intK n:=by
 intro τ w v h
 simp only[Rep]at h
 exact h
theorem fB:∀τ w,Rep τ w (.agg [.sc .nilFunc,.sc .nilFunc]) (.agg #[.nilFunc,.nilFunc]):=by
 intro τ w
 simp only[Rep,RepL]
 refine⟨_,rfl,by simp[Value.oneCell'],_,_,rfl,rfl,_,_,rfl,rfl,rfl⟩
theorem gc {x:Itm} {cs:List AV} (h:bz cs x.told.cs):aB [.agg x.cs,.agg cs] [.agg x.cs,.agg x.told.cs]:=⟨AVle.rfl' _,.inr h,trivial⟩
section
variable (G:Glob) (hG:GOk G)
include hG
set_option maxHeartbeats 4000000 in
theorem valid_0 (x:Itm) (q:x.Short1) (hk:x.kind=0):Pure G Tryz.prog 35 [.agg x.cs] (.bool x.may):=by
 have hRu:=f67 G hG
 have hH:=f127 G x
 have eH:=Itm.cs_eq {iz with wh:=x.wh,unit:=x.unit}
 simp only[iz,map_nil]at eH
 simp only[iz]at hH
 rw[eH]at hH
 have hM:=f128 G hG x q.unit
 have hE:=f58 G x q.fit x.told
 have hm1:aX (0:Int) aG=some (.agg [fnv 127,fnv 128]):=by simp[aX,aG]
 have hi:=f68 G (0:Int)
 rw[show inR (0:Int) 0 6=true from by decide]at hi
 refine Pure.w c35 λR hR=>?_
 unfold s35 r35
 rw[Itm.may_eq]at hR
 unfold Itm.pre at hR
 generalize decide (x=x.told)=e at*
 have hkk:inR x.kind 0 11=true:=by rw[hk];decide
 have hoo:x.own (Itm.mayOne x.by_)=(inR x.wh 0 3&&(de x.unit&&(decide (x.unit.kind≠0)&&decide ((textOf x.unit).2=0)))):=by unfold Itm.own;simp[hk]
 rw[hoo,hkk]at hR
 (repeat' (first|(with_reducible (first|refine ae (λh=>?_) (λh=>?_)|refine ag (λh=>?_) (λh=>?_))<;>(try simp only[Da,Db,Dc,Dw,De,Df,Dg,Dh]at h))|(with_reducible first|refine ab (f69 G _ q.at_) ?_|refine ab (f70 G _ q.for_) ?_|refine ab (f71 G _ q.start) ?_|refine ab hH ?_|refine ab hM ?_|refine ab hi ?_)|simp only[EVz,seval,↓reduceIte,EV6,EV7,hk,hm1,Option.getD_some,Option.isSome_some,fnv,U.cs_fold,hne]|simp only[EVz,seval,↓reduceIte,EV6,EV7,hk,hm1,Option.getD_some,Option.isSome_some,fnv,U.cs_fold]|(with_reducible intro blk hblk;(try(have hnx:=hblk;simp only[EVK]at hnx;first|(have hne:=AI hnx hne)|(have hne:=hnx))))|(with_reducible refine ak ?_ ?_)|(with_reducible refine am ?_)|(refine az [] _ hRu.v (aB.rfl' _) (SubN.refl _) (λr σ' hh hnd=>?_);obtain⟨bm,rfl,rfl⟩:=hh;(have hne:=hnd);(try simp[Store.keys]at hne))|(refine aI bO (l:=aG) (k:=0) (z:=.agg #[.nilFunc,.nilFunc]) (zv:=.agg [.sc .nilFunc,.sc .nilFunc]) (eT:=107) rfl (ct _) (by kernel_rfl) (by first|exact bf|(simp[Store.get, *];done)) (by kernel_rfl) fB ?_)|(refine aC hE (gc (by rw[Itm.cs_eq];simp[bz,aP,Itm.told,Itm.just,iz,hk])) ?_)|fail))
 all_goals(refine RET.eq hR (congrArg AV.bool ?_);clear hR hH eH hM hE hRu hi hm1 hoo hkk q)
 all_goals(try(first
  |exact absurd h (by decide)
  |(simp[*];done)
  |(simp[*,Bool.and_assoc];done)
  |(simp_all;done)))
set_option maxHeartbeats 4000000 in
theorem valid_1 (x:Itm) (q:x.Short1) (hk:x.kind=1):Pure G Tryz.prog 35 [.agg x.cs] (.bool x.may):=by
 have hRu:=f67 G hG
 have hH:=f131 G x
 have eH:=Itm.cs_eq iz
 simp only[iz,map_nil]at eH
 simp only[iz]at hH
 rw[eH]at hH
 have hM:=f132 G x
 have hE:=f58 G x q.fit x.told
 have hm1:aX (1:Int) aG=some (.agg [fnv 131,fnv 132]):=by simp[aX,aG]
 have hi:=f68 G (1:Int)
 rw[show inR (1:Int) 0 6=true from by decide]at hi
 refine Pure.w c35 λR hR=>?_
 unfold s35 r35
 rw[Itm.may_eq]at hR
 unfold Itm.pre at hR
 generalize decide (x=x.told)=e at*
 have hkk:inR x.kind 0 11=true:=by rw[hk];decide
 have hoo:x.own (Itm.mayOne x.by_)=true:=by unfold Itm.own;simp[hk]
 rw[hoo,hkk]at hR
 (repeat' (first|(with_reducible (first|refine ae (λh=>?_) (λh=>?_)|refine ag (λh=>?_) (λh=>?_))<;>(try simp only[Da,Db,Dc,Dw,De,Df,Dg,Dh]at h))|(with_reducible first|refine ab (f69 G _ q.at_) ?_|refine ab (f70 G _ q.for_) ?_|refine ab (f71 G _ q.start) ?_|refine ab hH ?_|refine ab hM ?_|refine ab hi ?_)|simp only[EVz,seval,↓reduceIte,EV6,EV7,hk,hm1,Option.getD_some,Option.isSome_some,fnv,U.cs_fold,hne]|simp only[EVz,seval,↓reduceIte,EV6,EV7,hk,hm1,Option.getD_some,Option.isSome_some,fnv,U.cs_fold]|(with_reducible intro blk hblk;(try(have hnx:=hblk;simp only[EVK]at hnx;first|(have hne:=AI hnx hne)|(have hne:=hnx))))|(with_reducible refine ak ?_ ?_)|(with_reducible refine am ?_)|(refine az [] _ hRu.v (aB.rfl' _) (SubN.refl _) (λr σ' hh hnd=>?_);obtain⟨bm,rfl,rfl⟩:=hh;(have hne:=hnd);(try simp[Store.keys]at hne))|(refine aI bO (l:=aG) (k:=1) (z:=.agg #[.nilFunc,.nilFunc]) (zv:=.agg [.sc .nilFunc,.sc .nilFunc]) (eT:=107) rfl (ct _) (by kernel_rfl) (by first|exact bf|(simp[Store.get, *];done)) (by kernel_rfl) fB ?_)|(refine aC hE (gc (by rw[Itm.cs_eq];simp[bz,aP,Itm.told,Itm.just,iz,hk])) ?_)|fail))
 all_goals(refine RET.eq hR (congrArg AV.bool ?_);clear hR hH eH hM hE hRu hi hm1 hoo hkk q)
 all_goals(try(first
  |exact absurd h (by decide)
  |(simp[*];done)
  |(simp[*,Bool.and_assoc];done)
  |(simp_all;done)))
set_option maxHeartbeats 4000000 in
theorem valid_2 (x:Itm) (q:x.Short1) (hk:x.kind=2):Pure G Tryz.prog 35 [.agg x.cs] (.bool x.may):=by
 have hRu:=f67 G hG
 have hH:=f133 G x
 have eH:=Itm.cs_eq {iz with old:=x.old,new:=x.new,nth:=x.nth}
 simp only[iz,map_nil]at eH
 simp only[iz]at hH
 rw[eH]at hH
 have hM:=f134 G x q
 have hE:=f58 G x q.fit x.told
 have hm1:aX (2:Int) aG=some (.agg [fnv 133,fnv 134]):=by simp[aX,aG]
 have hi:=f68 G (2:Int)
 rw[show inR (2:Int) 0 6=true from by decide]at hi
 refine Pure.w c35 λR hR=>?_
 unfold s35 r35
 rw[Itm.may_eq]at hR
 unfold Itm.pre at hR
 generalize decide (x=x.told)=e at*
 have hkk:inR x.kind 0 11=true:=by rw[hk];decide
 have hoo:x.own (Itm.mayOne x.by_)=(cY x.old 1&&(cY x.new 0&&inR x.nth 0 256)):=by unfold Itm.own;simp[hk]
 rw[hoo,hkk]at hR
 (repeat' (first|(with_reducible (first|refine ae (λh=>?_) (λh=>?_)|refine ag (λh=>?_) (λh=>?_))<;>(try simp only[Da,Db,Dc,Dw,De,Df,Dg,Dh]at h))|(with_reducible first|refine ab (f69 G _ q.at_) ?_|refine ab (f70 G _ q.for_) ?_|refine ab (f71 G _ q.start) ?_|refine ab hH ?_|refine ab hM ?_|refine ab hi ?_)|simp only[EVz,seval,↓reduceIte,EV6,EV7,hk,hm1,Option.getD_some,Option.isSome_some,fnv,U.cs_fold,hne]|simp only[EVz,seval,↓reduceIte,EV6,EV7,hk,hm1,Option.getD_some,Option.isSome_some,fnv,U.cs_fold]|(with_reducible intro blk hblk;(try(have hnx:=hblk;simp only[EVK]at hnx;first|(have hne:=AI hnx hne)|(have hne:=hnx))))|(with_reducible refine ak ?_ ?_)|(with_reducible refine am ?_)|(refine az [] _ hRu.v (aB.rfl' _) (SubN.refl _) (λr σ' hh hnd=>?_);obtain⟨bm,rfl,rfl⟩:=hh;(have hne:=hnd);(try simp[Store.keys]at hne))|(refine aI bO (l:=aG) (k:=2) (z:=.agg #[.nilFunc,.nilFunc]) (zv:=.agg [.sc .nilFunc,.sc .nilFunc]) (eT:=107) rfl (ct _) (by kernel_rfl) (by first|exact bf|(simp[Store.get, *];done)) (by kernel_rfl) fB ?_)|(refine aC hE (gc (by rw[Itm.cs_eq];simp[bz,aP,Itm.told,Itm.just,iz,hk])) ?_)|fail))
 all_goals(refine RET.eq hR (congrArg AV.bool ?_);clear hR hH eH hM hE hRu hi hm1 hoo hkk q)
 all_goals(try(first
  |exact absurd h (by decide)
  |(simp[*];done)
  |(simp[*,Bool.and_assoc];done)
  |(simp_all;done)))
set_option maxHeartbeats 4000000 in
theorem valid_3 (x:Itm) (q:x.Short1) (hk:x.kind=3):Pure G Tryz.prog 35 [.agg x.cs] (.bool x.may):=by
 have hRu:=f67 G hG
 have hH:=f137 G x
 have eH:=Itm.cs_eq {iz with old:=x.old,new:=x.new,nth:=x.nth}
 simp only[iz,map_nil]at eH
 simp only[iz]at hH
 rw[eH]at hH
 have hM:=f138 G x q
 have hE:=f58 G x q.fit x.told
 have hm1:aX (3:Int) aG=some (.agg [fnv 137,fnv 138]):=by simp[aX,aG]
 have hi:=f68 G (3:Int)
 rw[show inR (3:Int) 0 6=true from by decide]at hi
 refine Pure.w c35 λR hR=>?_
 unfold s35 r35
 rw[Itm.may_eq]at hR
 unfold Itm.pre at hR
 generalize decide (x=x.told)=e at*
 have hkk:inR x.kind 0 11=true:=by rw[hk];decide
 have hoo:x.own (Itm.mayOne x.by_)=(cY x.old 0&&(cY x.new 1&&(inR x.nth 0 256&&(decide (0<(x.old.length:Int))||decide (x.nth=0))))):=by unfold Itm.own;simp[hk]
 rw[hoo,hkk]at hR
 (repeat' (first|(with_reducible (first|refine ae (λh=>?_) (λh=>?_)|refine ag (λh=>?_) (λh=>?_))<;>(try simp only[Da,Db,Dc,Dw,De,Df,Dg,Dh]at h))|(with_reducible first|refine ab (f69 G _ q.at_) ?_|refine ab (f70 G _ q.for_) ?_|refine ab (f71 G _ q.start) ?_|refine ab hH ?_|refine ab hM ?_|refine ab hi ?_)|simp only[EVz,seval,↓reduceIte,EV6,EV7,hk,hm1,Option.getD_some,Option.isSome_some,fnv,U.cs_fold,hne]|simp only[EVz,seval,↓reduceIte,EV6,EV7,hk,hm1,Option.getD_some,Option.isSome_some,fnv,U.cs_fold]|(with_reducible intro blk hblk;(try(have hnx:=hblk;simp only[EVK]at hnx;first|(have hne:=AI hnx hne)|(have hne:=hnx))))|(with_reducible refine ak ?_ ?_)|(with_reducible refine am ?_)|(refine az [] _ hRu.v (aB.rfl' _) (SubN.refl _) (λr σ' hh hnd=>?_);obtain⟨bm,rfl,rfl⟩:=hh;(have hne:=hnd);(try simp[Store.keys]at hne))|(refine aI bO (l:=aG) (k:=3) (z:=.agg #[.nilFunc,.nilFunc]) (zv:=.agg [.sc .nilFunc,.sc .nilFunc]) (eT:=107) rfl (ct _) (by kernel_rfl) (by first|exact bf|(simp[Store.get, *];done)) (by kernel_rfl) fB ?_)|(refine aC hE (gc (by rw[Itm.cs_eq];simp[bz,aP,Itm.told,Itm.just,iz,hk])) ?_)|fail))
 all_goals(refine RET.eq hR (congrArg AV.bool ?_);clear hR hH eH hM hE hRu hi hm1 hoo hkk q)
 all_goals(try(first
  |exact absurd h (by decide)
  |(simp[*];done)
  |(simp[*,Bool.and_assoc];done)
  |(simp_all;done)))
end
end Go.Av
