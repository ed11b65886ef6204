/-
  LINT, 30: the program's lines and texts of trees.
-/
import Derived.Test.YtnoakpkjccigoaaGreatDoorXL28toXL51
import Derived.Test.YtnoakpkjccigoaaGreatDoorXE10toXAv27
import Derived.Test.YtnoakpkjccigoaaGreatDoorXE7toXP1
namespace Go.Av
open Go Go.RowKit Go.Proofs List
set_option linter.unusedSimpArgs false
set_option linter.unusedVariables false
theorem nV {e:TypeId} {sz bytes n m m':Nat} {τ:Store} (κ:Store) {g:Option Nat} {rows:List (List AV)} {cs:List AV} {K:AV->Store->Prop} {b k1:Nat} (hτ:τ=κ++tokS g e m) (hg:∀d,g=some d->d∉κ.keys) (hr:rows.length=n) (hm:m=n*sz)
  (hm':m'=(n+1)*sz) (hl:cs.length=sz) (hb:b∉τ.keys) (hn:(n+1)*bytes<=140737488355328) (hk:∀g',(∀d,g'=some d->d∉κ.keys)->K (.own g' e sz (rows++[cs])) (κ++tokS g' e m')):
  appX e sz bytes ((b,.tok e k1)::τ) g rows [cs] K:=by
 obtain⟨rs,h1,h2,h3,h4⟩:=app_rowK (K:=λ_=>K) (k1:=k1) κ hτ hg hr hm hm' hl hb hn hk
 obtain⟨r,rfl⟩:=length_eq_one_iff.1 h1
 simp only[flatten_cons,flatten_nil,append_nil]at h3
 subst h3
 exact h4
section
variable (G:Glob)
theorem v_clo2 {k:Nat} {b c:Nat} {args:List AV} {σ:Store} {R:AV->Store->Prop} (h:ag G Tryz.prog k (args++[.sc (.pointer (some ⟨b,0,none⟩)),.sc (.pointer (some ⟨c,0,none⟩))]) σ R):cd G Tryz.prog (.func (.func k) #[] #[.pointer (some ⟨b,0,none⟩),.pointer (some ⟨c,0,none⟩)]) args σ R:=
 ⟨k,#[],#[.pointer (some ⟨b,0,none⟩),.pointer (some ⟨c,0,none⟩)],rfl,by simpa[AV.ofValue,AV.ofOne]using h⟩
end
theorem ka:∀l:List (List UInt8),l≠[]->Lib.join l [10]++[10]=l.flatMap λs=>s++[10]
 |[],h=>absurd rfl h
 |[s],_=>by simp[Lib.join,List.intercalate]
 |s::t::l,_=>by
  have ih:=ka (t::l) (by simp)
  have e:Lib.join (s::t::l) [10]=s++([10]++Lib.join (t::l) [10]):=by simp[Lib.join,List.intercalate]
  rw[e,flatMap_cons,←ih]
  simp
theorem textT_len (u:U) (hc:u.flat.length<1000000):(textT u).length<=20001000000:=by
 have h1:=U.lines_len u 0
 have h2:=lines_short u 0
 unfold textT
 have key:∀l:List (List UInt8),(∀s∈l,s.length<=20000)->(l.flatMap λs=>s++[10]).length<=l.length*20001:=by
  intro l
  induction l with
  |nil=>intro _;simp
  |cons s l ih=>
   intro h
   have h3:=h s (by simp)
   have h4:=ih λt ht=>h t (by simp[ht])
   simp only[flatMap_cons,length_append,length_cons,length_nil]at*
   omega
 have:=key _ h2
 omega
def LnSt (bo be:Nat) (g:Option Nat) (v:AV) (n:Nat):Store:=(be,.cells 274 [.sc (.func (.func 308) #[] #[.pointer (some ⟨bo,0,none⟩),.pointer (some ⟨be,0,none⟩)])])::(bo,.cells 47 [v])::tokS g 9 n
def LnOk (bo be:Nat) (g:Option Nat) (v:AV) (rows:List (List UInt8)):Prop:=(v= .own g 9 1 (rows.map srow)\/v= .nil/\g=none/\rows=[])/\(∀d,g=some d->d≠bo/\d≠be)/\be≠bo
section
variable (G:Glob) (hG:GOk G)
include hG
set_option maxHeartbeats 2000000 in
theorem f308:∀(u:U) (n:Nat),u.Short->n+u.flat.length<=1000000->∀(bo be:Nat) (g:Option Nat) (v:AV) (rows:List (List UInt8)),LnOk bo be g v rows->rows.length+u.flat.length<=1000000->
  ag G Tryz.prog 308 [.agg u.cs,.int .i64 n,.sc (.pointer (some ⟨bo,0,none⟩)),.sc (.pointer (some ⟨be,0,none⟩))] (LnSt bo be g v rows.length)
   (λr σ'=>r= .tup []/\∃g',LnOk bo be g' (.own g' 9 1 ((rows++u.lines n).map srow)) (rows++u.lines n)/\σ'=LnSt bo be g' (.own g' 9 1 ((rows++u.lines n).map srow)) (rows++u.lines n).length):=by
 refine U.ind λu ih n hs hn bo be g v rows hok hrl=>?_
 have hkl:=hs.1.kids
 have hlen:u.flat.length=1+(U.flats u.kids).length:=by rw[U.flat_eq,length_cons];omega
 have hwd:IntKind.i64.wrap ((n:Int)+1)=((n+1:Nat):Int):=by rw[aA (by omega) (by omega)];omega
 obtain⟨hv,hg,hbe⟩:=hok
 have hbo:¬bo=be:=λe=>hbe e.symm
 have hL:=f309 G hG u n hs (by omega)
 have hll:=U.lines_len u n
 refine ag.w c308 ?_
 unfold s308 r308 LnSt
 rcases hv with rfl|⟨rfl,rfl,rfl⟩
 ·(repeat' (first|(with_reducible refine aa hL ?_)|simp only[EVz,seval,↓reduceIte,EV6,EV7,hbe,hbo,hne]|simp only[EVz,seval,↓reduceIte,EV6,EV7,hbe,hbo]|(with_reducible intro blk hblk;(try(have hnx:=hblk;simp only[EVK]at hnx;(have hne:=hnx))))|(with_reducible refine ae ?_ ?_)|(with_reducible refine af ?_)|(refine⟨[[.str (lineOf u n)]],rfl,(by simp),rfl,?_⟩)|(refine nV (n:=rows.length) (m':=rows.length+1) [_,_] (by rfl) (λd hd=>by simp[Store.keys];exact⟨(hg d hd).2,(hg d hd).1⟩) (by simp) (by omega) (by omega) rfl (by assumption) (by omega) (λgn hgn=>?_))|fail))
  all_goals(
   refine ay (ι:=Option Nat×List (List UInt8)) u.kids (λi r c=>LnOk bo be c.1 (.own c.1 9 1 (c.2.map srow)) c.2/\rows++u.lines n=c.2++U.liness (n+1) r/\c.2.length+(U.liness (n+1) r).length<=1000000)
    (λi c=>[(1,.int .i64 n),(3,.sc (.pointer (some ⟨be,0,none⟩))),(15,.lst 8 (u.kids.map U.cs)),(16,.int .i64 u.kids.length),(17,.int .i64 i)])
    (λi c=>LnSt bo be c.1 (.own c.1 9 1 (c.2.map srow)) c.2.length) (gn,rows++[lineOf u n]) ⟨⟨.inl rfl,λd hd=>by have:=hgn d hd;simp[Store.keys]at this;exact⟨this.2,this.1⟩,hbe⟩,by rw[U.lines_eq];simp,by have:=hll;simp only[U.lines_eq,length_cons,length_append,length_nil]at*;omega⟩
    (by simp only[LnSt,map_append,map_cons,map_nil,length_append,length_cons,length_nil,srow];exact Weak.rfl' _ _) (by omega) (λi x r c hok hx hw=>?_) (λc hok hn=>?_)
   ·obtain⟨o1,o2,o3⟩:=hok
    rw[U.liness_cons]at o2 o3
    rw[length_append]at o3
    have hxl:=U.lines_len x (n+1)
    have hmm:=U.flats_mem hx.mem
    unfold LnSt
    (try simp only[EVz,seval,↓reduceIte,EV6,EV7,hx.yes,hx.le0,hx.lt',hx.row,hw,hwd,hbe,hbo])
    intro b7 hb7
    have hb7':¬b7=be:=by simp only[EVK]at hb7;exact hb7.1
    (try simp only[EVz,seval,↓reduceIte,EV6,EV7,hx.yes,hx.le0,hx.lt',hx.row,hw,hwd,hbe,hbo,hb7'])
    refine aZ (LnSt bo be c.1 (.own c.1 9 1 (c.2.map srow)) c.2.length) [(b7,.cells 27 x.cs)] (v_clo2 G (ih x hx.mem (n+1) (hs.kid hx.mem) (by omega) bo be c.1 _ c.2 o1 (by omega))) (ax.rfl' _) SubN.comm1 ?_
    rintro r' σ2 ⟨rfl,g',hk,rfl⟩
    (try simp only[EVz,seval,↓reduceIte,EV6,EV7,hw])
    refine ap hx (g',c.2++x.lines (n+1)) ⟨hk,by have:=o2;simp only[append_assoc,nil_append]at this ⊢;exact this,by simp only[length_append];omega⟩ (Weak.sub SubN.left)
   ·obtain⟨o1,o2,o3⟩:=hok
    rw[U.liness,append_nil]at o2
    (try simp only[EVz,seval,↓reduceIte,EV6,EV7,hn])
    (try rw[nil_append]at o2)
    exact RET.mk (SubN.refl _) ⟨rfl,c.1,by rw[o2];exact o1,by rw[o2];rfl⟩)
 ·(repeat' (first|(with_reducible refine aa hL ?_)|simp only[EVz,seval,↓reduceIte,EV6,EV7,hbe,hbo,hne]|simp only[EVz,seval,↓reduceIte,EV6,EV7,hbe,hbo]|(with_reducible intro blk hblk;(try(have hnx:=hblk;simp only[EVK]at hnx;(have hne:=hnx))))|(with_reducible refine ae ?_ ?_)|(with_reducible refine af ?_)|(refine⟨[[.str (lineOf u n)]],rfl,(by simp),rfl,?_⟩)|(refine nV (n:=0) (m':=1) [_,_] (by rfl) (by simp) (by simp) (by omega) (by omega) rfl (by assumption) (by omega) (λgn hgn=>?_))|fail))
  all_goals(
   refine ay (ι:=Option Nat×List (List UInt8)) u.kids (λi r c=>LnOk bo be c.1 (.own c.1 9 1 (c.2.map srow)) c.2/\[]++u.lines n=c.2++U.liness (n+1) r/\c.2.length+(U.liness (n+1) r).length<=1000000)
    (λi c=>[(1,.int .i64 n),(3,.sc (.pointer (some ⟨be,0,none⟩))),(15,.lst 8 (u.kids.map U.cs)),(16,.int .i64 u.kids.length),(17,.int .i64 i)])
    (λi c=>LnSt bo be c.1 (.own c.1 9 1 (c.2.map srow)) c.2.length) (gn,[lineOf u n]) ⟨⟨.inl rfl,λd hd=>by have:=hgn d hd;simp[Store.keys]at this;exact⟨this.2,this.1⟩,hbe⟩,by rw[U.lines_eq];simp,by have:=hll;simp only[U.lines_eq,length_cons,length_append,length_nil]at*;omega⟩
    (by simp only[LnSt,map_append,map_cons,map_nil,length_append,length_cons,length_nil,srow];exact Weak.rfl' _ _) (by omega) (λi x r c hok hx hw=>?_) (λc hok hn=>?_)
   ·obtain⟨o1,o2,o3⟩:=hok
    rw[U.liness_cons]at o2 o3
    rw[length_append]at o3
    have hxl:=U.lines_len x (n+1)
    have hmm:=U.flats_mem hx.mem
    unfold LnSt
    (try simp only[EVz,seval,↓reduceIte,EV6,EV7,hx.yes,hx.le0,hx.lt',hx.row,hw,hwd,hbe,hbo])
    intro b7 hb7
    have hb7':¬b7=be:=by simp only[EVK]at hb7;exact hb7.1
    (try simp only[EVz,seval,↓reduceIte,EV6,EV7,hx.yes,hx.le0,hx.lt',hx.row,hw,hwd,hbe,hbo,hb7'])
    refine aZ (LnSt bo be c.1 (.own c.1 9 1 (c.2.map srow)) c.2.length) [(b7,.cells 27 x.cs)] (v_clo2 G (ih x hx.mem (n+1) (hs.kid hx.mem) (by omega) bo be c.1 _ c.2 o1 (by omega))) (ax.rfl' _) SubN.comm1 ?_
    rintro r' σ2 ⟨rfl,g',hk,rfl⟩
    (try simp only[EVz,seval,↓reduceIte,EV6,EV7,hw])
    refine ap hx (g',c.2++x.lines (n+1)) ⟨hk,by have:=o2;simp only[append_assoc,nil_append]at this ⊢;exact this,by simp only[length_append];omega⟩ (Weak.sub SubN.left)
   ·obtain⟨o1,o2,o3⟩:=hok
    rw[U.liness,append_nil]at o2
    (try simp only[EVz,seval,↓reduceIte,EV6,EV7,hn])
    (try rw[nil_append]at o2)
    exact RET.mk (SubN.refl _) ⟨rfl,c.1,by rw[o2];exact o1,by rw[o2];rfl⟩)
theorem f278 (u:U) (hs:u.Short):ag G Tryz.prog 278 [.agg u.cs] [] (λr σ'=>(shapeOk u=false/\r= .nil)\/(shapeOk u=true/\∃g,r= .own g 9 1 ((u.lines 0).map srow))):=by
 have hS:=f307 G u hs
 have hV:=f200 G hG u.strip (jw hs)
 rw[kQ]at hV
 have hc:=hs.1.2
 refine ag.w c278 ?_
 unfold s278 r278
 cases hsh:shapeOk u with
 |false=>
  rw[hsh]at hV
  (repeat' (first|(with_reducible first|refine aa hS ?_|refine aa hV ?_)|simp only[EVz,seval,↓reduceIte,EV6,EV7]|fail))
  exact RET.mk (SubN.nil _) (by simp)
 |true=>
  rw[hsh]at hV
  (try simp only[EVz,seval,↓reduceIte,EV6,EV7,hS])
  refine aa hS ?_
  (try simp only[EVz,seval,↓reduceIte,EV6,EV7])
  refine aa hV ?_
  (try simp only[EVz,seval,↓reduceIte,EV6,EV7])
  intro bo hbo be hbe
  have h1:¬be=bo:=by simp only[EVK]at hbe;exact hbe
  have h2:¬bo=be:=λe=>h1 e.symm
  (try simp only[EVz,seval,↓reduceIte,EV6,EV7,h1,h2])
  have hL:=f308 G hG u 0 hs (by omega) bo be none .nil [] ⟨.inr ⟨rfl,rfl,rfl⟩,by simp,h1⟩ (by simp;omega)
  refine aZ (LnSt bo be none .nil 0) [] (v_clo2 G hL) (ax.rfl' _) (by rw[append_nil];exact SubN.refl _) ?_
  rintro r σ' ⟨rfl,g',_,rfl⟩
  unfold LnSt
  (try simp only[EVz,seval,↓reduceIte,EV6,EV7,h1,h2])
  exact RET.mk (SubN.nil _) (by simp)
theorem f248 (u:U) (hs:u.Short):Pure G Tryz.prog 248 [.agg u.cs] (.tup [.str (textOf u).1,.int .i64 (textOf u).2]):=by
 have hL:=f278 G hG u hs
 have hc:=hs.1.2
 have hll:=U.lines_len u 0
 have hpos:1<=(u.lines 0).length:=by rw[hll];exact u.flat_pos
 have hj:=ka (u.lines 0) (by intro e;rw[e]at hpos;simp at hpos)
 have htl:=textT_len u hc
 have hjt:Lib.join (u.lines 0) [10]++[10]=textT u:=hj
 have hjl:(Lib.join (u.lines 0) [10]).length+1=(textT u).length:=by rw[←hjt];simp
 refine Pure.w c248 λR hR=>?_
 unfold s248 r248
 (try simp only[EVz,seval,↓reduceIte,EV6,EV7])
 refine aZ [] [] hL.v (ax.rfl' _) (SubN.refl _) ?_
 rintro r σ' (⟨hsh,rfl⟩|⟨hsh,g,rfl⟩)
 ·have e2:textOf u=([],1):=by unfold textOf;rw[hsh];rfl
  rw[e2]at hR
  (try simp only[EVz,seval,↓reduceIte,EV6,EV7])
  exact RET.eq hR rfl
 ·have e2:textOf u=if (16384:Int)<(textT u).length then ([],6)else (textT u,0):=by unfold textOf;rw[hsh];rfl
  rw[e2]at hR
  have hz:decide (((u.lines 0).length:Int)=0)=false:=decide_eq_false (by omega)
  have hJ:=f279 G g (u.lines 0) [10] (by omega) (by omega)
  (repeat' (first|(with_reducible (refine ab (λh=>?_) (λh=>?_))<;>(try simp only[Da,Db,Dc,Dw,De,Df,Dg,Dh]at h))|(with_reducible refine AI (by omega) ?_)|(with_reducible refine aa hJ ?_)|simp only[EVz,seval,↓reduceIte,EV6,EV7,hz,hjt,length_cons,length_nil]|fail))
  ·rw[if_pos (by omega)]at hR
   exact RET.eq hR rfl
  ·rw[if_neg (by omega)]at hR
   exact RET.eq hR rfl
end
end Go.Av
namespace Go.Av
open Go Go.RowKit Go.MapKept List
set_option linter.unusedSimpArgs false
set_option linter.unusedVariables false
section
variable {G:Glob} {P:Program} {env:Env} {σ:Store} {K:AV->Store->Prop} {κ:Type} [DecidableEq κ] {kT:TypeId} {val:κ->Value}
theorem m0 (k:Int):∀(l:List Int) (ents:List MapEntry) (i:Nat),ents.map (·.key)=l.map (λn=>Value.int .i64 n)->
  Instr.findNow (.int .i64) (.int .i64 k) ents i=some ((((l.zip ents).zipIdx i).find? λq=>decide (q.1.1=k)).map λq=>(q.2,q.1.2.val))
 |[],[],i,_=>by simp[Instr.findNow]
 |[],e::es,i,h=>by simp at h
 |b::l,[],i,h=>by simp at h
 |b::l,e::es,i,h=>by
  simp only[map_cons,List.cons.injEq]at h
  simp only[Instr.findNow,h.1,Instr.sameNow,if_true,zip_cons_cons,zipIdx_cons,find?_cons]
  by_cases hb:k=b
  ·subst hb;simp
  ·have h1:(k==b)=false:=by simpa using hb
   have h2:decide (b=k)=false:=by simp;exact λe=>hb e.symm
   simp only[h1,h2]
   exact m0 k l es (i+1) h.2
theorem mapK_int (hu:P.underlying kT=some (.int .i64)):MapK P kT (λn:Int=>Value.int .i64 n) where
 ck em k w:=run_checkKey hu (by simp[IsKey]) em 9999
 find k l ents w he:=run_findKey hu (m0 k l ents 0 he)
 stays k w:=run_keyThatStays (d:=.int .i64) (by simp[IsKey])
theorem cA (M:MapK P kT val) {xT eT:TypeId} {x ix y:Operand} {b:Nat} {l:List (κ×AV)} {k:κ} {yv:AV} (hx:(SOpd.of x).eval G env= .sc (.map (some b)))
  (hix:∀τ w v,Rep τ w ((SOpd.of ix).eval G env) v->v=val k) (hy:(SOpd.of y).eval G env=yv) (hu:P.underlying xT=some (.map kT eT)) (hg:σ.get b=some (.map (cl val l)))
  (hk:K aC (σ.set b (.map (cl val (dj k yv l))))):RAW G P (.insert xT x ix y) env σ K ⟨⟩:=by
 intro ρ w a o ho hS hE
 have h:=eU (K:=K) M hx hix hy hu hg hk ρ w a {o with op:=.mapUpdate xT x ix y} rfl hS hE
 have e:execOp a.eval {o with op:=.mapUpdate xT x ix y}=execOp a.eval o:=by simp[execOp,ho]
 rwa [e]at h
end
end Go.Av
namespace Go.Av
open Go Go.RowKit Go.Proofs List
set_option linter.unusedSimpArgs false
set_option linter.unusedVariables false
section
variable (G:Glob) (hG:GOk G)
include hG
theorem f168 (u:U) (hs:u.Short):Pure G Tryz.prog 168 [.agg u.cs] (.bool (bareOk u&&(decide (u.kind≠0)&&decide ((textOf u).2=0)))):=by
 have hF:=f248 G hG u hs
 have hB:=f249 G hG u hs
 rw[←gZ]at hB
 refine Pure.w c168 λR hR=>?_
 unfold s168 r168
 (repeat' (first|(with_reducible (refine ai (λh=>?_) (λh=>?_))<;>(try simp only[Da,Db,Dc,Dw,De,Df,Dg,Dh]at h))|(with_reducible first|refine aa hF ?_|refine aa hB ?_)|simp only[EVz,seval,↓reduceIte,EV6,EV7]|fail))
 (all_goals(first|(refine RET.eq hR ?_;(refine congrArg AV.bool (Bool.eq_iff_iff.2 ?_);simp only[EVB]at*;omega))|(refine RET.eq hR ?_;((simp_all[];done)))))
theorem f166 (x:Itm) (hs:x.unit.Short):Pure G Tryz.prog 166 [.agg x.cs] (.bool (inR x.wh 0 3&&(bareOk x.unit&&(decide (x.unit.kind≠0)&&decide ((textOf x.unit).2=0))))):=by
 have hU:=f168 G hG x.unit hs
 refine Pure.w c166 λR hR=>?_
 unfold s166 r166
 generalize (bareOk x.unit&&(decide (x.unit.kind≠0)&&decide ((textOf x.unit).2=0)))=q at*
 (repeat' (first|(with_reducible (refine ai (λh=>?_) (λh=>?_))<;>(try simp only[Da,Db,Dc,Dw,De,Df,Dg,Dh]at h))|(with_reducible first|refine aa (f167 G _) ?_|refine aa hU ?_)|simp only[EVz,seval,↓reduceIte,EV6,EV7,U.cs_fold]|fail))
 (all_goals(((refine RET.eq hR ?_;((simp_all[];done))))))
end
section
variable (G:Glob)
theorem f172 (x:Itm) (q:x.Short1):Pure G Tryz.prog 172 [.agg x.cs] (.bool (cX x.old 1&&(cX x.new 0&&inR x.nth 0 256))):=by
 have ho:=λn=>f173 G x.old n (by have:=q.old;omega)
 have hn:=λn=>f173 G x.new n (by have:=q.new;omega)
 refine Pure.w c172 λR hR=>?_
 unfold s172 r172
 unfold cX at*
 (repeat' (first|(with_reducible (refine ai (λh=>?_) (λh=>?_))<;>(try simp only[Da,Db,Dc,Dw,De,Df,Dg,Dh]at h))|(with_reducible first|refine aa (ho _) ?_|refine aa (hn _) ?_|refine aa (f174 G x) ?_)|simp only[EVz,seval,↓reduceIte,EV6,EV7]|fail))
 (all_goals(((refine RET.eq hR ?_;first|(simp_all[];done)|grind))))
theorem f176 (x:Itm) (q:x.Short1):Pure G Tryz.prog 176 [.agg x.cs] (.bool (cX x.old 0&&(cX x.new 1&&(inR x.nth 0 256&&(decide (0<(x.old.length:Int))||decide (x.nth=0)))))):=by
 have ho:=f173 G x.old 0 (by have:=q.old;omega)
 have hn:=f173 G x.new 1 (by have:=q.new;omega)
 refine Pure.w c176 λR hR=>?_
 unfold s176 r176
 unfold cX at*
 generalize (dq x.old&&decide ((0:Int)<=(x.old.length:Int)))=q1 at*
 generalize (dq x.new&&decide ((1:Int)<=(x.new.length:Int)))=q2 at*
 have hth:=f174 G x
 generalize inR x.nth 0 256=q3 at*
 (repeat' (first|(with_reducible (refine ai (λh=>?_) (λh=>?_))<;>(try simp only[Da,Db,Dc,Dw,De,Df,Dg,Dh]at h))|(with_reducible first|refine aa ho ?_|refine aa hn ?_|refine aa hth ?_)|simp only[EVz,seval,↓reduceIte,EV6,EV7]|fail))
 (all_goals(((refine RET.eq hR ?_;((simp_all[];done))))))
theorem f178 (x:Itm) (q:x.Short1):Pure G Tryz.prog 178 [.agg x.cs] (.bool (cX x.new 0)):=by
 have hn:=λn=>f173 G x.new n (by have:=q.new;omega)
 refine Pure.w c178 λR hR=>?_
 unfold s178 r178
 unfold cX at*
 (repeat' (first|(with_reducible refine aa (hn _) ?_)|simp only[EVz,seval,↓reduceIte,EV6,EV7]|fail))
 (all_goals((exact RET.eq hR rfl)))
theorem f180 (x:Itm):Pure G Tryz.prog 180 [.agg x.cs] (.bool (br x.label)):=by
 refine Pure.w c180 λR hR=>?_
 unfold s180 r180
 (repeat' (first|(with_reducible refine aa (f129 G _) ?_)|simp only[EVz,seval,↓reduceIte,EV6,EV7]|fail))
 (all_goals((exact RET.eq hR rfl)))
theorem f182 (x:Itm) (q:x.Short1):Pure G Tryz.prog 182 [.agg x.cs] (.bool (inR x.wh 0 3&&dU x.to_)):=by
 have ha:=f100 G x.to_ q.to_
 refine Pure.w c182 λR hR=>?_
 unfold s182 r182
 (repeat' (first|(with_reducible (refine ai (λh=>?_) (λh=>?_))<;>(try simp only[Da,Db,Dc,Dw,De,Df,Dg,Dh]at h))|(with_reducible first|refine aa (f167 G _) ?_|refine aa ha ?_)|simp only[EVz,seval,↓reduceIte,EV6,EV7]|fail))
 (all_goals(((refine RET.eq hR ?_;((simp_all[];done))))))
theorem f184 (x:Itm) (q:x.Short1):Pure G Tryz.prog 184 [.agg x.cs] (.bool (ii x.event&&inR x.day 0 1048576)):=by
 have ha:=f101 G x.event q.event
 refine Pure.w c184 λR hR=>?_
 unfold s184 r184
 (repeat' (first|(with_reducible (refine ai (λh=>?_) (λh=>?_))<;>(try simp only[Da,Db,Dc,Dw,De,Df,Dg,Dh]at h))|(with_reducible first|refine aa (f185 G _ _ _) ?_|refine aa ha ?_)|simp only[EVz,seval,↓reduceIte,EV6,EV7]|fail))
 (all_goals(((refine RET.eq hR ?_;((simp_all[];done))))))
theorem f187 (x:Itm) (q:x.Short1) (hy:∀y∈x.by_,Pure G Tryz.prog 47 [.agg y.cs] (.bool y.may)):
  Pure G Tryz.prog 187 [.agg x.cs] (.bool (inR x.act 1 1048576&&(inR x.item 0 31&&Itm.mayOne x.by_))):=by
 refine Pure.w c187 λR hR=>?_
 unfold s187 r187
 have hA:=f188 G x 0
 generalize inR x.act 1 1048576=q1 at*
 generalize inR x.item 0 31=q2 at*
 rcases hb:x.by_ with _|⟨y,_|⟨z,l⟩⟩
 ·rw[hb,Itm.mayOne]at hR
  (repeat' (first|(with_reducible (refine ai (λh=>?_) (λh=>?_))<;>(try simp only[Da,Db,Dc,Dw,De,Df,Dg,Dh]at h))|(with_reducible refine aa hA ?_)|simp only[EVz,seval,↓reduceIte,EV6,EV7,hb,map_nil,length_nil]|fail))
  (all_goals(((refine RET.eq hR ?_;((simp_all[];done))))))
 ·rw[hb,Itm.mayOne_cons]at hR
  have hyy:=hy y (by rw[hb];simp)
  (repeat' (first|(with_reducible (refine ai (λh=>?_) (λh=>?_))<;>(try simp only[Da,Db,Dc,Dw,De,Df,Dg,Dh]at h))|(with_reducible first|refine aa hA ?_|refine aa (f48 G _) ?_|refine aa hyy ?_)|simp only[EVz,seval,↓reduceIte,EV6,EV7,hb,map_cons,map_nil,length_nil,length_cons,getD_cons_zero]|fail))
  (all_goals(((refine RET.eq hR ?_;((simp_all[];done))))))
 ·rw[hb,Itm.mayOne_cons]at hR
  have h1:decide (((x.by_.length:Nat):Int)=1)=false:=by rw[hb];simp;omega
  (repeat' (first|(with_reducible (refine ai (λh=>?_) (λh=>?_))<;>(try simp only[Da,Db,Dc,Dw,De,Df,Dg,Dh]at h))|(with_reducible refine aa hA ?_)|simp only[EVz,seval,↓reduceIte,EV6,EV7,h1]|fail))
  (all_goals(((refine RET.eq hR ?_;((simp_all[];done))))))
end
def fnv (k:Nat):AV:=.sc (.func (.func k) #[] #[])
def intK (n:Int):Value:=.int .i64 n
def aJ:List (Int×AV):=[(0,.agg [fnv 165,fnv 166]),(1,.agg [fnv 169,fnv 170]),(2,.agg [fnv 171,fnv 172]),(3,.agg [fnv 175,fnv 176]),
 (4,.agg [fnv 177,fnv 178]),(5,.agg [fnv 179,fnv 180]),(6,.agg [fnv 181,fnv 182]),(7,.agg [fnv 353,fnv 354]),(8,.agg [fnv 353,fnv 354]),
 (9,.agg [fnv 353,fnv 354]),(10,.agg [fnv 183,fnv 184]),(11,.agg [fnv 186,fnv 187])]
theorem aQ {b:Nat} {x:AObj} {σ:Store}:Store.get ((b,x)::σ) b=some x:=by simp[Store.get]
theorem bg:MapK Tryz.prog 3 intK:=mapK_int (by kernel_rfl)
theorem fT {G:Glob} {env:Env} (n:Int):∀τ w v,Rep τ w ((SOpd.of (.const (.int .i64 n))).eval G env) v->v=intK n:=by
 intro τ w v h
 have h2:v= .int .i64 n:=by simpa only[SOpd.of,SOpd.eval,AV.ofValue,AV.ofOne,Rep]using h
 exact h2
section
variable (G:Glob) (hG:GOk G)
include hG
theorem f99:ag G Tryz.prog 99 [] [] (λr σ=>∃b,r= .sc (.map (some b))/\σ=[(b,.map (cl intK aJ))]):=by
 have hg:=eval_g hG.order
 refine ag.w c99 ?_
 unfold s99 r99
 (try simp only[EVz,seval,↓reduceIte,EV6,EV7])
 refine cV ?_
 intro b hb
 (try simp only[EVz,seval,↓reduceIte,EV6,EV7])
 refine cA bg (l:=[]) (k:=0) (eT:=142) rfl (fT 0) rfl (by kernel_rfl) aQ ?_
 (repeat' (first|simp only[EVz,seval,↓reduceIte,EV6,EV7,hg]|(refine cA bg (eT:=142) rfl (fT _) rfl (by kernel_rfl) aQ ?_)|fail))
 exact RET.mk (SubN.refl _) ⟨b,rfl,rfl⟩
end
section
variable (G:Glob)
theorem f194 (f:Value) (a b:List Itm) (ha:a.length<9000000000000000000) (hf:∀x∈a,∀y,eZ G Tryz.prog f [.agg x.cs,.agg y.cs] (.bool (decide (x=y)))):
  Pure G Tryz.prog 194 [.lst 25 (a.map Itm.cs),.lst 25 (b.map Itm.cs),.sc f] (.bool (decide (a=b))):=by
 refine Pure.w c194 λR hR=>?_
 unfold s194 r194
 by_cases hl:a.length=b.length
 ·have e0:decide ((a.length:Int)≠(b.length:Int))=false:=by simp[hl]
  (repeat' (first|(with_reducible (refine ab (λh=>?_) (λh=>?_))<;>(try simp only[Da,Db,Dc,Dw,De,Df,Dg,Dh]at h))|(with_reducible refine AI (by omega) ?_)|simp only[EVz,seval,↓reduceIte,EV6,EV7,e0,hx.yes,hx.le0,hx.lt',hx.get,hx.row,hw,hy.row,hy.lt',hne]|simp only[EVz,seval,↓reduceIte,EV6,EV7,e0,hx.yes,hx.le0,hx.lt',hx.get,hx.row,hw,hy.row,hy.lt']|simp only[EVz,seval,↓reduceIte,EV6,EV7,e0,hn]|simp only[EVz,seval,↓reduceIte,EV6,EV7,e0]|(with_reducible intro blk hblk;(try(have hnx:=hblk;simp only[EVK]at hnx;first|(have hne:=AI hnx hne)|(have hne:=hnx))))|(refine ap hx () ?_ (Weak.sub (SubN.nil _)))|(refine aI (hf _ hx.mem y) ?_)|(refine ay (a) (λi r (c:Unit)=>a.length=b.length/\decide (a=b)=decide (r=b.drop i)) (λi c=>[(1,.lst 25 (b.map Itm.cs)),(2,.sc f),(15,.lst 25 (a.map Itm.cs)),(16,.int .i64 a.length),(17,.int .i64 i)]) (λ_ _=>[]) () (by((simp[*];done))) (Weak.rfl' _ _) (by omega) (λi x r c hok hx hw=>?_) (λc hok hn=>?_)<;>(try(obtain⟨y,r2,hy,hyn,hok⟩:=dv hok hx)))|fail))
  (all_goals(first|(refine RET.eq hR ?_;((simp_all[hl];done)))|(simp_all[hl];done)))
 ·have e0:decide ((a.length:Int)≠(b.length:Int))=true:=by simp;omega
  rw[mD hl]at hR
  (repeat' (simp only[EVz,seval,↓reduceIte,EV6,EV7,e0]))
  (all_goals((exact RET.eq hR rfl)))
set_option maxHeartbeats 4000000 in
theorem f103:∀(a:Itm),a.fit->∀b:Itm,Pure G Tryz.prog 103 [.agg a.cs,.agg b.cs] (.bool (decide (a=b))):=by
 refine Itm.ind λa ih hfit b=>?_
 obtain⟨h1,h2,h3,h4,h5,h6,h7⟩:=(Itm.fit_eq a).1 hfit
 refine Pure.w c103 λR hR=>?_
 unfold s103 r103
 (repeat' (first|(with_reducible (refine ai (λh=>?_) (λh=>?_))<;>(try simp only[Da,Db,Dc,Dw,De,Df,Dg,Dh]at h))|(with_reducible first|refine aa (f191 G _ _ (by omega)) ?_|refine aa (f192 G _ _ (by omega)) ?_|refine aa (f193 G a.unit h3 b.unit) ?_)|(with_reducible refine aa (f194 G _ _ _ (by omega) (λx hx y=>(ih x hx (h7 x hx) y).v)) ?_)|simp only[EVz,seval,↓reduceIte,EV6,EV7,U.cs_fold]|fail))
 all_goals first
  |(refine RET.eq hR (congrArg AV.bool (Eq.symm (decide_eq_false ?_)));rintro rfl;first|exact absurd rfl h|exact absurd rfl ‹¬_=_› |exact sta_ne (by assumption) rfl)
  |(refine RET.eq hR (congrArg AV.bool (decide_eq_decide.2 ⟨λe=>?_,λe=>by rw[e]⟩))
    exact Itm.ext' (by assumption) (by assumption) (by assumption) (by assumption) (by assumption) (by assumption) (by assumption) (by assumption) (by assumption) (by assumption) (sta_eq (by assumption)) (by assumption) (by assumption) (by assumption) (by assumption) e)
  |trace_state
end
theorem bK (n:Int):∀τ w v,Rep τ w (.int .i64 n) v->v=intK n:=by
 intro τ w v h
 simp only[Rep]at h
 exact h
theorem fm:∀τ w,Rep τ w (.agg [.sc .nilFunc,.sc .nilFunc]) (.agg #[.nilFunc,.nilFunc]):=by
 intro τ w
 simp only[Rep,RepL]
 refine⟨_,rfl,by simp[Value.oneCell'],_,_,rfl,rfl,_,_,rfl,rfl,rfl⟩
theorem fq {x:Itm} {cs:List AV} (h:bc cs x.told.cs):ax [.agg x.cs,.agg cs] [.agg x.cs,.agg x.told.cs]:=⟨AVle.rfl' _,.inr h,trivial⟩
section
variable (G:Glob) (hG:GOk G)
include hG
set_option maxHeartbeats 4000000 in
theorem valid_0 (x:Itm) (q:x.Short1) (hk:x.kind=0):Pure G Tryz.prog 47 [.agg x.cs] (.bool x.may):=by
 have hRu:=f99 G hG
 have hH:=f165 G x
 have eH:=Itm.cs_eq {iz with wh:=x.wh,unit:=x.unit}
 simp only[iz,map_nil]at eH
 simp only[iz]at hH
 rw[eH]at hH
 have hM:=f166 G hG x q.unit
 have hE:=f103 G x q.fit x.told
 have hm1:aS (0:Int) aJ=some (.agg [fnv 165,fnv 166]):=by simp[aS,aJ]
 have hi:=f48 G (0:Int)
 rw[show inR (0:Int) 0 6=true from by decide]at hi
 refine Pure.w c47 λR hR=>?_
 unfold s47 r47
 rw[Itm.may_eq]at hR
 unfold Itm.pre at hR
 generalize decide (x=x.told)=e at*
 have hkk:inR x.kind 0 11=true:=by rw[hk];decide
 have hoo:x.own (Itm.mayOne x.by_)=(inR x.wh 0 3&&(bareOk x.unit&&(decide (x.unit.kind≠0)&&decide ((textOf x.unit).2=0)))):=by unfold Itm.own;simp[hk]
 rw[hoo,hkk]at hR
 (repeat' (first|(with_reducible (first|refine ab (λh=>?_) (λh=>?_)|refine ai (λh=>?_) (λh=>?_))<;>(try simp only[Da,Db,Dc,Dw,De,Df,Dg,Dh]at h))|(with_reducible first|refine aa (f100 G _ q.at_) ?_|refine aa (f101 G _ q.for_) ?_|refine aa (f102 G _ q.start) ?_|refine aa hH ?_|refine aa hM ?_|refine aa hi ?_)|simp only[EVz,seval,↓reduceIte,EV6,EV7,hk,hm1,Option.getD_some,Option.isSome_some,fnv,U.cs_fold,hne]|simp only[EVz,seval,↓reduceIte,EV6,EV7,hk,hm1,Option.getD_some,Option.isSome_some,fnv,U.cs_fold]|(with_reducible intro blk hblk;(try(have hnx:=hblk;simp only[EVK]at hnx;first|(have hne:=AI hnx hne)|(have hne:=hnx))))|(with_reducible refine ae ?_ ?_)|(with_reducible refine af ?_)|(refine av [] _ hRu.v (ax.rfl' _) (SubN.refl _) (λr σ' hh hnd=>?_);obtain⟨bm,rfl,rfl⟩:=hh;(have hne:=hnd);(try simp[Store.keys]at hne))|(refine aG bg (l:=aJ) (k:=0) (z:=.agg #[.nilFunc,.nilFunc]) (zv:=.agg [.sc .nilFunc,.sc .nilFunc]) (eT:=142) rfl (bK _) (by kernel_rfl) (by first|exact aQ|(simp[Store.get, *];done)) (by kernel_rfl) fm ?_)|(refine aE hE (fq (by rw[Itm.cs_eq];simp[bc,aR,Itm.told,Itm.just,iz,hk])) ?_)|fail))
 all_goals(refine RET.eq hR (congrArg AV.bool ?_);clear hR hH eH hM hE hRu hi hm1 hoo hkk q)
 all_goals(try(first
  |exact absurd h (by decide)
  |(simp[*];done)
  |(simp[*,Bool.and_assoc];done)
  |(simp_all;done)))
set_option maxHeartbeats 4000000 in
theorem valid_1 (x:Itm) (q:x.Short1) (hk:x.kind=1):Pure G Tryz.prog 47 [.agg x.cs] (.bool x.may):=by
 have hRu:=f99 G hG
 have hH:=f169 G x
 have eH:=Itm.cs_eq iz
 simp only[iz,map_nil]at eH
 simp only[iz]at hH
 rw[eH]at hH
 have hM:=f170 G x
 have hE:=f103 G x q.fit x.told
 have hm1:aS (1:Int) aJ=some (.agg [fnv 169,fnv 170]):=by simp[aS,aJ]
 have hi:=f48 G (1:Int)
 rw[show inR (1:Int) 0 6=true from by decide]at hi
 refine Pure.w c47 λR hR=>?_
 unfold s47 r47
 rw[Itm.may_eq]at hR
 unfold Itm.pre at hR
 generalize decide (x=x.told)=e at*
 have hkk:inR x.kind 0 11=true:=by rw[hk];decide
 have hoo:x.own (Itm.mayOne x.by_)=true:=by unfold Itm.own;simp[hk]
 rw[hoo,hkk]at hR
 (repeat' (first|(with_reducible (first|refine ab (λh=>?_) (λh=>?_)|refine ai (λh=>?_) (λh=>?_))<;>(try simp only[Da,Db,Dc,Dw,De,Df,Dg,Dh]at h))|(with_reducible first|refine aa (f100 G _ q.at_) ?_|refine aa (f101 G _ q.for_) ?_|refine aa (f102 G _ q.start) ?_|refine aa hH ?_|refine aa hM ?_|refine aa hi ?_)|simp only[EVz,seval,↓reduceIte,EV6,EV7,hk,hm1,Option.getD_some,Option.isSome_some,fnv,U.cs_fold,hne]|simp only[EVz,seval,↓reduceIte,EV6,EV7,hk,hm1,Option.getD_some,Option.isSome_some,fnv,U.cs_fold]|(with_reducible intro blk hblk;(try(have hnx:=hblk;simp only[EVK]at hnx;first|(have hne:=AI hnx hne)|(have hne:=hnx))))|(with_reducible refine ae ?_ ?_)|(with_reducible refine af ?_)|(refine av [] _ hRu.v (ax.rfl' _) (SubN.refl _) (λr σ' hh hnd=>?_);obtain⟨bm,rfl,rfl⟩:=hh;(have hne:=hnd);(try simp[Store.keys]at hne))|(refine aG bg (l:=aJ) (k:=1) (z:=.agg #[.nilFunc,.nilFunc]) (zv:=.agg [.sc .nilFunc,.sc .nilFunc]) (eT:=142) rfl (bK _) (by kernel_rfl) (by first|exact aQ|(simp[Store.get, *];done)) (by kernel_rfl) fm ?_)|(refine aE hE (fq (by rw[Itm.cs_eq];simp[bc,aR,Itm.told,Itm.just,iz,hk])) ?_)|fail))
 all_goals(refine RET.eq hR (congrArg AV.bool ?_);clear hR hH eH hM hE hRu hi hm1 hoo hkk q)
 all_goals(try(first
  |exact absurd h (by decide)
  |(simp[*];done)
  |(simp[*,Bool.and_assoc];done)
  |(simp_all;done)))
set_option maxHeartbeats 4000000 in
theorem valid_2 (x:Itm) (q:x.Short1) (hk:x.kind=2):Pure G Tryz.prog 47 [.agg x.cs] (.bool x.may):=by
 have hRu:=f99 G hG
 have hH:=f171 G x
 have eH:=Itm.cs_eq {iz with old:=x.old,new:=x.new,nth:=x.nth}
 simp only[iz,map_nil]at eH
 simp only[iz]at hH
 rw[eH]at hH
 have hM:=f172 G x q
 have hE:=f103 G x q.fit x.told
 have hm1:aS (2:Int) aJ=some (.agg [fnv 171,fnv 172]):=by simp[aS,aJ]
 have hi:=f48 G (2:Int)
 rw[show inR (2:Int) 0 6=true from by decide]at hi
 refine Pure.w c47 λR hR=>?_
 unfold s47 r47
 rw[Itm.may_eq]at hR
 unfold Itm.pre at hR
 generalize decide (x=x.told)=e at*
 have hkk:inR x.kind 0 11=true:=by rw[hk];decide
 have hoo:x.own (Itm.mayOne x.by_)=(cX x.old 1&&(cX x.new 0&&inR x.nth 0 256)):=by unfold Itm.own;simp[hk]
 rw[hoo,hkk]at hR
 (repeat' (first|(with_reducible (first|refine ab (λh=>?_) (λh=>?_)|refine ai (λh=>?_) (λh=>?_))<;>(try simp only[Da,Db,Dc,Dw,De,Df,Dg,Dh]at h))|(with_reducible first|refine aa (f100 G _ q.at_) ?_|refine aa (f101 G _ q.for_) ?_|refine aa (f102 G _ q.start) ?_|refine aa hH ?_|refine aa hM ?_|refine aa hi ?_)|simp only[EVz,seval,↓reduceIte,EV6,EV7,hk,hm1,Option.getD_some,Option.isSome_some,fnv,U.cs_fold,hne]|simp only[EVz,seval,↓reduceIte,EV6,EV7,hk,hm1,Option.getD_some,Option.isSome_some,fnv,U.cs_fold]|(with_reducible intro blk hblk;(try(have hnx:=hblk;simp only[EVK]at hnx;first|(have hne:=AI hnx hne)|(have hne:=hnx))))|(with_reducible refine ae ?_ ?_)|(with_reducible refine af ?_)|(refine av [] _ hRu.v (ax.rfl' _) (SubN.refl _) (λr σ' hh hnd=>?_);obtain⟨bm,rfl,rfl⟩:=hh;(have hne:=hnd);(try simp[Store.keys]at hne))|(refine aG bg (l:=aJ) (k:=2) (z:=.agg #[.nilFunc,.nilFunc]) (zv:=.agg [.sc .nilFunc,.sc .nilFunc]) (eT:=142) rfl (bK _) (by kernel_rfl) (by first|exact aQ|(simp[Store.get, *];done)) (by kernel_rfl) fm ?_)|(refine aE hE (fq (by rw[Itm.cs_eq];simp[bc,aR,Itm.told,Itm.just,iz,hk])) ?_)|fail))
 all_goals(refine RET.eq hR (congrArg AV.bool ?_);clear hR hH eH hM hE hRu hi hm1 hoo hkk q)
 all_goals(try(first
  |exact absurd h (by decide)
  |(simp[*];done)
  |(simp[*,Bool.and_assoc];done)
  |(simp_all;done)))
set_option maxHeartbeats 4000000 in
theorem valid_3 (x:Itm) (q:x.Short1) (hk:x.kind=3):Pure G Tryz.prog 47 [.agg x.cs] (.bool x.may):=by
 have hRu:=f99 G hG
 have hH:=f175 G x
 have eH:=Itm.cs_eq {iz with old:=x.old,new:=x.new,nth:=x.nth}
 simp only[iz,map_nil]at eH
 simp only[iz]at hH
 rw[eH]at hH
 have hM:=f176 G x q
 have hE:=f103 G x q.fit x.told
 have hm1:aS (3:Int) aJ=some (.agg [fnv 175,fnv 176]):=by simp[aS,aJ]
 have hi:=f48 G (3:Int)
 rw[show inR (3:Int) 0 6=true from by decide]at hi
 refine Pure.w c47 λR hR=>?_
 unfold s47 r47
 rw[Itm.may_eq]at hR
 unfold Itm.pre at hR
 generalize decide (x=x.told)=e at*
 have hkk:inR x.kind 0 11=true:=by rw[hk];decide
 have hoo:x.own (Itm.mayOne x.by_)=(cX x.old 0&&(cX x.new 1&&(inR x.nth 0 256&&(decide (0<(x.old.length:Int))||decide (x.nth=0))))):=by unfold Itm.own;simp[hk]
 rw[hoo,hkk]at hR
 (repeat' (first|(with_reducible (first|refine ab (λh=>?_) (λh=>?_)|refine ai (λh=>?_) (λh=>?_))<;>(try simp only[Da,Db,Dc,Dw,De,Df,Dg,Dh]at h))|(with_reducible first|refine aa (f100 G _ q.at_) ?_|refine aa (f101 G _ q.for_) ?_|refine aa (f102 G _ q.start) ?_|refine aa hH ?_|refine aa hM ?_|refine aa hi ?_)|simp only[EVz,seval,↓reduceIte,EV6,EV7,hk,hm1,Option.getD_some,Option.isSome_some,fnv,U.cs_fold,hne]|simp only[EVz,seval,↓reduceIte,EV6,EV7,hk,hm1,Option.getD_some,Option.isSome_some,fnv,U.cs_fold]|(with_reducible intro blk hblk;(try(have hnx:=hblk;simp only[EVK]at hnx;first|(have hne:=AI hnx hne)|(have hne:=hnx))))|(with_reducible refine ae ?_ ?_)|(with_reducible refine af ?_)|(refine av [] _ hRu.v (ax.rfl' _) (SubN.refl _) (λr σ' hh hnd=>?_);obtain⟨bm,rfl,rfl⟩:=hh;(have hne:=hnd);(try simp[Store.keys]at hne))|(refine aG bg (l:=aJ) (k:=3) (z:=.agg #[.nilFunc,.nilFunc]) (zv:=.agg [.sc .nilFunc,.sc .nilFunc]) (eT:=142) rfl (bK _) (by kernel_rfl) (by first|exact aQ|(simp[Store.get, *];done)) (by kernel_rfl) fm ?_)|(refine aE hE (fq (by rw[Itm.cs_eq];simp[bc,aR,Itm.told,Itm.just,iz,hk])) ?_)|fail))
 all_goals(refine RET.eq hR (congrArg AV.bool ?_);clear hR hH eH hM hE hRu hi hm1 hoo hkk q)
 all_goals(try(first
  |exact absurd h (by decide)
  |(simp[*];done)
  |(simp[*,Bool.and_assoc];done)
  |(simp_all;done)))
end
end Go.Av
