/-
  SYNTAX, texts by the reference 3: the text of an item.
-/
import Derived.Test.YtepngejmjdgccaaGreatDoorXST1toXST2
import Derived.Test.YtepngejmjdgccaaGreatDoorXC4toXSK
import Derived.Test.YtepngejmjdgccaaGreatDoorXL16toXL17
import Derived.Test.YtepngejmjdgccaaGreatDoorXFrStoXOpI
namespace Go.Av
open Go Go.RowKit Go.Proofs
set_option linter.unusedSimpArgs false
set_option linter.unusedVariables false
theorem addrF_len:∀{p:List Stp} {i:Nat},stepsOk i p=true->(addrF p).length<=p.length*20
 |[],_,_=>by simp[addrF]
 |a::p,i,h=>by
  have h1:=(step_facts h a (by simp))
  simp only[stepsOk,Bool.and_eq_true]at h
  have h2:=addrF_len h.2
  have h3:=kindText_len a.kind
  rw[addrF_cons']
  simp only[List.length_cons,List.length_append,stepT]
  split<;>simp only[List.length_cons,List.length_nil]<;>omega
theorem adT_len {p:List Stp} (h:addrOk p=true):(adT p).length<=180:=by
 unfold addrOk at h
 simp only[Bool.and_eq_true,decide_eq_true_eq]at h
 have:=addrF_len h.2
 unfold adT adrT
 split
 ·simp
 ·rw[List.length_drop];omega
theorem esc_len (s:List UInt8):(s.flatMap escQ).length<=2*s.length:=by
 induction s with
 |nil=>simp
 |cons a s ih=>
  rw[List.flatMap_cons,List.length_append,List.length_cons]
  have:(escQ a).length<=2:=by unfold escQ;split<;>simp
  omega
theorem quoT_len (s:List UInt8):(quoT s).length<=2*s.length+2:=by
 have:=esc_len s
 unfold quoT
 simp only[List.length_cons,List.length_append,List.length_nil]
 omega
theorem flatS_len:∀{l:List (List UInt8)},(∀w∈l,w.length<=24)->(flatS l).length<=l.length*25
 |[],_=>by simp[flatS]
 |w::l,h=>by
  have h1:=h w (by simp)
  have h2:=flatS_len (l:=l) λw hw=>h w (by simp[hw])
  simp only[flatS,List.flatMap_cons,List.length_append,List.length_cons]at h2 ⊢
  omega
theorem okRow_facts {l:List (List UInt8)} {n:Int} (h:okRow l n=true):l.length<=256/\∀w∈l,w.length<=24:=by
 unfold okRow seqOk at h
 simp only[Bool.and_eq_true,decide_eq_true_eq,List.all_eq_true]at h
 refine⟨by omega,λw hw=>?_⟩
 have:=h.1.2 w hw
 unfold wordOk at this
 simp only[Bool.and_eq_true,decide_eq_true_eq]at this
 omega
theorem joinT_len {l:List (List UInt8)} {n:Int} (h:okRow l n=true):(joinT l).length<=6400:=by
 obtain⟨h1,h2⟩:=okRow_facts h
 cases l with
 |nil=>simp[joinT]
 |cons w l=>
  have h3:=flatS_len (l:=l) λw hw=>h2 w (by simp[hw])
  have h4:=h2 w (by simp)
  simp only[joinT,List.length_append,List.length_cons]at h1 ⊢
  omega
theorem quoW_len {l:List (List UInt8)} {n:Int} (h:okRow l n=true):(quoW l).length<=12802:=by
 have h1:=quoT_len (joinT l)
 have h2:=joinT_len h
 unfold quoW
 omega
theorem name_len {s:List UInt8} (h:s=[]\/nameOk s=true):s.length<=16:=by
 rcases h with rfl|h
 ·simp
 ·unfold nameOk at h
  simp only[Bool.and_eq_true,decide_eq_true_eq]at h
  omega
theorem label_len {s:List UInt8} (h:labelOk s=true):s.length<=9:=by
 unfold labelOk at h
 simp only[Bool.and_eq_true,decide_eq_true_eq]at h
 omega
theorem itI_len {n:Int} (h0:0<=n) (h:n<=9223372036854775807):(Lib.itoa n).length<=21:=Lib.itoa_length_le _ (by omega) h
theorem start_facts {s:Sta} (h:startOk s=true):(s.kind=0\/s.kind=1\/s.kind=2\/s.kind=3)/\s.event.length<=16/\0<=s.day/\s.day<=1048576:=by
 unfold startOk at h
 split at h
 ·rename_i hk
  simp only[Bool.and_eq_true,decide_eq_true_eq,inR_iff]at h
  exact⟨by omega,by rw[h.2];simp,h.1.1,h.1.2⟩
 split at h
 ·rename_i hk
  simp only[Bool.and_eq_true,decide_eq_true_eq]at h
  exact⟨by omega,name_len (.inr h.2),by omega,by omega⟩
 split at h
 ·rename_i hk
  simp only[Bool.and_eq_true,decide_eq_true_eq]at h
  exact⟨by omega,by rw[h.2];simp,by omega,by omega⟩
 ·cases h
theorem unit_text {u:U} (h:(textOf u).2=0):(textOf u).1=textT u/\(textT u).length<=16384:=by
 unfold textOf at h ⊢
 split at h
 ·split at h
  ·cases h
  ·rename_i h1 h2
   rw[if_pos h1,if_neg h2]
   exact⟨rfl,by omega⟩
 ·cases h
theorem sfx_len {x:Itm} (h:AmOk x):x.sfx.length<=60:=by
 have h1:=name_len h.for_
 obtain⟨_,h2,h3,h4⟩:=start_facts h.start
 have h5:=itI_len h3 (by omega)
 unfold Itm.sfx forT begT
 rw[List.length_append]
 have e1:(if x.for_=[]then ([]:List UInt8)else [32,114,101,97,100,32,102,111,114,32]++x.for_).length<=26:=by split<;>simp<;>omega
 have e2:(if x.start.kind=1 then [32,102,114,111,109,32,100,97,121,32]++Lib.itoa x.start.day else if x.start.kind=2 then [32,98,121,32,111,114,100,101,114]else if x.start.kind=3 then [32,111,110,32,101,118,101,110,116,32]++x.start.event else ([]:List UInt8)).length<=31:=by
  split
  ·simp;omega
  split
  ·simp
  split
  ·simp;omega
  ·simp
 omega
end Go.Av
