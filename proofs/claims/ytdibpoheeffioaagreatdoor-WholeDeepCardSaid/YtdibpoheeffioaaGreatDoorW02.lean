/- Part 2 of the proof that WholeDeep returns true; no condition. -/
import Derived.Test.YtdibpoheeffioaaGreatDoorW01
namespace Go.Proofs.YtdibpoheeffioaaGreatDoor
set_option linter.all false
section
open Go
set_option maxRecDepth 4000
section
variable {P:Program} {n:Nat} {ds:List Deferred} {Q:Ky} {v:Env} {L Lr:List HProp}
theorem xY {c:Code} {a:Option Addr} {m cap E k:Nat} {xs:List Value} (hsel:Sel L (own (.slice a m cap) E k xs) Lr) (hne:0<xs.length)
    (h:∀b sp,a=some ⟨b,0,none⟩→xs.length=m*k→xs.length+sp.length=cap*k→wpx P n ds c Q v (pt b (cl (xs++sp) E)::Lr)):wpx P n ds c Q v L:=fun ac w ha hw=>by
  rcases zB (hsel.ent.sat hw) with ⟨h1,h2,_⟩ | ⟨b,m',cap',sp,h1,h2,h3,hL⟩
  · subst h2;simp at hne
  · cases h1;exact h b sp rfl h2 h3 ac w ha hL
end
theorem xT {α:Type} {l:List α} {j:Nat} {d:α} (hj:0<j) (hl:j<l.length):((l.set j (l.getD (j-1) d)).set (j-1) (l.getD j d)).Perm l:=by
  obtain ⟨i,rfl⟩:∃i,j=i+1:=⟨j-1,by omega⟩
  simp only [Nat.add_sub_cancel]
  induction l generalizing i with
  | nil=>simp at hl
  | cons a l ih =>
    cases i with
    | zero =>
      cases l with
      | nil=>simp at hl
      | cons b l=>simpa using List.Perm.swap a b l
    | succ i =>
      have:=ih i qd (by simpa using hl);simpa using this.cons a
theorem xm {ss:List ByteArray} {sp:List Value} {k:Nat} {s:ByteArray} (h:k<ss.length):(strs ss++sp).set k (.string s)=strs (ss.set k s)++sp:=by
  rw [List.set_append_left _ _ (by rw [wI];exact h),strs,strs,List.map_set]
theorem sat9 {ss:List ByteArray} {sp:List Value} {k:Nat} (h:k<ss.length):(strs ss++sp)[0+k*1]?=some (.string (ss.getD k ⟨#[]⟩)):=by
  rw [Nat.zero_add,Nat.mul_one,List.getElem?_append_left (by rw [wI];exact h)];exact strs_at h
theorem sat9' {ss:List ByteArray} {sp:List Value} {k:Nat} (h:k<ss.length):(strs ss++sp)[0+k]?=some (.string (ss.getD k ⟨#[]⟩)):=by
  have:=sat9 (sp:=sp) h
  rwa [Nat.mul_one] at this
theorem sp352 (a:ByteArray):Spec Tryz.prog 352 #[.string a]
    (fun T=>T) (fun r T L=>r=.bool false∧L=T):=by
  refine spec_of (n:=6) (args:=[.string a]) Tryz.func352 rfl rfl rfl rfl fun T=>?_;refine qw (qu (qo (qx (qv (qw (qu (qe ?_)))))));refine qe ?_;refine qb (zj rfl rfl) ?_;refine qi ?_;refine qx (qv (qL ?_));refine qM rfl rfl (qD qg) _ ⟨congrArg Value.bool (by simp),rfl⟩ qm
theorem sp309 (a b:ByteArray):Spec Tryz.prog 309 #[.string a,.string b]
    (fun T=>T) (fun r T L=>∃z:Bool,r=.bool z∧L=T):=by
  refine spec_of (n:=17) (args:=[.string a,.string b]) Tryz.func309 rfl rfl rfl rfl fun T=>?_;refine qw (qu (qo (qx (qv (qw (qu (qe ?_)))))));refine qC rfl (qH qh (sp352 a) rfl ?_);rintro _ _ ⟨rfl,rfl⟩;refine qe ?_;refine qs (qs (qs (qb (qW rfl qg) ?_)));refine qe ?_;refine qq (qK qg) ?_;refine qq (qK qg) ?_;refine qq (kX rfl rfl) ?_;refine qb (qW rfl qg) ?_;refine qi ?_;refine qx (qv (qL ?_));refine qM rfl rfl (qD qg) _ ⟨_,rfl,rfl⟩ qm
theorem sp303 (b n cap:Nat) (ss:List ByteArray) (sp:List Value) (hn:ss.length=n) (hb:n≤12):Spec Tryz.prog 303 #[.slice (some ⟨b,0,none⟩) n cap,.int .i64 0,.int .i64 n]
    (fun T=>pt b (cl (strs ss++sp) 9)::T) (fun r T L=>r=.tuple #[]∧∃ss2:List ByteArray,ss2.Perm ss∧L=pt b (cl (strs ss2++sp) 9)::T):=by
  refine spec_of (n:=49) (args:=[.slice (some ⟨b,0,none⟩) n cap,.int .i64 0,.int .i64 n]) Tryz.func303 rfl rfl rfl rfl fun T=>?_;refine qw (qu (qe ?_));refine qb (wa rfl rfl qd) ?_;refine qi ?_;refine qx (qv (qJ (q7 (fun m v L=>∃(i:Nat) (s2:List ByteArray),n-i=m∧(∃v0,v=ups v0 [(0,.slice (some ⟨b,0,none⟩) n cap),(1,.int .i64 0),(2,.int .i64 n),(6,.int .i64 i)])∧(1≤i)∧(s2.length=n)∧(s2.Perm ss)∧L=pt b (cl (strs s2++sp) 9)::T) _ _ ⟨1,ss,rfl,⟨_,At.eq (.cons rfl (.cons rfl (.cons rfl (.cons rfl .nil))))⟩,by omega,hn,.refl _,rfl⟩ qh ?_)));rintro m _ _ ⟨i,s2,rfl,⟨v0,rfl⟩,hi,hs2,hp,rfl⟩;refine qw (qw (qu (qe ?_)));refine qe ?_;refine wG rfl (wj rfl rfl) (fun h12=>?_) (fun h12=>?_)
  · refine qx (qv (qN rfl ?_));refine qF (qv (qw (qJ (qw (qu (qe ?_))))));refine qi ?_;refine qx (qv (qJ (q7 (fun m v L=>∃(j:Nat) (s2:List ByteArray),j=m∧(∃v0,v=ups v0 [(0,.slice (some ⟨b,0,none⟩) n cap),(1,.int .i64 0),(2,.int .i64 n),(6,.int .i64 i),(7,.int .i64 j)])∧(j≤i)∧(s2.length=n)∧(s2.Perm ss)∧L=pt b (cl (strs s2++sp) 9)::T) _ _ ⟨i,s2,rfl,⟨_,At.eq (.cons rfl (.cons rfl (.cons rfl (.cons rfl (.cons rfl .nil)))))⟩,by omega,hs2,hp,rfl⟩ qh ?_)));rintro m _ _ ⟨j,s3,rfl,⟨v0,rfl⟩,hj,hs3,hp3,rfl⟩;refine qw (qw (wg [] _ mixed (fun w h=>h) 15 rfl ?_));refine qk 0 rfl (qK qg) ?_;refine qk 1 rfl (qK qg) ?_;refine yL 2 rfl qz rfl qj (wS rfl rfl) (fun h18=>?_) (fun h18=>?_)
    · refine qk 3 rfl (qK qg) ?_;refine wo 4 rfl (qG rfl rfl rfl rfl) rfl qj (qK qg) ?_;refine wo 5 rfl (qG rfl rfl rfl rfl) rfl qj (qK qg) ?_;refine wo 6 rfl (qG rfl rfl rfl rfl) rfl qj (wz (k:=j) rfl rfl qd qd) ?_;refine wo 7 rfl (qG rfl rfl rfl rfl) rfl qj (q8 rfl (sat9' qd)) ?_;refine wo 8 rfl (qG rfl rfl rfl rfl) rfl qj (qK qg) ?_;refine wo 9 rfl (qG rfl rfl rfl rfl) rfl qj (qK qg) ?_;refine wo 10 rfl (qG rfl rfl rfl rfl) rfl qj (wT rfl rfl qd) ?_;refine wo 11 rfl (qG rfl rfl rfl rfl) rfl qj (wz (k:=(j-1)) rfl rfl qd qd) ?_;refine wo 12 rfl (qG rfl rfl rfl rfl) rfl qj (q8 rfl (sat9' qd)) ?_;refine qO [13] qj rfl ⟨?_,trivial⟩;refine we rfl (qG rfl rfl rfl rfl) rfl (qH qh (sp309 _ _) rfl ?_);rintro _ _ ⟨zz,rfl,rfl⟩;refine ⟨.inr qm,?_⟩;refine qk 14 rfl (q9 rfl qg) ?_;refine qY qj ?_;refine qv ?_;refine yM rfl (fun h30=>?_) (fun h30=>?_)
      · refine qF (qv (qw (qJ (wg [15,17] _ mixed (fun w h=>h) 18 rfl ?_))));refine qk 0 rfl (qK qg) ?_;refine qk 1 rfl (qK qg) ?_;refine qk 5 rfl (qK qg) ?_;refine qk 6 rfl (qK qg) ?_;refine qk 7 rfl (wT rfl rfl qd) ?_;refine qk 8 rfl (wz (k:=(j-1)) rfl rfl qd qd) ?_;refine qk 9 rfl (q8 rfl (sat9' qd)) ?_;refine qk 10 rfl (qK qg) ?_;refine qk 11 rfl (qK qg) ?_;refine qk 12 rfl (wz (k:=j) rfl rfl qd qd) ?_;refine qk 13 rfl (q8 rfl (sat9' qd)) ?_;refine qk 14 rfl (wz (k:=j) rfl rfl qd qd) ?_;refine qO [2,3,15] qj rfl ⟨?_,?_,?_,trivial⟩
        · refine we rfl qz rfl ((qK qg).ow ?_);refine ⟨.inr qm,?_⟩;refine qO [3,15] qj rfl ⟨?_,?_,trivial⟩
          · refine we rfl qz rfl ((qK qg).ow ?_);refine ⟨.inr qm,?_⟩;refine qO [4,15] qj rfl ⟨?_,?_,trivial⟩
            · refine we rfl qz rfl ((wT rfl rfl qd).ow ?_);refine ⟨.inr qm,?_⟩;refine qO [15] qj rfl ⟨?_,trivial⟩;refine wn rfl qz (wW rfl qg rfl (by rw [List.length_append,wI];omega) ?_);refine ⟨.inl qj,?_⟩;refine qO [16] qj rfl ⟨?_,trivial⟩;refine we rfl qz rfl ((wz (k:=(j-1)) rfl rfl qd qd).ow ?_);refine ⟨.inl qj,?_⟩;refine qO [17] qj rfl ⟨?_,trivial⟩;refine wn rfl qz (wW rfl qg rfl (by rw [List.length_set,List.length_append,wI];omega) ?_);refine ⟨.inl qj,?_⟩;refine qY qj ?_;refine qX (qv (qu (qe ?_)));refine qb (wT rfl rfl qd) ?_;refine qi ?_;refine qx ?_;refine qT _ _ ⟨j-1,(s3.set j (s3.getD (j-1) ⟨#[]⟩)).set (j-1) (s3.getD j ⟨#[]⟩),rfl,⟨_,At.eq (.cons rfl (.cons rfl (.cons rfl (.cons rfl (.cons (by show Value.int .i64 _=_;congr 1;omega) .nil)))))⟩,by omega,by simp [hs3],(xT qd qd).trans hp3,rfl⟩ qd (by simp only [Nat.zero_add];rw [xm qd,xm (by rw [List.length_set];omega)];repeat (first | exact .refl | exact .nil | apply Pm.cons | exact .here | apply Sel.there | apply Pm.drop))
            · refine wn rfl qz (wW rfl qg rfl (by rw [List.length_append,wI];omega) ?_);refine ⟨.inl qj,?_⟩;refine qO [4] qj rfl ⟨?_,trivial⟩;refine we rfl qz rfl ((wT rfl rfl qd).ow ?_);refine ⟨.inl qj,?_⟩;refine qO [16] qj rfl ⟨?_,trivial⟩;refine we rfl qz rfl ((wz (k:=(j-1)) rfl rfl qd qd).ow ?_);refine ⟨.inl qj,?_⟩;refine qO [17] qj rfl ⟨?_,trivial⟩;refine wn rfl qz (wW rfl qg rfl (by rw [List.length_set,List.length_append,wI];omega) ?_);refine ⟨.inl qj,?_⟩;refine qY qj ?_;refine qX (qv (qu (qe ?_)));refine qb (wT rfl rfl qd) ?_;refine qi ?_;refine qx ?_;refine qT _ _ ⟨j-1,(s3.set j (s3.getD (j-1) ⟨#[]⟩)).set (j-1) (s3.getD j ⟨#[]⟩),rfl,⟨_,At.eq (.cons rfl (.cons rfl (.cons rfl (.cons rfl (.cons (by show Value.int .i64 _=_;congr 1;omega) .nil)))))⟩,by omega,by simp [hs3],(xT qd qd).trans hp3,rfl⟩ qd (by simp only [Nat.zero_add];rw [xm qd,xm (by rw [List.length_set];omega)];repeat (first | exact .refl | exact .nil | apply Pm.cons | exact .here | apply Sel.there | apply Pm.drop))
          · refine wn rfl qz (wW rfl qg rfl (by rw [List.length_append,wI];omega) ?_);refine ⟨.inl qj,?_⟩;refine qO [3] qj rfl ⟨?_,trivial⟩;refine we rfl qz rfl ((qK qg).ow ?_);refine ⟨.inl qj,?_⟩;refine qO [4] qj rfl ⟨?_,trivial⟩;refine we rfl qz rfl ((wT rfl rfl qd).ow ?_);refine ⟨.inl qj,?_⟩;refine qO [16] qj rfl ⟨?_,trivial⟩;refine we rfl qz rfl ((wz (k:=(j-1)) rfl rfl qd qd).ow ?_);refine ⟨.inl qj,?_⟩;refine qO [17] qj rfl ⟨?_,trivial⟩;refine wn rfl qz (wW rfl qg rfl (by rw [List.length_set,List.length_append,wI];omega) ?_);refine ⟨.inl qj,?_⟩;refine qY qj ?_;refine qX (qv (qu (qe ?_)));refine qb (wT rfl rfl qd) ?_;refine qi ?_;refine qx ?_;refine qT _ _ ⟨j-1,(s3.set j (s3.getD (j-1) ⟨#[]⟩)).set (j-1) (s3.getD j ⟨#[]⟩),rfl,⟨_,At.eq (.cons rfl (.cons rfl (.cons rfl (.cons rfl (.cons (by show Value.int .i64 _=_;congr 1;omega) .nil)))))⟩,by omega,by simp [hs3],(xT qd qd).trans hp3,rfl⟩ qd (by simp only [Nat.zero_add];rw [xm qd,xm (by rw [List.length_set];omega)];repeat (first | exact .refl | exact .nil | apply Pm.cons | exact .here | apply Sel.there | apply Pm.drop))
        · refine we rfl qz rfl ((qK qg).ow ?_);refine ⟨.inr qm,?_⟩;refine qO [2,4,15] qj rfl ⟨?_,?_,?_,trivial⟩
          · refine we rfl qz rfl ((qK qg).ow ?_);refine ⟨.inr qm,?_⟩;refine qO [4,15] qj rfl ⟨?_,?_,trivial⟩
            · refine we rfl qz rfl ((wT rfl rfl qd).ow ?_);refine ⟨.inr qm,?_⟩;refine qO [15] qj rfl ⟨?_,trivial⟩;refine wn rfl qz (wW rfl qg rfl (by rw [List.length_append,wI];omega) ?_);refine ⟨.inl qj,?_⟩;refine qO [16] qj rfl ⟨?_,trivial⟩;refine we rfl qz rfl ((wz (k:=(j-1)) rfl rfl qd qd).ow ?_);refine ⟨.inl qj,?_⟩;refine qO [17] qj rfl ⟨?_,trivial⟩;refine wn rfl qz (wW rfl qg rfl (by rw [List.length_set,List.length_append,wI];omega) ?_);refine ⟨.inl qj,?_⟩;refine qY qj ?_;refine qX (qv (qu (qe ?_)));refine qb (wT rfl rfl qd) ?_;refine qi ?_;refine qx ?_;refine qT _ _ ⟨j-1,(s3.set j (s3.getD (j-1) ⟨#[]⟩)).set (j-1) (s3.getD j ⟨#[]⟩),rfl,⟨_,At.eq (.cons rfl (.cons rfl (.cons rfl (.cons rfl (.cons (by show Value.int .i64 _=_;congr 1;omega) .nil)))))⟩,by omega,by simp [hs3],(xT qd qd).trans hp3,rfl⟩ qd (by simp only [Nat.zero_add];rw [xm qd,xm (by rw [List.length_set];omega)];repeat (first | exact .refl | exact .nil | apply Pm.cons | exact .here | apply Sel.there | apply Pm.drop))
            · refine wn rfl qz (wW rfl qg rfl (by rw [List.length_append,wI];omega) ?_);refine ⟨.inl qj,?_⟩;refine qO [4] qj rfl ⟨?_,trivial⟩;refine we rfl qz rfl ((wT rfl rfl qd).ow ?_);refine ⟨.inl qj,?_⟩;refine qO [16] qj rfl ⟨?_,trivial⟩;refine we rfl qz rfl ((wz (k:=(j-1)) rfl rfl qd qd).ow ?_);refine ⟨.inl qj,?_⟩;refine qO [17] qj rfl ⟨?_,trivial⟩;refine wn rfl qz (wW rfl qg rfl (by rw [List.length_set,List.length_append,wI];omega) ?_);refine ⟨.inl qj,?_⟩;refine qY qj ?_;refine qX (qv (qu (qe ?_)));refine qb (wT rfl rfl qd) ?_;refine qi ?_;refine qx ?_;refine qT _ _ ⟨j-1,(s3.set j (s3.getD (j-1) ⟨#[]⟩)).set (j-1) (s3.getD j ⟨#[]⟩),rfl,⟨_,At.eq (.cons rfl (.cons rfl (.cons rfl (.cons rfl (.cons (by show Value.int .i64 _=_;congr 1;omega) .nil)))))⟩,by omega,by simp [hs3],(xT qd qd).trans hp3,rfl⟩ qd (by simp only [Nat.zero_add];rw [xm qd,xm (by rw [List.length_set];omega)];repeat (first | exact .refl | exact .nil | apply Pm.cons | exact .here | apply Sel.there | apply Pm.drop))
          · refine we rfl qz rfl ((wT rfl rfl qd).ow ?_);refine ⟨.inr qm,?_⟩;refine qO [2,15] qj rfl ⟨?_,?_,trivial⟩
            · refine we rfl qz rfl ((qK qg).ow ?_);refine ⟨.inr qm,?_⟩;refine qO [15] qj rfl ⟨?_,trivial⟩;refine wn rfl qz (wW rfl qg rfl (by rw [List.length_append,wI];omega) ?_);refine ⟨.inl qj,?_⟩;refine qO [16] qj rfl ⟨?_,trivial⟩;refine we rfl qz rfl ((wz (k:=(j-1)) rfl rfl qd qd).ow ?_);refine ⟨.inl qj,?_⟩;refine qO [17] qj rfl ⟨?_,trivial⟩;refine wn rfl qz (wW rfl qg rfl (by rw [List.length_set,List.length_append,wI];omega) ?_);refine ⟨.inl qj,?_⟩;refine qY qj ?_;refine qX (qv (qu (qe ?_)));refine qb (wT rfl rfl qd) ?_;refine qi ?_;refine qx ?_;refine qT _ _ ⟨j-1,(s3.set j (s3.getD (j-1) ⟨#[]⟩)).set (j-1) (s3.getD j ⟨#[]⟩),rfl,⟨_,At.eq (.cons rfl (.cons rfl (.cons rfl (.cons rfl (.cons (by show Value.int .i64 _=_;congr 1;omega) .nil)))))⟩,by omega,by simp [hs3],(xT qd qd).trans hp3,rfl⟩ qd (by simp only [Nat.zero_add];rw [xm qd,xm (by rw [List.length_set];omega)];repeat (first | exact .refl | exact .nil | apply Pm.cons | exact .here | apply Sel.there | apply Pm.drop))
            · refine wn rfl qz (wW rfl qg rfl (by rw [List.length_append,wI];omega) ?_);refine ⟨.inl qj,?_⟩;refine qO [2] qj rfl ⟨?_,trivial⟩;refine we rfl qz rfl ((qK qg).ow ?_);refine ⟨.inl qj,?_⟩;refine qO [16] qj rfl ⟨?_,trivial⟩;refine we rfl qz rfl ((wz (k:=(j-1)) rfl rfl qd qd).ow ?_);refine ⟨.inl qj,?_⟩;refine qO [17] qj rfl ⟨?_,trivial⟩;refine wn rfl qz (wW rfl qg rfl (by rw [List.length_set,List.length_append,wI];omega) ?_);refine ⟨.inl qj,?_⟩;refine qY qj ?_;refine qX (qv (qu (qe ?_)));refine qb (wT rfl rfl qd) ?_;refine qi ?_;refine qx ?_;refine qT _ _ ⟨j-1,(s3.set j (s3.getD (j-1) ⟨#[]⟩)).set (j-1) (s3.getD j ⟨#[]⟩),rfl,⟨_,At.eq (.cons rfl (.cons rfl (.cons rfl (.cons rfl (.cons (by show Value.int .i64 _=_;congr 1;omega) .nil)))))⟩,by omega,by simp [hs3],(xT qd qd).trans hp3,rfl⟩ qd (by simp only [Nat.zero_add];rw [xm qd,xm (by rw [List.length_set];omega)];repeat (first | exact .refl | exact .nil | apply Pm.cons | exact .here | apply Sel.there | apply Pm.drop))
          · refine wn rfl qz (wW rfl qg rfl (by rw [List.length_append,wI];omega) ?_);refine ⟨.inl qj,?_⟩;refine qO [2,4] qj rfl ⟨?_,?_,trivial⟩
            · refine we rfl qz rfl ((qK qg).ow ?_);refine ⟨.inl qj,?_⟩;refine qO [4] qj rfl ⟨?_,trivial⟩;refine we rfl qz rfl ((wT rfl rfl qd).ow ?_);refine ⟨.inl qj,?_⟩;refine qO [16] qj rfl ⟨?_,trivial⟩;refine we rfl qz rfl ((wz (k:=(j-1)) rfl rfl qd qd).ow ?_);refine ⟨.inl qj,?_⟩;refine qO [17] qj rfl ⟨?_,trivial⟩;refine wn rfl qz (wW rfl qg rfl (by rw [List.length_set,List.length_append,wI];omega) ?_);refine ⟨.inl qj,?_⟩;refine qY qj ?_;refine qX (qv (qu (qe ?_)));refine qb (wT rfl rfl qd) ?_;refine qi ?_;refine qx ?_;refine qT _ _ ⟨j-1,(s3.set j (s3.getD (j-1) ⟨#[]⟩)).set (j-1) (s3.getD j ⟨#[]⟩),rfl,⟨_,At.eq (.cons rfl (.cons rfl (.cons rfl (.cons rfl (.cons (by show Value.int .i64 _=_;congr 1;omega) .nil)))))⟩,by omega,by simp [hs3],(xT qd qd).trans hp3,rfl⟩ qd (by simp only [Nat.zero_add];rw [xm qd,xm (by rw [List.length_set];omega)];repeat (first | exact .refl | exact .nil | apply Pm.cons | exact .here | apply Sel.there | apply Pm.drop))
            · refine we rfl qz rfl ((wT rfl rfl qd).ow ?_);refine ⟨.inl qj,?_⟩;refine qO [2] qj rfl ⟨?_,trivial⟩;refine we rfl qz rfl ((qK qg).ow ?_);refine ⟨.inl qj,?_⟩;refine qO [16] qj rfl ⟨?_,trivial⟩;refine we rfl qz rfl ((wz (k:=(j-1)) rfl rfl qd qd).ow ?_);refine ⟨.inl qj,?_⟩;refine qO [17] qj rfl ⟨?_,trivial⟩;refine wn rfl qz (wW rfl qg rfl (by rw [List.length_set,List.length_append,wI];omega) ?_);refine ⟨.inl qj,?_⟩;refine qY qj ?_;refine qX (qv (qu (qe ?_)));refine qb (wT rfl rfl qd) ?_;refine qi ?_;refine qx ?_;refine qT _ _ ⟨j-1,(s3.set j (s3.getD (j-1) ⟨#[]⟩)).set (j-1) (s3.getD j ⟨#[]⟩),rfl,⟨_,At.eq (.cons rfl (.cons rfl (.cons rfl (.cons rfl (.cons (by show Value.int .i64 _=_;congr 1;omega) .nil)))))⟩,by omega,by simp [hs3],(xT qd qd).trans hp3,rfl⟩ qd (by simp only [Nat.zero_add];rw [xm qd,xm (by rw [List.length_set];omega)];repeat (first | exact .refl | exact .nil | apply Pm.cons | exact .here | apply Sel.there | apply Pm.drop))
        · refine wn rfl qz (wW rfl qg rfl (by rw [List.length_append,wI];omega) ?_);refine ⟨.inl qj,?_⟩;refine qO [2,3] qj rfl ⟨?_,?_,trivial⟩
          · refine we rfl qz rfl ((qK qg).ow ?_);refine ⟨.inl qj,?_⟩;refine qO [3] qj rfl ⟨?_,trivial⟩;refine we rfl qz rfl ((qK qg).ow ?_);refine ⟨.inl qj,?_⟩;refine qO [4] qj rfl ⟨?_,trivial⟩;refine we rfl qz rfl ((wT rfl rfl qd).ow ?_);refine ⟨.inl qj,?_⟩;refine qO [16] qj rfl ⟨?_,trivial⟩;refine we rfl qz rfl ((wz (k:=(j-1)) rfl rfl qd qd).ow ?_);refine ⟨.inl qj,?_⟩;refine qO [17] qj rfl ⟨?_,trivial⟩;refine wn rfl qz (wW rfl qg rfl (by rw [List.length_set,List.length_append,wI];omega) ?_);refine ⟨.inl qj,?_⟩;refine qY qj ?_;refine qX (qv (qu (qe ?_)));refine qb (wT rfl rfl qd) ?_;refine qi ?_;refine qx ?_;refine qT _ _ ⟨j-1,(s3.set j (s3.getD (j-1) ⟨#[]⟩)).set (j-1) (s3.getD j ⟨#[]⟩),rfl,⟨_,At.eq (.cons rfl (.cons rfl (.cons rfl (.cons rfl (.cons (by show Value.int .i64 _=_;congr 1;omega) .nil)))))⟩,by omega,by simp [hs3],(xT qd qd).trans hp3,rfl⟩ qd (by simp only [Nat.zero_add];rw [xm qd,xm (by rw [List.length_set];omega)];repeat (first | exact .refl | exact .nil | apply Pm.cons | exact .here | apply Sel.there | apply Pm.drop))
          · refine we rfl qz rfl ((qK qg).ow ?_);refine ⟨.inl qj,?_⟩;refine qO [2,4] qj rfl ⟨?_,?_,trivial⟩
            · refine we rfl qz rfl ((qK qg).ow ?_);refine ⟨.inl qj,?_⟩;refine qO [4] qj rfl ⟨?_,trivial⟩;refine we rfl qz rfl ((wT rfl rfl qd).ow ?_);refine ⟨.inl qj,?_⟩;refine qO [16] qj rfl ⟨?_,trivial⟩;refine we rfl qz rfl ((wz (k:=(j-1)) rfl rfl qd qd).ow ?_);refine ⟨.inl qj,?_⟩;refine qO [17] qj rfl ⟨?_,trivial⟩;refine wn rfl qz (wW rfl qg rfl (by rw [List.length_set,List.length_append,wI];omega) ?_);refine ⟨.inl qj,?_⟩;refine qY qj ?_;refine qX (qv (qu (qe ?_)));refine qb (wT rfl rfl qd) ?_;refine qi ?_;refine qx ?_;refine qT _ _ ⟨j-1,(s3.set j (s3.getD (j-1) ⟨#[]⟩)).set (j-1) (s3.getD j ⟨#[]⟩),rfl,⟨_,At.eq (.cons rfl (.cons rfl (.cons rfl (.cons rfl (.cons (by show Value.int .i64 _=_;congr 1;omega) .nil)))))⟩,by omega,by simp [hs3],(xT qd qd).trans hp3,rfl⟩ qd (by simp only [Nat.zero_add];rw [xm qd,xm (by rw [List.length_set];omega)];repeat (first | exact .refl | exact .nil | apply Pm.cons | exact .here | apply Sel.there | apply Pm.drop))
            · refine we rfl qz rfl ((wT rfl rfl qd).ow ?_);refine ⟨.inl qj,?_⟩;refine qO [2] qj rfl ⟨?_,trivial⟩;refine we rfl qz rfl ((qK qg).ow ?_);refine ⟨.inl qj,?_⟩;refine qO [16] qj rfl ⟨?_,trivial⟩;refine we rfl qz rfl ((wz (k:=(j-1)) rfl rfl qd qd).ow ?_);refine ⟨.inl qj,?_⟩;refine qO [17] qj rfl ⟨?_,trivial⟩;refine wn rfl qz (wW rfl qg rfl (by rw [List.length_set,List.length_append,wI];omega) ?_);refine ⟨.inl qj,?_⟩;refine qY qj ?_;refine qX (qv (qu (qe ?_)));refine qb (wT rfl rfl qd) ?_;refine qi ?_;refine qx ?_;refine qT _ _ ⟨j-1,(s3.set j (s3.getD (j-1) ⟨#[]⟩)).set (j-1) (s3.getD j ⟨#[]⟩),rfl,⟨_,At.eq (.cons rfl (.cons rfl (.cons rfl (.cons rfl (.cons (by show Value.int .i64 _=_;congr 1;omega) .nil)))))⟩,by omega,by simp [hs3],(xT qd qd).trans hp3,rfl⟩ qd (by simp only [Nat.zero_add];rw [xm qd,xm (by rw [List.length_set];omega)];repeat (first | exact .refl | exact .nil | apply Pm.cons | exact .here | apply Sel.there | apply Pm.drop))
      · refine wk ?_;refine qQ (qQ (ww ?_));refine qX (qv (qu (qe ?_)));refine qb (wa rfl rfl qd) ?_;refine qi ?_;refine qx ?_;refine qT _ _ ⟨i+1,_,rfl,⟨_,At.eq (.cons rfl (.cons rfl (.cons rfl (.cons rfl .nil))))⟩,by omega,hs3,hp3,rfl⟩ qd qh
    · refine qk 3 rfl (qK qg) ?_;refine wO 4 rfl (qG rfl rfl rfl rfl) rfl qj ?_;refine wO 5 rfl (qG rfl rfl rfl rfl) rfl qj ?_;refine wO 6 rfl (qG rfl rfl rfl rfl) rfl qj ?_;refine wO 7 rfl (qG rfl rfl rfl rfl) rfl qj ?_;refine wO 8 rfl (qG rfl rfl rfl rfl) rfl qj ?_;refine wO 9 rfl (qG rfl rfl rfl rfl) rfl qj ?_;refine wO 10 rfl (qG rfl rfl rfl rfl) rfl qj ?_;refine wO 11 rfl (qG rfl rfl rfl rfl) rfl qj ?_;refine wO 12 rfl (qG rfl rfl rfl rfl) rfl qj ?_;refine qO [13] qj rfl ⟨?_,trivial⟩;refine wo_pass rfl (qG rfl rfl rfl rfl) rfl ?_;refine qk 14 rfl (qW rfl qg) ?_;refine qY qj ?_;refine qv (qB rfl ?_);refine wk ?_;refine qQ (qQ (ww ?_));refine qX (qv (qu (qe ?_)));refine qb (wa rfl rfl qd) ?_;refine qi ?_;refine qx ?_;refine qT _ _ ⟨i+1,_,rfl,⟨_,At.eq (.cons rfl (.cons rfl (.cons rfl (.cons rfl .nil))))⟩,by omega,hs3,hp3,rfl⟩ qd qh
  · refine qx (qv (qB rfl ?_));refine wk ?_;refine qQ (qQ (ww ?_));refine wM rfl rfl _ ⟨rfl,_,hp,rfl⟩ qm
theorem sp313s (u:Nat) (h:u<64):Spec Tryz.prog 313 #[.int .u64 u]
    (fun T=>T) (fun r T L=>∃z:Nat,r=.int .i64 z∧z≤255∧L=T):=by
  refine spec_of (n:=25) (args:=[.int .u64 u]) Tryz.func313 rfl rfl rfl rfl fun T=>?_;refine qw (qu (qo (qx (qv (qw (qw (qu ?_)))))));refine qe ?_;refine wq rfl (w9 rfl rfl) qd ?_;refine qx (qv (qB rfl ?_));refine qF (qv (qw (qw (qu (qe ?_)))));refine wq rfl (w9 rfl rfl) qd ?_;refine qx (qv (qB rfl ?_));refine qF (qv (qw (qw (qu (qe ?_)))));refine wq rfl (w9 rfl rfl) qd ?_;refine qx (qv (qB rfl ?_));refine qF (qv (qw (qu (qe ?_))));refine qe ?_;have hu:=UInt8.toNat_lt (D8.data.toList.getD u 0);refine qb (wh rfl rfl (yG qd)) ?_;refine qb (xE (s:=D8) rfl rfl rfl (by show _<256;omega) (d8_get qd)) ?_;refine qb (wh rfl rfl (wZ qd)) ?_;refine qb (wa rfl rfl qd) ?_;refine qi ?_;refine qx (qv (qL ?_));refine qM rfl rfl (qD qg) _ ⟨(D8.data.toList.getD u 0).toNat,congrArg (Value.int .i64) qd,by omega,rfl⟩ qm
theorem sp244 (u:Nat) (h:u<64):Spec Tryz.prog 244 #[.int .u64 u]
    (fun T=>T) (fun r T L=>∃z:Nat,r=.int .i64 z∧z≤255∧L=T):=by
  refine spec_of (n:=8) (args:=[.int .u64 u]) Tryz.func244 rfl rfl rfl rfl fun T=>?_;refine qw (qu (qo (qx (qv (qw (qB rfl ?_))))));refine qF (qv (qw (qu (qe ?_))));refine qC rfl (qH qh (sp313s u h) rfl ?_);rintro _ _ ⟨z,rfl,hz,rfl⟩;refine qi ?_;refine qx (qv (qL ?_));refine qM rfl rfl (qD qg) _ ⟨z,rfl,hz,rfl⟩ qm
theorem sp243 (b n cap z:Nat) (ss:List ByteArray) (sp:List Value) (hn:ss.length=n) (hb:n≤12):Spec Tryz.prog 243 #[.slice (some ⟨b,0,none⟩) n cap,.int .i64 0,.int .i64 n,.int .i64 z]
    (fun T=>pt b (cl (strs ss++sp) 9)::T) (fun r T L=>r=.tuple #[]∧∃ss2:List ByteArray,ss2.Perm ss∧L=pt b (cl (strs ss2++sp) 9)::T):=by
  refine spec_of (n:=134) (args:=[.slice (some ⟨b,0,none⟩) n cap,.int .i64 0,.int .i64 n,.int .i64 z]) Tryz.func243 rfl rfl rfl rfl fun T=>?_;refine qw (qu (qo (qx (qv (qw (qu (qo ?_)))))));refine qx (qv (qJ (q7 (fun m v L=>0=m∧(∃v0,v=ups v0 [(0,.slice (some ⟨b,0,none⟩) n cap),(1,.int .i64 0),(2,.int .i64 n),(3,.int .i64 z)])∧L=pt b (cl (strs ss++sp) 9)::T) _ _ ⟨rfl,⟨_,At.eq (.cons rfl (.cons rfl (.cons rfl (.cons rfl .nil))))⟩,rfl⟩ qh ?_)));rintro m _ _ ⟨rfl,⟨v0,rfl⟩,rfl⟩;refine qJ (qw (qu (qe ?_)));refine qe ?_;refine qb (wT rfl rfl qd) ?_;refine qi ?_;refine qx (qv (qw (qw (qu (qe ?_)))));refine xb rfl (yi rfl rfl) qd ?_;refine qx (qv (qN rfl ?_));refine qw (qu (qe ?_));refine qe ?_;refine qe ?_;refine qC rfl (qH qh (sp303 b n cap ss sp hn hb) rfl ?_);rintro _ _ ⟨rfl,ss2,hp,rfl⟩;refine qx (qv (qL ?_));refine wt (wQ (wt (wQ ?_)));refine wM rfl rfl _ ⟨rfl,ss2,hp,rfl⟩ qm
theorem sp160 (b n cap:Nat) (ss:List ByteArray) (sp:List Value) (hn:ss.length=n) (hb:n≤12):Spec Tryz.prog 160 #[.slice (some ⟨b,0,none⟩) n cap]
    (fun T=>pt b (cl (strs ss++sp) 9)::T) (fun r T L=>r=.tuple #[]∧∃ss2:List ByteArray,ss2.Perm ss∧L=pt b (cl (strs ss2++sp) 9)::T):=by
  refine spec_of (n:=11) (args:=[.slice (some ⟨b,0,none⟩) n cap]) Tryz.func160 rfl rfl rfl rfl fun T=>?_;refine qw (qu (qe ?_));refine qb (qI rfl) ?_;refine qi ?_;refine qx (qv (qu (qe ?_)));refine qe ?_;refine qe ?_;refine qb (wh rfl rfl (zw qd)) ?_;refine qC rfl (qH qh (sp244 n qd) rfl ?_);rintro _ _ ⟨z,rfl,hz,rfl⟩;refine qC rfl (qH qh (sp243 b n cap z ss sp hn hb) rfl ?_);rintro _ _ ⟨rfl,ss2,hp,rfl⟩;refine qx ?_;refine wM rfl rfl _ ⟨rfl,ss2,hp,rfl⟩ qm
theorem sp85 (p bm t:Nat) (mm:List (ByteArray×Value)) (hm:1≤mm.length) (hm2:mm.length≤12):Spec Tryz.prog 85 #[ptr p]
    (fun T=>fsh p bm t::mpo bm mm::T) (fun r T L=>∃a n cap ss,r=.slice a n cap∧ss.length=n∧ss.Perm (mm.map (·.1))∧L=rds (.slice a n cap) 1 (strs ss)::fsh p bm t::mpo bm mm::T):=by
  refine spec_of (n:=30) (args:=[ptr p]) Tryz.func85 rfl rfl rfl rfl fun T=>?_;refine z7 fun x hx1 hx2=>?_;refine qw (qu (qo (qx (qv (qw (qu (qo ?_)))))));refine qx (qv (qw (qw (qu (qe ?_)))));refine qb (wd rfl rfl) ?_;refine qe ?_;refine qq (qK qg) ?_;refine qq (qy rfl) ?_;refine qq (qE rfl) ?_;refine qq (qA rfl) ?_;refine qb (qW rfl qg) ?_;refine qx (qv (qB rfl ?_));refine qF (qv (qw (qw (qu (qe ?_)))));refine qb (qy rfl) ?_;refine qb (qE rfl) ?_;refine qb (qA rfl) ?_;refine qC rfl (ow_range (κ:=ByteArray) rfl qr fun b18=>?_);refine qx (qv (qJ (w8 (fun w h=>(wC (E:=9) (k:=1)).sat h) ?_)));refine q7 (fun m v L=>∃(k:Nat) (ss:List ByteArray) (a:Option Addr) (cap:Nat) (left:List (ByteArray×Value)) (cur:Option (ByteArray×Value)),left.length=m∧(∃v0,v=ups v0 [(3,.slice a k cap),(18,ptr b18)])∧(ss.length=k)∧(k+left.length=mm.length)∧((ss++left.map (·.1)).Perm (mm.map (·.1)))∧L=mit b18 bm mm left cur::own (.slice a k cap) 9 1 (strs ss)::pt p (cl (x.cells bm) 92)::own (.slice x.a x.n x.c) 253 3 x.xs::T) _ _ ⟨0,[],none,0,mm,none,rfl,⟨_,At.eq (.cons rfl (.cons rfl .nil))⟩,rfl,by omega,.refl _,rfl⟩ qh ?_;rintro m _ _ ⟨k,ss,a,cap,left,cur,rfl,⟨v0,rfl⟩,hsk,hkl,hp,rfl⟩;refine qw (qu ?_);refine qC rfl (ow_next rfl qr (fun h19=>?_) (fun l19 e19 m19 h19=>?_))
  · subst h19;simp only [List.map_nil,List.append_nil,List.length_nil,Nat.add_zero] at hp hkl;refine qb (qP rfl) ?_;refine qx (qv (qw (qB rfl ?_)));refine wk ?_;refine qQ (qQ (ww ?_));refine qv (qw (xY (E:=9) (xs:=strs ss) qr (by rw [wI];omega) fun b sp ha hl1 hl2=>?_));subst ha;refine qu (qe ?_);refine qC rfl (qH qh (sp160 b k cap ss sp qd qd) rfl ?_);rintro _ _ ⟨rfl,ss2,hp2,rfl⟩;refine qx (qv (qw (qu (qe ?_))));refine qi ?_;refine qx (qv (qL ?_));refine qM rfl rfl (qD qg) _ ⟨_,_,_,ss2,rfl,by rw [hp2.length_eq];exact hsk,hp2.trans hp,rfl⟩ (by intro w h;have h1:=wX ((zx (b:=b) (n:=k) (cap:=cap) (k:=1) (xs:=strs ss2) (sp:=sp) (E:=9) (by rw [wI,hp2.length_eq];omega) (by rw [wI,hp2.length_eq,←wI];exact hl2)).sat (Pm.sat qh w h));have h2:=yu (p:=p) (bm:=bm) x hx1 hx2 (Pm.sat qh w h1);exact Pm.sat qh w h2)
  · subst h19;refine qb (qP rfl) ?_;refine qx (qv (qw (qN rfl ?_)));refine qF (qv (qJ (qw (qu (qb (qt_entry rfl qr) ?_)))));refine qb (qP rfl) ?_;refine qi ?_;refine qx (qv (qu (qe ?_)));refine qe ?_;refine qC rfl (qS rfl (by first | decide | simp) (.one qg rfl .nil) fun b25=>?_);refine qC rfl (wl qg qg qr rfl (by rfl) (by decide) xG (ones1 rfl) (fun _ _ _ h h'=>by cases h;omega) ?_);rintro _ _ _ a26 c26 ⟨⟩;refine qi ?_;refine qx (qX ?_);refine qT _ _ ⟨k+1,ss++[e19.1],_,_,l19++m19,_,rfl,⟨_,At.eq (.cons rfl (.cons rfl .nil))⟩,by simp [hsk],by simp at hkl ⊢;omega,by refine List.Perm.trans ?_ hp;simp only [List.map_append,List.map_cons,List.append_assoc];exact List.Perm.append_left _ (by simpa using (List.perm_middle).symm),rfl⟩ (by simp) (by rw [show strs (ss++[e19.1])=strs ss++[.string e19.1] by simp [strs]];repeat (first | exact .refl | exact .nil | apply Pm.cons | exact .here | apply Sel.there | apply Pm.drop))
end
section
open Go
set_option maxRecDepth 4000
abbrev Ck:=Nat×ByteArray
abbrev dK:Ck:=(0,⟨#[]⟩)
abbrev kl (c:Ck):List Value:=[.int .u32 c.1,.string c.2]
abbrev kv (c:Ck):Value:=.agg (kl c).toArray
def kcells (cs:List Ck):List Value:=cs.flatMap kl
theorem xk:∀cs,(kcells cs).length=cs.length*2
  | []=>rfl
  | e::es=>by
    have:=xk es;simp only [kcells,List.flatMap_cons,List.length_append,List.length_cons,List.length_nil] at this ⊢;omega
theorem kcells_append (a b:List Ck):kcells (a++b)=kcells a++kcells b:=by simp [kcells]
theorem kcells_at:∀(cs:List Ck) (k j:Nat),k<cs.length→j<2→(kcells cs)[k*2+j]?=(kl (cs.getD k dK))[j]?
  | c::cs,0,j,_,hj=>by
    rcases j with _ | _ | j
    · rfl
    · rfl
    · omega
  | c::cs,k+1,j,h,hj=>by
    have:=kcells_at cs k j (by simpa using h) hj;rw [show (k+1)*2+j=k*2+j+1+1 by omega];exact this
theorem kat2 {cs:List Ck} {l:List Value} {off k:Nat} (hl:∀i,i<(kcells cs).length→l[off+i]?=(kcells cs)[i]?) (hk:k<cs.length):∀j,j<2→l[off+k*2+j]?=(kl (cs.getD k dK))[j]?:=fun j hj=>by
  rw [Nat.add_assoc,hl _ (by rw [xk];omega)];exact kcells_at cs k j hk hj
theorem kcells_take:∀(es:List Ck) (k:Nat),(kcells es).take (k*2)=kcells (es.take k)
  | es,0=>by simp [kcells]
  | [],k+1=>by simp [kcells]
  | e::es,k+1=>by
    rw [show (k+1)*2=k*2+1+1 by omega];show _::_::(kcells es).take (k*2)=_;rw [kcells_take es k];rfl
theorem kcells_snoc {es:List Ck} {k:Nat} (hk:k<es.length):kcells (es.take (k+1))=kcells (es.take k)++kl (es.getD k dK):=by
  rw [wU (d:=dK) hk,kcells_append];simp [kcells]
theorem kcells_ones (es:List Ck):∀y∈kcells es,Value.one y=true:=by
  intro y hy;obtain ⟨e,_,he⟩:=List.mem_flatMap.1 hy;simp only [List.mem_cons,List.not_mem_nil,or_false] at he;rcases he with rfl | rfl<;>rfl
abbrev kdi (a:Option Addr) (n cap:Nat) (cs:List Ck):HProp:=rds (.slice a n cap) 2 (kcells cs)
theorem sat_kdi_take {L Lr:List HProp} {a:Option Addr} {n cap k:Nat} {cs:List Ck} (hsel:Sel L (kdi a n cap cs) Lr) (hk:k≤n) {w:World} (h:Sat L w):Sat (kdi a k cap (cs.take k)::L) w:=by
  have:=zq hk (xM hsel h)
  rwa [kcells_take] at this
def Up (cs:List Ck):Prop:=∀j,0<j→j<cs.length→(cs.getD (j-1) dK).1<(cs.getD j dK).1
theorem Up.lt {cs:List Ck} (h:Up cs):∀(k j:Nat),j<k→k<cs.length→(cs.getD j dK).1<(cs.getD k dK).1
  | 0,j,hj,_=>by omega
  | k+1,j,hj,hk=>by
    have h1:=h (k+1) qd hk;rw [Nat.add_sub_cancel] at h1
    by_cases e:j=k
    · subst e;exact h1
    · have:=Up.lt h k j qd qd;omega
theorem kat2b {cs:List Ck} {sp:List Value} {k:Nat} (hk:k<cs.length):∀j,j<2→(kcells cs++sp)[0+k*2+j]?=(kl (cs.getD k dK))[j]?:=fun j hj=>by
  rw [Nat.zero_add,List.getElem?_append_left (by rw [xk];omega)];exact kcells_at cs k j hk hj
theorem sp233 (b:Nat) (c m:Ck):Spec Tryz.prog 233 #[kv c,.pointer (some ⟨b,0,none⟩)]
    (fun T=>pt b (cl (kl m) 241)::T) (fun r T L=>r=.bool (decide (c.1=m.1))∧L=pt b (cl (kl m) 241)::T):=by
  refine spec_of (n:=9) (args:=[kv c,.pointer (some ⟨b,0,none⟩)]) Tryz.func233 rfl rfl rfl rfl fun T=>?_;refine qw (qu ?_);refine qC rfl (wx rfl fun b2=>?_);refine qo (qx (qv (qw (qu (qb (qE rfl) ?_)))));refine qb (qA rfl) ?_;refine qb (qE rfl) ?_;refine qb (qA rfl) ?_;refine qb (wA rfl rfl) ?_;refine qi ?_;refine qx (qv (qL ?_));refine qM rfl rfl (qD qg) _ ⟨congrArg Value.bool (by simp only [decide_eq_decide];omega),rfl⟩ qm
theorem sp299 (n cap:Nat) (a:Option Addr) (cs:List Ck) (hn:cs.length=n) (hb:n≤1000000) (g:FuncId) (cp:List Value) (R:HProp) (p:Ck→Bool) (hf:∀k,k<n→Spec Tryz.prog g (kv (cs.getD k dK)::cp).toArray (fun T=>R::T) (fun r T L=>r=.bool (p (cs.getD k dK))∧L=R::T)):Spec Tryz.prog 299 #[.slice a n cap,.func (.func g) ([]:List Value).toArray cp.toArray]
    (fun T=>R::kdi a n cap cs::T) (fun r T L=>∃z,r=.int .i64 z∧(0≤z↔∃c∈cs,p c=true)∧L=R::kdi a n cap cs::T):=by
  refine spec_of (n:=19) (args:=[.slice a n cap,.func (.func g) ([]:List Value).toArray cp.toArray]) Tryz.func299 rfl rfl rfl rfl fun T=>?_;refine qw (qu (qo (qx (qv (qw (qw (qu ?_)))))));refine qe ?_;refine qb (qI rfl) ?_;refine qb wH ?_;refine qx (qv (qJ (q7 (fun m v L=>∃(k:Nat),n-k=m∧(∃v0,v=ups v0 [(0,.slice a n cap),(1,.func (.func g) ([]:List Value).toArray cp.toArray),(7,.int .i64 n),(8,.int .i64 k)])∧(k≤n)∧(∀j,j<k→p (cs.getD j dK)=false)∧L=R::kdi a n cap cs::T) _ _ ⟨0,rfl,⟨_,At.eq (.cons rfl (.cons rfl (.cons rfl (.cons rfl .nil))))⟩,by omega,fun j h=>by omega,rfl⟩ qh ?_)));rintro m _ _ ⟨k,rfl,⟨v0,rfl⟩,hk,hx,rfl⟩;refine qw (qu ?_);refine wG rfl (wj rfl rfl) (fun h9=>?_) (fun h9=>?_)
  · refine wK (a:=a) (xs:=kcells cs) qr (by rw [xk];omega) fun b off l E fz ha hl=>?_;subst ha;refine qx (qv (qw (qN rfl ?_)));refine qF (qv (qw (qJ (qw (qu (qe ?_))))));refine qi ?_;refine qx (qv (qw (qu (qe ?_))));refine qe ?_;refine qe ?_;refine qb (wN rfl rfl rfl qd) ?_;refine qb (wD (rs:=kl (cs.getD k dK)) rfl rfl (kat2 hl qd)) ?_;refine qC rfl (jD qh (hf k qd) rfl rfl ?_);rintro _ _ ⟨rfl,rfl⟩;refine qx (qv ?_);refine yM rfl (fun h16=>?_) (fun h16=>?_)
    · refine qw (qu (qe ?_));refine qi ?_;refine qx (qv (qL ?_));refine wQ (wt (wt (wQ (wt ?_))));refine qM rfl rfl (qD qg) _ ⟨_,rfl,⟨fun _=>⟨_,w6 qd,h16⟩,fun _=>by omega⟩,rfl⟩ qm
    · refine qF (qX (qv (qu (qb (wa rfl rfl qd) ?_))));refine qe ?_;refine qx ?_;refine qT _ _ ⟨k+1,rfl,⟨_,At.eq (.cons rfl (.cons rfl (.cons rfl (.cons rfl .nil))))⟩,by omega,fun j h=>if e:j=k then by subst e;simpa using h16 else hx j qd,rfl⟩ qd qh
  · obtain rfl:k=n:=by omega
    refine qx (qv (qw (qB rfl ?_)));refine wk ?_;refine qQ (qQ (ww ?_));refine qv (qw (qu (qo (qx (qv (qL ?_))))));refine qM rfl rfl (qD qg) _ ⟨_,rfl,⟨fun h=>by omega,fun ⟨l,hl,hp⟩=>by obtain ⟨i,hi,e⟩:=List.getElem_of_mem hl;have:=hx i qd;simp [hi,e,hp] at this⟩,rfl⟩ qm
theorem sp232 (n cap:Nat) (a:Option Addr) (cs:List Ck) (hn:cs.length=n) (hb:n≤1000000) (g:FuncId) (cp:List Value) (R:HProp) (p:Ck→Bool) (hf:∀k,k<n→Spec Tryz.prog g (kv (cs.getD k dK)::cp).toArray (fun T=>R::T) (fun r T L=>r=.bool (p (cs.getD k dK))∧L=R::T)):Spec Tryz.prog 232 #[.slice a n cap,.func (.func g) ([]:List Value).toArray cp.toArray]
    (fun T=>R::kdi a n cap cs::T) (fun r T L=>r=.bool (decide (∃c∈cs,p c=true))∧L=R::kdi a n cap cs::T):=by
  refine spec_of (n:=9) (args:=[.slice a n cap,.func (.func g) ([]:List Value).toArray cp.toArray]) Tryz.func232 rfl rfl rfl rfl fun T=>?_;refine qw (qu (qo (qx (qv (qw (qu (qe ?_)))))));refine qe ?_;refine qC rfl (qH qh (sp299 n cap a cs hn hb g cp R p hf) rfl ?_);rintro _ _ ⟨z,rfl,hz,rfl⟩;refine qb (w9 rfl rfl) ?_;refine qi ?_;refine qx (qv (qL ?_));refine qM rfl rfl (qD qg) _ ⟨congrArg Value.bool (decide_eq_decide.2 hz),rfl⟩ qm
theorem sp301 (a:Nat):Spec Tryz.prog 301 #[.int .u32 a]
    (fun T=>T) (fun r T L=>r=.bool false∧L=T):=by
  refine spec_of (n:=6) (args:=[.int .u32 a]) Tryz.func301 rfl rfl rfl rfl fun T=>?_;refine qw (qu (qo (qx (qv (qw (qu (qe ?_)))))));refine qe ?_;refine wq rfl (wB rfl rfl) qd ?_;refine qi ?_;refine qx (qv (qL ?_));refine qM rfl rfl (qD qg) _ ⟨rfl,rfl⟩ qm
theorem sp237 (a b:Nat) (h:b<a):Spec Tryz.prog 237 #[.int .u32 a,.int .u32 b]
    (fun T=>T) (fun r T L=>r=.int .i64 1∧L=T):=by
  refine spec_of (n:=20) (args:=[.int .u32 a,.int .u32 b]) Tryz.func237 rfl rfl rfl rfl fun T=>?_;refine qw (qu (qo (qx (qv (qw (qu (qe ?_)))))));refine qC rfl (qH qh (sp301 a) rfl ?_);rintro _ _ ⟨rfl,rfl⟩;refine qi ?_;refine qx (qv (qw (qu (qe ?_))));refine qC rfl (qH qh (sp301 b) rfl ?_);rintro _ _ ⟨rfl,rfl⟩;refine qi ?_;refine qx (qv (qw (qw (qu (qe ?_)))));refine qx (qv (qB rfl ?_));refine qF (qv (qw (qw (qu (qe ?_)))));refine qx (qv (qB rfl ?_));refine qF (qv (qw (qw (qu (qe ?_)))));refine qe ?_;refine wq rfl (wj rfl rfl) qd ?_;refine qx (qv (qB rfl ?_));refine qF (qv (qw (qw (qu (qe ?_)))));refine qe ?_;refine xb rfl (wS rfl rfl) qd ?_;refine qx (qv (qN rfl ?_));refine qw (qu (qo (qx (qv (qL ?_)))));refine wt ?_;refine qM rfl rfl (qD qg) _ ⟨rfl,rfl⟩ qm
theorem sp236 (c d:Ck) (h:d.1<c.1):Spec Tryz.prog 236 #[kv c,kv d]
    (fun T=>T) (fun r T L=>r=.int .i64 1∧L=T):=by
  refine spec_of (n:=10) (args:=[kv c,kv d]) Tryz.func236 rfl rfl rfl rfl fun T=>?_;refine qw (qu ?_);refine qC rfl (wx rfl fun b2=>?_);refine qC rfl (wx rfl fun b3=>?_);refine qo (qx (qv (qw (qu (qb (qE rfl) ?_)))));refine qb (qA rfl) ?_;refine qb (qE rfl) ?_;refine qb (qA rfl) ?_;refine qC rfl (qH qh (sp237 c.1 d.1 h) rfl ?_);rintro _ _ ⟨rfl,rfl⟩;refine qi ?_;refine qx (qv (qL ?_));refine qM rfl rfl (qD qg) _ ⟨rfl,rfl⟩ qm
theorem sp335 (b n cap:Nat) (cs:List Ck) (sp:List Value) (hn:cs.length=n) (hb:n≤12) (H:Up cs):Spec Tryz.prog 335 #[.slice (some ⟨b,0,none⟩) n cap,.int .i64 0,.int .i64 n,.func (.func 236) ([]:List Value).toArray ([]:List Value).toArray]
    (fun T=>pt b (cl (kcells cs++sp) 241)::T) (fun r T L=>r=.tuple #[]∧L=pt b (cl (kcells cs++sp) 241)::T):=by
  refine spec_of (n:=53) (args:=[.slice (some ⟨b,0,none⟩) n cap,.int .i64 0,.int .i64 n,.func (.func 236) ([]:List Value).toArray ([]:List Value).toArray]) Tryz.func335 rfl rfl rfl rfl fun T=>?_;refine qw (qu (qe ?_));refine qb (wa rfl rfl qd) ?_;refine qi ?_;refine qx (qv (qJ (q7 (fun m v L=>∃(i:Nat),n-i=m∧(∃v0,v=ups v0 [(0,.slice (some ⟨b,0,none⟩) n cap),(1,.int .i64 0),(2,.int .i64 n),(3,.func (.func 236) ([]:List Value).toArray ([]:List Value).toArray),(8,.int .i64 i)])∧(1≤i)∧L=pt b (cl (kcells cs++sp) 241)::T) _ _ ⟨1,rfl,⟨_,At.eq (.cons rfl (.cons rfl (.cons rfl (.cons rfl (.cons rfl .nil)))))⟩,by omega,rfl⟩ qh ?_)));rintro m _ _ ⟨i,rfl,⟨v0,rfl⟩,hi,rfl⟩;refine qw (qw (qu (qe ?_)));refine qe ?_;refine wG rfl (wj rfl rfl) (fun h14=>?_) (fun h14=>?_)
  · refine qx (qv (qN rfl ?_));refine qF (qv (qw (qJ (qw (qu (qe ?_))))));refine qi ?_;refine qx (qv (qJ (q7 (fun m v L=>0=m∧(∃v0,v=ups v0 [(0,.slice (some ⟨b,0,none⟩) n cap),(1,.int .i64 0),(2,.int .i64 n),(3,.func (.func 236) ([]:List Value).toArray ([]:List Value).toArray),(8,.int .i64 i),(9,.int .i64 i)])∧L=pt b (cl (kcells cs++sp) 241)::T) _ _ ⟨rfl,⟨_,At.eq (.cons rfl (.cons rfl (.cons rfl (.cons rfl (.cons rfl (.cons rfl .nil))))))⟩,rfl⟩ qh ?_)));rintro m _ _ ⟨rfl,⟨v0,rfl⟩,rfl⟩;refine qw (qw (wg [] _ mixed (fun w h=>h) 17 rfl ?_));refine qk 0 rfl (qK qg) ?_;refine qk 1 rfl (qK qg) ?_;refine yL 2 rfl qz rfl qj (wS rfl rfl) (fun h20=>?_) (fun h20=>?_)
    · refine qk 3 rfl (qK qg) ?_;refine wo 4 rfl (qG rfl rfl rfl rfl) rfl qj (qK qg) ?_;refine wo 5 rfl (qG rfl rfl rfl rfl) rfl qj (qK qg) ?_;refine wo 6 rfl (qG rfl rfl rfl rfl) rfl qj (qK qg) ?_;refine wo 7 rfl (qG rfl rfl rfl rfl) rfl qj (wN (k:=i) rfl rfl qd qd) ?_;refine wo 8 rfl (qG rfl rfl rfl rfl) rfl qj (wD (rs:=kl (cs.getD i dK)) rfl rfl (kat2b (k:=i) qd)) ?_;refine wo 9 rfl (qG rfl rfl rfl rfl) rfl qj (qK qg) ?_;refine wo 10 rfl (qG rfl rfl rfl rfl) rfl qj (qK qg) ?_;refine wo 11 rfl (qG rfl rfl rfl rfl) rfl qj (wT rfl rfl qd) ?_;refine wo 12 rfl (qG rfl rfl rfl rfl) rfl qj (wN (k:=(i-1)) rfl rfl qd qd) ?_;refine wo 13 rfl (qG rfl rfl rfl rfl) rfl qj (wD (rs:=kl (cs.getD (i-1) dK)) rfl rfl (kat2b (k:=i-1) qd)) ?_;refine qO [14] qj rfl ⟨?_,trivial⟩;refine we rfl (qG rfl rfl rfl rfl) rfl (jD qh (sp236 (cs.getD i dK) (cs.getD (i-1) dK) (H i qd qd)) rfl rfl ?_);rintro _ _ ⟨rfl,rfl⟩;refine ⟨.inr qm,?_⟩;refine yL 15 rfl (qG rfl rfl rfl rfl) rfl qj (wj rfl rfl) (fun h33=>?_) (fun h33=>?_)
      · skip
        exfalso
        omega
      · refine qk 16 rfl (q9 rfl qg) ?_;refine qY qj ?_;refine qv (qB rfl ?_);refine wk ?_;refine qQ (qQ (ww ?_));refine qX (qv (qu (qe ?_)));refine qb (wa rfl rfl qd) ?_;refine qi ?_;refine qx ?_;refine qT _ _ ⟨i+1,rfl,⟨_,At.eq (.cons rfl (.cons rfl (.cons rfl (.cons rfl (.cons rfl .nil)))))⟩,by omega,rfl⟩ qd qh
    · refine qk 3 rfl (qK qg) ?_;refine wO 4 rfl (qG rfl rfl rfl rfl) rfl qj ?_;refine wO 5 rfl (qG rfl rfl rfl rfl) rfl qj ?_;refine wO 6 rfl (qG rfl rfl rfl rfl) rfl qj ?_;refine wO 7 rfl (qG rfl rfl rfl rfl) rfl qj ?_;refine wO 8 rfl (qG rfl rfl rfl rfl) rfl qj ?_;refine wO 9 rfl (qG rfl rfl rfl rfl) rfl qj ?_;refine wO 10 rfl (qG rfl rfl rfl rfl) rfl qj ?_;refine wO 11 rfl (qG rfl rfl rfl rfl) rfl qj ?_;refine wO 12 rfl (qG rfl rfl rfl rfl) rfl qj ?_;refine wO 13 rfl (qG rfl rfl rfl rfl) rfl qj ?_;refine qO [14] qj rfl ⟨?_,trivial⟩;refine wo_pass rfl (qG rfl rfl rfl rfl) rfl ?_;refine wO 15 rfl (qG rfl rfl rfl rfl) rfl qj ?_;refine qk 16 rfl (qW rfl qg) ?_;refine qY qj ?_;refine qv (qB rfl ?_);refine wk ?_;refine qQ (qQ (ww ?_));refine qX (qv (qu (qe ?_)));refine qb (wa rfl rfl qd) ?_;refine qi ?_;refine qx ?_;refine qT _ _ ⟨i+1,rfl,⟨_,At.eq (.cons rfl (.cons rfl (.cons rfl (.cons rfl (.cons rfl .nil)))))⟩,by omega,rfl⟩ qd qh
  · refine qx (qv (qB rfl ?_));refine wk ?_;refine qQ (qQ (ww ?_));refine wM rfl rfl _ ⟨rfl,rfl⟩ qm
theorem sp300 (b n cap z:Nat) (cs:List Ck) (sp:List Value) (hn:cs.length=n) (hb:n≤12) (H:Up cs):Spec Tryz.prog 300 #[.slice (some ⟨b,0,none⟩) n cap,.int .i64 0,.int .i64 n,.int .i64 z,.func (.func 236) ([]:List Value).toArray ([]:List Value).toArray]
    (fun T=>pt b (cl (kcells cs++sp) 241)::T) (fun r T L=>r=.tuple #[]∧L=pt b (cl (kcells cs++sp) 241)::T):=by
  refine spec_of (n:=148) (args:=[.slice (some ⟨b,0,none⟩) n cap,.int .i64 0,.int .i64 n,.int .i64 z,.func (.func 236) ([]:List Value).toArray ([]:List Value).toArray]) Tryz.func300 rfl rfl rfl rfl fun T=>?_;refine qw (qu (qo (qx (qv (qw (qu (qo ?_)))))));refine qx (qv (qJ (q7 (fun m v L=>0=m∧(∃v0,v=ups v0 [(0,.slice (some ⟨b,0,none⟩) n cap),(1,.int .i64 0),(2,.int .i64 n),(3,.int .i64 z),(4,.func (.func 236) ([]:List Value).toArray ([]:List Value).toArray)])∧L=pt b (cl (kcells cs++sp) 241)::T) _ _ ⟨rfl,⟨_,At.eq (.cons rfl (.cons rfl (.cons rfl (.cons rfl (.cons rfl .nil)))))⟩,rfl⟩ qh ?_)));rintro m _ _ ⟨rfl,⟨v0,rfl⟩,rfl⟩;refine qJ (qw (qu (qe ?_)));refine qe ?_;refine qb (wT rfl rfl qd) ?_;refine qi ?_;refine qx (qv (qw (qw (qu (qe ?_)))));refine xb rfl (yi rfl rfl) qd ?_;refine qx (qv (qN rfl ?_));refine qw (qu (qe ?_));refine qe ?_;refine qe ?_;refine qe ?_;refine qC rfl (qH qh (sp335 b n cap cs sp hn hb H) rfl ?_);rintro _ _ ⟨rfl,rfl⟩;refine qx (qv (qL ?_));refine wt (wQ (wt (wQ ?_)));refine wM rfl rfl _ ⟨rfl,rfl⟩ qm
theorem sp235 (b n cap:Nat) (cs:List Ck) (sp:List Value) (hn:cs.length=n) (hb:n≤12) (H:Up cs):Spec Tryz.prog 235 #[.slice (some ⟨b,0,none⟩) n cap,.func (.func 236) ([]:List Value).toArray ([]:List Value).toArray]
    (fun T=>pt b (cl (kcells cs++sp) 241)::T) (fun r T L=>r=.tuple #[]∧L=pt b (cl (kcells cs++sp) 241)::T):=by
  refine spec_of (n:=14) (args:=[.slice (some ⟨b,0,none⟩) n cap,.func (.func 236) ([]:List Value).toArray ([]:List Value).toArray]) Tryz.func235 rfl rfl rfl rfl fun T=>?_;refine qw (qu (qe ?_));refine qb (qI rfl) ?_;refine qi ?_;refine qx (qv (qu (qe ?_)));refine qe ?_;refine qe ?_;refine qb (wh rfl rfl (zw qd)) ?_;refine qC rfl (qH qh (sp244 n qd) rfl ?_);rintro _ _ ⟨z,rfl,hz,rfl⟩;refine qe ?_;refine qC rfl (qH qh (sp300 b n cap z cs sp hn hb H) rfl ?_);rintro _ _ ⟨rfl,rfl⟩;refine qx ?_;refine wM rfl rfl _ ⟨rfl,rfl⟩ qm
theorem sp253 (n cap:Nat) (a:Option Addr) (cs:List Ck) (hn:cs.length=n) (hb:n≤1000) (H:Up cs) (j:Nat) (hj:j<n):Spec Tryz.prog 253 #[.slice a n cap,.int .u32 (cs.getD j dK).1]
    (fun T=>kdi a n cap cs::T) (fun r T L=>r=.tuple #[.string (cs.getD j dK).2,.bool true]∧L=kdi a n cap cs::T):=by
  refine spec_of (n:=21) (args:=[.slice a n cap,.int .u32 (cs.getD j dK).1]) Tryz.func253 rfl rfl rfl rfl fun T=>?_;refine qw (qu (qo (qo (qx (qv (qw (qw ?_)))))));refine qu (qe ?_);refine qb (qI rfl) ?_;refine qb wH ?_;refine qx (qv (qJ (q7 (fun m v L=>∃(k:Nat),n-k=m∧(∃v0,v=ups v0 [(1,.int .u32 (cs.getD j dK).1),(8,.slice a n cap),(9,.int .i64 n),(10,.int .i64 k)])∧(k≤j)∧L=kdi a n cap cs::T) _ _ ⟨0,rfl,⟨_,At.eq (.cons rfl (.cons rfl (.cons rfl (.cons rfl .nil))))⟩,by omega,rfl⟩ qh ?_)));rintro m _ _ ⟨k,rfl,⟨v0,rfl⟩,hk,rfl⟩;refine qw (qu (xb rfl (wj rfl rfl) qd ?_));refine qx (qv (qw (qN rfl ?_)));refine qF (qv (qw (qJ (qw (wx_rds (a:=a) (xs:=kcells cs) qr (by rw [xk];omega) fun b off l E fz ha hl=>?_)))));subst ha;refine qu (qb (wN rfl rfl rfl qd) ?_);refine qb (wD (rs:=kl (cs.getD k dK)) rfl rfl (kat2 hl qd)) ?_;refine qC rfl (qZ fun b7=>?_);refine q6 (wc rfl rfl rfl rfl ?_);refine qx (qv (qw (qu (qb (qE rfl) ?_))));refine qb (qA rfl) ?_;refine qe ?_;refine wG rfl (wA rfl rfl) (fun h17=>?_) (fun h17=>?_)
  · have e:k=j:=by
      by_cases e:k=j
      · exact e
      · have:=H.lt j k qd qd;omega
    subst e;refine qx (qv (qN rfl ?_));refine qw (qu (qb (qE rfl) ?_));refine qb (qA rfl) ?_;refine qi ?_;refine qo (qx (qv (qL ?_)));refine wQ (wt (wt (wQ (wt ?_))));refine wu rfl rfl (qD qg) (qD qg) _ ⟨rfl,rfl⟩ qm
  · have e:k≠j:=fun e=>by subst e;exact h17 rfl
    refine qx (qv (qB rfl ?_));refine qF (qX (qv (qu (qb (wa rfl rfl qd) ?_))));refine qe ?_;refine qx ?_;refine qT _ _ ⟨k+1,rfl,⟨_,At.eq (.cons rfl (.cons rfl (.cons rfl (.cons rfl .nil))))⟩,by omega,rfl⟩ qd qh
end
section
open Go
set_option maxRecDepth 4000
abbrev chunkM:ByteArray:=⟨#[80,68,71,67,1]⟩
def hdrB (cs:List Ck) (k:Nat):List UInt8:=beN 4 (cs.getD k dK).1++beN 4 (cs.getD k dK).2.size
def bodyB (cs:List Ck) (k:Nat):List UInt8:=(cs.getD k dK).2.data.toList
theorem zZ (cs:List Ck) (k:Nat):(hdrB cs k).length=8:=by simp [hdrB,qR]
def tots (cs:List Ck):Nat:=(cs.map fun c=>c.2.size).sum
theorem yI {ls:List Ck} {k:Nat} (hk:k<ls.length):tots (ls.take (k+1))=tots (ls.take k)+(ls.getD k dK).2.size:=by
  rw [wU (d:=dK) hk];simp [tots]
theorem zU:∀(ls:List Ck) (k:Nat),tots (ls.take k)≤tots ls
  | [],k=>by simp
  | l::ls,0=>by simp [tots]
  | l::ls,k+1=>by have:=zU ls k;simp only [tots,List.take_succ_cons,List.map_cons,List.sum_cons] at this ⊢;omega
theorem vq (cs:List Ck):∀k,k≤cs.length→((List.range k).flatMap (bodyB cs)).length=tots (cs.take k)
  | 0,_=>by simp [tots]
  | k+1,h=>by
    rw [yY,List.length_append,vq cs k qd,yI qd];rfl
def chunk0 (n:Nat):List UInt8:=[]++chunkM.data.toList++beN 1 n
theorem chunk0_length (n:Nat):(chunk0 n).length=6:=by simp only [chunk0,List.length_append,qR,List.length_nil];rfl
def chunk1 (cs:List Ck) (k:Nat):List UInt8:=chunk0 cs.length++(List.range k).flatMap (hdrB cs)
theorem ji (cs:List Ck) (k:Nat):(chunk1 cs k).length=6+8*k:=by rw [chunk1,List.length_append,chunk0_length,yF (zZ cs)]
def chunk2 (cs:List Ck) (k:Nat):List UInt8:=chunk1 cs cs.length++(List.range k).flatMap (bodyB cs)
theorem yA (cs:List Ck) (k:Nat) (h:k≤cs.length):(chunk2 cs k).length=6+8*cs.length+tots (cs.take k):=by rw [chunk2,List.length_append,ji,vq cs k h]
def chunkB (cs:List Ck):List UInt8:=chunk2 cs cs.length++beN 4 (crc (chunk2 cs cs.length))
theorem kh (cs:List Ck):(chunkB cs).length=10+8*cs.length+tots cs:=by
  rw [chunkB,List.length_append,yA cs _ (Nat.le_refl _),List.take_length,qR];omega
structure GoodK (cs:List Ck):Prop where
  len:1≤cs.length∧cs.length≤12
  up:Up cs
  id:∀c∈cs,1≤c.1∧c.1<2^32
  tot:tots cs≤4000000
theorem GoodK.fresh {cs:List Ck} (H:GoodK cs) {k:Nat} (hk:k<cs.length):¬ ∃c∈cs.take k,decide (c.1=(cs.getD k dK).1)=true:=by
  rintro ⟨c,hc,he⟩;have he:=of_decide_eq_true he;obtain ⟨i,hi,e⟩:=List.getElem_of_mem hc;simp only [List.length_take] at hi;rw [List.getElem_take] at e;have:=H.up.lt k i qd hk;have h2:cs.getD i dK=c:=by rw [List.getD_eq_getElem?_getD,List.getElem?_eq_getElem qd,e];rfl
  rw [h2] at this;omega
theorem sp234 (n cap:Nat) (a:Option Addr) (xs:List Value) (hb:n≤1000000) (ho:∀y∈xs,Value.one y=true):Spec Tryz.prog 234 #[.slice a n cap]
    (fun T=>rds (.slice a n cap) 2 xs::T) (fun r T L=>∃a2 cap2,r=.slice a2 n cap2∧L=own (.slice a2 n cap2) 241 2 xs::rds (.slice a n cap) 2 xs::T):=by
  refine spec_of (n:=8) (args:=[.slice a n cap]) Tryz.func234 rfl rfl rfl rfl fun T=>?_;refine yg (kW qr) fun hxl=>?_;refine qw (qu (qo (qx (qv (qw (qw (qu ?_)))))));refine qe ?_;refine wG rfl (yd rfl rfl) (fun h4=>?_) (fun h4=>?_)
  · subst h4;refine kG (kV qr) fun hnil=>?_;subst hnil;obtain rfl:n=0:=by simp at hxl;omega
    refine qx (qv (qN rfl ?_));refine qw (qu (qo (qx (qv (qL ?_)))));refine wt ?_;refine qM rfl rfl (qD qg) _ ⟨none,0,rfl,rfl⟩ (fun w h=>wC.sat (Pm.sat qh w h))
  · refine qx (qv (qB rfl ?_));refine qF (qv (qw (qu ?_)));refine qC rfl (qS rfl (by decide) .nil fun b5=>?_);refine wE (fun w h=>yh (E:=241) (k:=2) (cap:=0) h rfl) ?_;refine qe ?_;refine qC rfl (wl qg qg qr rfl (by rfl) (by decide) (xD qr hxl) ho (fun _ _ _ h h'=>by cases h;omega) ?_);rintro _ _ _ a7 c7 ⟨⟩;rw [Nat.zero_add,List.nil_append];refine qi ?_;refine qx (qv (qL ?_));refine qM rfl rfl (qD qg) _ ⟨_,_,rfl,rfl⟩ qm
theorem sp145 (n cap:Nat) (a:Option Addr) (cs:List Ck) (hn:cs.length=n) (H:GoodK cs):Spec Tryz.prog 145 #[.slice a n cap]
    (fun T=>kdi a n cap cs::T) (fun r T L=>r=.tuple #[.string ⟨(chunkB cs).toArray⟩,.int .i64 0]∧L=kdi a n cap cs::T):=by
  refine spec_of (n:=93) (args:=[.slice a n cap]) Tryz.func145 rfl rfl rfl rfl fun T=>?_;have hlen:=H.len;have htot:=H.tot;refine yg (zh qr) fun hcap=>?_;refine qw (qu (qo (qo (qx (qv (qw (qw ?_)))))));refine qu (qe ?_);refine qb (qI rfl) ?_;refine wq rfl (wS rfl rfl) qd ?_;refine qx (qv (qB rfl ?_));refine qF (qv (qw (qu (qe ?_))));refine qb (qI rfl) ?_;refine qb (yV rfl rfl qd) ?_;refine qb (wa rfl rfl qd) ?_;refine qi ?_;refine qx (qv (qw (qw (qu (qe ?_)))));refine qb (qI rfl) ?_;refine qb wH ?_;refine qx (qv (qJ (q7 (fun m v L=>∃(k:Nat),n-k=m∧(∃v0,v=ups v0 [(0,.slice a n cap),(4,.int .i64 (10+8*n+tots (cs.take k):Nat)),(20,.slice a n cap),(21,.int .i64 n),(22,.int .i64 k)])∧(k≤n)∧L=kdi a n cap cs::T) _ _ ⟨0,rfl,⟨_,At.eq (.cons rfl (.cons (by show Value.int .i64 _=_;simp [tots]) (.cons rfl (.cons rfl (.cons rfl .nil)))))⟩,by omega,rfl⟩ qh ?_)));rintro m _ _ ⟨k,rfl,⟨v0,rfl⟩,hk,rfl⟩;refine qw (qu ?_);refine wG rfl (wj rfl rfl) (fun h23=>?_) (fun h23=>?_)
  · refine wK (a:=a) (xs:=kcells cs) qr (by rw [xk];omega) fun b off l E fz ha hl=>?_;subst ha;have hm:cs.getD k dK∈cs:=w6 qd;have hid:=H.id _ hm;have ht1:=zU cs (k+1);rw [yI qd] at ht1;refine qx (qv (qw (qN rfl ?_)));refine qF (qv (qw (qJ (qw (qu (qe ?_))))));refine qb (wN rfl rfl rfl qd) ?_;refine qb (wD (rs:=kl (cs.getD k dK)) rfl rfl (kat2 hl qd)) ?_;refine qC rfl (qZ fun b6=>?_);refine qi ?_;refine q6 (wc rfl rfl rfl rfl ?_);refine qx (qv (qw (qJ (qw (qu (qb (qE rfl) ?_))))));refine qb (qA rfl) ?_;refine wq rfl (wA rfl rfl) qd ?_;refine qi ?_;refine qx (qv (qB rfl ?_));refine qw (qu (qe ?_));refine qe ?_;refine qb (xW rfl rfl rfl qd) ?_;refine qb (wv .nil (.cons qg .nil)) ?_;refine wE (fun w h=>sat_kdi_take (k:=k) (cs:=cs) qr qd h) ?_;refine qC rfl (qH qh (sp232 k _ _ (cs.take k) (by simp;omega) qd 233 [.pointer (some ⟨b6,0,none⟩)] (pt b6 (cl (kl (cs.getD k dK)) 241)) (fun c=>decide (c.1=(cs.getD k dK).1)) (fun j _=>sp233 b6 ((cs.take k).getD j dK) (cs.getD k dK))) rfl ?_);rintro _ _ ⟨rfl,rfl⟩;rw [decide_eq_false (H.fresh qd)];refine qi ?_;refine qx (qv (qB rfl ?_));refine qF (qX (qv (qu (qe ?_))));refine qb (qE rfl) ?_;refine qb (qA rfl) ?_;refine qb (wL rfl) ?_;refine qb (wa rfl rfl qd) ?_;refine qi ?_;refine qx (qX (qv (qu (qb (wa rfl rfl qd) ?_))));refine qe ?_;refine qx ?_;refine qT _ _ ⟨k+1,rfl,⟨_,At.eq (.cons rfl (.cons (by show Value.int .i64 _=_;rw [yI qd];congr 1;omega) (.cons rfl (.cons rfl (.cons rfl .nil)))))⟩,by omega,rfl⟩ qd qh
  · have ht1:=zU cs k;refine qx (qv (qw (qB rfl ?_)));refine wk ?_;refine qQ (qQ (ww ?_));refine qv (qw (qw (qu (qe ?_))));refine wq rfl (wS rfl rfl) qd ?_;refine qx (qv (qB rfl ?_));refine qF (qv (qw (qu (qe ?_))));refine qC rfl (qH qh (sp234 n _ _ (kcells cs) qd (kcells_ones cs)) rfl ?_);rintro _ _ ⟨a2,cap2,rfl,rfl⟩;refine qi ?_;refine qx (qv (qw (xY (E:=241) (xs:=kcells cs) qr (by rw [xk];omega) fun b sp ha hl1 hl2=>?_)));subst ha;refine qu (qe ?_);refine qC rfl (qH qh (sp235 b n cap2 cs sp hn qd H.up) rfl ?_);rintro _ _ ⟨rfl,rfl⟩;refine qx (qv (qw (qu ?_)));refine qC rfl (qH qh (sp100) rfl ?_);rintro _ _ ⟨p49,rfl,rfl⟩;refine qi ?_;refine qx (qv (qw (qu (qe ?_))));refine qC rfl (qH qh (sp102 _ _ chunkM (by first | (simp only [List.length_append,qR,List.length_nil];done) | (simp only [List.length_append,qR,List.length_nil];omega)) (by decide)) rfl ?_);rintro _ _ ⟨rfl,rfl⟩;refine qx (qv (qw (qu (qe ?_))));refine qe ?_;refine qb (qI rfl) ?_;refine qb (wh rfl rfl (yG qd)) ?_;refine qC rfl (qH qh (sp132 _ n _ qd (by simp)) rfl ?_);rintro _ _ ⟨rfl,rfl⟩;refine qx (qv (qw (qw (qu (qe ?_)))));refine qb (qI rfl) ?_;refine qb wH ?_;refine qx (qv (qJ ?_));have e0:[]++chunkM.data.toList++beN 1 n=chunk1 cs 0:=by rw [chunk1,chunk0,hn];simp
    rw [e0];refine q7 (fun m v L=>∃(k:Nat),n-k=m∧(∃v0,v=ups v0 [(7,.slice (some ⟨b,0,none⟩) n cap2),(8,.pointer (some ⟨p49,0,none⟩)),(57,.slice (some ⟨b,0,none⟩) n cap2),(58,.int .i64 n),(59,.int .i64 k)])∧(k≤n)∧L=wr p49 (chunk1 cs k)::pt b (cl (kcells cs++sp) 241)::kdi a n cap cs::T) _ _ ⟨0,rfl,⟨_,At.eq (.cons rfl (.cons rfl (.cons rfl (.cons rfl (.cons rfl .nil)))))⟩,by omega,rfl⟩ qh ?_;rintro m _ _ ⟨k,rfl,⟨v0,rfl⟩,hk,rfl⟩;refine qw (qu ?_);refine wG rfl (wj rfl rfl) (fun h60=>?_) (fun h60=>?_)
    · have hm:cs.getD k dK∈cs:=w6 qd;have hid:=H.id _ hm;have ht1:=zU cs (k+1);rw [yI qd] at ht1;refine qx (qv (qw (qN rfl ?_)));refine qF (qv (qw (qJ (qw (qu (qb (wN rfl rfl rfl qd) ?_))))));refine qb (wD (rs:=kl (cs.getD k dK)) rfl rfl (kat2b (k:=k) qd)) ?_;refine qC rfl (qZ fun b10=>?_);refine q6 (wc rfl rfl rfl rfl ?_);refine qx (qv (qw (qu (qe ?_))));refine qb (qE rfl) ?_;refine qb (qA rfl) ?_;refine qC rfl (qH qh (sp133 _ (cs.getD k dK).1 _ hid.2 (by rw [ji];omega)) rfl ?_);rintro _ _ ⟨rfl,rfl⟩;refine qx (qv (qu (qe ?_)));refine qb (qE rfl) ?_;refine qb (qA rfl) ?_;refine qb (wL rfl) ?_;refine qb (wh rfl rfl (xw qd)) ?_;refine qC rfl (qH qh (sp133 _ (cs.getD k dK).2.size _ qd (by rw [List.length_append,qR,ji];omega)) rfl ?_);rintro _ _ ⟨rfl,rfl⟩;refine qx (qX (qv (qu (qb (wa rfl rfl qd) ?_))));refine qe ?_;refine qx ?_;refine qT _ _ ⟨k+1,rfl,⟨_,At.eq (.cons rfl (.cons rfl (.cons rfl (.cons rfl (.cons rfl .nil)))))⟩,by omega,rfl⟩ qd (by rw [show chunk1 cs (k+1)=chunk1 cs k++beN 4 (cs.getD k dK).1++beN 4 (cs.getD k dK).2.size by rw [chunk1,yY,hdrB,chunk1];simp only [List.append_assoc]];repeat (first | exact .refl | exact .nil | apply Pm.cons | exact .here | apply Sel.there | apply Pm.drop))
    · have hkn:k=n:=by omega
      refine qx (qv (qw (qB rfl ?_)));refine wk ?_;refine qQ (qQ (ww ?_));refine qv (qw (qw (qu (qe ?_))));refine qb (qI rfl) ?_;refine qb wH ?_;refine qx (qv (qJ ?_));have e1:chunk1 cs k=chunk2 cs 0:=by rw [chunk2,hn,hkn];simp
      rw [e1];refine q7 (fun m v L=>∃(k:Nat),n-k=m∧(∃v0,v=ups v0 [(8,.pointer (some ⟨p49,0,none⟩)),(74,.slice (some ⟨b,0,none⟩) n cap2),(75,.int .i64 n),(76,.int .i64 k)])∧(k≤n)∧L=wr p49 (chunk2 cs k)::pt b (cl (kcells cs++sp) 241)::kdi a n cap cs::T) _ _ ⟨0,rfl,⟨_,At.eq (.cons rfl (.cons rfl (.cons rfl (.cons rfl .nil))))⟩,by omega,rfl⟩ qh ?_;rintro m _ _ ⟨k,rfl,⟨v0,rfl⟩,hk,rfl⟩;refine qw (qu ?_);refine wG rfl (wj rfl rfl) (fun h77=>?_) (fun h77=>?_)
      · have ht1:=zU cs (k+1);rw [yI qd] at ht1;refine qx (qv (qw (qN rfl ?_)));refine qF (qv (qw (qJ (qw (qu (qb (wN rfl rfl rfl qd) ?_))))));refine qb (wD (rs:=kl (cs.getD k dK)) rfl rfl (kat2b (k:=k) qd)) ?_;refine qC rfl (qZ fun b12=>?_);refine q6 (wc rfl rfl rfl rfl ?_);refine qx (qv (qu (qe ?_)));refine qb (qE rfl) ?_;refine qb (qA rfl) ?_;refine qC rfl (qH qh (sp102 _ _ (cs.getD k dK).2 (by rw [yA _ _ qd];omega) qd) rfl ?_);rintro _ _ ⟨rfl,rfl⟩;refine qx (qX (qv (qu (qb (wa rfl rfl qd) ?_))));refine qe ?_;refine qx ?_;refine qT _ _ ⟨k+1,rfl,⟨_,At.eq (.cons rfl (.cons rfl (.cons rfl (.cons rfl .nil))))⟩,by omega,rfl⟩ qd (by rw [show chunk2 cs (k+1)=chunk2 cs k++(cs.getD k dK).2.data.toList by rw [chunk2,yY,chunk2,bodyB];simp only [List.append_assoc]];repeat (first | exact .refl | exact .nil | apply Pm.cons | exact .here | apply Sel.there | apply Pm.drop))
      · have hkn2:k=n:=by omega
        subst hkn2;have ht1:=zU cs k;refine qx (qv (qw (qB rfl ?_)));refine wk ?_;refine qQ (qQ (ww ?_));refine qv (qw (qu (qe ?_)));refine qe ?_;refine qC rfl (qH qh (sp103 _ _) rfl ?_);rintro _ _ ⟨rfl,rfl⟩;refine qC rfl (qS rfl (by first | decide | simp) (.one qg rfl .nil) fun b88=>?_);refine qC rfl (qH qh (sp78 _ _ (by rw [jp,yA _ _ qd];omega)) rfl ?_);rintro _ _ ⟨rfl,rfl⟩;refine qC rfl (qH qh (sp133 _ (crc _) _ (kB _) (by rw [yA _ _ qd];omega)) rfl ?_);rintro _ _ ⟨rfl,rfl⟩;refine qx (qv (qw (qu (qe ?_))));refine qC rfl (qH qh (sp103 _ _) rfl ?_);rintro _ _ ⟨rfl,rfl⟩;refine qi ?_;refine qo (qx (qv (qL ?_)));refine wu rfl rfl (qD qg) (qD qg) _ ⟨by rw [chunkB,hn],rfl⟩ qm
end
section
open Go
set_option maxRecDepth 4000
section
variable {P:Program} {v:Env} {L:List HProp} {x z:Operand} {ty T:TypeId}
theorem kY {s q:ByteArray} {m:Nat} {k:IntKind} {j:Int} [hu:TU P T .string] (hx:evalE v x=.string s) (hz:evalE v z=.int k j) (hj:j=(m:Int)) (hm:m≤s.size) (hq:s.extract 0 m=q) :
    Qt P (.slice T x none (some z) none) ty v L (.string q):=by
  subst hq;exact xV hx hz hj hm
end
def blank (cs:List Ck):List Ck:=cs.map fun c=>(c.1,⟨#[]⟩)
theorem jA (cs:List Ck):(blank cs).length=cs.length:=by simp [blank]
theorem kcells_set {A B:List Ck} {c:Ck} {s:ByteArray} {sp:List Value} {k:Nat} (hk:A.length=k):(kcells (A++c::B)++sp).set (k*2+1) (.string s)=kcells (A++(c.1,s)::B)++sp:=by
  subst hk;have e1:kcells (A++c::B)++sp=(kcells A++[.int .u32 c.1])++(.string c.2::(kcells B++sp)):=by simp [kcells]
  have e2:kcells (A++(c.1,s)::B)++sp=(kcells A++[.int .u32 c.1])++(.string s::(kcells B++sp)):=by simp [kcells]
  have h3:A.length*2+1=(kcells A++[Value.int .u32 c.1]).length:=by rw [List.length_append,xk];rfl
  rw [e1,e2,h3,List.set_append_right _ _ (Nat.le_refl _),Nat.sub_self,List.set_cons_zero]
theorem blank_drop {cs:List Ck} {k:Nat} (hk:k<cs.length):blank (cs.drop k)=((cs.getD k dK).1,⟨#[]⟩)::blank (cs.drop (k+1)):=by
  rw [List.drop_eq_getElem_cons hk,show cs.getD k dK=cs[k] by simp [hk]];rfl
theorem fill_step {cs:List Ck} {sp:List Value} {k:Nat} (hk:k<cs.length):(kcells (cs.take k++blank (cs.drop k))++sp).set (0+k*2+1) (.string (cs.getD k dK).2)=kcells (cs.take (k+1)++blank (cs.drop (k+1)))++sp:=by
  rw [blank_drop hk,Nat.zero_add,kcells_set (by simp;omega),wU (d:=dK) hk]
  simp
def last (cs:List Ck) (k:Nat):Nat:=if k=0 then 0 else (cs.getD (k-1) dK).1
def sizes (cs:List Ck):List Nat:=cs.map fun c=>c.2.size
theorem sizes_length (cs:List Ck):(sizes cs).length=cs.length:=by simp [sizes]
theorem sizes_at {cs:List Ck} {k:Nat} (h:k<cs.length):(sizes cs).getD k 0=(cs.getD k dK).2.size:=by simp [sizes,h]
theorem sp251 (p n:Nat) (q:ByteArray) (cs:List Ck) (hn:cs.length=n) (H:GoodK cs) (hq:q.data.toList=beN 1 n++((List.range n).flatMap (hdrB cs)++(List.range n).flatMap (bodyB cs))):Spec Tryz.prog 251 #[.pointer (some ⟨p,0,none⟩)]
    (fun T=>rdr p q 0::T) (fun r T L=>∃a cap,r=.tuple #[.slice a n cap,.int .i64 0]∧L=kdi a n cap cs::T):=by
  refine spec_of (n:=72) (args:=[.pointer (some ⟨p,0,none⟩)]) Tryz.func251 rfl rfl rfl rfl fun T=>?_;have hlen:=H.len;have htot:=H.tot;have hzz:q.size=1+8*n+tots cs:=by
    have h1:=vq cs n qd;rw [←hn,List.take_length] at h1;rw [x9,hq,List.length_append,List.length_append,qR,yF (zZ cs),←hn,h1];omega
  have e1:(q.extract 0 (0+1)).data.toList=beN 1 n:=w4 (pre:=[]) (suf:=(List.range n).flatMap (hdrB cs)++(List.range n).flatMap (bodyB cs)) (by rw [hq];simp) rfl (by rw [qR]);refine qw (qu (qo (qo (qx (qv (qw (qu ?_)))))));refine qe ?_;refine qC rfl (qH qh (sp96 _ 0 n q qd qd e1 qd) rfl ?_);rintro _ _ ⟨rfl,rfl⟩;refine qe ?_;refine qb (qP rfl) ?_;refine qb (qP rfl) ?_;refine qi ?_;refine qi ?_;refine qx (qv (qw (qw (qu (qe ?_)))));refine wq rfl (wS rfl rfl) qd ?_;refine qx (qv (qB rfl ?_));refine qF (qv (qw (qu (qo (qx (qv (qw ?_)))))));refine qu (qo (qx (qv (qw (qu (qo (qx ?_)))))));refine qv (qw (qw (qu (qe ?_))));refine qb wH ?_;refine qx (qv (qJ (w8 (fun w h=>(wC (E:=241) (k:=2)).sat ((wC (E:=3) (k:=1)).sat h)) ?_)));refine q7 (fun m v L=>∃(k:Nat) (a a2:Option Addr) (cap cap2:Nat),n-k=m∧(∃v0,v=ups v0 [(0,.pointer (some ⟨p,0,none⟩)),(6,.slice a k cap),(7,.slice a2 k cap2),(8,.int .u32 (last cs k)),(22,.int .u8 n),(23,.int .u8 k)])∧(k≤n)∧L=own (.slice a k cap) 241 2 (kcells (blank (cs.take k)))::own (.slice a2 k cap2) 3 1 (ints (sizes (cs.take k)))::rdr p q (1+8*k)::T) _ _ ⟨0,none,none,0,0,rfl,⟨_,At.eq (.cons rfl (.cons rfl (.cons rfl (.cons rfl (.cons rfl (.cons rfl .nil))))))⟩,by omega,rfl⟩ qh ?_;rintro m _ _ ⟨k,a,a2,cap,cap2,rfl,⟨v0,rfl⟩,hk,rfl⟩;refine qw (qu ?_);refine wG rfl (wj rfl rfl) (fun h24=>?_) (fun h24=>?_)
  · have hm:cs.getD k dK∈cs:=w6 qd;have hid:=H.id _ hm;have ht1:=zU cs (k+1);rw [yI qd] at ht1;have hla:last cs k<(cs.getD k dK).1:=by
      unfold last;split
      · exact hid.1
      · exact H.up k qd qd
    obtain ⟨suf,hsuf⟩:=zF (hdrB cs) k (show k<n by omega);have hpl:(beN 1 n++(List.range k).flatMap (hdrB cs)).length=1+8*k:=by rw [List.length_append,qR,yF (zZ cs)]
    have g1:(q.extract (1+8*k) (1+8*k+4)).data.toList=beN 4 (cs.getD k dK).1:=w4 (pre:=beN 1 n++(List.range k).flatMap (hdrB cs)) (suf:=beN 4 (cs.getD k dK).2.size++suf++(List.range n).flatMap (bodyB cs)) (by rw [hq,hsuf,hdrB];simp) hpl.symm (by rw [qR]);have g2:(q.extract (1+8*k+4) (1+8*k+4+4)).data.toList=beN 4 (cs.getD k dK).2.size:=w4 (pre:=beN 1 n++(List.range k).flatMap (hdrB cs)++beN 4 (cs.getD k dK).1) (suf:=suf++(List.range n).flatMap (bodyB cs)) (by rw [hq,hsuf,hdrB];simp) (by rw [List.length_append,hpl,qR]) (by rw [qR]);refine qx (qv (qw (qN rfl ?_)));refine qF (qv (qw (qJ (qw (qu (qe ?_))))));refine qC rfl (qH qh (sp95 _ (1+8*k) (cs.getD k dK).1 q qd qd g1 hid.2) rfl ?_);rintro _ _ ⟨rfl,rfl⟩;refine qe ?_;refine qb (qP rfl) ?_;refine qb (qP rfl) ?_;refine qi ?_;refine qi ?_;refine qx (qv (qw (qu (qe ?_))));refine qC rfl (qH qh (sp95 _ (1+8*k+4) (cs.getD k dK).2.size q qd qd g2 qd) rfl ?_);rintro _ _ ⟨rfl,rfl⟩;refine qe ?_;refine qb (qP rfl) ?_;refine qb (qP rfl) ?_;refine qi ?_;refine qi ?_;refine qx (qv (qw (qw (qu (qe ?_)))));refine qe ?_;refine wq rfl (yi rfl rfl) qd ?_;refine qx (qv (qB rfl ?_));refine qF (qv (qw (qu (qe ?_))));refine qi ?_;refine qx (qv (qw (qu (qe ?_))));refine qe ?_;refine qb (wy (.one qg rfl .nil)) ?_;refine qC rfl (qS rfl (by first | decide | simp) (.agg rfl rfl .nil) fun b42=>?_);simp only [List.append_nil,List.cons_append,List.nil_append];refine qC rfl (wl qg qg qr rfl (by rfl) (by decide) (xc (k:=2) (ys:=[.int .u32 (cs.getD k dK).1,.string ⟨List.toArray []⟩]) rfl) (onesK rfl) (fun _ _ _ h h'=>by cases h;omega) ?_);rintro _ _ _ a43 c43 ⟨⟩;refine qi ?_;refine qx (qv (qu (qe ?_)));refine qe ?_;refine qb (wh rfl rfl (wZ qd)) ?_;refine qC rfl (qS rfl (by first | decide | simp) (.one qg rfl .nil) fun b47=>?_);refine qC rfl (wl qg qg qr rfl (by rfl) (by decide) xG (ones1 rfl) (fun _ _ _ h h'=>by cases h;omega) ?_);rintro _ _ _ a48 c48 ⟨⟩;refine qi ?_;refine qx (qX (qv (qu (qb (j4 (j:=1) rfl rfl rfl rfl rfl) ?_))));refine qe ?_;refine qx ?_;refine qT _ _ ⟨k+1,_,_,_,_,rfl,⟨_,At.eq (.cons rfl (.cons rfl (.cons rfl (.cons (by show Value.int .u32 _=_;rw [last,if_neg qd,Nat.add_sub_cancel]) (.cons rfl (.cons (by show Value.int .u8 _=_;rw [Nat.mod_eq_of_lt (by show _<2^8;omega)]) .nil))))))⟩,by omega,rfl⟩ qd (by rw [show kcells (blank (cs.take (k+1)))=kcells (blank (cs.take k))++[.int .u32 (cs.getD k dK).1,.string ⟨List.toArray []⟩] by rw [wU (d:=dK) qd];simp [blank,kcells],show ints (sizes (cs.take (k+1)))=ints (sizes (cs.take k))++[N64 (cs.getD k dK).2.size] by rw [wU (d:=dK) qd];simp [ints,sizes],show 1+8*(k+1)=1+8*k+4+4 by omega];repeat (first | exact .refl | exact .nil | apply Pm.cons | exact .here | apply Sel.there | apply Pm.drop))
  · obtain rfl:n=k:=by omega
    rw [show cs.take n=cs by rw [←hn];simp];refine jU (s:=.slice a2 n cap2) qr ?_;refine qx (qv (qw (qB rfl ?_)));refine wk ?_;refine qQ (qQ (ww ?_));refine qv (qw (qw (xY (E:=241) (xs:=kcells (blank cs)) qr (by rw [xk,jA];omega) fun b sp ha hl1 hl2=>?_)));subst ha;refine qu (qe ?_);refine qb (qI rfl) ?_;refine qb wH ?_;refine qx (qv (qJ ?_));have e0:kcells (blank cs)=kcells (cs.take 0++blank (cs.drop 0)):=rfl;rw [e0];have e9:1+8*n=1+8*n+tots (cs.take 0):=rfl;rw [e9];refine q7 (fun m v L=>∃(k:Nat),n-k=m∧(∃v0,v=ups v0 [(0,.pointer (some ⟨p,0,none⟩)),(6,.slice (some ⟨b,0,none⟩) n cap),(50,.slice a2 n cap2),(51,.int .i64 n),(52,.int .i64 k)])∧(k≤n)∧L=pt b (cl (kcells (cs.take k++blank (cs.drop k))++sp) 241)::rdi a2 n cap2 (sizes cs)::rdr p q (1+8*n+tots (cs.take k))::T) _ _ ⟨0,rfl,⟨_,At.eq (.cons rfl (.cons rfl (.cons rfl (.cons rfl (.cons rfl .nil)))))⟩,by omega,rfl⟩ qh ?_;rintro m _ _ ⟨k,rfl,⟨v0,rfl⟩,hk,rfl⟩;refine qw (qu ?_);refine wG rfl (wj rfl rfl) (fun h53=>?_) (fun h53=>?_)
    · refine wK (a:=a2) (xs:=ints (sizes cs)) qr (by simp [sizes];omega) fun b9 off l E fz ha hl=>?_;subst ha;have ht1:=zU cs (k+1);rw [yI qd] at ht1;obtain ⟨suf,hsuf⟩:=zF (bodyB cs) k (show k<n by omega);have g3:q.extract (1+8*n+tots (cs.take k)) (1+8*n+tots (cs.take k)+(cs.getD k dK).2.size)=(cs.getD k dK).2:=zm (w4 (pre:=beN 1 n++(List.range n).flatMap (hdrB cs)++(List.range k).flatMap (bodyB cs)) (suf:=suf) (by rw [hq,hsuf];simp only [List.append_assoc];rfl) (by rw [List.length_append,List.length_append,qR,yF (zZ cs),vq cs k qd]) rfl);refine qx (qv (qw (qN rfl ?_)));refine qF (qv (qw (qJ (qw (qu (qe ?_))))));refine qb (wz rfl rfl rfl qd) ?_;refine qb (q8 rfl ((hl _ (by simp [sizes];omega)).trans ((w5 0 (by rw [sizes_length];omega)).trans (by rw [sizes_at qd])))) ?_;refine qi ?_;refine qi ?_;refine qx (qv (qu (qe ?_)));refine qe ?_;refine qe ?_;refine qe ?_;refine qC rfl (qH qh (sp250 _ (1+8*n+tots (cs.take k)) (cs.getD k dK).2.size q qd qd) rfl ?_);rintro _ _ ⟨rfl,rfl⟩;rw [g3];refine qe ?_;refine qb (qP rfl) ?_;refine qb (qP rfl) ?_;refine qb (wN (k:=k) rfl rfl qd qd) ?_;refine qb (xB rfl) ?_;refine q6 (wW rfl qg rfl (by rw [List.length_append,xk,List.length_append,jA,List.length_take,List.length_drop];omega) ?_);refine qx (qX (qv (qu (qb (wa rfl rfl qd) ?_))));refine qe ?_;refine qx ?_;refine qT _ _ ⟨k+1,rfl,⟨_,At.eq (.cons rfl (.cons rfl (.cons rfl (.cons rfl (.cons rfl .nil)))))⟩,by omega,rfl⟩ qd (by rw [←fill_step qd,yI qd,←Nat.add_assoc];repeat (first | exact .refl | exact .nil | apply Pm.cons | exact .here | apply Sel.there | apply Pm.drop))
    · obtain rfl:n=k:=by omega
      rw [show cs.take n=cs by rw [←hn];simp,show cs.drop n=[] by rw [←hn];simp,←hzz];refine qx (qv (qw (qB rfl ?_)));refine wk ?_;refine qQ (qQ (ww ?_));refine qv (qw (qw (qu (qe ?_))));refine qC rfl (qH qh (sp97 _ q qd) rfl ?_);rintro _ _ ⟨rfl,rfl⟩;refine wq rfl (wB rfl rfl) qd ?_;refine qx (qv (qB rfl ?_));refine qF (qv (qw (qu (qe ?_))));refine qi ?_;refine qo (qx (qv (qL ?_)));refine wu rfl rfl (qD qg) (qD qg) _ ⟨_,_,rfl,rfl⟩ (by intro w h;rw [show blank []=[] from rfl,List.append_nil] at h;exact wX ((zx (xs:=kcells cs) (sp:=sp) (k:=2) (E:=241) (by rw [xk];omega) (by rw [xk] at hl1 ⊢;rw [xk,jA] at hl2;omega)).sat (Pm.sat qh w h)))
theorem sp173 (n:Nat) (s:ByteArray) (cs:List Ck) (hn:cs.length=n) (H:GoodK cs) (hs:s.data.toList=chunkB cs):Spec Tryz.prog 173 #[.string s]
    (fun T=>T) (fun r T L=>∃a cap,r=.tuple #[.slice a n cap,.int .i64 0]∧L=kdi a n cap cs::T):=by
  refine spec_of (n:=44) (args:=[.string s]) Tryz.func173 rfl rfl rfl rfl fun T=>?_;have hlen:=H.len;have htot:=H.tot;have hsz:s.size=10+8*n+tots cs:=by rw [x9,hs,kh,hn]
  have hH:(chunk2 cs n).length=6+8*n+tots cs:=by rw [yA cs n qd,hn,←hn,List.take_length]
  have hs':s.data.toList=chunk2 cs n++beN 4 (crc (chunk2 cs n)):=by rw [hs,chunkB,hn]
  have hc2:chunk2 cs n=chunkM.data.toList++(beN 1 n++((List.range n).flatMap (hdrB cs)++(List.range n).flatMap (bodyB cs))):=by rw [chunk2,chunk1,chunk0,hn];simp only [List.append_assoc,List.nil_append]
  have hs2:∀t,chunk2 cs n++t=chunkM.data.toList++((beN 1 n++((List.range n).flatMap (hdrB cs)++(List.range n).flatMap (bodyB cs)))++t):=fun t=>by rw [hc2,List.append_assoc]
  have e0:s.extract 0 5=chunkM:=zm (ka (hs'.trans (hs2 _)) rfl);have e1:(s.extract (s.size-4) s.size).data.toList=beN 4 (crc (chunk2 cs n)):=j9 (pre:=chunk2 cs n) hs' qd;have z1:(s.extract (s.size-4) s.size).size=4:=by rw [x9,e1,qR]
  have e2:((s.extract (s.size-4) s.size).extract 0 (0+4)).data.toList=beN 4 (crc (chunk2 cs n)):=w4 (pre:=[]) (suf:=[]) (by rw [e1];simp) rfl (by rw [qR]);have e3:(s.extract 0 (s.size-4)).data.toList=chunk2 cs n:=ka (suf:=beN 4 (crc (chunk2 cs n))) hs' qd;have e5:(s.extract 5 (s.size-4)).data.toList=beN 1 n++((List.range n).flatMap (hdrB cs)++(List.range n).flatMap (bodyB cs)):=by
    have hl5:(chunk2 cs n).length=5+(beN 1 n++((List.range n).flatMap (hdrB cs)++(List.range n).flatMap (bodyB cs))).length:=by rw [hc2,List.length_append];rfl
    rw [show s.size-4=5+(beN 1 n++((List.range n).flatMap (hdrB cs)++(List.range n).flatMap (bodyB cs))).length by omega];exact w4 (pre:=chunkM.data.toList) (suf:=beN 4 (crc (chunk2 cs n))) (hs'.trans (hs2 _)) rfl rfl
  refine qw (qu (qo (qo (qx (qv (qw (qJ ?_)))))));refine qw (qu (qe ?_));refine qb (wL rfl) ?_;refine wq rfl (wS rfl rfl) qd ?_;refine qi ?_;refine qx (qv (qB rfl ?_));refine qw (qu (qe ?_));refine qb (wL rfl) ?_;refine wq rfl (wj rfl rfl) qd ?_;refine qi ?_;refine qx (qv (qB rfl ?_));refine qw (qu (qe ?_));refine qb (kY rfl rfl (by rfl:_=((5:Nat):Int)) qd e0) ?_;refine wq rfl (zj rfl rfl) (by simp) ?_;refine qi ?_;refine qx (qv (qB rfl ?_));refine qF (qX (qv (qw (qu (qe ?_)))));refine qb (wL rfl) ?_;refine qb (wT rfl rfl qd) ?_;refine qi ?_;refine qx (qv (qw (qw (qu (qe ?_)))));refine qe ?_;refine qb (yc rfl rfl (by omega:_=((s.size-4:Nat):Int)) qd) ?_;refine qC rfl (qH qh (sp94 (s.extract (s.size-4) s.size)) rfl ?_);rintro _ _ ⟨p26,rfl,rfl⟩;refine qC rfl (qH qh (sp95 _ 0 (crc (chunk2 cs n)) _ qd qd e2 (kB _)) rfl ?_);rintro _ _ ⟨rfl,rfl⟩;refine qe ?_;refine qb (qP rfl) ?_;refine qb (qP rfl) ?_;refine qi ?_;refine qi ?_;refine qx (qv (qw (qu (qe ?_))));refine qe ?_;refine qe ?_;refine qb (xV rfl rfl (by omega:_=((s.size-4:Nat):Int)) qd) ?_;refine qC rfl (qS rfl (by first | decide | simp) (.one qg rfl .nil) fun b34=>?_);refine qC rfl (qH qh (sp78 _ _ (by simp;omega)) rfl ?_);rintro _ _ ⟨rfl,rfl⟩;rw [e3];refine wq rfl (wB rfl rfl) (by simp) ?_;refine qx (qv (qB rfl ?_));refine qF (qv (qw (qu (qe ?_))));refine qe ?_;refine qb (zl rfl rfl rfl (by rfl:_=((5:Nat):Int)) (by omega:_=((s.size-4:Nat):Int)) qd qd) ?_;refine qC rfl (qH qh (sp94 (s.extract 5 (s.size-4))) rfl ?_);rintro _ _ ⟨p40,rfl,rfl⟩;refine qC rfl (qH qh (sp251 _ n (s.extract 5 (s.size-4)) cs hn H e5) rfl ?_);rintro _ _ ⟨a,cap,rfl,rfl⟩;refine qb (qP rfl) ?_;refine qb (qP rfl) ?_;refine qi ?_;refine qi ?_;refine qx (qv (qL ?_));refine wu rfl rfl (qD qg) (qD qg) _ ⟨a,cap,rfl,rfl⟩ qm
end
section
open Go
set_option maxRecDepth 4000
structure Rw where
  a:Option Addr
  cap:Nat
  ps:List Nat
  tree:Nat
  gen:Nat
  fk:Nat
  fb:ByteArray
abbrev dR:Rw:=⟨none,0,[],0,0,0,⟨#[]⟩⟩
abbrev rl (r:Rw):List Value:=[.slice r.a r.ps.length r.cap,.int .i64 r.tree,.int .i64 r.gen,.int .i64 r.fk,.string r.fb]
abbrev rv (r:Rw):Value:=.agg (rl r).toArray
def rcells (rs:List Rw):List Value:=rs.flatMap rl
theorem yl:∀rs,(rcells rs).length=rs.length*5
  | []=>rfl
  | e::es=>by
    have:=yl es;simp only [rcells,List.flatMap_cons,List.length_append,List.length_cons,List.length_nil] at this ⊢;omega
theorem jb (a b:List Rw):rcells (a++b)=rcells a++rcells b:=by simp [rcells]
theorem rcells_at:∀(rs:List Rw) (k j:Nat),k<rs.length→j<5→(rcells rs)[k*5+j]?=(rl (rs.getD k dR))[j]?
  | c::cs,0,j,_,hj=>by
    rcases j with _ | _ | _ | _ | _ | j
    · rfl
    · rfl
    · rfl
    · rfl
    · rfl
    · omega
  | c::cs,k+1,j,h,hj=>by
    have:=rcells_at cs k j (by simpa using h) hj;rw [show (k+1)*5+j=k*5+j+1+1+1+1+1 by omega];exact this
theorem rat5 {rs:List Rw} {l:List Value} {off k:Nat} (hl:∀i,i<(rcells rs).length→l[off+i]?=(rcells rs)[i]?) (hk:k<rs.length):∀j,j<5→l[off+k*5+j]?=(rl (rs.getD k dR))[j]?:=fun j hj=>by
  rw [Nat.add_assoc,hl _ (by rw [yl];omega)];exact rcells_at rs k j hk hj
theorem rcells_snoc {es:List Rw} {k:Nat} (hk:k<es.length):rcells (es.take (k+1))=rcells (es.take k)++rl (es.getD k dR):=by
  rw [wU (d:=dR) hk,jb];simp [rcells]
theorem rcells_ones (es:List Rw):∀y∈rcells es,Value.one y=true:=by
  intro y hy;obtain ⟨e,_,he⟩:=List.mem_flatMap.1 hy;simp only [List.mem_cons,List.not_mem_nil,or_false] at he;rcases he with rfl | rfl | rfl | rfl | rfl<;>rfl
abbrev rpar (r:Rw):HProp:=rdi r.a r.ps.length r.cap r.ps
def pars (rs:List Rw):HProp:=box (rs.map rpar)
abbrev gdi (a:Option Addr) (n cap:Nat) (rs:List Rw):HProp:=rds (.slice a n cap) 5 (rcells rs)
theorem sat_par {rs:List Rw} {k:Nat} {L Lr:List HProp} {w:World} (hsel:Sel L (pars rs) Lr) (hk:k<rs.length) (h:Sat L w):Sat (rpar (rs.getD k dR)::L) w:=by
  have h1:=wF.sat (hsel.ent.sat h);have e:rs=rs.take k++rs.getD k dR::rs.drop (k+1):=by simp [hk]
  have h2:Sel (rs.map rpar++Lr) (rpar (rs.getD k dR)) ((rs.take k).map rpar++((rs.drop (k+1)).map rpar++Lr)):=by
    have:=zo (A:=rpar (rs.getD k dR)) (M:=(rs.drop (k+1)).map rpar++Lr) ((rs.take k).map rpar);have e2:rs.map rpar++Lr=(rs.take k).map rpar++rpar (rs.getD k dR)::((rs.drop (k+1)).map rpar++Lr):=by
      conv=>lhs;rw [e]
      simp only [List.map_append,List.map_cons,List.append_assoc,List.cons_append]
    rw [e2];exact this
  have h3:=xM h2 h1;exact (hsel.back.cons).sat ((wi.cons).sat h3)
section
variable {P:Program} {n:Nat} {ds:List Deferred} {Q:Ky} {v:Env} {L Lr:List HProp} {rs:List Rw} {k:Nat} {l ops:List Oper}
theorem wx_par {c:Code} (hsel:Sel L (pars rs) Lr) (hk:k<rs.length) (h:wpx P n ds c Q v (rpar (rs.getD k dR)::L)):wpx P n ds c Q v L:=w8 (fun _ hw=>sat_par hsel hk hw) h
theorem wl_par (hsel:Sel L (pars rs) Lr) (hk:k<rs.length) (h:wpl P n ds ops Q l v (rpar (rs.getD k dR)::L)):wpl P n ds ops Q l v L:=wE (fun _ hw=>sat_par hsel hk hw) h
end
structure GoodR (c:Nat) (r:Rw):Prop where
  len:r.ps.length≤16
  tree:r.tree<65536
  gen:1≤r.gen∧r.gen≤1023
  par:∀p∈r.ps,p<c
  nodup:r.ps.Nodup
  fil:GoodF r.fk r.fb
structure GoodG (base:Nat) (rs:List Rw):Prop where
  len:base+rs.length≤1000
  row:∀k,k<rs.length→GoodR (base+k) (rs.getD k dR)
theorem sp298 (k:Nat) (s:ByteArray) (H:GoodF k s):Spec Tryz.prog 298 #[.agg #[.int .i64 k,.string s]]
    (fun T=>T) (fun r T L=>r=.bool true∧L=T):=by
  refine spec_of (n:=22) (args:=[.agg #[.int .i64 k,.string s]]) Tryz.func298 rfl rfl rfl rfl fun T=>?_;have hk:k=1∧1≤s.size∧s.size≤3∨k=2∧s=⟨#[]⟩:=H;refine qw (qu ?_);refine qC rfl (wx rfl fun b1=>?_);refine qo (qx (qv (qw (qw (qu (qb (qE rfl) ?_))))));refine qb (qA rfl) ?_;refine qx (qv (qJ (qw (qw (qu (wq rfl (wA rfl rfl) qd ?_))))));refine qi ?_;refine qx (qv (qB rfl ?_));refine qu ?_;refine wG rfl (wA rfl rfl) (fun h7=>?_) (fun h7=>?_)
  · refine qi ?_;refine qx (qv (qN rfl ?_));refine qw (qu (qb (qE rfl) ?_));refine qb (qA rfl) ?_;refine xb rfl (jJ rfl rfl) (by rcases hk with ⟨h,_⟩ | ⟨_,h⟩;omega;exact h) ?_;refine qi ?_;refine qx (qv (qL ?_));refine wQ (wt ?_);refine qM rfl rfl (qD qg) _ ⟨rfl,rfl⟩ qm
  · refine qi ?_;refine qx (qv (qB rfl ?_));refine qw (qu (xb rfl (wA rfl rfl) qd ?_));refine qi ?_;refine qx (qv (qN rfl ?_));refine qw (qu (qb (qE rfl) ?_));refine qb (qA rfl) ?_;refine xb rfl (zj rfl rfl) (by rcases hk with ⟨_,h,_⟩ | ⟨h,_⟩;intro e;rw [e] at h;exact absurd h (by decide);omega) ?_;refine qe ?_;refine qq (qE rfl) ?_;refine qq (qA rfl) ?_;refine qq (wL rfl) ?_;refine yq (qG rfl rfl rfl rfl) rfl (yi rfl rfl) qd ?_;refine qb (q9 rfl qg) ?_;refine qi ?_;refine qx (qv (qL ?_));refine wQ (wt ?_);refine qM rfl rfl (qD qg) _ ⟨rfl,rfl⟩ qm
theorem sp231 (c:Nat) (g:Rw) (hc:c≤65536) (H:GoodR c g):Spec Tryz.prog 231 #[rv g,.int .i64 c]
    (fun T=>rpar g::T) (fun r T L=>r=.bool true∧L=rpar g::T):=by
  refine spec_of (n:=58) (args:=[rv g,.int .i64 c]) Tryz.func231 rfl rfl rfl rfl fun T=>?_;have hlen:=H.len;have htr:=H.tree;have hge:=H.gen;refine yg (zh qr) fun hcap=>?_;refine qw (qu ?_);refine qC rfl (wx rfl fun b2=>?_);refine qo (qx (qv (qw (qw (qu (qb (qE rfl) ?_))))));refine qb (qA rfl) ?_;refine qb (qI rfl) ?_;refine wq rfl (wS rfl rfl) qd ?_;refine qe ?_;refine qq (qE rfl) ?_;refine qq (qA rfl) ?_;refine wR (qG rfl rfl rfl rfl) rfl (wj rfl rfl) qd ?_;refine qb (qW rfl qg) ?_;refine qe ?_;refine qq (qE rfl) ?_;refine qq (qA rfl) ?_;refine wR (qG rfl rfl rfl rfl) rfl (w9 rfl rfl) qd ?_;refine qb (qW rfl qg) ?_;refine qe ?_;refine qq (qE rfl) ?_;refine qq (qA rfl) ?_;refine wR (qG rfl rfl rfl rfl) rfl (wj rfl rfl) qd ?_;refine qb (qW rfl qg) ?_;refine qe ?_;refine qq (qE rfl) ?_;refine qq (qA rfl) ?_;refine wR (qG rfl rfl rfl rfl) rfl (wS rfl rfl) qd ?_;refine qb (qW rfl qg) ?_;refine qx (qv (qB rfl ?_));refine qF (qv (qw (qw (qu (qb (qE rfl) ?_)))));refine qb (qA rfl) ?_;refine qb (qI rfl) ?_;refine qb wH ?_;refine qx (qv (qJ (q7 (fun m v L=>∃(k:Nat),g.ps.length-k=m∧(∃v0,v=ups v0 [(1,.int .i64 c),(2,.pointer (some ⟨b2,0,none⟩)),(32,.slice g.a g.ps.length g.cap),(33,.int .i64 g.ps.length),(34,.int .i64 k)])∧(k≤g.ps.length)∧L=pt b2 (cl (rl g) 180)::rpar g::T) _ _ ⟨0,rfl,⟨_,At.eq (.cons rfl (.cons rfl (.cons rfl (.cons rfl (.cons rfl .nil)))))⟩,by omega,rfl⟩ qh ?_)));rintro m _ _ ⟨k,rfl,⟨v0,rfl⟩,hk,rfl⟩;refine qw (qu ?_);refine wG rfl (wj rfl rfl) (fun h35=>?_) (fun h35=>?_)
  · have hpk:=H.par _ (w6 (d:=0) (show k<g.ps.length by omega));refine wK (a:=g.a) (xs:=ints g.ps) qr (by simp;omega) fun b off l E fz ha hl=>?_;rw [ha];refine qx (qv (qw (qN rfl ?_)));refine qF (qv (qw (qJ (qw (qu (qe ?_))))));refine qb (wz rfl rfl rfl qd) ?_;refine qb (q8 rfl ((hl _ (by simp;omega)).trans (w5 0 qd))) ?_;refine qi ?_;refine qi ?_;refine qx (qv (qw (qu (qe ?_))));refine wq rfl (wj rfl rfl) qd ?_;refine qe ?_;refine qq (qK qg) ?_;refine qq (qK qg) ?_;refine wR (qG rfl rfl rfl rfl) rfl (w9 rfl rfl) qd ?_;refine qb (qW rfl qg) ?_;refine qe ?_;refine qq (qE rfl) ?_;refine qq (qA rfl) ?_;refine qq (qK qg) ?_;refine qq (xW rfl rfl rfl qd) ?_;refine wE (fun w h=>kK (k:=k) (ps:=g.ps) qr qd h) ?_;refine qq (qK qg) ?_;refine xr (qG rfl rfl rfl rfl) rfl (qH qh (sp229 _ k _ _ (g.ps.take k) (by simp;omega) qd) rfl ?_);rintro _ _ ⟨rfl,rfl⟩;rw [decide_eq_false (kr H.nodup qd)];refine qb (qW rfl qg) ?_;refine qx (qv (qB rfl ?_));refine qF (qX (qv (qu (qb (wa rfl rfl qd) ?_))));refine qe ?_;refine qx ?_;refine qT _ _ ⟨k+1,rfl,⟨_,At.eq (.cons rfl (.cons rfl (.cons rfl (.cons rfl (.cons rfl .nil)))))⟩,by omega,rfl⟩ qd qh
  · refine qx (qv (qw (qB rfl ?_)));refine wk ?_;refine qQ (qQ (ww ?_));refine qv (qw (qu (qb (qE rfl) ?_)));refine qb (wm rfl) ?_;refine qC rfl (qH qh (sp298 g.fk g.fb H.fil) rfl ?_);rintro _ _ ⟨rfl,rfl⟩;refine qi ?_;refine qx (qv (qL ?_));refine qM rfl rfl (qD qg) _ ⟨rfl,rfl⟩ qm
end
section
open Go
set_option maxRecDepth 4000
abbrev gl (base:Nat) (a:Option Addr) (n cap:Nat):List Value:=[.int .i64 base,.int .i64 3,.int .i64 10,.int .i64 2,.int .u32 7,.slice a n cap]
abbrev gv (base:Nat) (a:Option Addr) (n cap:Nat):Value:=.agg (gl base a n cap).toArray
def more (ps:List Nat):List UInt8:=if 2<ps.length then ((ps.drop 1).take (ps.length-2)).flatMap (beN 4)++beN 4 (ps.getD (ps.length-1) 0+2147483648) else []
def second (ps:List Nat) (w:Nat):Nat:=if 2<ps.length then 2147483648+w/4 else if ps.length=2 then ps.getD 1 0 else 4294967295
def first (ps:List Nat):Nat:=if 0<ps.length then ps.getD 0 0 else 4294967295
def rowB (g:Rw) (w:Nat):List UInt8:=beN 4 g.tree++beN 4 (first g.ps)++beN 4 (second g.ps w)++beN 2 g.gen++beN 1 g.fk
theorem rowB_length (g:Rw) (w:Nat):(rowB g w).length=15:=by simp [rowB,qR]
def mid (ps:List Nat):List Nat:=(ps.drop 1).take (ps.length-1-1)
theorem x8 (ps:List Nat):(mid ps).length=ps.length-1-1:=by unfold mid;rw [List.length_take,List.length_drop];omega
theorem mid_lt {ps:List Nat} {B k:Nat} (h:∀j,j<ps.length→ps.getD j 0<B) (hk:k<(mid ps).length):(mid ps).getD k 0<B:=by
  have h1:=w6 (d:=0) hk;have h2:(mid ps).getD k 0∈ps:=List.mem_of_mem_drop (List.mem_of_mem_take h1);obtain ⟨i,hi,e⟩:=List.getElem_of_mem h2;have:=h i hi;rw [List.getD_eq_getElem?_getD,List.getElem?_eq_getElem hi] at this;rw [←e];exact this
theorem sat_mid {L Lr:List HProp} {a:Option Addr} {n cap:Nat} {ps:List Nat} (hsel:Sel L (rdi a n cap ps) Lr) (hn:1≤n) {w:World} (h:Sat L w) (hl:ps.length=n:=by rfl):Sat (rdi (fro a cap 1 1) (n-1-1) (cap-1) (mid ps)::L) w:=by
  have h1:=xn hsel hn h;have h2:=zq (m:=n-1-1) qd h1;rw [Nat.mul_one,Nat.mul_one,←List.map_drop,←List.map_take] at h2;rw [mid,hl];exact h2
theorem jL (ps:List Nat):(more ps).length=if 2<ps.length then 4*(ps.length-1) else 0:=by
  unfold more;split
  · rw [List.length_append,jR,qR];simp;omega
  · rfl
theorem sp142 (base n cap:Nat) (a:Option Addr) (rs:List Rw) (hn:rs.length=n) (H:GoodG base rs):Spec Tryz.prog 142 #[gv base a n cap]
    (fun T=>gdi a n cap rs::pars rs::T) (fun r T L=>r=.int .i64 0∧L=gdi a n cap rs::pars rs::T):=by
  refine spec_of (n:=41) (args:=[gv base a n cap]) Tryz.func142 rfl rfl rfl rfl fun T=>?_;have hlen:=H.len;refine qw (qu ?_);refine qC rfl (wx rfl fun b1=>?_);refine qo (qx (qv (qw (qw (qu (qb (qE rfl) ?_))))));refine qb (qA rfl) ?_;refine wq rfl (wj rfl rfl) qd ?_;refine qe ?_;refine qq (qE rfl) ?_;refine qq (qA rfl) ?_;refine wR (qG rfl rfl rfl rfl) rfl (wS rfl rfl) qd ?_;refine qb (qW rfl qg) ?_;refine qe ?_;refine qq (qE rfl) ?_;refine qq (qA rfl) ?_;refine qq (qI rfl) ?_;refine qq (qE rfl) ?_;refine qq (qA rfl) ?_;refine qq (wT rfl rfl qd) ?_;refine wR (qG rfl rfl rfl rfl) rfl (wS rfl rfl) qd ?_;refine qb (qW rfl qg) ?_;refine qx (qv (qB rfl ?_));refine qF (qv (qw (qw (qu (qb (qE rfl) ?_)))));refine qb (qA rfl) ?_;refine qb (qI rfl) ?_;refine qb wH ?_;refine qx (qv (qJ (q7 (fun m v L=>∃(k:Nat),n-k=m∧(∃v0,v=ups v0 [(1,.pointer (some ⟨b1,0,none⟩)),(23,.slice a n cap),(24,.int .i64 n),(25,.int .i64 k)])∧(k≤n)∧L=pt b1 (cl (gl base a n cap) 110)::gdi a n cap rs::pars rs::T) _ _ ⟨0,rfl,⟨_,At.eq (.cons rfl (.cons rfl (.cons rfl (.cons rfl .nil))))⟩,by omega,rfl⟩ qh ?_)));rintro m _ _ ⟨k,rfl,⟨v0,rfl⟩,hk,rfl⟩;refine qw (qu ?_);refine wG rfl (wj rfl rfl) (fun h26=>?_) (fun h26=>?_)
  · refine wK (a:=a) (xs:=rcells rs) qr (by rw [yl];omega) fun b off l E fz ha hl=>?_;subst ha;refine qx (qv (qw (qN rfl ?_)));refine qF (qv (qw (qJ (qw (qu (qe ?_))))));refine qb (wN rfl rfl rfl qd) ?_;refine qb (wD (rs:=rl (rs.getD k dR)) rfl rfl (rat5 hl qd)) ?_;refine qC rfl (qZ fun b4=>?_);refine qi ?_;refine q6 (wc rfl rfl rfl rfl ?_);refine qx (qv (qw (qu (qb (wm rfl) ?_))));refine qb (qE rfl) ?_;refine qb (qA rfl) ?_;refine qe ?_;refine qb (wa rfl rfl qd) ?_;rw [show ((base:Int)+(k:Int))=((base+k:Nat):Int) by omega];refine wl_par (k:=k) qr qd ?_;refine qC rfl (qH qh (sp231 (base+k) (rs.getD k dR) qd (H.row k qd)) rfl ?_);rintro _ _ ⟨rfl,rfl⟩;refine qb (xe rfl) ?_;refine qx (qv (qB rfl ?_));refine qF (qX (qv (qu (qb (wa rfl rfl qd) ?_))));refine qe ?_;refine qx ?_;refine qT _ _ ⟨k+1,rfl,⟨_,At.eq (.cons rfl (.cons rfl (.cons rfl (.cons rfl .nil))))⟩,by omega,rfl⟩ qd qh
  · refine qx (qv (qw (qB rfl ?_)));refine wk ?_;refine qQ (qQ (ww ?_));refine qv (qw (qu (qb (qE rfl) ?_)));refine qb (wm rfl) ?_;refine qC rfl (qH qh (sp57) rfl ?_);rintro _ _ ⟨rfl,rfl⟩;refine qi ?_;refine qx (qv (qL ?_));refine qM rfl rfl (qD qg) _ ⟨rfl,rfl⟩ qm
theorem sp143 (pa pb c:Nat) (g:Rw) (A B:List UInt8) (hc:c≤65536) (H:GoodR c g) (hA:A.length≤10000000) (hB:B.length≤10000000):Spec Tryz.prog 143 #[.pointer (some ⟨pa,0,none⟩),.pointer (some ⟨pb,0,none⟩),rv g]
    (fun T=>wr pa A::wr pb B::rpar g::T) (fun r T L=>r=.tuple #[]∧L=wr pa (A++rowB g B.length)::wr pb (B++more g.ps)::T):=by
  refine spec_of (n:=86) (args:=[.pointer (some ⟨pa,0,none⟩),.pointer (some ⟨pb,0,none⟩),rv g]) Tryz.func143 rfl rfl rfl rfl fun T=>?_;have hlen:=H.len;have htr:=H.tree;have hge:=H.gen;have hfk:g.fk≤2:=by have:=H.fil;unfold GoodF at this;omega
  have hpar:∀j,j<g.ps.length→g.ps.getD j 0<65536:=fun j hj=>by have:=H.par _ (w6 (d:=0) hj);omega
  refine yg (zh qr) fun hcap=>?_;refine qw (qu ?_);refine qC rfl (wx rfl fun b5=>?_);refine qx (qv (qw (qu (qo (qo (qx (qv ?_)))))));refine qw (qw (qu (qb (qE rfl) ?_)));refine qb (qA rfl) ?_;refine qb (qI rfl) ?_;refine qi ?_;refine qx (qv (qJ (qw (qu (qe ?_)))));refine wG rfl (wS rfl rfl) (fun h16=>?_) (fun h16=>?_)
  · have hse:second g.ps B.length=2147483648+B.length/4:=by unfold second;rw [if_pos qd]
    have hmo:more g.ps=(mid g.ps).flatMap (beN 4)++beN 4 (g.ps.getD (g.ps.length-1) 0+2147483648):=by unfold more;rw [if_pos qd];rfl
    have hfi:first g.ps=g.ps.getD 0 0:=by unfold first;rw [if_pos qd]
    refine qi ?_;refine qx (qv (qN rfl ?_));refine qw (qu (qe ?_));refine qC rfl (qH qh (sp144 _ B) rfl ?_);rintro _ _ ⟨rfl,rfl⟩;refine qb (yU (m:=B.length) (j:=4) rfl rfl rfl (by decide) qd (wZ qd)) ?_;refine qb (wh rfl rfl (xw qd)) ?_;refine qb (zO (m:=2147483648) (j:=B.length/4) (q:=2147483648+B.length/4) rfl rfl rfl rfl rfl (Nat.mod_eq_of_lt (by show _<2^32;omega))) ?_;refine qi ?_;refine qx (qv (qw (qw (qu (qb (qE rfl) ?_)))));refine qb (qA rfl) ?_;refine qe ?_;refine qb (wT rfl rfl qd) ?_;refine qb (qt_slice_part rfl rfl rfl (by rfl:_=((1:Nat):Int)) (by omega:_=((g.ps.length-1:Nat):Int)) qd qd) ?_;refine wE (fun w h=>sat_mid qr qd h) ?_;refine qb (qI rfl) ?_;refine qb wH ?_;refine qx (qv (qJ ?_));rw [show wr pb B=wr pb (B++((mid g.ps).take 0).flatMap (beN 4)) by simp];refine q7 (fun m v L=>∃(k:Nat),g.ps.length-k=m∧(∃v0,v=ups v0 [(0,.pointer (some ⟨pa,0,none⟩)),(1,.pointer (some ⟨pb,0,none⟩)),(5,.pointer (some ⟨b5,0,none⟩)),(6,.int .u32 4294967295),(7,.int .u32 (2147483648+B.length/4:Nat)),(8,.int .i64 g.ps.length),(26,.slice (fro g.a g.cap 1 1) (g.ps.length-1-1) (g.cap-1)),(27,.int .i64 (g.ps.length-1-1:Nat)),(28,.int .i64 k)])∧(k≤g.ps.length-1-1)∧L=wr pb (B++((mid g.ps).take k).flatMap (beN 4))::rdi (fro g.a g.cap 1 1) (g.ps.length-1-1) (g.cap-1) (mid g.ps)::pt b5 (cl (rl g) 180)::wr pa A::rpar g::T) _ _ ⟨0,rfl,⟨_,At.eq (.cons rfl (.cons rfl (.cons rfl (.cons rfl (.cons rfl (.cons rfl (.cons rfl (.cons rfl (.cons rfl .nil)))))))))⟩,by omega,rfl⟩ qh ?_;rintro m _ _ ⟨k,rfl,⟨v0,rfl⟩,hk,rfl⟩;refine qw (qu ?_);refine wG rfl (wj rfl rfl) (fun h29=>?_) (fun h29=>?_)
    · have hpk:(mid g.ps).getD k 0<65536:=mid_lt hpar (by rw [x8];omega);refine wK (a:=fro g.a g.cap 1 1) (xs:=ints (mid g.ps)) qr (by rw [List.length_map,x8];omega) fun b off l E fz ha hl=>?_;rw [ha];refine qx (qv (qw (qN rfl ?_)));refine qF (qv (qw (qJ (qw (qu (qb (wz rfl rfl rfl qd) ?_))))));refine qb (q8 rfl ((hl k (by rw [List.length_map,x8];omega)).trans (w5 (l:=mid g.ps) (k:=k) 0 (by rw [x8];omega)))) ?_;refine qi ?_;refine qx (qv (qu (qe ?_)));refine qe ?_;refine qb (wh rfl rfl (xw qd)) ?_;refine qC rfl (qH qh (sp133 _ ((mid g.ps).getD k 0) _ qd (by rw [List.length_append,jR,List.length_take,x8];omega)) rfl ?_);rintro _ _ ⟨rfl,rfl⟩;refine qx (qX (qv (qu (qb (wa rfl rfl qd) ?_))));refine qe ?_;refine qx ?_;refine qT _ _ ⟨k+1,rfl,⟨_,At.eq (.cons rfl (.cons rfl (.cons rfl (.cons rfl (.cons rfl (.cons rfl (.cons rfl (.cons rfl (.cons rfl .nil)))))))))⟩,by omega,rfl⟩ qd (by rw [fm_take (by rw [x8];omega),←List.append_assoc];repeat (first | exact .refl | exact .nil | apply Pm.cons | exact .here | apply Sel.there | apply Pm.drop))
    · have hkk:k=(mid g.ps).length:=by rw [x8];omega
      rw [hkk,List.take_length];refine qx (qv (qw (qB rfl ?_)));refine wk ?_;refine qQ (qQ (ww ?_));refine qv (qu (qe ?_));refine qb (qE rfl) ?_;refine qb (qA rfl) ?_;refine qe ?_;refine qb (wT rfl rfl qd) ?_;refine wK (a:=g.a) (xs:=ints g.ps) qr (by simp;omega) fun b off l E fz ha hl=>?_;rw [ha];refine qb (wz (k:=(g.ps.length-1)) rfl rfl qd qd) ?_;refine qb (q8 rfl ((hl (g.ps.length-1) (by simp;omega)).trans (w5 (l:=g.ps) (k:=g.ps.length-1) 0 qd))) ?_;refine qb (wh rfl rfl (xw (by have:=hpar (g.ps.length-1) qd;omega))) ?_;refine qb (zO (m:=g.ps.getD (g.ps.length-1) 0) (j:=2147483648) (q:=g.ps.getD (g.ps.length-1) 0+2147483648) rfl rfl rfl rfl rfl (Nat.mod_eq_of_lt (by have:=hpar (g.ps.length-1) qd;show _<2^32;omega))) ?_;refine qC rfl (qH qh (sp133 _ (g.ps.getD (g.ps.length-1) 0+2147483648) _ (by have:=hpar (g.ps.length-1) qd;omega) (by rw [List.length_append,jR];have:=x8 g.ps;omega)) rfl ?_);rintro _ _ ⟨rfl,rfl⟩;refine qx (qX (qv (qw (qw (qu (qb (qE rfl) ?_))))));refine qb (qA rfl) ?_;refine qb (qI rfl) ?_;refine xb rfl (wS rfl rfl) qd ?_;refine qx (qv (qN rfl ?_));refine qu (qb (qE rfl) ?_);refine qb (qA rfl) ?_;refine wK (a:=g.a) (xs:=ints g.ps) qr (by simp;omega) fun b off l E fz ha hl=>?_;rw [ha];refine qb (wz (k:=0) rfl rfl qd qd) ?_;refine qb (q8 rfl ((hl 0 (by simp;omega)).trans (w5 (l:=g.ps) (k:=0) 0 qd))) ?_;refine qb (wh rfl rfl (xw (by have:=hpar 0 qd;omega))) ?_;refine qi ?_;refine qx (qv (qw (qu (qe ?_))));refine qb (qE rfl) ?_;refine qb (qA rfl) ?_;refine qb (wh rfl rfl (xw qd)) ?_;refine qC rfl (qH qh (sp133 _ g.tree _ qd qd) rfl ?_);rintro _ _ ⟨rfl,rfl⟩;refine qx (qv (qw (qu (qe ?_))));refine qe ?_;refine qC rfl (qH qh (sp133 _ (g.ps.getD 0 0) _ (by have:=hpar 0 qd;omega) (by rw [List.length_append,qR];omega)) rfl ?_);rintro _ _ ⟨rfl,rfl⟩;refine qx (qv (qw (qu (qe ?_))));refine qe ?_;refine qC rfl (qH qh (sp133 _ (2147483648+B.length/4) _ qd (by rw [List.length_append,List.length_append,qR,qR];omega)) rfl ?_);rintro _ _ ⟨rfl,rfl⟩;refine qx (qv (qw (qu (qe ?_))));refine qb (qE rfl) ?_;refine qb (qA rfl) ?_;refine qb (wh rfl rfl (j7 qd)) ?_;refine qC rfl (qH qh (sp130 _ g.gen _ qd (by simp only [List.length_append,qR];omega)) rfl ?_);rintro _ _ ⟨rfl,rfl⟩;refine qx (qv (qu (qe ?_)));refine qb (qE rfl) ?_;refine qb (xB rfl) ?_;refine qb (qA rfl) ?_;refine qb (wh rfl rfl (yG qd)) ?_;refine qC rfl (qH qh (sp132 _ g.fk _ qd (by simp only [List.length_append,qR];omega)) rfl ?_);rintro _ _ ⟨rfl,rfl⟩;refine qx ?_;refine wM rfl rfl _ ⟨rfl,rfl⟩ (by rw [rowB,hse,hfi,hmo];simp only [←List.append_assoc,List.append_nil];exact Pm.sat qh)
  · have hmo:more g.ps=[]:=by unfold more;rw [if_neg qd]
    refine qi ?_;refine qx (qv (qB rfl ?_));refine qw (qu (qe ?_));refine wG rfl (wA rfl rfl) (fun h49=>?_) (fun h49=>?_)
    · have hse:second g.ps B.length=g.ps.getD 1 0:=by unfold second;rw [if_neg qd,if_pos qd]
      have hfi:first g.ps=g.ps.getD 0 0:=by unfold first;rw [if_pos qd]
      refine qi ?_;refine qx (qv (qN rfl ?_));refine qu (qb (qE rfl) ?_);refine qb (qA rfl) ?_;refine wK (a:=g.a) (xs:=ints g.ps) qr (by simp;omega) fun b off l E fz ha hl=>?_;rw [ha];refine qb (wz (k:=1) rfl rfl qd qd) ?_;refine qb (q8 rfl ((hl 1 (by simp;omega)).trans (w5 (l:=g.ps) (k:=1) 0 qd))) ?_;refine qb (wh rfl rfl (xw (by have:=hpar 1 qd;omega))) ?_;refine qi ?_;refine qx (qX (qv (qw (qw (qu (qb (qE rfl) ?_))))));refine qb (qA rfl) ?_;refine qb (qI rfl) ?_;refine xb rfl (wS rfl rfl) qd ?_;refine qx (qv (qN rfl ?_));refine qu (qb (qE rfl) ?_);refine qb (qA rfl) ?_;refine wK (a:=g.a) (xs:=ints g.ps) qr (by simp;omega) fun b off l E fz ha hl=>?_;rw [ha];refine qb (wz (k:=0) rfl rfl qd qd) ?_;refine qb (q8 rfl ((hl 0 (by simp;omega)).trans (w5 (l:=g.ps) (k:=0) 0 qd))) ?_;refine qb (wh rfl rfl (xw (by have:=hpar 0 qd;omega))) ?_;refine qi ?_;refine qx (qv (qw (qu (qe ?_))));refine qb (qE rfl) ?_;refine qb (qA rfl) ?_;refine qb (wh rfl rfl (xw qd)) ?_;refine qC rfl (qH qh (sp133 _ g.tree _ qd qd) rfl ?_);rintro _ _ ⟨rfl,rfl⟩;refine qx (qv (qw (qu (qe ?_))));refine qe ?_;refine qC rfl (qH qh (sp133 _ (g.ps.getD 0 0) _ (by have:=hpar 0 qd;omega) (by rw [List.length_append,qR];omega)) rfl ?_);rintro _ _ ⟨rfl,rfl⟩;refine qx (qv (qw (qu (qe ?_))));refine qe ?_;refine qC rfl (qH qh (sp133 _ (g.ps.getD 1 0) _ (by have:=hpar 1 qd;omega) (by rw [List.length_append,List.length_append,qR,qR];omega)) rfl ?_);rintro _ _ ⟨rfl,rfl⟩;refine qx (qv (qw (qu (qe ?_))));refine qb (qE rfl) ?_;refine qb (qA rfl) ?_;refine qb (wh rfl rfl (j7 qd)) ?_;refine qC rfl (qH qh (sp130 _ g.gen _ qd (by simp only [List.length_append,qR];omega)) rfl ?_);rintro _ _ ⟨rfl,rfl⟩;refine qx (qv (qu (qe ?_)));refine qb (qE rfl) ?_;refine qb (xB rfl) ?_;refine qb (qA rfl) ?_;refine qb (wh rfl rfl (yG qd)) ?_;refine qC rfl (qH qh (sp132 _ g.fk _ qd (by simp only [List.length_append,qR];omega)) rfl ?_);rintro _ _ ⟨rfl,rfl⟩;refine qx ?_;refine wM rfl rfl _ ⟨rfl,rfl⟩ (by rw [rowB,hse,hfi,hmo];simp only [←List.append_assoc,List.append_nil];exact Pm.sat qh)
    · have hse:second g.ps B.length=4294967295:=by unfold second;rw [if_neg qd,if_neg qd]
      refine qi ?_;refine qx (qv (qB rfl ?_));refine qF (qX (qv (qw (qw (qu (qb (qE rfl) ?_))))));refine qb (qA rfl) ?_;refine qb (qI rfl) ?_;refine wG rfl (wS rfl rfl) (fun h58=>?_) (fun h58=>?_)
      · have hfi:first g.ps=g.ps.getD 0 0:=by unfold first;rw [if_pos qd]
        refine qx (qv (qN rfl ?_));refine qu (qb (qE rfl) ?_);refine qb (qA rfl) ?_;refine wK (a:=g.a) (xs:=ints g.ps) qr (by simp;omega) fun b off l E fz ha hl=>?_;rw [ha];refine qb (wz (k:=0) rfl rfl qd qd) ?_;refine qb (q8 rfl ((hl 0 (by simp;omega)).trans (w5 (l:=g.ps) (k:=0) 0 qd))) ?_;refine qb (wh rfl rfl (xw (by have:=hpar 0 qd;omega))) ?_;refine qi ?_;refine qx (qv (qw (qu (qe ?_))));refine qb (qE rfl) ?_;refine qb (qA rfl) ?_;refine qb (wh rfl rfl (xw qd)) ?_;refine qC rfl (qH qh (sp133 _ g.tree _ qd qd) rfl ?_);rintro _ _ ⟨rfl,rfl⟩;refine qx (qv (qw (qu (qe ?_))));refine qe ?_;refine qC rfl (qH qh (sp133 _ (g.ps.getD 0 0) _ (by have:=hpar 0 qd;omega) (by rw [List.length_append,qR];omega)) rfl ?_);rintro _ _ ⟨rfl,rfl⟩;refine qx (qv (qw (qu (qe ?_))));refine qe ?_;refine qC rfl (qH qh (sp133 _ 4294967295 _ (by decide) (by rw [List.length_append,List.length_append,qR,qR];omega)) rfl ?_);rintro _ _ ⟨rfl,rfl⟩;refine qx (qv (qw (qu (qe ?_))));refine qb (qE rfl) ?_;refine qb (qA rfl) ?_;refine qb (wh rfl rfl (j7 qd)) ?_;refine qC rfl (qH qh (sp130 _ g.gen _ qd (by simp only [List.length_append,qR];omega)) rfl ?_);rintro _ _ ⟨rfl,rfl⟩;refine qx (qv (qu (qe ?_)));refine qb (qE rfl) ?_;refine qb (xB rfl) ?_;refine qb (qA rfl) ?_;refine qb (wh rfl rfl (yG qd)) ?_;refine qC rfl (qH qh (sp132 _ g.fk _ qd (by simp only [List.length_append,qR];omega)) rfl ?_);rintro _ _ ⟨rfl,rfl⟩;refine qx ?_;refine wM rfl rfl _ ⟨rfl,rfl⟩ (by rw [rowB,hse,hfi,hmo];simp only [←List.append_assoc,List.append_nil];exact Pm.sat qh)
      · have hfi:first g.ps=4294967295:=by unfold first;rw [if_neg qd]
        refine qx (qv (qB rfl ?_));refine qF (qv (qw (qu (qe ?_))));refine qb (qE rfl) ?_;refine qb (qA rfl) ?_;refine qb (wh rfl rfl (xw qd)) ?_;refine qC rfl (qH qh (sp133 _ g.tree _ qd qd) rfl ?_);rintro _ _ ⟨rfl,rfl⟩;refine qx (qv (qw (qu (qe ?_))));refine qe ?_;refine qC rfl (qH qh (sp133 _ 4294967295 _ (by decide) (by rw [List.length_append,qR];omega)) rfl ?_);rintro _ _ ⟨rfl,rfl⟩;refine qx (qv (qw (qu (qe ?_))));refine qe ?_;refine qC rfl (qH qh (sp133 _ 4294967295 _ (by decide) (by rw [List.length_append,List.length_append,qR,qR];omega)) rfl ?_);rintro _ _ ⟨rfl,rfl⟩;refine qx (qv (qw (qu (qe ?_))));refine qb (qE rfl) ?_;refine qb (qA rfl) ?_;refine qb (wh rfl rfl (j7 qd)) ?_;refine qC rfl (qH qh (sp130 _ g.gen _ qd (by simp only [List.length_append,qR];omega)) rfl ?_);rintro _ _ ⟨rfl,rfl⟩;refine qx (qv (qu (qe ?_)));refine qb (qE rfl) ?_;refine qb (xB rfl) ?_;refine qb (qA rfl) ?_;refine qb (wh rfl rfl (yG qd)) ?_;refine qC rfl (qH qh (sp132 _ g.fk _ qd (by simp only [List.length_append,qR];omega)) rfl ?_);rintro _ _ ⟨rfl,rfl⟩;refine qx ?_;refine wM rfl rfl _ ⟨rfl,rfl⟩ (by rw [rowB,hse,hfi,hmo];simp only [←List.append_assoc,List.append_nil];exact Pm.sat qh)
end
section
open Go
set_option maxRecDepth 4000
def headB (base n:Nat):List UInt8:=[]++beN 4 base++beN 4 n++beN 1 3++beN 1 10++beN 2 2++beN 4 7
def edgesB (rs:List Rw):List UInt8:=rs.flatMap fun r=>more r.ps
def bitsB (rs:List Rw):List UInt8:=rs.flatMap fun r=>r.fb.data.toList
def rowAt (rs:List Rw) (j:Nat):List UInt8:=rowB (rs.getD j dR) (edgesB (rs.take j)).length
def rowsB (rs:List Rw) (k:Nat):List UInt8:=(List.range k).flatMap (rowAt rs)
def endAt (rs:List Rw) (j:Nat):List UInt8:=beN 4 (bitsB (rs.take (j+1))).length
def endsB (rs:List Rw) (k:Nat):List UInt8:=(List.range k).flatMap (endAt rs)
def gcks (base:Nat) (rs:List Rw):List Ck:=[(1,⟨(headB base rs.length).toArray⟩),(2,⟨(rowsB rs rs.length).toArray⟩),(3,⟨(edgesB rs).toArray⟩),(4,⟨(endsB rs rs.length).toArray⟩),(5,⟨(bitsB rs).toArray⟩)]
def graphB (base:Nat) (rs:List Rw):List UInt8:=chunkB (gcks base rs)
theorem kn {rs:List Rw} {k:Nat} (hk:k<rs.length):rs.take (k+1)=rs.take k++[rs.getD k dR]:=wU hk
theorem edgesB_snoc {rs:List Rw} {k:Nat} (hk:k<rs.length):edgesB (rs.take (k+1))=edgesB (rs.take k)++more (rs.getD k dR).ps:=by rw [kn hk,edgesB,List.flatMap_append];simp [edgesB]
theorem zc {rs:List Rw} {k:Nat} (hk:k<rs.length):bitsB (rs.take (k+1))=bitsB (rs.take k)++(rs.getD k dR).fb.data.toList:=by rw [kn hk,bitsB,List.flatMap_append];simp [bitsB]
theorem rowsB_succ (rs:List Rw) (k:Nat):rowsB rs (k+1)=rowsB rs k++rowB (rs.getD k dR) (edgesB (rs.take k)).length:=by rw [rowsB,List.range_succ,List.flatMap_append];simp [rowsB,rowAt]
theorem endsB_succ (rs:List Rw) (k:Nat):endsB rs (k+1)=endsB rs k++beN 4 (bitsB (rs.take (k+1))).length:=by rw [endsB,List.range_succ,List.flatMap_append];simp [endsB,endAt]
theorem yS (rs:List Rw) (k:Nat):(rowsB rs k).length=15*k:=yF (fun _=>rowB_length _ _) k
theorem y0 (rs:List Rw) (k:Nat):(endsB rs k).length=4*k:=yF (fun _=>qR _ _) k
theorem GoodF.size {k:Nat} {s:ByteArray} (h:GoodF k s):s.size≤3:=by
  rcases h with h | ⟨_,rfl⟩
  · exact h.2.2
  · decide
theorem zG {base:Nat} {rs:List Rw} (H:GoodG base rs):∀k,k≤rs.length→(edgesB (rs.take k)).length≤64*k
  | 0,_=>by simp [edgesB]
  | k+1,hk=>by
    have:=zG H k qd;have hl:=(H.row k qd).len;rw [edgesB_snoc qd,List.length_append,jL]
    split<;>omega
theorem zS {base:Nat} {rs:List Rw} (H:GoodG base rs):∀k,k≤rs.length→(bitsB (rs.take k)).length≤3*k
  | 0,_=>by simp [bitsB]
  | k+1,hk=>by
    have:=zS H k qd;have hl:=GoodF.size (H.row k qd).fil;rw [x9] at hl;rw [zc qd,List.length_append];omega
theorem jx (base n:Nat):(headB base n).length=16:=by simp [headB,qR]
theorem za {base:Nat} {rs:List Rw} (H:GoodG base rs):GoodK (gcks base rs) where
  len:=by simp [gcks]
  up j h1 h2:=by
    have h2:j<5:=h2;rcases j with _ | _ | _ | _ | _ | j
    · omega
    all_goals first | (simp [gcks];done) | omega
  id c hc:=by
    simp only [gcks,List.mem_cons,List.not_mem_nil,or_false] at hc;rcases hc with rfl | rfl | rfl | rfl | rfl<;>simp
  tot:=by
    have h1:=zG H rs.length (Nat.le_refl _);have h2:=zS H rs.length (Nat.le_refl _);have h3:=H.len;rw [List.take_length] at h1 h2;simp only [tots,gcks,List.map_cons,List.map_nil,List.sum_cons,List.sum_nil,jp,jx,yS,y0];omega
theorem sp75 (base n cap:Nat) (a:Option Addr) (rs:List Rw) (hn:rs.length=n) (H:GoodG base rs):Spec Tryz.prog 75 #[gv base a n cap]
    (fun T=>gdi a n cap rs::pars rs::T) (fun r T L=>r=.tuple #[.string ⟨(graphB base rs).toArray⟩,.int .i64 0]∧L=gdi a n cap rs::pars rs::T):=by
  refine spec_of (n:=97) (args:=[gv base a n cap]) Tryz.func75 rfl rfl rfl rfl fun T=>?_;have hlen:=H.len;refine qw (qu ?_);refine qC rfl (wx rfl fun b1=>?_);refine qo (qo (qx (qv (qw (qw (qu (qb (wm rfl) ?_)))))));refine qC rfl (qH qh (sp142 base n cap a rs hn H) rfl ?_);rintro _ _ ⟨rfl,rfl⟩;refine wq rfl (wB rfl rfl) qd ?_;refine qx (qv (qB rfl ?_));refine qF (qv (qw (qu ?_)));refine qC rfl (qH qh (sp100) rfl ?_);rintro _ _ ⟨p14,rfl,rfl⟩;refine qC rfl (qH qh (sp100) rfl ?_);rintro _ _ ⟨p15,rfl,rfl⟩;refine qC rfl (qH qh (sp100) rfl ?_);rintro _ _ ⟨p16,rfl,rfl⟩;refine qC rfl (qH qh (sp100) rfl ?_);rintro _ _ ⟨p17,rfl,rfl⟩;refine qC rfl (qH qh (sp100) rfl ?_);rintro _ _ ⟨p18,rfl,rfl⟩;refine qi ?_;refine qi ?_;refine qi ?_;refine qi ?_;refine qi ?_;refine qx (qv (qw (qu (qe ?_))));refine qb (qE rfl) ?_;refine qb (qA rfl) ?_;refine qb (wh rfl rfl (xw qd)) ?_;refine qC rfl (qH qh (sp133 _ base _ qd (by first | (simp only [List.length_append,qR,List.length_nil];done) | (simp only [List.length_append,qR,List.length_nil];omega))) rfl ?_);rintro _ _ ⟨rfl,rfl⟩;refine qx (qv (qw (qu (qe ?_))));refine qb (qE rfl) ?_;refine qb (qA rfl) ?_;refine qb (qI rfl) ?_;refine qb (wh rfl rfl (xw qd)) ?_;refine qC rfl (qH qh (sp133 _ n _ qd (by first | (simp only [List.length_append,qR,List.length_nil];done) | (simp only [List.length_append,qR,List.length_nil];omega))) rfl ?_);rintro _ _ ⟨rfl,rfl⟩;refine qx (qv (qw (qu (qe ?_))));refine qb (qE rfl) ?_;refine qb (xB rfl) ?_;refine qb (qA rfl) ?_;refine qb (wh (m:=3) rfl rfl (by decide)) ?_;refine qC rfl (qH qh (sp132 _ 3 _ (by decide) (by first | (simp only [List.length_append,qR,List.length_nil];done) | (simp only [List.length_append,qR,List.length_nil];omega))) rfl ?_);rintro _ _ ⟨rfl,rfl⟩;refine qx (qv (qw (qu (qe ?_))));refine qb (qE rfl) ?_;refine qb (xB rfl) ?_;refine qb (qA rfl) ?_;refine qb (wh (m:=10) rfl rfl (by decide)) ?_;refine qC rfl (qH qh (sp132 _ 10 _ (by decide) (by first | (simp only [List.length_append,qR,List.length_nil];done) | (simp only [List.length_append,qR,List.length_nil];omega))) rfl ?_);rintro _ _ ⟨rfl,rfl⟩;refine qx (qv (qw (qu (qe ?_))));refine qb (qE rfl) ?_;refine qb (xB rfl) ?_;refine qb (qA rfl) ?_;refine qb (wh (m:=2) rfl rfl (by decide)) ?_;refine qC rfl (qH qh (sp130 _ 2 _ (by decide) (by first | (simp only [List.length_append,qR,List.length_nil];done) | (simp only [List.length_append,qR,List.length_nil];omega))) rfl ?_);rintro _ _ ⟨rfl,rfl⟩;refine qx (qv (qw (qu (qe ?_))));refine qb (qE rfl) ?_;refine qb (xB rfl) ?_;refine qb (qA rfl) ?_;refine qC rfl (qH qh (sp133 _ 7 _ (by decide) (by first | (simp only [List.length_append,qR,List.length_nil];done) | (simp only [List.length_append,qR,List.length_nil];omega))) rfl ?_);rintro _ _ ⟨rfl,rfl⟩;refine qx (qv (qw (qw (qu (qb (qE rfl) ?_)))));refine qb (qA rfl) ?_;refine qb (qI rfl) ?_;refine qb wH ?_;refine qx (qv (qJ ?_));rw [show wr p15 []=wr p15 (rowsB rs 0) from rfl,show wr p16 []=wr p16 (edgesB (rs.take 0)) from rfl,show wr p17 []=wr p17 (endsB rs 0) from rfl,show wr p18 []=wr p18 (bitsB (rs.take 0)) from rfl,show []++beN 4 base++beN 4 n++beN 1 3++beN 1 10++beN 2 2++beN 4 7=headB base n from rfl];refine q7 (fun m v L=>∃(k:Nat),n-k=m∧(∃v0,v=ups v0 [(1,.pointer (some ⟨b1,0,none⟩)),(4,.pointer (some ⟨p14,0,none⟩)),(5,.pointer (some ⟨p15,0,none⟩)),(6,.pointer (some ⟨p16,0,none⟩)),(7,.pointer (some ⟨p17,0,none⟩)),(8,.pointer (some ⟨p18,0,none⟩)),(54,.slice a n cap),(55,.int .i64 n),(56,.int .i64 k)])∧(k≤n)∧L=wr p14 (headB base n)::wr p15 (rowsB rs k)::wr p16 (edgesB (rs.take k))::wr p17 (endsB rs k)::wr p18 (bitsB (rs.take k))::pt b1 (cl (gl base a n cap) 110)::gdi a n cap rs::pars rs::T) _ _ ⟨0,rfl,⟨_,At.eq (.cons rfl (.cons rfl (.cons rfl (.cons rfl (.cons rfl (.cons rfl (.cons rfl (.cons rfl (.cons rfl .nil)))))))))⟩,by omega,rfl⟩ qh ?_;rintro m _ _ ⟨k,rfl,⟨v0,rfl⟩,hk,rfl⟩;refine qw (qu ?_);refine wG rfl (wj rfl rfl) (fun h57=>?_) (fun h57=>?_)
  · refine wK (a:=a) (xs:=rcells rs) qr (by rw [yl];omega) fun b off l E fz ha hl=>?_;subst ha;have hrk:=H.row k qd;have hE:=zG H k qd;have hB:=zS H (k+1) qd;have hB0:=zS H k qd;have hF:=GoodF.size hrk.fil;refine qx (qv (qw (qN rfl ?_)));refine qF (qv (qw (qJ (qw (qu (qb (wN rfl rfl rfl qd) ?_))))));refine qb (wD (rs:=rl (rs.getD k dR)) rfl rfl (rat5 hl qd)) ?_;refine qC rfl (qZ fun b10=>?_);refine q6 (wc rfl rfl rfl rfl ?_);refine qx (qv (qw (wx_par (k:=k) qr qd ?_)));refine qu (qe ?_);refine qe ?_;refine qb (wm rfl) ?_;refine qC rfl (qH qh (sp143 _ _ (base+k) (rs.getD k dR) _ _ qd hrk (by rw [yS];omega) qd) rfl ?_);rintro _ _ ⟨rfl,rfl⟩;refine qx (qv (qw (qu (qe ?_))));refine qb (qE rfl) ?_;refine qb (xB rfl) ?_;refine qb (qA rfl) ?_;refine qC rfl (qH qh (sp102 _ _ (rs.getD k dR).fb qd qd) rfl ?_);rintro _ _ ⟨rfl,rfl⟩;refine qx (qv (qw (qu (qe ?_))));refine qe ?_;refine qC rfl (qH qh (sp144 _ _) rfl ?_);rintro _ _ ⟨rfl,rfl⟩;refine qb (wh rfl rfl (xw (by rw [←zc qd];omega))) ?_;refine qC rfl (qH qh (sp133 _ (bitsB (rs.take k)++(rs.getD k dR).fb.data.toList).length _ (by rw [←zc qd];omega) (by rw [y0];omega)) rfl ?_);rintro _ _ ⟨rfl,rfl⟩;refine qx (qv (qw (qu (qe ?_))));refine qC rfl (qH qh (sp144 _ _) rfl ?_);rintro _ _ ⟨rfl,rfl⟩;refine wq rfl (wS rfl rfl) (by rw [←zc qd];omega) ?_;refine qx (qv (qB rfl ?_));refine qF (qX (qv (qu (qb (wa rfl rfl qd) ?_))));refine qe ?_;refine qx ?_;refine qT _ _ ⟨k+1,rfl,⟨_,At.eq (.cons rfl (.cons rfl (.cons rfl (.cons rfl (.cons rfl (.cons rfl (.cons rfl (.cons rfl (.cons rfl .nil)))))))))⟩,by omega,rfl⟩ qd (by rw [rowsB_succ,edgesB_snoc qd,endsB_succ,zc qd];repeat (first | exact .refl | exact .nil | apply Pm.cons | exact .here | apply Sel.there | apply Pm.drop))
  · obtain rfl:n=k:=by omega
    rw [show rs.take n=rs by rw [←hn];simp];subst hn;refine qx (qv (qw (qB rfl ?_)));refine wk ?_;refine qQ (qQ (ww ?_));refine qv (qw (qu (qe ?_)));refine qC rfl (qH qh (sp103 _ _) rfl ?_);rintro _ _ ⟨rfl,rfl⟩;refine qb (wy (.one qg rfl (.one qg rfl .nil))) ?_;refine qe ?_;refine qC rfl (qH qh (sp103 _ _) rfl ?_);rintro _ _ ⟨rfl,rfl⟩;refine qb (wy (.one qg rfl (.one qg rfl .nil))) ?_;refine qe ?_;refine qC rfl (qH qh (sp103 _ _) rfl ?_);rintro _ _ ⟨rfl,rfl⟩;refine qb (wy (.one qg rfl (.one qg rfl .nil))) ?_;refine qe ?_;refine qC rfl (qH qh (sp103 _ _) rfl ?_);rintro _ _ ⟨rfl,rfl⟩;refine qb (wy (.one qg rfl (.one qg rfl .nil))) ?_;refine qe ?_;refine qC rfl (qH qh (sp103 _ _) rfl ?_);rintro _ _ ⟨rfl,rfl⟩;refine qb (wy (.one qg rfl (.one qg rfl .nil))) ?_;refine qC rfl (qS rfl (by first | decide | simp) (.agg rfl rfl (.agg rfl rfl (.agg rfl rfl (.agg rfl rfl (.agg rfl rfl .nil))))) fun b93=>?_);simp only [List.append_nil,List.cons_append,List.nil_append];refine wE (fun w h=>xa (m:=5) (cap:=5) (k:=2) (xs:=kcells (gcks base rs)) (rest:=[]) h rfl (by decide)) ?_;refine qC rfl (qH qh (sp145 5 5 _ (gcks base rs) rfl (za H)) rfl ?_);rintro _ _ ⟨rfl,rfl⟩;refine qb (qP rfl) ?_;refine qb (qP rfl) ?_;refine qi ?_;refine qi ?_;refine qx (qv (qL ?_));refine wu rfl rfl (qD qg) (qD qg) _ ⟨by rw [graphB],rfl⟩ qm
end
section
open Go
set_option maxRecDepth 4000
section
variable {P:Program} {v:Env} {L:List HProp} {x y:Operand} {ty T:TypeId}
theorem qt_clear31 {a:Int} {m q:Nat} {yt:TypeId} (hx:evalE v x=.int .u32 a) (hy:evalE v y=.int .u32 2147483648) (ha:a=(m:Int)) (hm:m<2^32) (hq:m%2147483648=q):Qt P (.binOp .andNot T x y yt) ty v L (.int .u32 (q:Int)):=by
  subst ha hq;have h:=qt_andNot (P:=P) (L:=L) (T:=T) (ty:=ty) (yt:=yt) hx hy;have e:bitop .andNot .u32 (m:Int) 2147483648=((m%2147483648:Nat):Int):=by
    have h1:(BitVec.ofInt 32 (m:Int)).toNat=m:=xZ hm;have h2:(~~~ (BitVec.ofInt 32 2147483648)).toNat=2^31-1:=by decide
    have h3:(BitVec.ofInt 32 (m:Int) &&& ~~~ (BitVec.ofInt 32 2147483648)).toNat=m%2147483648:=by
      rw [BitVec.toNat_and,h1,h2,Nat.and_two_pow_sub_one_eq_mod]
    show IntKind.u32.wrap ((BitVec.ofInt 32 (m:Int) &&& ~~~ (BitVec.ofInt 32 2147483648)).toNat:Int)=_;rw [h3];exact kE rfl (by show m%2147483648<2^32;omega)
  rw [e] at h;exact h
end
def words (ps:List Nat):List Nat:=mid ps++[ps.getD (ps.length-1) 0+2147483648]
theorem words_more {ps:List Nat} (h:2<ps.length):more ps=(words ps).flatMap (beN 4):=by
  unfold more words;rw [if_pos h,List.flatMap_append];simp [mid,show ps.length-2=ps.length-1-1 by omega]
theorem kF {ps:List Nat} (h:2<ps.length):(words ps).length=ps.length-1:=by
  rw [words,List.length_append,x8];simp;omega
theorem words_at {ps:List Nat} {j:Nat} (h:2<ps.length) (hj:1≤j) (hj2:j<ps.length):(words ps).getD (j-1) 0=if j+1=ps.length then ps.getD j 0+2147483648 else ps.getD j 0:=by
  have hl:=x8 ps
  split
  · rename_i e;have e2:ps.length-1=j:=by omega
    rw [words,List.getD_eq_getElem?_getD,List.getElem?_append_right qd,show j-1-(mid ps).length=0 by omega,e2];rfl
  · have h1:j-1<(mid ps).length:=by omega
    rw [words,List.getD_eq_getElem?_getD,List.getElem?_append_left h1,List.getElem?_eq_getElem h1,List.getD_eq_getElem?_getD,List.getElem?_eq_getElem hj2];show (mid ps)[j-1]=ps[j];simp only [mid,List.getElem_take,List.getElem_drop,show 1+(j-1)=j by omega]
theorem sp254 (x:Int):Spec Tryz.prog 254 #[.int .u32 x,.int .i64 0]
    (fun T=>T) (fun r T L=>r=.int .u32 x∧L=T):=by
  refine spec_of (n:=10) (args:=[.int .u32 x,.int .i64 0]) Tryz.func254 rfl rfl rfl rfl fun T=>?_;refine qw (qu (qo (qx (qv (qw (qw (qu ?_)))))));refine qe ?_;refine wq rfl (wB rfl rfl) (by simp) ?_;refine qx (qv (qB rfl ?_));refine qF (qv (qw (qu (qe ?_))));refine qi ?_;refine qx (qv (qL ?_));refine qM rfl rfl (qD qg) _ ⟨rfl,rfl⟩ qm
theorem sp255 (x:Int):Spec Tryz.prog 255 #[.int .u8 x,.int .i64 0]
    (fun T=>T) (fun r T L=>r=.int .u8 x∧L=T):=by
  refine spec_of (n:=10) (args:=[.int .u8 x,.int .i64 0]) Tryz.func255 rfl rfl rfl rfl fun T=>?_;refine qw (qu (qo (qx (qv (qw (qw (qu ?_)))))));refine qe ?_;refine wq rfl (wB rfl rfl) (by simp) ?_;refine qx (qv (qB rfl ?_));refine qF (qv (qw (qu (qe ?_))));refine qi ?_;refine qx (qv (qL ?_));refine qM rfl rfl (qD qg) _ ⟨rfl,rfl⟩ qm
theorem sp256 (x:Int):Spec Tryz.prog 256 #[.int .u16 x,.int .i64 0]
    (fun T=>T) (fun r T L=>r=.int .u16 x∧L=T):=by
  refine spec_of (n:=10) (args:=[.int .u16 x,.int .i64 0]) Tryz.func256 rfl rfl rfl rfl fun T=>?_;refine qw (qu (qo (qx (qv (qw (qw (qu ?_)))))));refine qe ?_;refine wq rfl (wB rfl rfl) (by simp) ?_;refine qx (qv (qB rfl ?_));refine qF (qv (qw (qu (qe ?_))));refine qi ?_;refine qx (qv (qL ?_));refine qM rfl rfl (qD qg) _ ⟨rfl,rfl⟩ qm
theorem sp259 (x:ByteArray):Spec Tryz.prog 259 #[.string x,.int .i64 0]
    (fun T=>T) (fun r T L=>r=.string x∧L=T):=by
  refine spec_of (n:=10) (args:=[.string x,.int .i64 0]) Tryz.func259 rfl rfl rfl rfl fun T=>?_;refine qw (qu (qo (qx (qv (qw (qw (qu ?_)))))));refine qe ?_;refine wq rfl (wB rfl rfl) (by simp) ?_;refine qx (qv (qB rfl ?_));refine qF (qv (qw (qu (qe ?_))));refine qi ?_;refine qx (qv (qL ?_));refine qM rfl rfl (qD qg) _ ⟨rfl,rfl⟩ qm
theorem sp252 (n cap:Nat) (a:Option Addr) (cs:List Ck) (hn:cs.length=n) (hb:n≤1000) (H:Up cs) (j:Nat) (hj:j<n):Spec Tryz.prog 252 #[.slice a n cap,.int .u32 (cs.getD j dK).1]
    (fun T=>kdi a n cap cs::T) (fun r T L=>∃p,r=.pointer (some ⟨p,0,none⟩)∧L=rdr p (cs.getD j dK).2 0::kdi a n cap cs::T):=by
  refine spec_of (n:=15) (args:=[.slice a n cap,.int .u32 (cs.getD j dK).1]) Tryz.func252 rfl rfl rfl rfl fun T=>?_;refine qw (qu (qo (qx (qv (qw (qu (qe ?_)))))));refine qe ?_;refine qC rfl (qH qh (sp253 n cap a cs hn hb H j hj) rfl ?_);rintro _ _ ⟨rfl,rfl⟩;refine qe ?_;refine qb (qP rfl) ?_;refine qb (qP rfl) ?_;refine qi ?_;refine qi ?_;refine qx (qv (qw (qu (qe ?_))));refine qC rfl (qH qh (sp94 (cs.getD j dK).2) rfl ?_);rintro _ _ ⟨p14,rfl,rfl⟩;refine qi ?_;refine qx (qv (qL ?_));refine qM rfl rfl (qD qg) _ ⟨_,rfl,rfl⟩ qm
theorem l1 (ps:List Nat) (h:ps.length=1):ps=[ps.getD 0 0]:=by
  match ps,h with
  | [a],_=>rfl
theorem l2 (ps:List Nat) (h:ps.length=2):ps=[ps.getD 0 0,ps.getD 1 0]:=by
  match ps,h with
  | [a,b],_=>rfl
theorem sp258 (w:Nat) (ps:List Nat) (e:ByteArray) (pre suf:List UInt8) (hlen:ps.length≤16) (hp:∀j,j<ps.length→ps.getD j 0<65536) (hw:w%4=0) (hs:e.size≤100000000) (he:e.data.toList=pre++(more ps++suf)) (hpre:pre.length=w):Spec Tryz.prog 258 #[.int .u32 (first ps),.int .u32 (second ps w),.string e]
    (fun T=>T) (fun r T L=>∃a cap,r=.slice a ps.length cap∧L=rdi a ps.length cap ps::T):=by
  refine spec_of (n:=61) (args:=[.int .u32 (first ps),.int .u32 (second ps w),.string e]) Tryz.func258 rfl rfl rfl rfl fun T=>?_;have hml:=jL ps;have hsz:e.size=w+((more ps).length+suf.length):=by rw [x9,he,List.length_append,List.length_append,hpre]
  have hf:(0<ps.length∧first ps=ps.getD 0 0∧ps.getD 0 0<65536)∨(ps.length=0∧first ps=4294967295):=by
    unfold first;split
    · exact .inl ⟨by omega,rfl,hp 0 qd⟩
    · exact .inr ⟨by omega,rfl⟩
  have hsd:(2<ps.length∧second ps w=2147483648+w/4)∨(ps.length=2∧second ps w=ps.getD 1 0∧ps.getD 1 0<65536)∨(ps.length<2∧second ps w=4294967295):=by
    unfold second;split
    · exact .inl ⟨by omega,rfl⟩
    · split
      · exact .inr (.inl ⟨by omega,rfl,hp 1 qd⟩)
      · exact .inr (.inr ⟨by omega,rfl⟩)
  refine qw (qu (qo (qx (qv (qw (qu (qo ?_)))))));refine qx (qv (qw (qw (w8 (fun w h=>(wC (E:=3) (k:=1)).sat h) ?_))));refine qu (qe ?_);refine wG rfl (wB rfl rfl) (fun h12=>?_) (fun h12=>?_)
  · obtain ⟨hf0,hf1,hf2⟩:0<ps.length∧first ps=ps.getD 0 0∧ps.getD 0 0<65536:=by rcases hf with h | h;exact h;omega
    rw [hf1];refine qx (qv (qN rfl ?_));refine qu (qe ?_);refine qe ?_;refine qb (wh rfl rfl (wZ qd)) ?_;refine qC rfl (qS rfl (by first | decide | simp) (.one qg rfl .nil) fun b16=>?_);refine qC rfl (wl qg qg qr rfl (by rfl) (by decide) xG (ones1 rfl) (fun _ _ _ h h'=>by cases h;omega) ?_);rintro _ _ _ a17 c17 ⟨⟩;refine qi ?_;refine qx (qv (qw (qw (qu (qe ?_)))));refine wG rfl (wA rfl rfl) (fun h19=>?_) (fun h19=>?_)
    · have hn1:ps.length=1:=by omega
      have hI:[]++[N64 (ps.getD 0 0)]=ints ps:=by rw [l1 ps hn1];rfl
      rw [hn1];refine qx (qv (qN rfl ?_));refine qw (qu (qe ?_));refine qi ?_;refine qx (qv (qL ?_));refine wt ?_;refine qM rfl rfl (qD qg) _ ⟨_,_,rfl,rfl⟩ (fun w h=>by rw [hI] at h;exact Pm.sat qh w (wX h))
    · refine qx (qv (qB rfl ?_));refine qF (qv (qw (qw (qu (qe ?_)))));refine wG rfl (wj rfl rfl) (fun h22=>?_) (fun h22=>?_)
      · have hn2:ps.length=2:=by omega
        have hs2:second ps w=ps.getD 1 0:=by omega
        have hI:[]++[N64 (ps.getD 0 0)]++[N64 (ps.getD 1 0)]=ints ps:=by rw [l2 ps hn2];rfl
        rw [hs2,hn2];refine qx (qv (qN rfl ?_));refine qw (qu (qe ?_));refine qe ?_;refine qb (wh rfl rfl (wZ qd)) ?_;refine qC rfl (qS rfl (by first | decide | simp) (.one qg rfl .nil) fun b26=>?_);refine qC rfl (wl qg qg qr rfl (by rfl) (by decide) xG (ones1 rfl) (fun _ _ _ h h'=>by cases h;omega) ?_);rintro _ _ _ a27 c27 ⟨⟩;refine qi ?_;refine qx (qv (qL ?_));refine wt ?_;refine qM rfl rfl (qD qg) _ ⟨_,_,rfl,rfl⟩ (fun w h=>by rw [hI] at h;exact Pm.sat qh w (wX h))
      · have h3:2<ps.length:=by omega
        have hqs:(e.extract w e.size).size=e.size-w:=by rw [x9,j9 he hpre.symm,List.length_append];omega
        rw [if_pos h3] at hml;refine qx (qv (qB rfl ?_));refine qF (qv (qw (qu (qe ?_))));refine qb (qt_subNE (m:=second ps w) (j:=2147483648) (q:=w/4) rfl rfl rfl rfl rfl qd (by show _<2^32;omega)) ?_;refine qb (wh (m:=(w/4)) rfl qd (wZ qd)) ?_;refine qb (yV rfl rfl qd) ?_;refine qi ?_;refine qx (qv (qw (qw (qu (qe ?_)))));refine qe ?_;refine qb (wL rfl) ?_;refine wq rfl (wS rfl rfl) qd ?_;refine qx (qv (qB rfl ?_));refine qF (qv (qw (qw (qu (qe ?_)))));refine qe ?_;refine qb (yc rfl rfl (by omega:_=(w:Int)) qd) ?_;refine qC rfl (qH qh (sp94 (e.extract w e.size)) rfl ?_);rintro _ _ ⟨p41,rfl,rfl⟩;refine qi ?_;refine qx (qv (qJ ?_));have e0:ints (ps.take 1)=[]++[N64 (ps.getD 0 0)]:=by rw [wU (k:=0) (d:=0) qd];rfl
        rw [←e0];refine q7 (fun m v L=>∃(j:Nat) (a:Option Addr) (cap:Nat),ps.length-j=m∧(∃v0,v=ups v0 [(7,.slice a j cap),(9,.pointer (some ⟨p41,0,none⟩))])∧(1≤j)∧(j<ps.length)∧L=own (.slice a j cap) 3 1 (ints (ps.take j))::rdr p41 (e.extract w e.size) (4*(j-1))::T) _ _ ⟨1,_,_,rfl,⟨_,At.eq (.cons rfl (.cons rfl .nil))⟩,by omega,by omega,rfl⟩ qh ?_;rintro m _ _ ⟨j,a,cap,rfl,⟨v0,rfl⟩,hj1,hj2,rfl⟩;refine qw (qw (qu (qe ?_)));refine qb (qI rfl) ?_;refine xb rfl (yi rfl rfl) qd ?_;refine qx (qv (qN rfl ?_));refine qF (qv (qJ (qw ?_)));obtain ⟨x,hx1,hx2,hx3⟩:∃x,((e.extract w e.size).extract (4*(j-1)) (4*(j-1)+4)).data.toList=beN 4 x∧x<2^32∧((j+1<ps.length∧x=ps.getD j 0)∨(j+1=ps.length∧x=ps.getD j 0+2147483648)):=by
          have h1:=words_at h3 (show 1≤j by omega) (show j<ps.length by omega);have h2:=fm_split (f:=beN 4) (ps:=words ps) (k:=j-1) (by rw [kF h3];omega);refine ⟨(words ps).getD (j-1) 0,w4 (pre:=((words ps).take (j-1)).flatMap (beN 4)) (suf:=((words ps).drop (j-1+1)).flatMap (beN 4)++suf) ?_ ?_ (by rw [qR]),?_,?_⟩
          · rw [j9 he hpre.symm,words_more h3,h2];simp only [List.append_assoc]
          · rw [jR,List.length_take,kF h3];omega
          · rw [h1];have:=hp j qd;split<;>omega
          · rw [h1];split
            · exact .inr ⟨by omega,rfl⟩
            · exact .inl ⟨by omega,rfl⟩
        have hpj:=hp j qd;refine qu (qe ?_);refine qC rfl (qH qh (sp95 _ (4*(j-1)) x _ qd qd hx1 hx2) rfl ?_);rintro _ _ ⟨rfl,rfl⟩;refine qb (qP rfl) ?_;refine qb (qP rfl) ?_;refine qC rfl (qH qh (sp254 _) rfl ?_);rintro _ _ ⟨rfl,rfl⟩;refine qi ?_;refine qx (qv (qw (qu (qe ?_))));refine qe ?_;refine qb (qt_clear31 (m:=x) (q:=ps.getD j 0) rfl rfl rfl hx2 qd) ?_;refine qb (wh (m:=(ps.getD j 0)) rfl qd (wZ qd)) ?_;refine qC rfl (qS rfl (by first | decide | simp) (.one qg rfl .nil) fun b54=>?_);refine qC rfl (wl qg qg qr rfl (by rfl) (by decide) xG (ones1 rfl) (fun _ _ _ h h'=>by cases h;omega) ?_);rintro _ _ _ a55 c55 ⟨⟩;refine qi ?_;refine qx (qv (qw (qu (qe ?_))));refine wG rfl (w9 rfl rfl) (fun h57=>?_) (fun h57=>?_)
        · have hjn:j+1=ps.length:=by omega
          have hI:ints (ps.take j)++[N64 (ps.getD j 0)]=ints ps:=by
            have:=wU (ps:=ps) (d:=0) (k:=j) qd;rw [hjn,List.take_length] at this
            conv=>rhs;rw [this]
            simp [ints]
          rw [←hjn];refine qx (qv (qN rfl ?_));refine qw (qu (qe ?_));refine qi ?_;refine qx (qv (qL ?_));refine wQ (wt (wQ (wt ?_)));refine qM rfl rfl (qD qg) _ ⟨_,_,rfl,rfl⟩ (fun w h=>by rw [hI] at h;exact Pm.sat qh w (wX h))
        · refine qx (qv (qB rfl ?_));refine qF (qX ?_);refine qT _ _ ⟨j+1,_,_,rfl,⟨_,At.eq (.cons rfl (.cons rfl .nil))⟩,by omega,by omega,rfl⟩ qd (by rw [show ints (ps.take (j+1))=ints (ps.take j)++[N64 (ps.getD j 0)] by rw [wU (d:=0) qd];simp [ints],show 4*(j+1-1)=4*(j-1)+4 by omega];repeat (first | exact .refl | exact .nil | apply Pm.cons | exact .here | apply Sel.there | apply Pm.drop))
  · refine qx (qv (qB rfl ?_));refine qF (qv (qw (qw (qu (qe ?_)))));refine wG rfl (wA rfl rfl) (fun h19=>?_) (fun h19=>?_)
    · have hn1:ps.length=0:=by omega
      have hI:[]=ints ps:=by rw [List.length_eq_zero_iff.1 hn1];rfl
      rw [hn1];refine qx (qv (qN rfl ?_));refine qw (qu (qe ?_));refine qi ?_;refine qx (qv (qL ?_));refine wt ?_;refine qM rfl rfl (qD qg) _ ⟨_,_,rfl,rfl⟩ (fun w h=>by rw [hI] at h;exact Pm.sat qh w (wX h))
    · skip
      exfalso;omega
end
section
open Go
set_option maxRecDepth 4000
def bare (r:Rw):Rw:={ r with a:=none,cap:=0 }
theorem bare_getD {rs rs':List Rw} (h:rs'.map bare=rs.map bare) (k:Nat):bare (rs'.getD k dR)=bare (rs.getD k dR):=by
  have h1:∀l:List Rw,bare (l.getD k dR)=(l.map bare).getD k dR:=fun l=>by
    rw [List.getD_eq_getElem?_getD,List.getD_eq_getElem?_getD,List.getElem?_map];cases l[k]?<;>rfl
  rw [h1,h1,h]
theorem yC {rs rs':List Rw} (h:rs'.map bare=rs.map bare):rs'.length=rs.length:=by
  have:=congrArg List.length h;simpa using this
theorem bare_take {rs rs':List Rw} (h:rs'.map bare=rs.map bare) (k:Nat):(rs'.take k).map bare=(rs.take k).map bare:=by rw [List.map_take,List.map_take,h]
theorem edgesB_bare {rs rs':List Rw} (h:rs'.map bare=rs.map bare):edgesB rs'=edgesB rs:=by
  have h1:∀l:List Rw,edgesB l=(l.map bare).flatMap fun r=>more r.ps:=fun l=>by rw [edgesB,List.flatMap_map];rfl
  rw [h1,h1,h]
theorem bitsB_bare {rs rs':List Rw} (h:rs'.map bare=rs.map bare):bitsB rs'=bitsB rs:=by
  have h1:∀l:List Rw,bitsB l=(l.map bare).flatMap fun r=>r.fb.data.toList:=fun l=>by rw [bitsB,List.flatMap_map];rfl
  rw [h1,h1,h]
theorem rowB_bare {r r':Rw} (h:bare r'=bare r) (w:Nat):rowB r' w=rowB r w:=by
  show rowB (bare r') w=rowB (bare r) w;rw [h]
theorem jP {rs rs':List Rw} (h:rs'.map bare=rs.map bare) (base:Nat):graphB base rs'=graphB base rs:=by
  have h1:rowAt rs'=rowAt rs:=funext fun j=>by rw [rowAt,rowAt,rowB_bare (bare_getD h j),edgesB_bare (bare_take h j)]
  have h2:endAt rs'=endAt rs:=funext fun j=>by rw [endAt,endAt,bitsB_bare (bare_take h _)]
  rw [graphB,graphB,gcks,gcks,edgesB_bare h,bitsB_bare h,rowsB,rowsB,endsB,endsB,h1,h2,yC h]
theorem GoodR.bare {c:Nat} {r r':Rw} (h:bare r'=bare r) (H:GoodR c r):GoodR c r':=by
  have e1:r'.ps=r.ps:=(by rw [h]:(YtdibpoheeffioaaGreatDoor.bare r').ps=(YtdibpoheeffioaaGreatDoor.bare r).ps)
  have e2:r'.tree=r.tree:=(by rw [h]:(YtdibpoheeffioaaGreatDoor.bare r').tree=(YtdibpoheeffioaaGreatDoor.bare r).tree)
  have e3:r'.gen=r.gen:=(by rw [h]:(YtdibpoheeffioaaGreatDoor.bare r').gen=(YtdibpoheeffioaaGreatDoor.bare r).gen)
  have e4:r'.fk=r.fk:=(by rw [h]:(YtdibpoheeffioaaGreatDoor.bare r').fk=(YtdibpoheeffioaaGreatDoor.bare r).fk)
  have e5:r'.fb=r.fb:=(by rw [h]:(YtdibpoheeffioaaGreatDoor.bare r').fb=(YtdibpoheeffioaaGreatDoor.bare r).fb)
  exact ⟨by rw [e1];exact H.len,by rw [e2];exact H.tree,by rw [e3];exact H.gen,by rw [e1];exact H.par,by rw [e1];exact H.nodup,by rw [e4,e5];exact H.fil⟩
theorem GoodG.bare {base:Nat} {rs rs':List Rw} (h:rs'.map bare=rs.map bare) (H:GoodG base rs):GoodG base rs' :=
  ⟨by rw [yC h];exact H.len,fun k hk=>(H.row k (by rw [←yC h];exact hk)).bare (bare_getD h k)⟩
theorem kf {r:Rw} {acc:List Rw} {L:List HProp} {w:World} (h:Sat (rpar r::pars acc::L) w):Sat (pars (acc++[r])::L) w:=by
  have h1:=(wF.cons).sat h;have h2:=(zo (A:=rpar r) (M:=L) (acc.map rpar)).back.sat h1;have e:(acc++[r]).map rpar++L=acc.map rpar++rpar r::L:=by simp
  rw [←e] at h2;exact wi.sat h2
theorem yQ {L:List HProp} {w:World} (h:Sat L w):Sat (pars []::L) w:=wi.sat h
abbrev q1 (base:Nat) (rs:List Rw):ByteArray:=⟨(headB base rs.length).toArray⟩
abbrev q2 (rs:List Rw):ByteArray:=⟨(rowsB rs rs.length).toArray⟩
abbrev q3 (rs:List Rw):ByteArray:=⟨(edgesB rs).toArray⟩
abbrev q4 (rs:List Rw):ByteArray:=⟨(endsB rs rs.length).toArray⟩
abbrev q5 (rs:List Rw):ByteArray:=⟨(bitsB rs).toArray⟩
theorem edges_split (rs:List Rw) {k:Nat} (hk:k<rs.length):∃suf,edgesB rs=edgesB (rs.take k)++(more (rs.getD k dR).ps++suf):=by
  refine ⟨edgesB (rs.drop (k+1)),?_⟩;have:rs=rs.take k++rs.getD k dR::rs.drop (k+1):=by simp [hk]
  conv=>lhs;rw [this]
  simp [edgesB]
theorem bits_split (rs:List Rw) {k:Nat} (hk:k<rs.length):∃suf,bitsB rs=bitsB (rs.take k)++((rs.getD k dR).fb.data.toList++suf):=by
  refine ⟨bitsB (rs.drop (k+1)),?_⟩;have:rs=rs.take k++rs.getD k dR::rs.drop (k+1):=by simp [hk]
  conv=>lhs;rw [this]
  simp [bitsB]
theorem edges_mod (rs:List Rw):(edgesB rs).length%4=0:=by
  induction rs with
  | nil=>rfl
  | cons r rs ih =>
    have e:edgesB (r::rs)=more r.ps++edgesB rs:=by simp [edgesB]
    rw [e,List.length_append,jL]
    split<;>omega
theorem row_parts {rs:List Rw} {k:Nat} (hk:k<rs.length) :
    ((q2 rs).extract (15*k) (15*k+4)).data.toList=beN 4 (rs.getD k dR).tree ∧
    ((q2 rs).extract (15*k+4) (15*k+4+4)).data.toList=beN 4 (first (rs.getD k dR).ps) ∧
    ((q2 rs).extract (15*k+4+4) (15*k+4+4+4)).data.toList=beN 4 (second (rs.getD k dR).ps (edgesB (rs.take k)).length) ∧
    ((q2 rs).extract (15*k+4+4+4) (15*k+4+4+4+2)).data.toList=beN 2 (rs.getD k dR).gen ∧
    ((q2 rs).extract (15*k+4+4+4+2) (15*k+4+4+4+2+1)).data.toList=beN 1 (rs.getD k dR).fk:=by
  obtain ⟨suf,h⟩:=zF (rowAt rs) k hk;have hl:=yS rs k;have hq:(q2 rs).data.toList=rowsB rs k++(rowAt rs k++suf):=h;rw [rowAt,rowB] at hq
  generalize rs.getD k dR=g at hq ⊢
  generalize (edgesB (rs.take k)).length=w at hq ⊢
  refine ⟨w4 (suf:=beN 4 (first g.ps)++beN 4 (second g.ps w)++beN 2 g.gen++beN 1 g.fk++suf) (by rw [hq];simp only [List.append_assoc]) hl.symm (by rw [qR]),
    w4 (pre:=rowsB rs k++beN 4 g.tree) (suf:=beN 4 (second g.ps w)++beN 2 g.gen++beN 1 g.fk++suf) (by rw [hq];simp only [List.append_assoc]) ?_ (by rw [qR]),
    w4 (pre:=rowsB rs k++beN 4 g.tree++beN 4 (first g.ps)) (suf:=beN 2 g.gen++beN 1 g.fk++suf) (by rw [hq];simp only [List.append_assoc]) ?_ (by rw [qR]),
    w4 (pre:=rowsB rs k++beN 4 g.tree++beN 4 (first g.ps)++beN 4 (second g.ps w)) (suf:=beN 1 g.fk++suf) (by rw [hq];simp only [List.append_assoc]) ?_ (by rw [qR]),
    w4 (pre:=rowsB rs k++beN 4 g.tree++beN 4 (first g.ps)++beN 4 (second g.ps w)++beN 2 g.gen) (suf:=suf) (by rw [hq];simp only [List.append_assoc]) ?_ (by rw [qR])⟩ <;>
  simp only [List.length_append,qR,hl]
theorem end_part {rs:List Rw} {k:Nat} (hk:k<rs.length):((q4 rs).extract (4*k) (4*k+4)).data.toList=beN 4 (bitsB (rs.take (k+1))).length:=by
  obtain ⟨suf,h⟩:=zF (endAt rs) k hk;exact w4 (pre:=endsB rs k) (suf:=suf) h (y0 rs k).symm (by rw [qR])
theorem bit_part {rs:List Rw} {k:Nat} (hk:k<rs.length):(q5 rs).extract (bitsB (rs.take k)).length ((bitsB (rs.take k)).length+(rs.getD k dR).fb.size)=(rs.getD k dR).fb:=by
  obtain ⟨suf,h⟩:=bits_split rs hk;exact zm (w4 (pre:=bitsB (rs.take k)) (suf:=suf) h rfl rfl)
theorem head_parts (base:Nat) (rs:List Rw) :
    ((q1 base rs).extract 0 (0+4)).data.toList=beN 4 base∧((q1 base rs).extract 4 (4+4)).data.toList=beN 4 rs.length∧((q1 base rs).extract 8 (8+1)).data.toList=beN 1 3 ∧
    ((q1 base rs).extract 9 (9+1)).data.toList=beN 1 10∧((q1 base rs).extract 10 (10+2)).data.toList=beN 2 2∧((q1 base rs).extract 12 (12+4)).data.toList=beN 4 7:=by
  have hq:(q1 base rs).data.toList=headB base rs.length:=rfl;rw [headB] at hq
  generalize rs.length=n at hq ⊢
  refine ⟨w4 (pre:=[]) (suf:=beN 4 n++beN 1 3++beN 1 10++beN 2 2++beN 4 7) (by rw [hq];simp only [List.append_assoc]) rfl (by rw [qR]),
    w4 (pre:=[]++beN 4 base) (suf:=beN 1 3++beN 1 10++beN 2 2++beN 4 7) (by rw [hq];simp only [List.append_assoc]) ?_ (by rw [qR]),
    w4 (pre:=[]++beN 4 base++beN 4 n) (suf:=beN 1 10++beN 2 2++beN 4 7) (by rw [hq];simp only [List.append_assoc]) ?_ (by rw [qR]),
    w4 (pre:=[]++beN 4 base++beN 4 n++beN 1 3) (suf:=beN 2 2++beN 4 7) (by rw [hq];simp only [List.append_assoc]) ?_ (by rw [qR]),
    w4 (pre:=[]++beN 4 base++beN 4 n++beN 1 3++beN 1 10) (suf:=beN 4 7) (by rw [hq];simp only [List.append_assoc]) ?_ (by rw [qR]),
    w4 (pre:=[]++beN 4 base++beN 4 n++beN 1 3++beN 1 10++beN 2 2) (suf:=[]) (by rw [hq];simp only [List.append_nil]) ?_ (by rw [qR])⟩ <;>
  simp only [List.length_append,qR,List.length_nil]
theorem sp175 (base cap:Nat) (a:Option Addr) (rs:List Rw) (H:GoodG base rs):Spec Tryz.prog 175 #[.slice a 5 cap]
    (fun T=>kdi a 5 cap (gcks base rs)::T) (fun r T L=>∃a2 cap2 rs2,r=gv base a2 rs.length cap2∧rs2.map bare=rs.map bare∧L=gdi a2 rs.length cap2 rs2::pars rs2::T):=by
  refine spec_of (n:=133) (args:=[.slice a 5 cap]) Tryz.func175 rfl rfl rfl rfl fun T=>?_;have hlen:=H.len;obtain ⟨f1,f2,f3,f4,f5,f6⟩:=head_parts base rs;have z1:(q1 base rs).size=16:=jx _ _;have z2:(q2 rs).size=15*rs.length:=yS _ _;have z3:(q3 rs).size≤64*rs.length:=by have:=zG H rs.length (Nat.le_refl _);rwa [List.take_length] at this
  have z4:(q4 rs).size=4*rs.length:=y0 _ _;have z5:(q5 rs).size≤3*rs.length:=by have:=zS H rs.length (Nat.le_refl _);rwa [List.take_length] at this
  refine qw (qu ?_);refine qC rfl (qZ fun b2=>?_);refine qx (qv (qw (qu ?_)));refine qC rfl (qZ fun b3=>?_);refine qx (qv (qw (qu (qe ?_))));refine qC rfl (qH qh (sp252 5 cap a (gcks base rs) rfl (by decide) (za H).up 0 (by decide)) rfl ?_);rintro _ _ ⟨p15,rfl,rfl⟩;rw [show ((gcks base rs).getD 0 dK).2=q1 base rs from rfl];refine qe ?_;refine qC rfl (qH qh (sp252 5 cap a (gcks base rs) rfl (by decide) (za H).up 1 (by decide)) rfl ?_);rintro _ _ ⟨p17,rfl,rfl⟩;rw [show ((gcks base rs).getD 1 dK).2=q2 rs from rfl];refine qe ?_;refine qC rfl (qH qh (sp252 5 cap a (gcks base rs) rfl (by decide) (za H).up 3 (by decide)) rfl ?_);rintro _ _ ⟨p19,rfl,rfl⟩;rw [show ((gcks base rs).getD 3 dK).2=q4 rs from rfl];refine qe ?_;refine qC rfl (qH qh (sp252 5 cap a (gcks base rs) rfl (by decide) (za H).up 4 (by decide)) rfl ?_);rintro _ _ ⟨p21,rfl,rfl⟩;rw [show ((gcks base rs).getD 4 dK).2=q5 rs from rfl];refine qi ?_;refine qi ?_;refine qi ?_;refine qi ?_;refine qx (qv (qw (qu (qe ?_))));refine qC rfl (qH qh (sp253 5 cap a (gcks base rs) rfl (by decide) (za H).up 2 (by decide)) rfl ?_);rintro _ _ ⟨rfl,rfl⟩;rw [show ((gcks base rs).getD 2 dK).2=q3 rs from rfl];refine qe ?_;refine qb (qP rfl) ?_;refine qb (qP rfl) ?_;refine qi ?_;refine qi ?_;refine qx (qv (qw (qu (qe ?_))));refine qC rfl (qH qh (sp95 _ 0 base _ qd qd f1 qd) rfl ?_);rintro _ _ ⟨rfl,rfl⟩;refine qb (qP rfl) ?_;refine qb (qP rfl) ?_;refine qC rfl (qH qh (sp254 _) rfl ?_);rintro _ _ ⟨rfl,rfl⟩;refine qb (wh rfl rfl (wZ qd)) ?_;refine qb (qE rfl) ?_;refine q6 (qV rfl qg rfl ?_);refine qx (qv (qw (qu (qe ?_))));refine qC rfl (qH qh (sp95 _ 4 rs.length _ qd qd f2 qd) rfl ?_);rintro _ _ ⟨rfl,rfl⟩;refine qb (qP rfl) ?_;refine qb (qP rfl) ?_;refine qC rfl (qH qh (sp254 _) rfl ?_);rintro _ _ ⟨rfl,rfl⟩;refine qi ?_;refine qx (qv (qw (qu (qe ?_))));refine qC rfl (qH qh (sp96 _ 8 3 _ qd qd f3 (by decide)) rfl ?_);rintro _ _ ⟨rfl,rfl⟩;refine qb (qP rfl) ?_;refine qb (qP rfl) ?_;refine qC rfl (qH qh (sp255 _) rfl ?_);rintro _ _ ⟨rfl,rfl⟩;refine qb (wh (m:=3) rfl rfl (by decide)) ?_;refine qb (qE rfl) ?_;refine qb (xB rfl) ?_;refine q6 (qV rfl qg rfl ?_);refine qx (qv (qw (qu (qe ?_))));refine qC rfl (qH qh (sp96 _ 9 10 _ qd qd f4 (by decide)) rfl ?_);rintro _ _ ⟨rfl,rfl⟩;refine qb (qP rfl) ?_;refine qb (qP rfl) ?_;refine qC rfl (qH qh (sp255 _) rfl ?_);rintro _ _ ⟨rfl,rfl⟩;refine qb (wh (m:=10) rfl rfl (by decide)) ?_;refine qb (qE rfl) ?_;refine qb (xB rfl) ?_;refine q6 (qV rfl qg rfl ?_);refine qx (qv (qw (qu (qe ?_))));refine qC rfl (qH qh (sp257 _ 10 2 _ qd qd f5 (by decide)) rfl ?_);rintro _ _ ⟨rfl,rfl⟩;refine qb (qP rfl) ?_;refine qb (qP rfl) ?_;refine qC rfl (qH qh (sp256 _) rfl ?_);rintro _ _ ⟨rfl,rfl⟩;refine qb (wh (m:=2) rfl rfl (by decide)) ?_;refine qb (qE rfl) ?_;refine qb (xB rfl) ?_;refine q6 (qV rfl qg rfl ?_);refine qx (qv (qw (qu (qe ?_))));refine qC rfl (qH qh (sp95 _ 12 7 _ qd qd f6 (by decide)) rfl ?_);rintro _ _ ⟨rfl,rfl⟩;refine qb (qP rfl) ?_;refine qb (qP rfl) ?_;refine qC rfl (qH qh (sp254 _) rfl ?_);rintro _ _ ⟨rfl,rfl⟩;refine qb (qE rfl) ?_;refine qb (xB rfl) ?_;refine q6 (qV rfl qg rfl ?_);refine qx (qv (qw (qu (qo (qx (qv (qw ?_)))))));refine qw (qu (qe ?_));refine qb wH ?_;refine qx (qv (qJ (w8 (fun w h=>(wC (E:=180) (k:=5)).sat (yQ h)) ?_)));refine q7 (fun m v L=>∃(k:Nat) (a2:Option Addr) (cap2:Nat) (acc:List Rw),rs.length-k=m∧(∃v0,v=ups v0 [(2,.pointer (some ⟨b2,0,none⟩)),(3,.pointer (some ⟨b3,0,none⟩)),(5,.pointer (some ⟨p17,0,none⟩)),(6,.pointer (some ⟨p19,0,none⟩)),(7,.pointer (some ⟨p21,0,none⟩)),(8,.string (q3 rs)),(11,.int .i64 (bitsB (rs.take k)).length),(70,.int .u32 rs.length),(71,.int .u32 k)])∧(k≤rs.length)∧(acc.map bare=(rs.take k).map bare)∧L=own (.slice a2 k cap2) 180 5 (rcells acc)::pars acc::pt b3 (cl (gl base a2 k cap2) 110)::rdr p17 (q2 rs) (15*k)::rdr p19 (q4 rs) (4*k)::rdr p21 (q5 rs) (bitsB (rs.take k)).length::pt b2 (cl [.int .i64 0,.int .i64 0,.int .i64 0,.int .i64 0,.int .u32 0,.slice none 0 0] 110)::T) _ _ ⟨0,none,0,[],rfl,⟨_,At.eq (.cons rfl (.cons rfl (.cons rfl (.cons rfl (.cons rfl (.cons rfl (.cons rfl (.cons rfl (.cons rfl .nil)))))))))⟩,by omega,rfl,rfl⟩ qh ?_;rintro m _ _ ⟨k,a2,cap2,acc,rfl,⟨v0,rfl⟩,hk,hacc,rfl⟩;refine qw (qu ?_);refine wG rfl (wj rfl rfl) (fun h72=>?_) (fun h72=>?_)
  · obtain ⟨g1,g2,g3,g4,g5⟩:=row_parts (rs:=rs) (k:=k) qd;have g6:=end_part (rs:=rs) (k:=k) qd;have g7:=bit_part (rs:=rs) (k:=k) qd;obtain ⟨esuf,hes⟩:=edges_split rs (k:=k) qd;have hr:=H.row k qd;have hrt:=hr.tree;have hrg:=hr.gen;have hrl:=hr.len;have hrf:(rs.getD k dR).fk≤2:=by have:=hr.fil;unfold GoodF at this;omega
    have hpar:∀j,j<(rs.getD k dR).ps.length→(rs.getD k dR).ps.getD j 0<65536:=fun j hj=>by have:=hr.par _ (w6 (d:=0) hj);omega
    have hfi:first (rs.getD k dR).ps<2^32:=by
      unfold first;split
      · have:=hpar 0 qd;omega
      · decide
    have hel:=zG H k qd;have hse:second (rs.getD k dR).ps (edgesB (rs.take k)).length<2^32:=by
      unfold second;split
      · omega
      · split
        · have:=hpar 1 qd;omega
        · decide
    have hbl:=zS H (k+1) qd;have hb1:(bitsB (rs.take (k+1))).length=(bitsB (rs.take k)).length+(rs.getD k dR).fb.size:=by rw [zc qd,List.length_append];rfl
    have hb2:(bitsB (rs.take (k+1))).length≤(q5 rs).size:=by
      rw [hb1];obtain ⟨suf,hsuf⟩:=bits_split rs (k:=k) qd;show _≤(bitsB rs).length;rw [hsuf,List.length_append,List.length_append];show _≤_+((rs.getD k dR).fb.size+_)
      omega
    refine qx (qv (qw (qN rfl ?_)));refine qF (qv (qw (qJ (qw (qu ?_)))));refine qC rfl (qZ fun b12=>?_);refine qx (qv (qw (qu (qe ?_))));refine qC rfl (qH qh (sp95 _ (15*k) (rs.getD k dR).tree _ qd qd g1 qd) rfl ?_);rintro _ _ ⟨rfl,rfl⟩;refine qb (qP rfl) ?_;refine qb (qP rfl) ?_;refine qC rfl (qH qh (sp254 _) rfl ?_);rintro _ _ ⟨rfl,rfl⟩;refine qb (wh rfl rfl (wZ qd)) ?_;refine qb (qE rfl) ?_;refine q6 (qV rfl qg rfl ?_);refine qx (qv (qw (qu (qe ?_))));refine qC rfl (qH qh (sp95 _ (15*k+4) (first (rs.getD k dR).ps) _ qd qd g2 qd) rfl ?_);rintro _ _ ⟨rfl,rfl⟩;refine qb (qP rfl) ?_;refine qb (qP rfl) ?_;refine qC rfl (qH qh (sp254 _) rfl ?_);rintro _ _ ⟨rfl,rfl⟩;refine qe ?_;refine qC rfl (qH qh (sp95 _ (15*k+4+4) (second (rs.getD k dR).ps (edgesB (rs.take k)).length) _ qd qd g3 qd) rfl ?_);rintro _ _ ⟨rfl,rfl⟩;refine qb (qP rfl) ?_;refine qb (qP rfl) ?_;refine qC rfl (qH qh (sp254 _) rfl ?_);rintro _ _ ⟨rfl,rfl⟩;refine qe ?_;refine qC rfl (qH qh (sp258 (edgesB (rs.take k)).length (rs.getD k dR).ps (q3 rs) (edgesB (rs.take k)) esuf hr.len hpar (edges_mod _) qd hes rfl) rfl ?_);rintro _ _ ⟨a91,c91,rfl,rfl⟩;refine wE (fun w h=>kf (r:={ (rs.getD k dR) with a:=a91,cap:=c91 }) (acc:=acc) (Pm.sat qh w h)) ?_;refine qb (qE rfl) ?_;refine q6 (qV rfl qg rfl ?_);refine qx (qv (qw (qu (qe ?_))));refine qC rfl (qH qh (sp257 _ (15*k+4+4+4) (rs.getD k dR).gen _ qd qd g4 qd) rfl ?_);rintro _ _ ⟨rfl,rfl⟩;refine qb (qP rfl) ?_;refine qb (qP rfl) ?_;refine qC rfl (qH qh (sp256 _) rfl ?_);rintro _ _ ⟨rfl,rfl⟩;refine qb (wh rfl rfl (wZ qd)) ?_;refine qb (qE rfl) ?_;refine q6 (qV rfl qg rfl ?_);refine qx (qv (qw (qu (qe ?_))));refine qC rfl (qH qh (sp96 _ (15*k+4+4+4+2) (rs.getD k dR).fk _ qd qd g5 qd) rfl ?_);rintro _ _ ⟨rfl,rfl⟩;refine qb (qP rfl) ?_;refine qb (qP rfl) ?_;refine qC rfl (qH qh (sp255 _) rfl ?_);rintro _ _ ⟨rfl,rfl⟩;refine qb (wh rfl rfl (wZ qd)) ?_;refine qb (qE rfl) ?_;refine qb (xB rfl) ?_;refine q6 (qV rfl qg rfl ?_);refine qx (qv (qw (qu (qe ?_))));refine qC rfl (qH qh (sp95 _ (4*k) (bitsB (rs.take (k+1))).length _ qd qd g6 qd) rfl ?_);rintro _ _ ⟨rfl,rfl⟩;refine qb (qP rfl) ?_;refine qb (qP rfl) ?_;refine qC rfl (qH qh (sp254 _) rfl ?_);rintro _ _ ⟨rfl,rfl⟩;refine qb (wh rfl rfl (wZ qd)) ?_;refine qi ?_;refine qx (qv (qw (qu (qe ?_))));refine qe ?_;refine qe ?_;refine qb (wT rfl rfl qd) ?_;rw [show (((bitsB (rs.take (k+1))).length:Int)-((bitsB (rs.take k)).length:Int))=(((rs.getD k dR).fb.size:Nat):Int) by omega];refine qC rfl (qH qh (sp250 _ (bitsB (rs.take k)).length (rs.getD k dR).fb.size _ qd qd) rfl ?_);rintro _ _ ⟨rfl,rfl⟩;rw [g7];refine qb (qP rfl) ?_;refine qb (qP rfl) ?_;refine qC rfl (qH qh (sp259 _) rfl ?_);rintro _ _ ⟨rfl,rfl⟩;refine qb (qE rfl) ?_;refine qb (xB rfl) ?_;refine q6 (qV rfl qg rfl ?_);refine qx (qv (qw (qu (qe ?_))));refine qi ?_;refine qx (qv (qu (qb (qE rfl) ?_)));refine qb (qA rfl) ?_;refine qb (wm rfl) ?_;refine qC rfl (qS rfl (by first | decide | simp) (.agg rfl rfl .nil) fun b128=>?_);simp only [List.append_nil,List.cons_append,List.nil_append];refine qC rfl (wl qg qg qr rfl (by rfl) (by decide) (xc (k:=5) (ys:=(rl { (rs.getD k dR) with a:=a91,cap:=c91 })) rfl) (onesK rfl) (fun _ _ _ h h'=>by cases h;omega) ?_);rintro _ _ _ a129 c129 ⟨⟩;refine qb (qE rfl) ?_;refine q6 (qV rfl qg rfl ?_);refine qx (qX (qv (qu (qb (zO (m:=k) (j:=1) (q:=k+1) rfl rfl rfl rfl rfl (Nat.mod_eq_of_lt (by show _<2^32;omega))) ?_))));refine qe ?_;refine qx ?_;refine qT _ _ ⟨k+1,_,_,acc++[{ (rs.getD k dR) with a:=a91,cap:=c91 }],rfl,⟨_,At.eq (.cons rfl (.cons rfl (.cons rfl (.cons rfl (.cons rfl (.cons rfl (.cons rfl (.cons rfl (.cons rfl .nil)))))))))⟩,by omega,by rw [List.map_append,hacc,kn qd,List.map_append];rfl,rfl⟩ qd (by rw [jb,show rcells [{ (rs.getD k dR) with a:=a91,cap:=c91 }]=rl { (rs.getD k dR) with a:=a91,cap:=c91 } from rfl,hb1,show 15*(k+1)=15*k+4+4+4+2+1 by omega,show 4*(k+1)=4*k+4 by omega];repeat (first | exact .refl | exact .nil | apply Pm.cons | exact .here | apply Sel.there | apply Pm.drop))
  · obtain rfl:k=rs.length:=by omega
    rw [List.take_length] at hacc;have hal:=yC hacc;refine qx (qv (qw (qB rfl ?_)));refine wk ?_;refine qQ (qQ (ww ?_));refine qv (qw (qu (qb (wm rfl) ?_)));refine q6 (wc rfl rfl rfl rfl ?_);refine qx (qv (qL ?_));refine qM rfl rfl (wJ rfl) _ ⟨_,_,acc,rfl,hacc,rfl⟩ (fun w h=>Pm.sat qh w (wX (s:=.slice a2 rs.length cap2) (E:=180) (k:=5) (xs:=rcells acc) (Pm.sat qh w h)))
end
section
open Go
set_option maxRecDepth 4000
theorem sp99 (base:Nat) (rs:List Rw) (s:ByteArray) (H:GoodG base rs) (hs:s.data.toList=graphB base rs):Spec Tryz.prog 99 #[.string s]
    (fun T=>T) (fun r T L=>∃a cap rs2,r=.tuple #[gv base a rs.length cap,.int .i64 0]∧rs2.map bare=rs.map bare∧L=gdi a rs.length cap rs2::pars rs2::T):=by
  refine spec_ofD (n:=34) (args:=[.string s]) Tryz.func99 rfl rfl rfl rfl fun T=>?_;refine qw (qu ?_);refine qC rfl (qZ fun b2=>?_);refine qC rfl (qZ fun b3=>?_);refine qx (qv (qw (qu (qe ?_))));refine qC rfl (qH qh (sp173 5 s (gcks base rs) rfl (za H) hs) rfl ?_);rintro _ _ ⟨a9,c9,rfl,rfl⟩;refine qe ?_;refine qb (qP rfl) ?_;refine qb (qP rfl) ?_;refine qi ?_;refine q6 (qV rfl qg rfl ?_);refine qx (qv (qw (qw (qu (qb (qA rfl) ?_)))));refine wq rfl (wB rfl rfl) (by simp) ?_;refine qx (qv (qB rfl ?_));refine qF (qv (qw (qu (qb (wv .nil (.cons qg (.cons qg .nil))) ?_))));refine wl_defer rfl ?_;refine qx (qv (qw (qu (qe ?_))));refine qC rfl (qH qh (sp175 base c9 a9 rs H) rfl ?_);rintro _ _ ⟨a,cap,rs2,rfl,hb,rfl⟩;refine q6 (wc rfl rfl rfl rfl ?_);refine qx (qv (qw (qw (qu (qb (wm rfl) ?_)))));refine qC rfl (qH qh (sp75 base rs.length cap a rs2 (yC hb) (H.bare hb)) rfl ?_);rintro _ _ ⟨rfl,rfl⟩;rw [jP hb,show (⟨(graphB base rs).toArray⟩:ByteArray)=s from zm hs.symm];refine qe ?_;refine qb (qP rfl) ?_;refine qb (qP rfl) ?_;refine qi ?_;refine qi ?_;refine qx (qv (qw (qu (qe ?_))));refine wq rfl (wB rfl rfl) (by simp) ?_;refine qe ?_;refine qq (qK qg) ?_;refine qq (qK qg) ?_;refine wR (qG rfl rfl rfl rfl) rfl (zj rfl rfl) (by simp) ?_;refine qb (qW rfl qg) ?_;refine qx (qv (qB rfl ?_));refine qF (qv (qw (qu (qb (wm rfl) ?_))));refine q6 (wc rfl rfl rfl rfl ?_);refine q6 (qV rfl qg rfl ?_);refine qx (qv (qL ?_));refine px_res2D rfl rfl (wJ rfl) (rval_cell1 rfl) (idle174 b2 b3 _) _ ⟨_,_,_,rfl,hb,rfl⟩ qm
end
section
open Go
set_option maxRecDepth 4000
section
variable {P:Program} {f:FuncId} {args:Array Value}
theorem Spec.box {x:Value} {A B:List HProp} (h:Spec P f args (fun T=>A++T) (fun r T L=>r=x∧L=B++T)):Spec P f args (fun T=>box A::T) (fun r T L=>r=x∧L=box B::T) :=
  h.mono (fun _ _ hw=>wF.sat hw) fun r T L ⟨h1,h2⟩=>⟨_,⟨h1,rfl⟩,fun w hw=>by subst h2;exact wi.sat hw⟩
end
abbrev logN:ByteArray:=⟨#[108,111,103]⟩
structure Tr where
  a:Option Addr
  cap:Nat
  es:List Ent0
structure Cm where
  a:Option Addr
  cap:Nat
  ps:List Nat
  tree:Nat
abbrev dTr:Tr:=⟨none,0,[]⟩
abbrev dCm:Cm:=⟨none,0,[],0⟩
abbrev tsl (t:Tr):Value:=.slice t.a t.es.length t.cap
abbrev cml (c:Cm):List Value:=[.slice c.a c.ps.length c.cap,.int .i64 c.tree]
abbrev cmv (c:Cm):Value:=.agg (cml c).toArray
def tsls (ts:List Tr):List Value:=ts.map tsl
def cmls (cs:List Cm):List Value:=cs.flatMap cml
theorem tsls_length (ts:List Tr):(tsls ts).length=ts.length:=by simp [tsls]
theorem jT:∀cs,(cmls cs).length=cs.length*2
  | []=>rfl
  | e::es=>by
    have:=jT es;simp only [cmls,List.flatMap_cons,List.length_append,List.length_cons,List.length_nil] at this ⊢;omega
theorem cmls_append (a b:List Cm):cmls (a++b)=cmls a++cmls b:=by simp [cmls]
theorem cmls_at:∀(cs:List Cm) (k j:Nat),k<cs.length→j<2→(cmls cs)[k*2+j]?=(cml (cs.getD k dCm))[j]?
  | c::cs,0,j,_,hj=>by
    rcases j with _ | _ | j
    · rfl
    · rfl
    · omega
  | c::cs,k+1,j,h,hj=>by
    have:=cmls_at cs k j (by simpa using h) hj;rw [show (k+1)*2+j=k*2+j+1+1 by omega];exact this
theorem cmls_ones (es:List Cm):∀y∈cmls es,Value.one y=true:=by
  intro y hy;obtain ⟨e,_,he⟩:=List.mem_flatMap.1 hy;simp only [List.mem_cons,List.not_mem_nil,or_false] at he;rcases he with rfl | rfl<;>rfl
abbrev tpar (t:Tr):HProp:=tdi t.a t.es.length t.cap t.es
abbrev cpar (c:Cm):HProp:=rdi c.a c.ps.length c.cap c.ps
def tpars (ts:List Tr):HProp:=box (ts.map tpar)
def cpars (cs:List Cm):HProp:=box (cs.map cpar)
theorem w7 {α:Type} {f:α→HProp} {l:List α} {k:Nat} {d:α} {L Lr:List HProp} {w:World} (hf:∀x,∃s i xs,f x=rds s i xs) (hsel:Sel L (box (l.map f)) Lr) (hk:k<l.length) (h:Sat L w):Sat (f (l.getD k d)::L) w:=by
  have h1:=wF.sat (hsel.ent.sat h);have e:l=l.take k++l.getD k d::l.drop (k+1):=by simp [hk]
  obtain ⟨s,i,xs,hx⟩:=hf (l.getD k d);have h2:Sel (l.map f++Lr) (f (l.getD k d)) ((l.take k).map f++((l.drop (k+1)).map f++Lr)):=by
    have:=zo (A:=f (l.getD k d)) (M:=(l.drop (k+1)).map f++Lr) ((l.take k).map f);have e2:l.map f++Lr=(l.take k).map f++f (l.getD k d)::((l.drop (k+1)).map f++Lr):=by
      conv=>lhs;rw [e]
      simp only [List.map_append,List.map_cons,List.append_assoc,List.cons_append]
    rw [e2];exact this
  rw [hx] at h2 ⊢;have h3:=xM h2 h1;exact (hsel.back.cons).sat ((wi.cons).sat h3)
theorem xP {α:Type} {f:α→HProp} {l:List α} {x:α} {L:List HProp} {w:World} (h:Sat (f x::box (l.map f)::L) w):Sat (box ((l++[x]).map f)::L) w:=by
  have h1:=(wF.cons).sat h;have h2:=(zo (A:=f x) (M:=L) (l.map f)).back.sat h1;have e:(l++[x]).map f++L=l.map f++f x::L:=by simp
  rw [←e] at h2;exact wi.sat h2
abbrev sth (q p:Nat) (a:Option Addr) (n c:Nat) (a2:Option Addr) (n2 c2:Nat):HProp:=pt q (cl [ptr p,.slice a n c,.slice a2 n2 c2,.bool false] 122)
def sto (q p:Nat) (ts:List Tr) (cs:List Cm):HProp:=ex fun x:(Option Addr×Nat)×(Option Addr×Nat) =>
  box [sth q p x.1.1 ts.length x.1.2 x.2.1 cs.length x.2.2,own (.slice x.1.1 ts.length x.1.2) 34 1 (tsls ts),own (.slice x.2.1 cs.length x.2.2) 62 2 (cmls cs),tpars ts,cpars cs]
theorem sat_open_sto {q p:Nat} {ts:List Tr} {cs:List Cm} {L:List HProp} {w:World} (h:Sat (sto q p ts cs::L) w) :
    ∃a c a2 c2,Sat (sth q p a ts.length c a2 cs.length c2::own (.slice a ts.length c) 34 1 (tsls ts)::own (.slice a2 cs.length c2) 62 2 (cmls cs)::tpars ts::cpars cs::L) w:=by
  obtain ⟨x,h⟩:=yb h;exact ⟨_,_,_,_,wF.sat h⟩
theorem zp {q p nt nc:Nat} {ts:List Tr} {cs:List Cm} {a:Option Addr} {c:Nat} {a2:Option Addr} {c2:Nat} {L:List HProp} {w:World} (ht:ts.length=nt) (hc:cs.length=nc)
    (h:Sat (sth q p a nt c a2 nc c2::own (.slice a nt c) 34 1 (tsls ts)::own (.slice a2 nc c2) 62 2 (cmls cs)::tpars ts::cpars cs::L) w):Sat (sto q p ts cs::L) w:=by
  subst ht hc;exact (ye (f:=fun x:(Option Addr×Nat)×(Option Addr×Nat)=>box [sth q p x.1.1 ts.length x.1.2 x.2.1 cs.length x.2.2,own (.slice x.1.1 ts.length x.1.2) 34 1 (tsls ts),own (.slice x.2.1 cs.length x.2.2) 62 2 (cmls cs),tpars ts,cpars cs]) ((a,c),(a2,c2))).sat (wi (L:=[_,_,_,_,_]).sat h)
section
variable {P:Program} {n:Nat} {ds:List Deferred} {Q:Ky} {v:Env} {L Lr:List HProp} {q p:Nat} {ts:List Tr} {cs:List Cm}
theorem jE {c:Code} (hsel:Sel L (sto q p ts cs) Lr) (h:∀a c' a2 c2,wpx P n ds c Q v (sth q p a ts.length c' a2 cs.length c2::own (.slice a ts.length c') 34 1 (tsls ts)::own (.slice a2 cs.length c2) 62 2 (cmls cs)::tpars ts::cpars cs::Lr)):wpx P n ds c Q v L :=
  fun ac w ha hw=>let ⟨a,c',a2,c2,h'⟩:=sat_open_sto (hsel.ent.sat hw);h a c' a2 c2 ac w ha h'
end
theorem wo_ent {P:Program} {n:Nat} {ds:List Deferred} {ops:List Oper} {Q:Ky} {late:List Nat} {L0:List HProp} {v:Env} {L L':List HProp} {fuel:Nat} {listed:Array Bool} {i:Nat} (h:∀w,Sat L w→Sat L' w) (h':Wo P n ds ops Q late L0 fuel listed v L' i):Wo P n ds ops Q late L0 fuel listed v L i:=by
  obtain ⟨d,op,ty,pos,af,gd,h1,h2,h3⟩:=h';refine ⟨d,op,ty,pos,af,gd,h1,h2,?_⟩;rcases h3 with ⟨h3,h4⟩ | ⟨h3,h4⟩
  · exact .inl ⟨h3,fun d pos af gd w hw=>h4 d pos af gd w (h w hw)⟩
  · exact .inr ⟨h3,fun a w ha hw=>h4 a w ha (h w hw)⟩
abbrev Fv:=FuncId×List Value
abbrev fv (f:Fv):Value:=.func (.func f.1) ([]:List Value).toArray f.2.toArray
abbrev dF:Fv:=(0,[])
theorem sp67 (q p nt ct nc cc:Nat) (at_ ac:Option Addr):Spec Tryz.prog 67 #[ptr q]
    (fun T=>sth q p at_ nt ct ac nc cc::T) (fun r T L=>r=.int .i64 0∧L=sth q p at_ nt ct ac nc cc::T):=by
  refine spec_of (n:=11) (args:=[ptr q]) Tryz.func67 rfl rfl rfl rfl fun T=>?_;refine qw (qu (qo (qx (qv (qw (qJ (qw ?_)))))));refine qu (qe ?_);refine qb (wd rfl rfl) ?_;refine qi ?_;refine qx (qv (qB rfl ?_));refine qw (qu (qe ?_));refine qb (qy rfl) ?_;refine qb (qE rfl) ?_;refine qb (qA rfl) ?_;refine qi ?_;refine qx (qv (qB rfl ?_));refine qF (qX (qv (qw (qu (qo (qx (qv ?_)))))));refine qL ?_;refine qM rfl rfl (qD qg) _ ⟨rfl,rfl⟩ qm
theorem sp28 (q p nt ct nc cc:Nat) (at_ ac:Option Addr):Spec Tryz.prog 28 #[ptr q]
    (fun T=>sth q p at_ nt ct ac nc cc::T) (fun r T L=>r=.int .i64 nc∧L=sth q p at_ nt ct ac nc cc::T):=by
  refine spec_of (n:=10) (args:=[ptr q]) Tryz.func28 rfl rfl rfl rfl fun T=>?_;refine qw (qu (qo (qx (qv (qw (qw (qu ?_)))))));refine qe ?_;refine qb (wd rfl rfl) ?_;refine qx (qv (qB rfl ?_));refine qF (qv (qw (qu (qe ?_))));refine qb (qy rfl) ?_;refine qb (qE rfl) ?_;refine qb (qA rfl) ?_;refine qb (qI rfl) ?_;refine qi ?_;refine qx (qv (qL ?_));refine qM rfl rfl (qD qg) _ ⟨rfl,rfl⟩ qm
theorem sp141 (q p nt ct nc cc:Nat) (at_ ac:Option Addr) (b x:Nat):Spec Tryz.prog 141 #[.int .i64 x,ptr b]
    (fun T=>pt b (cl [ptr q] 65)::sth q p at_ nt ct ac nc cc::T) (fun r T L=>r=.bool (decide (nc≤x))∧L=pt b (cl [ptr q] 65)::sth q p at_ nt ct ac nc cc::T):=by
  refine spec_of (n:=11) (args:=[.int .i64 x,ptr b]) Tryz.func141 rfl rfl rfl rfl fun T=>?_;refine qw (qu (qo (qx (qv (qw (qu (qe ?_)))))));refine qb (qA rfl) ?_;refine qb (qy rfl) ?_;refine qb (qE rfl) ?_;refine qb (qA rfl) ?_;refine qb (qI rfl) ?_;refine qb (w9 rfl rfl) ?_;refine qi ?_;refine qx (qv (qL ?_));refine qM rfl rfl (qD qg) _ ⟨congrArg Value.bool (by simp only [decide_eq_decide];omega),rfl⟩ qm
theorem sp230 (n cap:Nat) (a:Option Addr) (ps:List Nat) (hn:ps.length=n) (hb:n≤1000000) (g:FuncId) (cp:List Value) (R:HProp) (p:Nat→Bool) (hf:∀k,k<n→Spec Tryz.prog g (N64 (ps.getD k 0)::cp).toArray (fun T=>R::T) (fun r T L=>r=.bool (p (ps.getD k 0))∧L=R::T)):Spec Tryz.prog 230 #[.slice a n cap,.func (.func g) ([]:List Value).toArray cp.toArray]
    (fun T=>R::rdi a n cap ps::T) (fun r T L=>∃z,r=.int .i64 z∧(0≤z↔∃x∈ps,p x=true)∧L=R::rdi a n cap ps::T):=by
  refine spec_of (n:=19) (args:=[.slice a n cap,.func (.func g) ([]:List Value).toArray cp.toArray]) Tryz.func230 rfl rfl rfl rfl fun T=>?_;refine qw (qu (qo (qx (qv (qw (qw (qu ?_)))))));refine qe ?_;refine qb (qI rfl) ?_;refine qb wH ?_;refine qx (qv (qJ (q7 (fun m v L=>∃(k:Nat),n-k=m∧(∃v0,v=ups v0 [(0,.slice a n cap),(1,.func (.func g) ([]:List Value).toArray cp.toArray),(7,.int .i64 n),(8,.int .i64 k)])∧(k≤n)∧(∀j,j<k→p (ps.getD j 0)=false)∧L=R::rdi a n cap ps::T) _ _ ⟨0,rfl,⟨_,At.eq (.cons rfl (.cons rfl (.cons rfl (.cons rfl .nil))))⟩,by omega,fun j h=>by omega,rfl⟩ qh ?_)));rintro m _ _ ⟨k,rfl,⟨v0,rfl⟩,hk,hx,rfl⟩;refine qw (qu ?_);refine wG rfl (wj rfl rfl) (fun h9=>?_) (fun h9=>?_)
  · refine wK (a:=a) (xs:=ints ps) qr (by simp;omega) fun b off l E fz ha hl=>?_;subst ha;refine qx (qv (qw (qN rfl ?_)));refine qF (qv (qw (qJ (qw (qu (qe ?_))))));refine qi ?_;refine qx (qv (qw (qu (qe ?_))));refine qe ?_;refine qe ?_;refine qb (wz rfl rfl rfl qd) ?_;refine qb (q8 rfl ((hl _ (by simp;omega)).trans (w5 0 qd))) ?_;refine qC rfl (jD qh (hf k qd) rfl rfl ?_);rintro _ _ ⟨rfl,rfl⟩;refine qx (qv ?_);refine yM rfl (fun h16=>?_) (fun h16=>?_)
    · refine qw (qu (qe ?_));refine qi ?_;refine qx (qv (qL ?_));refine wQ (wt (wt (wQ (wt ?_))));refine qM rfl rfl (qD qg) _ ⟨_,rfl,⟨fun _=>⟨_,w6 qd,h16⟩,fun _=>by omega⟩,rfl⟩ qm
    · refine qF (qX (qv (qu (qb (wa rfl rfl qd) ?_))));refine qe ?_;refine qx ?_;refine qT _ _ ⟨k+1,rfl,⟨_,At.eq (.cons rfl (.cons rfl (.cons rfl (.cons rfl .nil))))⟩,by omega,fun j h=>if e:j=k then by subst e;simpa using h16 else hx j qd,rfl⟩ qd qh
  · obtain rfl:k=n:=by omega
    refine qx (qv (qw (qB rfl ?_)));refine wk ?_;refine qQ (qQ (ww ?_));refine qv (qw (qu (qo (qx (qv (qL ?_))))));refine qM rfl rfl (qD qg) _ ⟨_,rfl,⟨fun h=>by omega,fun ⟨l,hl,hp⟩=>by obtain ⟨i,hi,e⟩:=List.getElem_of_mem hl;have:=hx i qd;simp [hi,e,hp] at this⟩,rfl⟩ qm
theorem sp140 (n cap:Nat) (a:Option Addr) (ps:List Nat) (hn:ps.length=n) (hb:n≤1000000) (g:FuncId) (cp:List Value) (R:HProp) (p:Nat→Bool) (hf:∀k,k<n→Spec Tryz.prog g (N64 (ps.getD k 0)::cp).toArray (fun T=>R::T) (fun r T L=>r=.bool (p (ps.getD k 0))∧L=R::T)):Spec Tryz.prog 140 #[.slice a n cap,.func (.func g) ([]:List Value).toArray cp.toArray]
    (fun T=>R::rdi a n cap ps::T) (fun r T L=>r=.bool (decide (∃x∈ps,p x=true))∧L=R::rdi a n cap ps::T):=by
  refine spec_of (n:=9) (args:=[.slice a n cap,.func (.func g) ([]:List Value).toArray cp.toArray]) Tryz.func140 rfl rfl rfl rfl fun T=>?_;refine qw (qu (qo (qx (qv (qw (qu (qe ?_)))))));refine qe ?_;refine qC rfl (qH qh (sp230 n cap a ps hn hb g cp R p hf) rfl ?_);rintro _ _ ⟨z,rfl,hz,rfl⟩;refine qb (w9 rfl rfl) ?_;refine qi ?_;refine qx (qv (qL ?_));refine qM rfl rfl (qD qg) _ ⟨congrArg Value.bool (decide_eq_decide.2 hz),rfl⟩ qm
theorem sp72 (q p nt ct nc cc:Nat) (at_ ac:Option Addr) (tree n cap:Nat) (a:Option Addr) (ps:List Nat) (hn:ps.length=n) (hb:n≤1000000) (h1:tree<nt) (h2:∀x∈ps,x<nc):Spec Tryz.prog 72 #[ptr q,.agg #[.slice a n cap,.int .i64 tree]]
    (fun T=>sth q p at_ nt ct ac nc cc::rdi a n cap ps::T) (fun r T L=>r=.bool true∧L=sth q p at_ nt ct ac nc cc::rdi a n cap ps::T):=by
  refine spec_of (n:=20) (args:=[ptr q,.agg #[.slice a n cap,.int .i64 tree]]) Tryz.func72 rfl rfl rfl rfl fun T=>?_;refine qw (qu ?_);refine qC rfl (xI qg rfl fun b2=>?_);refine qC rfl (wx rfl fun b3=>?_);refine qo (qx (qv (qw (wg [] [pt b2 (cl [ptr q] 65),pt b3 (cl [.slice a n cap,.int .i64 tree] 62),sth q p at_ nt ct ac nc cc] mixed qm 16 rfl ?_))));refine qk 0 rfl (qE rfl) ?_;refine qk 1 rfl (qA rfl) ?_;refine qk 2 rfl (qA rfl) ?_;refine qk 3 rfl (qy rfl) ?_;refine qk 4 rfl (qE rfl) ?_;refine qk 5 rfl (qA rfl) ?_;refine qk 6 rfl (qI rfl) ?_;refine yL 7 rfl qz rfl qj (wj rfl rfl) (fun h12=>?_) (fun h12=>?_)
  · refine qk 8 rfl (qK qg) ?_;refine wo 9 rfl (qG rfl rfl rfl rfl) rfl qj (qE rfl) ?_;refine wo 10 rfl (qG rfl rfl rfl rfl) rfl qj (qA rfl) ?_;refine wo 11 rfl (qG rfl rfl rfl rfl) rfl qj (wv .nil (.cons qg .nil)) ?_;refine qO [12] qj rfl ⟨?_,trivial⟩;refine wo_ent (fun w h=>wi (L:=[pt b2 (cl [ptr q] 65),sth q p at_ nt ct ac nc cc]).sat (Pm.sat qh w h)) ?_;refine we rfl (qG rfl rfl rfl rfl) rfl (qH qh (sp140 n cap a ps hn hb 141 [ptr b2] (box [pt b2 (cl [ptr q] 65),sth q p at_ nt ct ac nc cc]) (fun x=>decide (nc≤x)) (fun k _=>Spec.box (sp141 q p nt ct nc cc at_ ac b2 (ps.getD k 0)))) rfl ?_);rintro _ _ ⟨rfl,rfl⟩;rw [show decide (∃x∈ps,decide (nc≤x)=true)=false by simpa using h2];refine ⟨.inr (fun w h=>Pm.sat qh w (wF.sat h)),?_⟩;refine wo 13 rfl (qG rfl rfl rfl rfl) rfl qj (xH rfl) ?_;refine qk 14 rfl (q9 rfl qg) ?_;refine qk 15 rfl (xh qg) ?_;refine qY qj ?_;refine qv (qL ?_);refine qM rfl rfl (qD qg) _ ⟨rfl,rfl⟩ (fun w h=>Pm.sat qh w (wF.sat h))
  · skip
    exfalso;omega
end
section
open Go
set_option maxRecDepth 4000
class MT (P:Program) (t:TypeId) (name:String) (g:outParam FuncId):Prop where
  m:∀x w,(method (P.types.size+Made.depth) t x name).run P w=.ok (g,x) w
theorem mt_of {P:Program} {t E:TypeId} {name:String} {g:FuncId} {info:TypeInfo} {s:TypeId} (hi:∀w,(typeInfo t).run P w=.ok info w) (hm:info.methods.find? (·.name == name)=some ⟨name,s,#[],some (g,true)⟩)
    (hu:TU P t (.pointer E)) (hpos:Nat.blt 0 (P.types.size+Made.depth)=true):MT P t name g:=⟨fun x w=>by
  obtain ⟨k,hk⟩:∃k,P.types.size+Made.depth=k+1:=⟨P.types.size+Made.depth-1,by have:=Nat.le_of_ble_eq_true hpos;omega⟩
  rw [hk];simp [method,hi,hm,follow,receiverAt,hu.u,Place.get]⟩
instance : MT Tryz.prog 65 "Commits" 28:=mt_of (s:=84) Tryz.typeInfo65 qj inferInstance qj
instance : MT Tryz.prog 65 "Commit" 288:=mt_of (s:=172) Tryz.typeInfo65 qj inferInstance qj
instance : MT Tryz.prog 65 "Tree" 216:=mt_of (s:=262) Tryz.typeInfo65 qj inferInstance qj
instance : MT Tryz.prog 64 "Commits" 120:=mt_of (s:=84) Tryz.typeInfo64 qj inferInstance qj
instance : MT Tryz.prog 64 "Parents" 122:=mt_of (s:=56) Tryz.typeInfo64 qj inferInstance qj
instance : MT Tryz.prog 64 "Gen" 391:=mt_of (s:=268) Tryz.typeInfo64 qj inferInstance qj
section
variable {P:Program} {v:Env} {L:List HProp}
theorem xA {ro:Operand} {t:TypeId} {rv:Value} {name:String} {xs:List Operand} {ats:Array TypeId} {ty:TypeId} {g:FuncId} {args:List Value} {T:List HProp} {pre:List HProp→List HProp} {post:Value→List HProp→List HProp→Prop} {K:Value→List HProp→Prop}
    (hp:Pm L (pre T)) (hs:Spec P g args.toArray pre post) (hx:evalE v ro=.iface t rv) [hm:MT P t name g] (ha:rv::evs v xs=args) (hk:∀r L',post r T L'→K r L') :
    Ow P (.call ⟨.invoke ro name,xs.toArray,ats⟩) ty v L K :=
  ow_enter hs (fun hent d pos af gd w _=>by
    subst ha;simp only [execOp,resolve,invoke,callMethod,hx,Sem.run_bind,Sem.run_pure,Result.andThen_ok];have:=jY (args:=(rv::evs v xs).toArray) hent w;rw [kA] at this;simp [callMethod,hm.m,Result.andThen];have h2:List.take xs.length (List.map (evalE v) xs)=List.map (evalE v) xs:=List.take_of_length_le (by simp);rw [h2,kA];simpa using this) hp hk
end
end
section
open Go
set_option maxRecDepth 4000
def R2 (A B:List HProp) (k:Nat):HProp:=match k with | 0=>box A | _=>box B
theorem xC {b n cap E k:Nat} {xs sp:List Value} {L:List HProp} {w:World} (h1:xs.length=n*k) (h2:xs.length+sp.length=cap*k) (h:Sat (pt b (cl (xs++sp) E)::L) w):Sat (own (.slice (some ⟨b,0,none⟩) n cap) E k xs::L) w:=(zx h1 h2).sat h
theorem cmat {cs:List Cm} {sp:List Value} {k:Nat} (hk:k<cs.length):∀j,j<2→(cmls cs++sp)[0+k*2+j]?=(cml (cs.getD k dCm))[j]?:=fun j hj=>by
  rw [Nat.zero_add,List.getElem?_append_left (by rw [jT];omega)];exact cmls_at cs k j hk hj
theorem tsat {ts:List Tr} {sp:List Value} {k:Nat} (hk:k<ts.length):(tsls ts++sp)[0+k]?=some (tsl (ts.getD k dTr)):=by
  rw [Nat.zero_add,List.getElem?_append_left (by rw [tsls_length];omega)];exact w5 dTr hk
theorem jo (ps:List Nat):∀y∈ints ps,Value.one y=true:=by
  intro y hy;obtain ⟨e,_,rfl⟩:=List.mem_map.1 hy;rfl
theorem sp124 (n cap:Nat) (a:Option Addr) (fl:List Fv) (hn:fl.length=n) (hb:n≤1000) (R:Nat→HProp) (hf:∀k,k<n→Spec Tryz.prog (fl.getD k dF).1 (fl.getD k dF).2.toArray (fun T=>R k::T) (fun r T L=>r=.int .i64 0∧L=R (k+1)::T)):Spec Tryz.prog 124 #[.slice a n cap]
    (fun T=>R 0::rds (.slice a n cap) 1 (fl.map fv)::T) (fun r T L=>r=.int .i64 0∧L=R n::rds (.slice a n cap) 1 (fl.map fv)::T):=by
  refine spec_of (n:=18) (args:=[.slice a n cap]) Tryz.func124 rfl rfl rfl rfl fun T=>?_;refine qw (qu (qo (qx (qv (qw (qw (qu ?_)))))));refine qe ?_;refine qb (qI rfl) ?_;refine qb wH ?_;refine qx (qv (qJ (q7 (fun m v L=>∃(k:Nat),n-k=m∧(∃v0,v=ups v0 [(6,.slice a n cap),(7,.int .i64 n),(8,.int .i64 k)])∧(k≤n)∧L=R k::rds (.slice a n cap) 1 (fl.map fv)::T) _ _ ⟨0,rfl,⟨_,At.eq (.cons rfl (.cons rfl (.cons rfl .nil)))⟩,by omega,rfl⟩ qh ?_)));rintro m _ _ ⟨k,rfl,⟨v0,rfl⟩,hk,rfl⟩;refine qw (qu ?_);refine wG rfl (wj rfl rfl) (fun h9=>?_) (fun h9=>?_)
  · refine wK (a:=a) (xs:=fl.map fv) qr (by simp;omega) fun b off l E fz ha hl=>?_;subst ha;refine qx (qv (qw (qN rfl ?_)));refine qF (qv (qw (qJ (qw (qu (qb (wz rfl rfl rfl qd) ?_))))));refine qb (q8 rfl ((hl _ (by simp;omega)).trans (w5 dF qd))) ?_;refine qi ?_;refine qx (qv (qw (qu (qe ?_))));refine qC rfl (jD qh (hf k qd) rfl rfl ?_);rintro _ _ ⟨rfl,rfl⟩;refine qi ?_;refine qx (qv (qw (qu (qe ?_))));refine wq rfl (wB rfl rfl) (by simp) ?_;refine qx (qv (qB rfl ?_));refine qF (qX (qv (qu (qb (wa rfl rfl qd) ?_))));refine qe ?_;refine qx ?_;refine qT _ _ ⟨k+1,rfl,⟨_,At.eq (.cons rfl (.cons rfl (.cons rfl .nil)))⟩,by omega,rfl⟩ qd qh
  · obtain rfl:k=n:=by omega
    refine qx (qv (qw (qB rfl ?_)));refine wk ?_;refine qQ (qQ (ww ?_));refine qv (qw (qu (qo (qx (qv (qL ?_))))));refine qM rfl rfl (qD qg) _ ⟨rfl,rfl⟩ qm
theorem sp135 (q p nt ct nc cc:Nat) (at_ ac:Option Addr)(bm t ql:Nat) (lb:List UInt8) (D2:List Fd) (b3 b7:Nat) (s:ByteArray) (h1:1≤s.size) (hn:(((logN,ql,lb)::D2).map (·.1)).Nodup) (hu:used ((logN,ql,lb)::D2)+s.size≤16777216):Spec Tryz.prog 135 #[ptr b3,ptr b7]
    (fun T=>pt b3 (cl [ptr q] 65)::pt b7 (cl [.string s] 9)::sth q p at_ nt ct ac nc cc::fsh p bm t::mpo bm (dm ((logN,ql,lb)::D2))::fls ((logN,ql,lb)::D2)::T) (fun r T L=>r=.int .i64 0∧L=pt b3 (cl [ptr q] 65)::pt b7 (cl [.string s] 9)::sth q p at_ nt ct ac nc cc::fsh p bm t::mpo bm (dm ((logN,ql,lb)::D2))::fls ((logN,ql,lb++s.data.toList)::D2)::T):=by
  refine spec_of (n:=9) (args:=[ptr b3,ptr b7]) Tryz.func135 rfl rfl rfl rfl fun T=>?_;have hl:lb.length≤16777216:=by simp [used] at hu;omega
  refine qw (qu (qo (qx (qv (qw (wg [] [pt b3 (cl [ptr q] 65),pt b7 (cl [.string s] 9),sth q p at_ nt ct ac nc cc] mixed qm 7 rfl ?_))))));refine qk 0 rfl (qA rfl) ?_;refine qk 1 rfl (qy rfl) ?_;refine qk 2 rfl (qE rfl) ?_;refine qk 3 rfl (qA rfl) ?_;refine qk 4 rfl (qA rfl) ?_;refine qO [5] qj rfl ⟨?_,trivial⟩;refine we rfl qz rfl (qH qh (sp136 p bm t ((logN,ql,lb)::D2) [] D2 (logN,ql,lb) s rfl hn h1 hu hl) rfl ?_);rintro _ _ ⟨rfl,rfl⟩;refine ⟨.inr qm,?_⟩;refine qk 6 rfl (xh qg) ?_;refine qY qj ?_;refine qv (qL ?_);refine qM rfl rfl (qD qg) _ ⟨rfl,rfl⟩ qm
theorem sp137 (q p nt ct nc cc:Nat) (at_ ac:Option Addr)(bm t ql:Nat) (lb:List UInt8) (D2:List Fd) (b3 b7:Nat) (s:ByteArray) (hn:(((logN,ql,lb)::D2).map (·.1)).Nodup):Spec Tryz.prog 137 #[ptr b3]
    (fun T=>pt b3 (cl [ptr q] 65)::pt b7 (cl [.string s] 9)::sth q p at_ nt ct ac nc cc::fsh p bm t::mpo bm (dm ((logN,ql,lb)::D2))::fls ((logN,ql,lb)::D2)::T) (fun r T L=>r=.int .i64 0∧L=pt b3 (cl [ptr q] 65)::pt b7 (cl [.string s] 9)::sth q p at_ nt ct ac nc cc::fsh p bm t::mpo bm (dm ((logN,ql,lb)::D2))::fls ((logN,ql,lb)::D2)::T):=by
  refine spec_of (n:=7) (args:=[ptr b3]) Tryz.func137 rfl rfl rfl rfl fun T=>?_;refine qw (qu (qo (qx (qv (qw (qu (qb (qA rfl) ?_)))))));refine qb (qy rfl) ?_;refine qb (qE rfl) ?_;refine qb (qA rfl) ?_;refine qC rfl (qH qh (sp138 p bm t ((logN,ql,lb)::D2) [] D2 (logN,ql,lb) rfl hn) rfl ?_);rintro _ _ ⟨rfl,rfl⟩;refine qi ?_;refine qx (qv (qL ?_));refine qM rfl rfl (qD qg) _ ⟨rfl,rfl⟩ qm
theorem sp69 (q p nt ct nc cc:Nat) (at_ ac:Option Addr) (k:Nat) (bm t ql:Nat) (lb:List UInt8) (D2:List Fd) (s:ByteArray) (hk:1≤k) (hk2:k≤255) (hs:s.size≤1048576) (hn:(((logN,ql,lb)::D2).map (·.1)).Nodup) (hu:used ((logN,ql,lb)::D2)+(s.size+9)≤16777216):Spec Tryz.prog 69 #[ptr q,.int .i64 k,.string s]
    (fun T=>sth q p at_ nt ct ac nc cc::fsh p bm t::mpo bm (dm ((logN,ql,lb)::D2))::fls ((logN,ql,lb)::D2)::T) (fun r T L=>r=.int .i64 0∧L=sth q p at_ nt ct ac nc cc::fsh p bm t::mpo bm (dm ((logN,ql,lb)::D2))::fls ((logN,ql,(lb++frameB k s.data.toList))::D2)::T):=by
  refine spec_of (n:=28) (args:=[ptr q,.int .i64 k,.string s]) Tryz.func69 rfl rfl rfl rfl fun T=>?_;have hz:(⟨(frameB k s.data.toList).toArray⟩:ByteArray).size=s.size+9:=ym _ _;refine qw (qu ?_);refine qC rfl (xI qg rfl fun b3=>?_);refine qo (qx (qv (qw (qu (qe ?_)))));refine qe ?_;refine qb (wy (.one qg rfl (.one qg rfl .nil))) ?_;refine qC rfl (qH qh (sp134 k s hk hk2 hs) rfl ?_);rintro _ _ ⟨rfl,rfl⟩;refine qe ?_;refine qb (qP rfl) ?_;refine qb (qP rfl) ?_;refine qC rfl (qZ fun b7=>?_);refine q6 (qV rfl qg rfl ?_);refine qi ?_;refine qx (qv (qw (qw (qu (qe ?_)))));refine xb rfl (wA rfl rfl) rfl ?_;refine qx (qv (qN rfl ?_));refine qu (qb (wv .nil (.cons qg (.cons qg .nil))) ?_);refine qb (wv .nil (.cons qg .nil)) ?_;refine qC rfl (qS rfl (by first | decide | simp) (.one qg rfl (.one qg rfl .nil)) fun b20=>?_);refine wE (fun w h=>xa (m:=2) (cap:=2) (k:=1) (xs:=[(135,[ptr b3,ptr b7]),(137,[ptr b3])].map fv) (rest:=[]) h rfl (by decide)) ?_;refine wE (fun w h=>wi (L:=[pt b3 (cl [ptr q] 65),pt b7 (cl [.string (⟨(frameB k s.data.toList).toArray⟩:ByteArray)] 9),sth q p at_ nt ct ac nc cc,fsh p bm t,mpo bm (dm ((logN,ql,lb)::D2)),fls ((logN,ql,lb)::D2)]).sat (Pm.sat qh w h)) ?_;refine qC rfl (qH qh (sp124 2 2 (some ⟨b20,0,none⟩) [(135,[ptr b3,ptr b7]),(137,[ptr b3])] rfl (by decide) (R2 [pt b3 (cl [ptr q] 65),pt b7 (cl [.string (⟨(frameB k s.data.toList).toArray⟩:ByteArray)] 9),sth q p at_ nt ct ac nc cc,fsh p bm t,mpo bm (dm ((logN,ql,lb)::D2)),fls ((logN,ql,lb)::D2)] [pt b3 (cl [ptr q] 65),pt b7 (cl [.string (⟨(frameB k s.data.toList).toArray⟩:ByteArray)] 9),sth q p at_ nt ct ac nc cc,fsh p bm t,mpo bm (dm ((logN,ql,lb++frameB k s.data.toList)::D2)),fls ((logN,ql,lb++frameB k s.data.toList)::D2)]) (fun i hi=>match i,hi with | 0,_=>Spec.box (sp135 q p nt ct nc cc at_ ac bm t ql lb D2 b3 b7 (⟨(frameB k s.data.toList).toArray⟩:ByteArray) qd hn qd) | 1,_=>Spec.box (sp137 q p nt ct nc cc at_ ac bm t ql (lb++frameB k s.data.toList) D2 b3 b7 (⟨(frameB k s.data.toList).toArray⟩:ByteArray) hn))) rfl ?_);rintro _ _ ⟨rfl,rfl⟩;refine wE (fun w h=>wF.sat h) ?_;simp only [List.cons_append,List.nil_append];refine qi ?_;refine qx (qv (qw (qu (qb (qA rfl) ?_))));refine qe ?_;refine wq rfl (wA rfl rfl) (by simp) ?_;refine qb (qy rfl) ?_;refine qb (qE rfl) ?_;refine q6 (qV rfl qg rfl ?_);refine qx (qv (qw (qu (qe ?_))));refine qi ?_;refine qx (qv (qL ?_));refine qM rfl rfl (qD qg) _ ⟨rfl,rfl⟩ qm
end
section
open Go
set_option maxRecDepth 4000
theorem sat_add_tree {q p:Nat} {ts:List Tr} {cs:List Cm} {es:List Ent0} {a a2 a4:Option Addr} {c c2 c4:Nat} {L:List HProp} {w:World}
    (h:Sat (own (.slice a4 es.length c4) 94 2 (tcells es)::sth q p a (ts.length+1) c a2 cs.length c2::own (.slice a (ts.length+1) c) 34 1 (tsls ts++[.slice a4 es.length c4])::own (.slice a2 cs.length c2) 62 2 (cmls cs)::tpars ts::cpars cs::L) w) :
    Sat (sto q p (ts++[⟨a4,c4,es⟩]) cs::L) w:=by
  have h1:=wX h;have h2:Sat (tpar ⟨a4,c4,es⟩::tpars ts::sth q p a (ts.length+1) c a2 cs.length c2::own (.slice a (ts.length+1) c) 34 1 (tsls ts++[.slice a4 es.length c4])::own (.slice a2 cs.length c2) 62 2 (cmls cs)::cpars cs::L) w:=Pm.sat qh w h1;have h3:=xP h2;refine zp (nt:=ts.length+1) (nc:=cs.length) (by simp) rfl (a:=a) (c:=c) (a2:=a2) (c2:=c2) ?_;rw [show tsls (ts++[⟨a4,c4,es⟩])=tsls ts++[.slice a4 es.length c4] by simp [tsls]];exact Pm.sat qh w h3
theorem sat_add_commit {q p:Nat} {ts:List Tr} {cs:List Cm} {ps:List Nat} {tree:Nat} {a a2 a4:Option Addr} {c c2 c4:Nat} {L:List HProp} {w:World}
    (h:Sat (own (.slice a4 ps.length c4) 3 1 (ints ps)::sth q p a ts.length c a2 (cs.length+1) c2::own (.slice a ts.length c) 34 1 (tsls ts)::own (.slice a2 (cs.length+1) c2) 62 2 (cmls cs++[.slice a4 ps.length c4,.int .i64 tree])::tpars ts::cpars cs::L) w) :
    Sat (sto q p ts (cs++[⟨a4,c4,ps,tree⟩])::L) w:=by
  have h1:=wX h;have h2:Sat (cpar ⟨a4,c4,ps,tree⟩::cpars cs::sth q p a ts.length c a2 (cs.length+1) c2::own (.slice a ts.length c) 34 1 (tsls ts)::own (.slice a2 (cs.length+1) c2) 62 2 (cmls cs++[.slice a4 ps.length c4,.int .i64 tree])::tpars ts::L) w:=Pm.sat qh w h1;have h3:=xP h2;refine zp (nt:=ts.length) (nc:=cs.length+1) rfl (by simp) (a:=a) (c:=c) (a2:=a2) (c2:=c2) ?_;rw [show cmls (cs++[⟨a4,c4,ps,tree⟩])=cmls cs++[.slice a4 ps.length c4,.int .i64 tree] by rw [cmls_append];rfl];exact Pm.sat qh w h3
theorem sat_read_commit {q p b n:Nat} {ts:List Tr} {cs:List Cm} {ps:List Nat} {sp:List Value} {a a4:Option Addr} {c c2 c4:Nat} {L:List HProp} {w:World} (h1:(cmls cs).length=cs.length*2) (h2:(cmls cs).length+sp.length=c2*2)
    (h:Sat (own (.slice a4 n c4) 3 1 (ints ps)::pt b (cl (cmls cs++sp) 62)::sth q p a ts.length c (some ⟨b,0,none⟩) cs.length c2::own (.slice a ts.length c) 34 1 (tsls ts)::tpars ts::cpars cs::L) w):Sat (rdi a4 n c4 ps::sto q p ts cs::L) w:=by
  have h3:=wX h;have h4:=(Sel.there Sel.here).ent.sat h3;have h5:=xC h1 h2 h4;have h6:Sat (sth q p a ts.length c (some ⟨b,0,none⟩) cs.length c2::own (.slice a ts.length c) 34 1 (tsls ts)::own (.slice (some ⟨b,0,none⟩) cs.length c2) 62 2 (cmls cs)::tpars ts::cpars cs::rdi a4 n c4 ps::L) w :=
    (Pm.cons (.there (.there .here)) (Pm.cons (.there (.there .here)) (Pm.cons .here (Pm.cons (.there .here) (Pm.cons (.there .here) .refl))))).sat w h5
  exact (Sel.there Sel.here).ent.sat (zp rfl rfl h6)
theorem sat_read_tree {q p b n:Nat} {ts:List Tr} {cs:List Cm} {es:List Ent0} {sp:List Value} {a4 a2:Option Addr} {c c2 c4:Nat} {L:List HProp} {w:World} (h1:(tsls ts).length=ts.length*1) (h2:(tsls ts).length+sp.length=c*1)
    (h:Sat (own (.slice a4 n c4) 94 2 (tcells es)::pt b (cl (tsls ts++sp) 34)::sth q p (some ⟨b,0,none⟩) ts.length c a2 cs.length c2::own (.slice a2 cs.length c2) 62 2 (cmls cs)::tpars ts::cpars cs::L) w):Sat (tdi a4 n c4 es::sto q p ts cs::L) w:=by
  have h3:=wX h;have h4:=(Sel.there Sel.here).ent.sat h3;have h5:=xC h1 h2 h4;have h6:Sat (sth q p (some ⟨b,0,none⟩) ts.length c a2 cs.length c2::own (.slice (some ⟨b,0,none⟩) ts.length c) 34 1 (tsls ts)::own (.slice a2 cs.length c2) 62 2 (cmls cs)::tpars ts::cpars cs::tdi a4 n c4 es::L) w :=
    (Pm.cons (.there (.there .here)) (Pm.cons .here (Pm.cons (.there .here) (Pm.cons (.there .here) (Pm.cons (.there .here) .refl))))).sat w h5
  exact (Sel.there Sel.here).ent.sat (zp rfl rfl h6)
theorem tpar_rds (x:Tr):∃s i xs,tpar x=rds s i xs:=⟨_,_,_,rfl⟩
theorem cpar_rds (x:Cm):∃s i xs,cpar x=rds s i xs:=⟨_,_,_,rfl⟩
theorem sp37 (q p:Nat) (ts:List Tr) (cs:List Cm)(bm t ql:Nat) (lb:List UInt8) (D2:List Fd) (n cap:Nat) (a:Option Addr) (es:List Ent0) (hes:es.length=n) (H:GoodT es) (hts:ts.length≤60000) (hn:(((logN,ql,lb)::D2).map (·.1)).Nodup) (hu:used ((logN,ql,lb)::D2)+((treeB es).length+9)≤16777216):Spec Tryz.prog 37 #[ptr q,.slice a n cap]
    (fun T=>tdi a n cap es::sto q p ts cs::fsh p bm t::mpo bm (dm ((logN,ql,lb)::D2))::fls ((logN,ql,lb)::D2)::T) (fun r T L=>∃tr:Tr,tr.es=es∧r=.tuple #[.int .i64 ts.length,.int .i64 0]∧L=sto q p (ts++[tr]) cs::fsh p bm t::mpo bm (dm ((logN,ql,lb)::D2))::fls ((logN,ql,(lb++frameB 1 (treeB es)))::D2)::tdi a n cap es::T):=by
  refine spec_of (n:=54) (args:=[ptr q,.slice a n cap]) Tryz.func37 rfl rfl rfl rfl fun T=>?_;subst hes;have hlen:=H.len;have htl:=treeB_le H;refine jE (q:=q) qr fun a0 c0 a9 c9=>?_;refine qw (qu (qo (qo (qx (qv (qw (qw ?_)))))));refine qu (qe ?_);refine qC rfl (qH qh (sp67 q p _ _ _ _ _ _) rfl ?_);rintro _ _ ⟨rfl,rfl⟩;refine qi ?_;refine qx (qv (qw (qu (qe ?_))));refine wq rfl (wB rfl rfl) (by simp) ?_;refine qx (qv (qB rfl ?_));refine qF (qv (qw (qu (qe ?_))));refine qC rfl (qH qh (sp68 es.length cap a es rfl H) rfl ?_);rintro _ _ ⟨rfl,rfl⟩;refine qe ?_;refine qb (qP rfl) ?_;refine qb (qP rfl) ?_;refine qi ?_;refine qi ?_;refine qx (qv (qw (qw (qu (qe ?_)))));refine xb rfl (wA rfl rfl) rfl ?_;refine qe ?_;refine qq (qK qg) ?_;refine qq (qy rfl) ?_;refine qq (qE rfl) ?_;refine qq (qA rfl) ?_;refine qq (qI rfl) ?_;refine wR (qG rfl rfl rfl rfl) rfl (w9 rfl rfl) qd ?_;refine qb (q9 rfl qg) ?_;refine qx (qv (qB rfl ?_));refine qF (qv (qw (qw (qu (qe ?_)))));refine xb rfl (wA rfl rfl) rfl ?_;refine qx (qv (qN rfl ?_));refine qu (qe ?_);refine qe ?_;refine qC rfl (qH qh (sp69 q p _ _ _ _ _ _ 1 bm t ql lb D2 ⟨(treeB es).toArray⟩ (by decide) (by decide) (by rw [jp];omega) hn hu) rfl ?_);rintro _ _ ⟨rfl,rfl⟩;refine qi ?_;refine qx (qv (qw (qw (qu (qe ?_)))));refine wq rfl (wB rfl rfl) (by simp) ?_;refine qx (qv (qB rfl ?_));refine qF (qv (qw (wg [11] [sth q p a0 ts.length c0 a9 cs.length c9] mixed qm 12 rfl ?_)));refine qk 0 rfl (qK qg) ?_;refine qk 1 rfl (qK qg) ?_;refine qk 2 rfl (qy rfl) ?_;refine qk 3 rfl (qE rfl) ?_;refine qk 4 rfl (qA rfl) ?_;refine qk 5 rfl (qK qg) ?_;refine qO [6] qj rfl ⟨?_,trivial⟩;refine we rfl qz rfl (qH qh (sp70 es.length cap a (tcells es) qd (xQ es)) rfl ?_);rintro _ _ ⟨a43,c43,rfl,rfl⟩;refine ⟨.inr qm,?_⟩;refine qO [7] qj rfl ⟨?_,trivial⟩;refine we rfl qz rfl (qS rfl (by first | decide | simp) (.one qg rfl .nil) fun b44=>?_);refine ⟨.inr qm,?_⟩;refine qO [8] qj rfl ⟨?_,trivial⟩;refine we rfl qz rfl (wl qg qg qr rfl (by rfl) (by decide) xG (ones1 rfl) (fun _ _ _ h h'=>by cases h;omega) ?_);rintro _ _ _ a45 c45 ⟨⟩;refine ⟨.inr qm,?_⟩;refine qk 9 rfl (qy rfl) ?_;refine qk 10 rfl (qE rfl) ?_;refine qO [11] qj rfl ⟨?_,trivial⟩;refine wn rfl qz (qV rfl qg rfl ?_);refine ⟨.inl qj,?_⟩;refine qY qj ?_;refine qv (qw (qu (qe ?_)));refine qb (qy rfl) ?_;refine qb (qE rfl) ?_;refine qb (qA rfl) ?_;refine qb (qI rfl) ?_;refine qb (wT rfl rfl qd) ?_;rw [show (((ts.length+1:Nat):Int)-1)=(ts.length:Int) by omega];refine qi ?_;refine qo (qx (qv (qL ?_)));refine wu rfl rfl (qD qg) (qD qg) _ ⟨⟨a43,c43,es⟩,rfl,rfl,rfl⟩ (fun w h=>Pm.sat qh w (sat_add_tree (es:=es) (a4:=a43) (c4:=c43) (ts:=ts) (cs:=cs) (q:=q) (p:=p) (Pm.sat qh w h)))
theorem sp39 (q p:Nat) (ts:List Tr) (cs:List Cm)(bm t ql:Nat) (lb:List UInt8) (D2:List Fd) (n cap tree:Nat) (a:Option Addr) (ps:List Nat) (hps:ps.length=n) (H:GoodC tree ps) (hcs:cs.length≤60000) (h1:tree<ts.length) (h2:∀x∈ps,x<cs.length) (hn:(((logN,ql,lb)::D2).map (·.1)).Nodup) (hu:used ((logN,ql,lb)::D2)+((commitB tree ps).length+9)≤16777216):Spec Tryz.prog 39 #[ptr q,.agg #[.slice a n cap,.int .i64 tree]]
    (fun T=>rdi a n cap ps::sto q p ts cs::fsh p bm t::mpo bm (dm ((logN,ql,lb)::D2))::fls ((logN,ql,lb)::D2)::T) (fun r T L=>∃cm:Cm,cm.ps=ps∧cm.tree=tree∧r=.tuple #[.int .i64 cs.length,.int .i64 0]∧L=sto q p ts (cs++[cm])::fsh p bm t::mpo bm (dm ((logN,ql,lb)::D2))::fls ((logN,ql,(lb++frameB 2 (commitB tree ps)))::D2)::rdi a n cap ps::T):=by
  refine spec_of (n:=61) (args:=[ptr q,.agg #[.slice a n cap,.int .i64 tree]]) Tryz.func39 rfl rfl rfl rfl fun T=>?_;subst hps;have hlen:=H.len;have htl:=xX tree ps;refine jE (q:=q) qr fun a0 c0 a9 c9=>?_;refine qw (qu ?_);refine qC rfl (wx rfl fun b3=>?_);refine qo (qo (qx (qv (qw (qw (qu (qe ?_)))))));refine qC rfl (qH qh (sp67 q p _ _ _ _ _ _) rfl ?_);rintro _ _ ⟨rfl,rfl⟩;refine qi ?_;refine qx (qv (qw (qu (qe ?_))));refine wq rfl (wB rfl rfl) (by simp) ?_;refine qx (qv (qB rfl ?_));refine qF (qv (qw (qu (qb (wm rfl) ?_))));refine qC rfl (qH qh (sp71 tree ps.length cap a ps rfl H) rfl ?_);rintro _ _ ⟨rfl,rfl⟩;refine qe ?_;refine qb (qP rfl) ?_;refine qb (qP rfl) ?_;refine qi ?_;refine qi ?_;refine qx (qv (qw (qJ (qw (qu (qe ?_))))));refine wq rfl (wB rfl rfl) (by simp) ?_;refine qi ?_;refine qx (qv (qB rfl ?_));refine qw (qu (qe ?_));refine qb (wm rfl) ?_;refine qC rfl (qH qh (sp72 q p _ _ _ _ _ _ tree ps.length cap a ps rfl qd h1 h2) rfl ?_);rintro _ _ ⟨rfl,rfl⟩;refine qb (xe rfl) ?_;refine qi ?_;refine qx (qv (qB rfl ?_));refine qw (qu (qe ?_));refine qb (qy rfl) ?_;refine qb (qE rfl) ?_;refine qb (qA rfl) ?_;refine qb (qI rfl) ?_;refine wq rfl (w9 rfl rfl) qd ?_;refine qi ?_;refine qx (qv (qB rfl ?_));refine qu (qe ?_);refine qe ?_;refine qC rfl (qH qh (sp69 q p _ _ _ _ _ _ 2 bm t ql lb D2 ⟨(commitB tree ps).toArray⟩ (by decide) (by decide) (by rw [jp];omega) hn hu) rfl ?_);rintro _ _ ⟨rfl,rfl⟩;refine qi ?_;refine qx (qX (qv (qw (qw (qu (qe ?_))))));refine wq rfl (wB rfl rfl) (by simp) ?_;refine qx (qv (qB rfl ?_));refine qF (qv (qw (wg [15] [sth q p a0 ts.length c0 a9 cs.length c9,pt b3 (cl [.slice a ps.length cap,.int .i64 tree] 62)] mixed qm 16 rfl ?_)));refine qk 0 rfl (qK qg) ?_;refine qk 1 rfl (qK qg) ?_;refine qk 2 rfl (qy rfl) ?_;refine qk 3 rfl (qE rfl) ?_;refine qk 4 rfl (qA rfl) ?_;refine qk 5 rfl (qE rfl) ?_;refine qk 6 rfl (qA rfl) ?_;refine qk 8 rfl (qE rfl) ?_;refine qk 9 rfl (qA rfl) ?_;refine qO [7] qj rfl ⟨?_,trivial⟩;refine we rfl qz rfl (qH qh (sp73 ps.length cap a (ints ps) qd (jo ps)) rfl ?_);rintro _ _ ⟨a47,c47,rfl,rfl⟩;refine ⟨.inr qm,?_⟩;refine qk 10 rfl (wy (.one qg rfl (.one qg rfl .nil))) ?_;refine qO [11] qj rfl ⟨?_,trivial⟩;refine we rfl qz rfl (qS rfl (by first | decide | simp) (.agg rfl rfl .nil) fun b51=>?_);simp only [List.append_nil,List.cons_append,List.nil_append];refine ⟨.inr qm,?_⟩;refine qO [12] qj rfl ⟨?_,trivial⟩;refine we rfl qz rfl (wl qg qg qr rfl (by rfl) (by decide) (xc (k:=2) (ys:=[.slice a47 ps.length c47,.int .i64 tree]) rfl) (onesK rfl) (fun _ _ _ h h'=>by cases h;omega) ?_);rintro _ _ _ a52 c52 ⟨⟩;refine ⟨.inr qm,?_⟩;refine qk 13 rfl (qy rfl) ?_;refine qk 14 rfl (qE rfl) ?_;refine qO [15] qj rfl ⟨?_,trivial⟩;refine wn rfl qz (qV rfl qg rfl ?_);refine ⟨.inl qj,?_⟩;refine qY qj ?_;refine qv (qw (qu (qe ?_)));refine qb (qy rfl) ?_;refine qb (qE rfl) ?_;refine qb (qA rfl) ?_;refine qb (qI rfl) ?_;refine qb (wT rfl rfl qd) ?_;rw [show (((cs.length+1:Nat):Int)-1)=(cs.length:Int) by omega];refine qi ?_;refine qo (qx (qv (qL ?_)));refine wu rfl rfl (qD qg) (qD qg) _ ⟨⟨a47,c47,ps,tree⟩,rfl,rfl,rfl,rfl⟩ (fun w h=>Pm.sat qh w (sat_add_commit (ps:=ps) (tree:=tree) (a4:=a47) (c4:=c47) (ts:=ts) (cs:=cs) (q:=q) (p:=p) (Pm.sat qh w h)))
theorem sp288 (q p:Nat) (ts:List Tr) (cs:List Cm) (k:Nat) (hk:k<cs.length) (hcs:cs.length≤60000) (hl:(cs.getD k dCm).ps.length≤16):Spec Tryz.prog 288 #[ptr q,.int .i64 k]
    (fun T=>sto q p ts cs::T) (fun r T L=>∃a c,r=.tuple #[.agg #[.slice a (cs.getD k dCm).ps.length c,.int .i64 (cs.getD k dCm).tree],.int .i64 0]∧L=rdi a (cs.getD k dCm).ps.length c (cs.getD k dCm).ps::sto q p ts cs::T):=by
  refine spec_of (n:=37) (args:=[ptr q,.int .i64 k]) Tryz.func288 rfl rfl rfl rfl fun T=>?_;refine jE (q:=q) qr fun a0 c0 a9 c9=>?_;refine w8 (fun w h=>w7 (f:=cpar) (l:=cs) (k:=k) (d:=dCm) cpar_rds qr hk h) ?_;refine xY (E:=62) (xs:=cmls cs) qr (by rw [jT];omega) fun b sp ha hl1 hl2=>?_;subst ha;refine qw (qu ?_);refine qC rfl (qZ fun b4=>?_);refine qo (qx (qv (qw (qJ (qw (qu (qe ?_)))))));refine qb (wd rfl rfl) ?_;refine qi ?_;refine qx (qv (qB rfl ?_));refine qw (qu (qe ?_));refine wq rfl (wj rfl rfl) qd ?_;refine qe ?_;refine qq (qK qg) ?_;refine qq (qK qg) ?_;refine qq (qy rfl) ?_;refine qq (qE rfl) ?_;refine qq (qA rfl) ?_;refine qq (qI rfl) ?_;refine wR (qG rfl rfl rfl rfl) rfl (w9 rfl rfl) qd ?_;refine qb (qW rfl qg) ?_;refine qi ?_;refine qx (qv (qB rfl ?_));refine qF (qX (qv (qw (qu (qe ?_)))));refine qb (qy rfl) ?_;refine qb (qE rfl) ?_;refine qb (qA rfl) ?_;refine qe ?_;refine qb (wN (k:=k) rfl rfl qd qd) ?_;refine qb (wD (rs:=cml (cs.getD k dCm)) rfl rfl (cmat hk)) ?_;refine qC rfl (qZ fun b6=>?_);refine q6 (wc rfl rfl rfl rfl ?_);refine qx (qv (qw (wg [] [pt b6 (cl (cml (cs.getD k dCm)) 62)] mixed qm 8 rfl ?_)));refine qk 0 rfl (qE rfl) ?_;refine qk 1 rfl (qA rfl) ?_;refine qk 3 rfl (qE rfl) ?_;refine qk 4 rfl (qA rfl) ?_;refine qO [2] qj rfl ⟨?_,trivial⟩;refine we rfl qz rfl (qH qh (sp73 (cs.getD k dCm).ps.length (cs.getD k dCm).cap (cs.getD k dCm).a (ints (cs.getD k dCm).ps) qd (jo _)) rfl ?_);rintro _ _ ⟨a33,c33,rfl,rfl⟩;refine ⟨.inr qm,?_⟩;refine qk 5 rfl (wy (.one qg rfl (.one qg rfl .nil))) ?_;refine qO [6] qj rfl ⟨?_,trivial⟩;refine wn rfl qz (wc rfl rfl rfl rfl ?_);refine ⟨.inr qm,?_⟩;refine qk 7 rfl qt_asc ?_;refine qY qj ?_;refine qv (qL ?_);refine wu rfl rfl (wJ rfl) (qD qg) _ ⟨a33,c33,rfl,rfl⟩ (fun w h=>sat_read_commit hl1 hl2 (Pm.sat qh w h))
theorem sp216 (q p:Nat) (ts:List Tr) (cs:List Cm) (k:Nat) (hk:k<ts.length) (hts:ts.length≤60000) (hl:(ts.getD k dTr).es.length≤1024):Spec Tryz.prog 216 #[ptr q,.int .i64 k]
    (fun T=>sto q p ts cs::T) (fun r T L=>∃a c,r=.tuple #[.slice a (ts.getD k dTr).es.length c,.int .i64 0]∧L=tdi a (ts.getD k dTr).es.length c (ts.getD k dTr).es::sto q p ts cs::T):=by
  refine spec_of (n:=29) (args:=[ptr q,.int .i64 k]) Tryz.func216 rfl rfl rfl rfl fun T=>?_;refine jE (q:=q) qr fun a0 c0 a9 c9=>?_;refine w8 (fun w h=>w7 (f:=tpar) (l:=ts) (k:=k) (d:=dTr) tpar_rds qr hk h) ?_;refine xY (E:=34) (xs:=tsls ts) qr (by rw [tsls_length];omega) fun b sp ha hl1 hl2=>?_;subst ha;refine qw (qu (qo (qo (qx (qv (qw (qJ ?_)))))));refine qw (qu (qe ?_));refine qb (wd rfl rfl) ?_;refine qi ?_;refine qx (qv (qB rfl ?_));refine qw (qu (qe ?_));refine wq rfl (wj rfl rfl) qd ?_;refine qe ?_;refine qq (qK qg) ?_;refine qq (qK qg) ?_;refine qq (qy rfl) ?_;refine qq (qE rfl) ?_;refine qq (qA rfl) ?_;refine qq (qI rfl) ?_;refine wR (qG rfl rfl rfl rfl) rfl (w9 rfl rfl) qd ?_;refine qb (qW rfl qg) ?_;refine qi ?_;refine qx (qv (qB rfl ?_));refine qF (qX (qv (qw (qu (qe ?_)))));refine qb (qy rfl) ?_;refine qb (qE rfl) ?_;refine qb (qA rfl) ?_;refine qe ?_;refine qb (wz (k:=k) rfl rfl qd qd) ?_;refine qb (q8 rfl (tsat hk)) ?_;refine qC rfl (qH qh (sp70 (ts.getD k dTr).es.length (ts.getD k dTr).cap (ts.getD k dTr).a (tcells (ts.getD k dTr).es) qd (xQ _)) rfl ?_);rintro _ _ ⟨a28,c28,rfl,rfl⟩;refine qi ?_;refine qo (qx (qv (qL ?_)));refine wu rfl rfl (qD qg) (qD qg) _ ⟨a28,c28,rfl,rfl⟩ (fun w h=>sat_read_tree hl1 hl2 (Pm.sat qh w h))
end
section
open Go
set_option maxRecDepth 4000
structure Ly where
  base:Nat
  a:Option Addr
  cap:Nat
  rs:List Rw
abbrev dLy:Ly:=⟨0,none,0,[]⟩
abbrev lyl (g:Ly):List Value:=gl g.base g.a g.rs.length g.cap
abbrev lyv (g:Ly):Value:=.agg (lyl g).toArray
def lyls (gs:List Ly):List Value:=gs.flatMap lyl
theorem zY:∀gs,(lyls gs).length=gs.length*6
  | []=>rfl
  | e::es=>by
    have:=zY es;simp only [lyls,List.flatMap_cons,List.length_append,List.length_cons,List.length_nil] at this ⊢;omega
theorem lyls_append (a b:List Ly):lyls (a++b)=lyls a++lyls b:=by simp [lyls]
theorem lyls_at:∀(gs:List Ly) (k j:Nat),k<gs.length→j<6→(lyls gs)[k*6+j]?=(lyl (gs.getD k dLy))[j]?
  | c::cs,0,j,_,hj=>by
    rcases j with _ | _ | _ | _ | _ | _ | j
    · rfl
    · rfl
    · rfl
    · rfl
    · rfl
    · rfl
    · omega
  | c::cs,k+1,j,h,hj=>by
    have:=lyls_at cs k j (by simpa using h) hj;rw [show (k+1)*6+j=k*6+j+1+1+1+1+1+1 by omega];exact this
theorem lyat6 {gs:List Ly} {l:List Value} {off k:Nat} (hl:∀i,i<(lyls gs).length→l[off+i]?=(lyls gs)[i]?) (hk:k<gs.length):∀j,j<6→l[off+k*6+j]?=(lyl (gs.getD k dLy))[j]?:=fun j hj=>by
  rw [Nat.add_assoc,hl _ (by rw [zY];omega)];exact lyls_at gs k j hk hj
theorem lyls_ones (es:List Ly):∀y∈lyls es,Value.one y=true:=by
  intro y hy;obtain ⟨e,_,he⟩:=List.mem_flatMap.1 hy;simp only [List.mem_cons,List.not_mem_nil,or_false] at he;rcases he with rfl | rfl | rfl | rfl | rfl | rfl<;>rfl
abbrev gpar (g:Ly):HProp:=gdi g.a g.rs.length g.cap g.rs
theorem gpar_rds (x:Ly):∃s i xs,gpar x=rds s i xs:=⟨_,_,_,rfl⟩
theorem rpar_rds (x:Rw):∃s i xs,rpar x=rds s i xs:=⟨_,_,_,rfl⟩
def gpars (gs:List Ly):HProp:=box (gs.map gpar)
def rowsOf (gs:List Ly):List Rw:=gs.flatMap (·.rs)
theorem zW {gs:List Ly} {k:Nat} (hk:k<gs.length):rowsOf (gs.take (k+1))=rowsOf (gs.take k)++(gs.getD k dLy).rs:=by rw [wU (d:=dLy) hk];simp [rowsOf]
theorem kT {gs:List Ly} {k:Nat} (hk:k<gs.length):∃suf,rowsOf gs=rowsOf (gs.take k)++((gs.getD k dLy).rs++suf):=by
  refine ⟨rowsOf (gs.drop (k+1)),?_⟩;have:gs=gs.take k++gs.getD k dLy::gs.drop (k+1):=by simp [hk]
  conv=>lhs;rw [this]
  simp [rowsOf]
theorem rowsOf_at {gs:List Ly} {k n:Nat} (hk:k<gs.length) (h1:(rowsOf (gs.take k)).length≤n) (h2:n<(rowsOf (gs.take k)).length+(gs.getD k dLy).rs.length):(gs.getD k dLy).rs.getD (n-(rowsOf (gs.take k)).length) dR=(rowsOf gs).getD n dR:=by
  obtain ⟨suf,h⟩:=kT hk;rw [h]
  generalize (gs.getD k dLy).rs=g at h2 ⊢
  rw [List.getD_eq_getElem?_getD,List.getD_eq_getElem?_getD,List.getElem?_append_right h1,List.getElem?_append_left qd]
structure LaysOk (ls:List Lk) (gs:List Ly):Prop where
  len:gs.length=ls.length
  base:∀k,k<gs.length→(gs.getD k dLy).base=(rowsOf (gs.take k)).length
  cnt:∀k,k<gs.length→(ls.getD k dL).2.1=(gs.getD k dLy).rs.length
  few:ls.length≤8
  all:(rowsOf gs).length≤1000
theorem LaysOk.tot_take {ls:List Lk} {gs:List Ly} (H:LaysOk ls gs):∀k,k≤gs.length→tot (ls.take k)=(rowsOf (gs.take k)).length
  | 0,_=>rfl
  | k+1,hk=>by
    have:=H.len;rw [jG qd,zW qd,List.length_append,H.tot_take k qd,H.cnt k qd]
theorem LaysOk.tot {ls:List Lk} {gs:List Ly} (H:LaysOk ls gs):YtdibpoheeffioaaGreatDoor.tot ls=(rowsOf gs).length:=by
  have h1:=H.tot_take gs.length (Nat.le_refl _);have h2:=H.len
  rwa [List.take_of_length_le qd,List.take_of_length_le qd] at h1
theorem LaysOk.le {ls:List Lk} {gs:List Ly} (H:LaysOk ls gs) {k:Nat} (hk:k<gs.length):(rowsOf (gs.take k)).length+(gs.getD k dLy).rs.length≤(rowsOf gs).length:=by
  obtain ⟨suf,h⟩:=kT hk;rw [h,List.length_append,List.length_append];omega
abbrev idh (x p:Nat) (a:Option Addr) (n c:Nat) (a2:Option Addr) (n2 c2:Nat):HProp:=pt x (cl [ptr p,.slice a n c,.slice a2 n2 c2] 104)
abbrev lydi (a:Option Addr) (n cap:Nat) (gs:List Ly):HProp:=rds (.slice a n cap) 6 (lyls gs)
def idx (x p:Nat) (ls:List Lk) (gs:List Ly):HProp:=ex fun y:(Option Addr×Nat)×(Option Addr×Nat) =>
  box [idh x p y.1.1 ls.length y.1.2 y.2.1 gs.length y.2.2,ldi y.1.1 ls.length y.1.2 ls,lydi y.2.1 gs.length y.2.2 gs,gpars gs,pars (rowsOf gs)]
theorem kM {x p:Nat} {ls:List Lk} {gs:List Ly} {L:List HProp} {w:World} (h:Sat (idx x p ls gs::L) w) :
    ∃a c a2 c2,Sat (idh x p a ls.length c a2 gs.length c2::ldi a ls.length c ls::lydi a2 gs.length c2 gs::gpars gs::pars (rowsOf gs)::L) w:=by
  obtain ⟨x,h⟩:=yb h;exact ⟨_,_,_,_,wF.sat h⟩
theorem js {x p n1 n2:Nat} {ls:List Lk} {gs:List Ly} {a a2:Option Addr} {c c2:Nat} {L:List HProp} {w:World} (h1:ls.length=n1) (h2:gs.length=n2)
    (h:Sat (idh x p a n1 c a2 n2 c2::ldi a n1 c ls::lydi a2 n2 c2 gs::gpars gs::pars (rowsOf gs)::L) w):Sat (idx x p ls gs::L) w:=by
  subst h1 h2;exact (ye (f:=fun y:(Option Addr×Nat)×(Option Addr×Nat)=>box [idh x p y.1.1 ls.length y.1.2 y.2.1 gs.length y.2.2,ldi y.1.1 ls.length y.1.2 ls,lydi y.2.1 gs.length y.2.2 gs,gpars gs,pars (rowsOf gs)]) ((a,c),(a2,c2))).sat (wi (L:=[_,_,_,_,_]).sat h)
section
variable {P:Program} {n:Nat} {ds:List Deferred} {Q:Ky} {v:Env} {L Lr:List HProp} {x p:Nat} {ls:List Lk} {gs:List Ly}
theorem wx_idx {c:Code} (hsel:Sel L (idx x p ls gs) Lr) (h:∀a c' a2 c2,wpx P n ds c Q v (idh x p a ls.length c' a2 gs.length c2::ldi a ls.length c' ls::lydi a2 gs.length c2 gs::gpars gs::pars (rowsOf gs)::Lr)):wpx P n ds c Q v L :=
  fun ac w ha hw=>let ⟨a,c',a2,c2,h'⟩:=kM (hsel.ent.sat hw);h a c' a2 c2 ac w ha h'
end
theorem sp42 (x p n2 lc gc:Nat) (la ga:Option Addr) (ls:List Lk) (hb:ls.length≤8) (ht:tot ls≤1000):Spec Tryz.prog 42 #[ptr x]
    (fun T=>idh x p la ls.length lc ga n2 gc::ldi la ls.length lc ls::T) (fun r T L=>r=.int .i64 (tot ls)∧L=idh x p la ls.length lc ga n2 gc::ldi la ls.length lc ls::T):=by
  refine spec_of (n:=10) (args:=[ptr x]) Tryz.func42 rfl rfl rfl rfl fun T=>?_;refine qw (qu (qo (qx (qv (qw (qw (qu ?_)))))));refine qe ?_;refine qb (wd rfl rfl) ?_;refine qx (qv (qB rfl ?_));refine qF (qv (qw (qu (qe ?_))));refine qb (qy rfl) ?_;refine qb (qE rfl) ?_;refine qb (qA rfl) ?_;refine qC rfl (qH qh (sp74 ls.length lc la ls rfl qd qd) rfl ?_);rintro _ _ ⟨rfl,rfl⟩;refine qi ?_;refine qx (qv (qL ?_));refine qM rfl rfl (qD qg) _ ⟨rfl,rfl⟩ qm
theorem sp331 (x p:Nat) (ls:List Lk) (gs:List Ly) (H:LaysOk ls gs) (n:Nat) (hn:n<(rowsOf gs).length):Spec Tryz.prog 331 #[ptr x,.int .i64 n]
    (fun T=>idx x p ls gs::T) (fun r T L=>r=.tuple #[rv ((rowsOf gs).getD n dR),setV,.bool true]∧L=idx x p ls gs::T):=by
  refine spec_of (n:=47) (args:=[ptr x,.int .i64 n]) Tryz.func331 rfl rfl rfl rfl fun T=>?_;have hfew:=H.few;have hall:=H.all;have htot:=H.tot;have hgl:=H.len;refine wx_idx (x:=x) qr fun la lc ga gc=>?_;refine qw (qu ?_);refine qC rfl (qZ fun b4=>?_);refine qC rfl (qZ fun b5=>?_);refine qo (qx (qv (qw (qw (qu (qe ?_))))));refine xb rfl (w9 rfl rfl) qd ?_;refine qe ?_;refine qq (qK qg) ?_;refine qq (qK qg) ?_;refine xr (qG rfl rfl rfl rfl) rfl (qH qh (sp42 x p _ _ _ _ _ ls qd qd) rfl ?_);rintro _ _ ⟨rfl,rfl⟩;rw [htot];refine yq (qG rfl rfl rfl rfl) rfl (wj rfl rfl) qd ?_;refine qb (q9 rfl qg) ?_;refine qx (qv (qN rfl ?_));refine qw (qu (qe ?_));refine qb (qy rfl) ?_;refine qb (qE rfl) ?_;refine qb (qA rfl) ?_;refine qb (qI rfl) ?_;refine qb wH ?_;refine qx (qv (qJ (q7 (fun m v L=>∃(j:Nat),gs.length-j=m∧(∃v0,v=ups v0 [(1,.int .i64 n),(4,.pointer (some ⟨b4,0,none⟩)),(5,.pointer (some ⟨b5,0,none⟩)),(20,.slice ga gs.length gc),(21,.int .i64 gs.length),(22,.int .i64 j)])∧(j≤gs.length)∧((rowsOf (gs.take j)).length≤n)∧L=idh x p la ls.length lc ga gs.length gc::ldi la ls.length lc ls::lydi ga gs.length gc gs::gpars gs::pars (rowsOf gs)::pt b4 (cl [.slice none 0 0,.int .i64 0,.int .i64 0,.int .i64 0,.string ⟨List.toArray []⟩] 180)::pt b5 (cl [.int .i64 0,.int .i64 0,.int .i64 0,.int .u32 0] 69)::T) _ _ ⟨0,rfl,⟨_,At.eq (.cons rfl (.cons rfl (.cons rfl (.cons rfl (.cons rfl (.cons rfl .nil))))))⟩,by omega,by simp [rowsOf],rfl⟩ qh ?_)));rintro m _ _ ⟨j,rfl,⟨v0,rfl⟩,hj,hjn,rfl⟩;refine qw (qu ?_);refine wG rfl (wj rfl rfl) (fun h23=>?_) (fun h23=>?_)
  · refine wK (a:=ga) (xs:=lyls gs) qr (by rw [zY];omega) fun b off l E fz ha hl=>?_;subst ha;have hbj:=H.base j qd;have hle:=H.le (k:=j) qd;refine qx (qv (qw (qN rfl ?_)));refine qF (qv (qw (qJ (qw (qu (qb (wN rfl rfl rfl qd) ?_))))));refine qb (wD (rs:=lyl (gs.getD j dLy)) rfl rfl (lyat6 hl qd)) ?_;refine qC rfl (qZ fun b8=>?_);refine q6 (wc rfl rfl rfl rfl ?_);refine qx (qv (qw (qu (qe ?_))));refine qb (qE rfl) ?_;refine qb (qA rfl) ?_;refine qb (qE rfl) ?_;refine qb (qA rfl) ?_;refine qb (qI rfl) ?_;refine qb (wa rfl rfl qd) ?_;refine wG rfl (wj rfl rfl) (fun h33=>?_) (fun h33=>?_)
    · refine qx (qv (qN rfl ?_));refine qw (w8 (fun w h=>w7 (f:=gpar) (l:=gs) (k:=j) (d:=dLy) gpar_rds qr qd h) ?_);refine wx_rds (a:=(gs.getD j dLy).a) (xs:=rcells (gs.getD j dLy).rs) qr (by rw [yl];omega) fun b2 off2 l2 E2 fz2 ha2 hl2=>?_;rw [ha2];refine wg [] [pt b8 (cl [.int .i64 (gs.getD j dLy).base,.int .i64 3,.int .i64 10,.int .i64 2,.int .u32 7,.slice (some ⟨b2,off2,none⟩) (gs.getD j dLy).rs.length (gs.getD j dLy).cap] 110),rd b2 (.cells l2.toArray E2 fz2)] mixed qm 13 rfl ?_;refine qk 0 rfl (qE rfl) ?_;refine qk 1 rfl (qA rfl) ?_;refine qk 2 rfl (qK qg) ?_;refine qk 3 rfl (qE rfl) ?_;refine qk 4 rfl (qA rfl) ?_;refine qk 5 rfl (wT rfl rfl qd) ?_;refine qk 6 rfl (wN (k:=(n-(rowsOf (gs.take j)).length)) rfl rfl (by rw [hbj];omega) qd) ?_;refine qk 7 rfl (wD (rs:=rl ((rowsOf gs).getD n dR)) rfl rfl (by rw [←rowsOf_at (k:=j) qd hjn qd];exact rat5 hl2 qd)) ?_;refine qk 8 rfl (qE rfl) ?_;refine qk 9 rfl (wm rfl) ?_;refine qO [10] qj rfl ⟨?_,trivial⟩;refine wn rfl qz (wc rfl rfl rfl rfl ?_);refine ⟨.inr qm,?_⟩;refine qO [11] qj rfl ⟨?_,trivial⟩;refine wn rfl qz (wc rfl rfl rfl rfl ?_);refine ⟨.inr qm,?_⟩;refine qk 12 rfl qt_asc ?_;refine qY qj ?_;refine qv (qL ?_);refine wQ (wt (wt (wQ (wt ?_))));refine k7 rfl rfl (wJ rfl) (wJ rfl) (qD qg) _ ⟨rfl,rfl⟩ (fun w h=>js (x:=x) (p:=p) rfl rfl (Pm.sat qh w h))
    · refine qx (qv (qB rfl ?_));refine qF (qX (qv (qu (qb (wa rfl rfl qd) ?_))));refine qe ?_;refine qx ?_;refine qT _ _ ⟨j+1,rfl,⟨_,At.eq (.cons rfl (.cons rfl (.cons rfl (.cons rfl (.cons rfl (.cons rfl .nil))))))⟩,by omega,by rw [zW qd,List.length_append];omega,rfl⟩ qd qh
  · skip
    exfalso
    obtain rfl:j=gs.length:=by omega
    rw [List.take_length] at hjn;omega
end
section
open Go
set_option maxRecDepth 4000
structure StoOk (ts:List Tr) (cs:List Cm):Prop where
  lt:ts.length≤1000
  lc:cs.length≤1000
  tree:∀k,k<ts.length→GoodP (ts.getD k dTr).es
  len:∀k,k<cs.length→(cs.getD k dCm).ps.length≤16
  nodup:∀k,k<cs.length→(cs.getD k dCm).ps.Nodup
  up:∀k,k<cs.length→∀x∈(cs.getD k dCm).ps,x<k
  has:∀k,k<cs.length→(cs.getD k dCm).tree<ts.length
theorem GoodP.ok {es:List Ent0} (H:GoodP es):OkT es:=H.good.ok
theorem sat_idx_row {x p k:Nat} {ls:List Lk} {gs:List Ly} {L Lr:List HProp} {w:World} (hsel:Sel L (idx x p ls gs) Lr) (hk:k<(rowsOf gs).length) (h:Sat L w):Sat (rpar ((rowsOf gs).getD k dR)::L) w:=by
  obtain ⟨a,c,a2,c2,h1⟩:=kM (hsel.ent.sat h);have h2:=w7 (f:=rpar) (l:=rowsOf gs) (k:=k) (d:=dR) rpar_rds (.there (.there (.there (.there .here)))) hk h1;have h3:Sat (idh x p a ls.length c a2 gs.length c2::ldi a ls.length c ls::lydi a2 gs.length c2 gs::gpars gs::pars (rowsOf gs)::rpar ((rowsOf gs).getD k dR)::Lr) w :=
    (Pm.cons (.there .here) (Pm.cons (.there .here) (Pm.cons (.there .here) (Pm.cons (.there .here) (Pm.cons (.there .here) .refl))))).sat w h2
  have h4:=js rfl rfl h3;exact (hsel.back.cons).sat ((Sel.there Sel.here).ent.sat h4)
theorem sat_own_idx {x p E k:Nat} {s:Value} {xs:List Value} {ls:List Lk} {gs:List Ly} {a a2:Option Addr} {c c2:Nat} {L:List HProp} {w:World}
    (h:Sat (own s E k xs::idh x p a ls.length c a2 gs.length c2::ldi a ls.length c ls::lydi a2 gs.length c2 gs::gpars gs::pars (rowsOf gs)::L) w):Sat (rds s k xs::idx x p ls gs::L) w:=by
  have h1:=wX h;have h2:Sat (idh x p a ls.length c a2 gs.length c2::ldi a ls.length c ls::lydi a2 gs.length c2 gs::gpars gs::pars (rowsOf gs)::rds s k xs::L) w :=
    (Pm.cons (.there .here) (Pm.cons (.there .here) (Pm.cons (.there .here) (Pm.cons (.there .here) (Pm.cons (.there .here) .refl))))).sat w h1
  exact (Sel.there Sel.here).ent.sat (js rfl rfl h2)
abbrev gensAt (gs:List Ly) (j k:Nat):List Nat:=(rowsOf (gs.take j)++(gs.getD j dLy).rs.take k).map (·.gen)
theorem gensAt_zero (gs:List Ly) (j:Nat):gensAt gs j 0=(rowsOf (gs.take j)).map (·.gen):=by simp [gensAt]
theorem gensAt_succ {gs:List Ly} {j k:Nat} (hk:k<(gs.getD j dLy).rs.length):gensAt gs j (k+1)=gensAt gs j k++[((gs.getD j dLy).rs.getD k dR).gen]:=by
  rw [gensAt,wU (d:=dR) hk,←List.append_assoc,List.map_append];rfl
theorem gensAt_full {gs:List Ly} {j:Nat} (hj:j<gs.length):gensAt gs j (gs.getD j dLy).rs.length=(rowsOf (gs.take (j+1))).map (·.gen):=by
  rw [gensAt,List.take_length,←zW hj]
theorem sp28s (q p:Nat) (ts:List Tr) (cs:List Cm):Spec Tryz.prog 28 #[ptr q]
    (fun T=>sto q p ts cs::T) (fun r T L=>r=.int .i64 cs.length∧L=sto q p ts cs::T):=by
  refine spec_of (n:=10) (args:=[ptr q]) Tryz.func28 rfl rfl rfl rfl fun T=>?_;refine jE (q:=q) qr fun a0 c0 a9 c9=>?_;refine qw (qu (qo (qx (qv (qw (qw (qu ?_)))))));refine qe ?_;refine qb (wd rfl rfl) ?_;refine qx (qv (qB rfl ?_));refine qF (qv (qw (qu (qe ?_))));refine qb (qy rfl) ?_;refine qb (qE rfl) ?_;refine qb (qA rfl) ?_;refine qb (qI rfl) ?_;refine qi ?_;refine qx (qv (qL ?_));refine qM rfl rfl (qD qg) _ ⟨rfl,rfl⟩ (fun w h=>zp (q:=q) (p:=p) rfl rfl (Pm.sat qh w h))
theorem sp42s (x p:Nat) (ls:List Lk) (gs:List Ly) (H:LaysOk ls gs):Spec Tryz.prog 42 #[ptr x]
    (fun T=>idx x p ls gs::T) (fun r T L=>r=.int .i64 (rowsOf gs).length∧L=idx x p ls gs::T):=by
  refine spec_of (n:=10) (args:=[ptr x]) Tryz.func42 rfl rfl rfl rfl fun T=>?_;have hfew:=H.few;have hall:=H.all;have htot:=H.tot;have hgl:=H.len;refine wx_idx (x:=x) qr fun la lc ga gc=>?_;refine qw (qu (qo (qx (qv (qw (qw (qu ?_)))))));refine qe ?_;refine qb (wd rfl rfl) ?_;refine qx (qv (qB rfl ?_));refine qF (qv (qw (qu (qe ?_))));refine qb (qy rfl) ?_;refine qb (qE rfl) ?_;refine qb (qA rfl) ?_;refine qC rfl (qH qh (sp74 ls.length lc la ls rfl qd qd) rfl ?_);rintro _ _ ⟨rfl,rfl⟩;rw [htot];refine qi ?_;refine qx (qv (qL ?_));refine qM rfl rfl (qD qg) _ ⟨rfl,rfl⟩ (fun w h=>js (x:=x) (p:=p) rfl rfl (Pm.sat qh w h))
theorem sp287 (x p:Nat) (ls:List Lk) (gs:List Ly) (H:LaysOk ls gs) (n:Nat) (hn:n<(rowsOf gs).length) (hl:((rowsOf gs).getD n dR).ps.length≤16):Spec Tryz.prog 287 #[ptr x,.int .i64 n]
    (fun T=>idx x p ls gs::T) (fun r T L=>∃a c,r=.tuple #[rv { ((rowsOf gs).getD n dR) with a:=a,cap:=c },.bool true]∧L=rdi a ((rowsOf gs).getD n dR).ps.length c ((rowsOf gs).getD n dR).ps::idx x p ls gs::T):=by
  refine spec_of (n:=22) (args:=[ptr x,.int .i64 n]) Tryz.func287 rfl rfl rfl rfl fun T=>?_;refine qw (qu ?_);refine qC rfl (qZ fun b4=>?_);refine qo (qx (qv (qw (qu (qe ?_)))));refine qe ?_;refine qC rfl (qH qh (sp331 x p ls gs H n hn) rfl ?_);rintro _ _ ⟨rfl,rfl⟩;refine qe ?_;refine qb (qP rfl) ?_;refine qb (qP rfl) ?_;refine qb (qP rfl) ?_;refine qC rfl (qZ fun b6=>?_);refine qC rfl (qZ fun b7=>?_);refine q6 (wc rfl rfl rfl rfl ?_);refine q6 (wc rfl rfl rfl rfl ?_);refine qi ?_;refine qx (qv (qw (w8 (fun w h=>sat_idx_row (k:=n) qr hn h) ?_)));refine qu (qb (qE rfl) ?_);refine qb (qA rfl) ?_;refine qC rfl (qH qh (sp73 ((rowsOf gs).getD n dR).ps.length ((rowsOf gs).getD n dR).cap ((rowsOf gs).getD n dR).a (ints ((rowsOf gs).getD n dR).ps) qd (jo _)) rfl ?_);rintro _ _ ⟨a18,c18,rfl,rfl⟩;refine qb (qE rfl) ?_;refine q6 (qV rfl qg rfl ?_);refine qx (qv (qw (qu (qb (wm rfl) ?_))));refine qe ?_;refine q6 (wc rfl rfl rfl rfl ?_);refine qi ?_;refine qx (qv (qL ?_));refine wu rfl rfl (wJ rfl) (qD qg) _ ⟨a18,c18,rfl,rfl⟩ (fun w h=>wX (Pm.sat qh w h))
theorem sp45 (x p:Nat) (ls:List Lk) (gs:List Ly) (H:LaysOk ls gs) (la ga:Option Addr) (lc gc:Nat):Spec Tryz.prog 45 #[ptr x]
    (fun T=>idh x p la ls.length lc ga gs.length gc::ldi la ls.length lc ls::lydi ga gs.length gc gs::gpars gs::pars (rowsOf gs)::T) (fun r T L=>∃a c,r=.slice a (rowsOf gs).length c∧L=rdi a (rowsOf gs).length c ((rowsOf gs).map (·.gen))::idh x p la ls.length lc ga gs.length gc::ldi la ls.length lc ls::lydi ga gs.length gc gs::gpars gs::pars (rowsOf gs)::T):=by
  refine spec_of (n:=32) (args:=[ptr x]) Tryz.func45 rfl rfl rfl rfl fun T=>?_;have hfew:=H.few;have hall:=H.all;have htot:=H.tot;have hgl:=H.len;refine qw (qu (qo (qx (qv (qw (qu (qo ?_)))))));refine qx (qv (qw (qw (w8 (fun w h=>(wC (E:=3) (k:=1)).sat h) ?_))));refine qu (qe ?_);refine qb (qy rfl) ?_;refine qb (qE rfl) ?_;refine qb (qA rfl) ?_;refine qb (qI rfl) ?_;refine qb wH ?_;refine qx (qv (qJ (q7 (fun m v L=>∃(j:Nat) (a:Option Addr) (c:Nat),gs.length-j=m∧(∃v0,v=ups v0 [(3,.slice a (rowsOf (gs.take j)).length c),(11,.slice ga gs.length gc),(12,.int .i64 gs.length),(13,.int .i64 j)])∧(j≤gs.length)∧L=own (.slice a (rowsOf (gs.take j)).length c) 3 1 (ints ((rowsOf (gs.take j)).map (·.gen)))::idh x p la ls.length lc ga gs.length gc::ldi la ls.length lc ls::lydi ga gs.length gc gs::gpars gs::pars (rowsOf gs)::T) _ _ ⟨0,none,0,rfl,⟨_,At.eq (.cons rfl (.cons rfl (.cons rfl (.cons rfl .nil))))⟩,by omega,rfl⟩ qh ?_)));rintro m _ _ ⟨j,a,c,rfl,⟨v0,rfl⟩,hj,rfl⟩;refine qw (qu ?_);refine wG rfl (wj rfl rfl) (fun h14=>?_) (fun h14=>?_)
  · refine wK (a:=ga) (xs:=lyls gs) qr (by rw [zY];omega) fun b off l E fz ha hl=>?_;subst ha;have hle:=H.le (k:=j) qd;refine qx (qv (qw (qN rfl ?_)));refine qF (qv (qw (qJ (qw (qu (qb (wN rfl rfl rfl qd) ?_))))));refine qb (wD (rs:=lyl (gs.getD j dLy)) rfl rfl (lyat6 hl qd)) ?_;refine qC rfl (qZ fun b5=>?_);refine q6 (wc rfl rfl rfl rfl ?_);refine qx (qv (qw (qu (qb (qE rfl) ?_))));refine qb (qA rfl) ?_;refine qb (qI rfl) ?_;refine qb wH ?_;refine qx (qv (qJ ?_));rw [←gensAt_zero];refine w8 (fun w h=>w7 (f:=gpar) (l:=gs) (k:=j) (d:=dLy) gpar_rds qr qd h) ?_;refine q7 (fun m v L=>∃(k:Nat) (a:Option Addr) (c:Nat),(gs.getD j dLy).rs.length-k=m∧(∃v0,v=ups v0 [(3,.slice a ((rowsOf (gs.take j)).length+k) c),(11,.slice (some ⟨b,off,none⟩) gs.length gc),(12,.int .i64 gs.length),(13,.int .i64 j),(18,.slice (gs.getD j dLy).a (gs.getD j dLy).rs.length (gs.getD j dLy).cap),(19,.int .i64 (gs.getD j dLy).rs.length),(20,.int .i64 k)])∧(k≤(gs.getD j dLy).rs.length)∧L=own (.slice a ((rowsOf (gs.take j)).length+k) c) 3 1 (ints (gensAt gs j k))::gpar (gs.getD j dLy)::idh x p la ls.length lc (some ⟨b,off,none⟩) gs.length gc::ldi la ls.length lc ls::lydi (some ⟨b,off,none⟩) gs.length gc gs::gpars gs::pars (rowsOf gs)::T) _ _ ⟨0,_,_,rfl,⟨_,At.eq (.cons rfl (.cons rfl (.cons rfl (.cons rfl (.cons rfl (.cons rfl (.cons rfl .nil)))))))⟩,by omega,rfl⟩ qh ?_;rintro m _ _ ⟨k,a,c,rfl,⟨v0,rfl⟩,hk,rfl⟩;refine qw (qu ?_);refine wG rfl (wj rfl rfl) (fun h21=>?_) (fun h21=>?_)
    · refine wK (a:=(gs.getD j dLy).a) (xs:=rcells (gs.getD j dLy).rs) qr (by rw [yl];omega) fun b2 off2 l2 E2 fz2 ha2 hl2=>?_;rw [ha2];refine qx (qv (qw (qN rfl ?_)));refine qF (qv (qw (qJ (qw (qu (qb (wN rfl rfl rfl qd) ?_))))));refine qb (wD (rs:=rl ((gs.getD j dLy).rs.getD k dR)) rfl rfl (rat5 hl2 qd)) ?_;refine qC rfl (qZ fun b7=>?_);refine q6 (wc rfl rfl rfl rfl ?_);refine qx (qv (qu (qe ?_)));refine qb (qE rfl) ?_;refine qb (qA rfl) ?_;refine qC rfl (qS rfl (by first | decide | simp) (.one qg rfl .nil) fun b27=>?_);refine qC rfl (wl qg qg qr rfl (by rfl) (by decide) xG (ones1 rfl) (fun _ _ _ h h'=>by cases h;omega) ?_);rintro _ _ _ a28 c28 ⟨⟩;refine qi ?_;refine qx (qX (qv (qu (qb (wa rfl rfl qd) ?_))));refine qe ?_;refine qx ?_;refine qT _ _ ⟨k+1,_,_,rfl,⟨_,At.eq (.cons rfl (.cons rfl (.cons rfl (.cons rfl (.cons rfl (.cons rfl (.cons rfl .nil)))))))⟩,by omega,rfl⟩ qd (by rw [gensAt_succ qd,show ints (gensAt gs j k++[((gs.getD j dLy).rs.getD k dR).gen])=ints (gensAt gs j k)++[N64 ((gs.getD j dLy).rs.getD k dR).gen] by simp [ints]];repeat (first | exact .refl | exact .nil | apply Pm.cons | exact .here | apply Sel.there | apply Pm.drop))
    · obtain rfl:k=(gs.getD j dLy).rs.length:=by omega
      rw [gensAt_full qd,←List.length_append,←zW qd];refine qx (qv (qw (qB rfl ?_)));refine wk ?_;refine qQ (qQ (ww ?_));refine qX (qv (qu (qb (wa rfl rfl qd) ?_)));refine qe ?_;refine qx ?_;refine qT _ _ ⟨j+1,_,_,rfl,⟨_,At.eq (.cons rfl (.cons rfl (.cons rfl (.cons rfl .nil))))⟩,by omega,rfl⟩ qd qh
  · obtain rfl:j=gs.length:=by omega
    rw [List.take_length];refine qx (qv (qw (qB rfl ?_)));refine wk ?_;refine qQ (qQ (ww ?_));refine qv (qw (qu (qe ?_)));refine qi ?_;refine qx (qv (qL ?_));refine qM rfl rfl (qD qg) _ ⟨a,c,rfl,rfl⟩ (fun w h=>wX (Pm.sat qh w h))
end
section
open Go
set_option maxRecDepth 4000
section
variable {P:Program} {n:Nat} {ds:List Deferred} {Q:Ky} {v:Env} {L Lr:List HProp} {l ops:List Oper}
theorem wl_ownS {a:Option Addr} {m cap E k:Nat} {xs:List Value} (hsel:Sel L (own (.slice a m cap) E k xs) Lr) (hne:0<xs.length)
    (h:∀b sp,a=some ⟨b,0,none⟩→xs.length=m*k→xs.length+sp.length=cap*k→wpl P n ds ops Q l v (pt b (cl (xs++sp) E)::Lr)):wpl P n ds ops Q l v L:=fun ac w ha hw=>by
  rcases zB (hsel.ent.sat hw) with ⟨h1,h2,_⟩ | ⟨b,m',cap',sp,h1,h2,h3,hL⟩
  · subst h2;simp at hne
  · cases h1;exact h b sp rfl h2 h3 ac w ha hL
theorem wl_ownC {b m cap E k:Nat} {xs sp:List Value} (hsel:Sel L (pt b (cl (xs++sp) E)) Lr) (h1:xs.length=m*k) (h2:xs.length+sp.length=cap*k)
    (h:wpl P n ds ops Q l v (own (.slice (some ⟨b,0,none⟩) m cap) E k xs::Lr)):wpl P n ds ops Q l v L:=fun ac w ha hw=>h ac w ha (xC h1 h2 (hsel.ent.sat hw))
theorem wx_ownC {c:Code} {b m cap E k:Nat} {xs sp:List Value} (hsel:Sel L (pt b (cl (xs++sp) E)) Lr) (h1:xs.length=m*k) (h2:xs.length+sp.length=cap*k)
    (h:wpx P n ds c Q v (own (.slice (some ⟨b,0,none⟩) m cap) E k xs::Lr)):wpx P n ds c Q v L:=fun ac w ha hw=>h ac w ha (xC h1 h2 (hsel.ent.sat hw))
end
instance : TU Tryz.prog 100 (.interface #[("Commit",172),("Commits",84),("Tree",262)]):=⟨by kernel_rfl⟩
instance : TU Tryz.prog 290 (.interface #[("Commits",84),("Gen",268),("Parents",56)]):=⟨by kernel_rfl⟩
theorem ints_sat {ps:List Nat} {sp:List Value} {k:Nat} (hk:k<ps.length):(ints ps++sp)[0+k]?=some (N64 (ps.getD k 0)):=by
  rw [Nat.zero_add,List.getElem?_append_left (by simpa using hk)];exact w5 0 hk
theorem sp84 (n cap:Nat) (a:Option Addr) (xs:List Value) (hb:n≤1000000) (ho:∀y∈xs,Value.one y=true):Spec Tryz.prog 84 #[.slice a n cap]
    (fun T=>rds (.slice a n cap) 6 xs::T) (fun r T L=>∃a2 cap2,r=.slice a2 n cap2∧L=own (.slice a2 n cap2) 110 6 xs::rds (.slice a n cap) 6 xs::T):=by
  refine spec_of (n:=8) (args:=[.slice a n cap]) Tryz.func84 rfl rfl rfl rfl fun T=>?_;refine yg (kW qr) fun hxl=>?_;refine qw (qu (qo (qx (qv (qw (qw (qu ?_)))))));refine qe ?_;refine wG rfl (yd rfl rfl) (fun h4=>?_) (fun h4=>?_)
  · subst h4;refine kG (kV qr) fun hnil=>?_;subst hnil;obtain rfl:n=0:=by simp at hxl;omega
    refine qx (qv (qN rfl ?_));refine qw (qu (qo (qx (qv (qL ?_)))));refine wt ?_;refine qM rfl rfl (qD qg) _ ⟨none,0,rfl,rfl⟩ (fun w h=>wC.sat (Pm.sat qh w h))
  · refine qx (qv (qB rfl ?_));refine qF (qv (qw (qu ?_)));refine qC rfl (qS rfl (by decide) .nil fun b5=>?_);refine wE (fun w h=>yh (E:=110) (k:=6) (cap:=0) h rfl) ?_;refine qe ?_;refine qC rfl (wl qg qg qr rfl (by rfl) (by decide) (xD qr hxl) ho (fun _ _ _ h h'=>by cases h;omega) ?_);rintro _ _ _ a7 c7 ⟨⟩;rw [Nat.zero_add,List.nil_append];refine qi ?_;refine qx (qv (qL ?_));refine qM rfl rfl (qD qg) _ ⟨_,_,rfl,rfl⟩ qm
theorem sp41 (q p:Nat) (ts:List Tr) (cs:List Cm) (x:Nat) (ls:List Lk) (gs:List Ly) (H:LaysOk ls gs) (hle:(rowsOf gs).length≤cs.length):Spec Tryz.prog 41 #[ptr x,.iface 65 (ptr q),setV]
    (fun T=>idx x p ls gs::sto q p ts cs::T) (fun r T L=>r=.int .i64 0∧L=idx x p ls gs::sto q p ts cs::T):=by
  refine spec_of (n:=25) (args:=[ptr x,.iface 65 (ptr q),setV]) Tryz.func41 rfl rfl rfl rfl fun T=>?_;refine qw (qu ?_);refine qC rfl (wx rfl fun b5=>?_);refine qo (qx (qv (qw (qw (qu (qe ?_))))));refine qb (wd rfl rfl) ?_;refine qe ?_;refine qq (qK qg) ?_;refine qq (yj rfl rfl rfl) ?_;refine qb (qW rfl qg) ?_;refine qe ?_;refine qq (wm rfl) ?_;refine xr (qG rfl rfl rfl rfl) rfl (qH qh (sp57) rfl ?_);rintro _ _ ⟨rfl,rfl⟩;refine wR (qG rfl rfl rfl rfl) rfl (wB rfl rfl) (by simp) ?_;refine qb (qW rfl qg) ?_;refine qe ?_;refine qq (qK qg) ?_;refine xr (qG rfl rfl rfl rfl) rfl (xA qh (sp28s q p ts cs) rfl rfl ?_);rintro _ _ ⟨rfl,rfl⟩;refine qq (qK qg) ?_;refine xr (qG rfl rfl rfl rfl) rfl (qH qh (sp42s x p ls gs H) rfl ?_);rintro _ _ ⟨rfl,rfl⟩;refine wR (qG rfl rfl rfl rfl) rfl (wj rfl rfl) qd ?_;refine qb (qW rfl qg) ?_;refine qx (qv (qB rfl ?_));refine qF (qv (qw (qu (qo (qx (qv (qL ?_)))))));refine qM rfl rfl (qD qg) _ ⟨rfl,rfl⟩ qm
theorem sp89 (q p:Nat) (ts:List Tr) (cs:List Cm) (S:StoOk ts cs) (k:Nat) (hk:k<cs.length):Spec Tryz.prog 89 #[.iface 65 (ptr q),.int .i64 k]
    (fun T=>sto q p ts cs::T) (fun r T L=>∃a c,r=.slice a (ts.getD (cs.getD k dCm).tree dTr).es.length c∧L=tdi a (ts.getD (cs.getD k dCm).tree dTr).es.length c (ts.getD (cs.getD k dCm).tree dTr).es::sto q p ts cs::T):=by
  refine spec_of (n:=23) (args:=[.iface 65 (ptr q),.int .i64 k]) Tryz.func89 rfl rfl rfl rfl fun T=>?_;have hlc:=S.lc;have hlt:=S.lt;have hpl:=S.len k hk;have htr:=S.has k hk;have hte:=(S.tree _ htr).len;refine qw (qu (qo (qx (qv (qw (qu (qe ?_)))))));refine qe ?_;refine qC rfl (xA qh (sp288 q p ts cs k hk qd hpl) rfl rfl ?_);rintro _ _ ⟨a12,c12,rfl,rfl⟩;refine qe ?_;refine qb (qP rfl) ?_;refine qb (qP rfl) ?_;refine qC rfl (qZ fun b5=>?_);refine q6 (wc rfl rfl rfl rfl ?_);refine qi ?_;refine qx (qv (qw (qu (qe ?_))));refine qb (qE rfl) ?_;refine qb (qA rfl) ?_;refine qC rfl (xA qh (sp216 q p ts cs (cs.getD k dCm).tree htr qd hte) rfl rfl ?_);rintro _ _ ⟨a19,c19,rfl,rfl⟩;refine qe ?_;refine qb (qP rfl) ?_;refine qb (qP rfl) ?_;refine qi ?_;refine qi ?_;refine qx (qv (qw (qu (qe ?_))));refine qi ?_;refine qx (qv (qL ?_));refine qM rfl rfl (qD qg) _ ⟨a19,c19,rfl,rfl⟩ qm
end
section
open Go
set_option maxRecDepth 4000
structure RowsFit (cs:List Cm) (ks:List Nat) (rs:List Rw):Prop where
  len:ks.length+rs.length≤cs.length
  ps:∀j,j<rs.length→(rs.getD j dR).ps=(cs.getD (ks.length+j) dCm).ps
  tree:∀j,j<rs.length→(rs.getD j dR).tree=(cs.getD (ks.length+j) dCm).tree
  fil:∀j,j<rs.length→GoodF (rs.getD j dR).fk (rs.getD j dR).fb
  gen:∀j,j<rs.length→1≤(rs.getD j dR).gen∧(rs.getD j dR).gen≤ks.length+j+1
  lt:∀j,j<rs.length→∀x∈(rs.getD j dR).ps,(ks++rs.map (·.gen)).getD x 0<(rs.getD j dR).gen
theorem RowsFit.nil {cs:List Cm} {ks:List Nat} (h:ks.length≤cs.length):RowsFit cs ks []:=⟨h,fun j hj=>by simp at hj,fun j hj=>by simp at hj,fun j hj=>by simp at hj,fun j hj=>by simp at hj,fun j hj=>by simp at hj⟩
theorem xg {α:Type} {a b:List α} {k:Nat} {d:α} (h:k<a.length):(a++b).getD k d=a.getD k d:=by
  rw [List.getD_eq_getElem?_getD,List.getElem?_append_left h,←List.getD_eq_getElem?_getD]
theorem xK {α:Type} {a:List α} {x d:α}:(a++[x]).getD a.length d=x:=by
  rw [List.getD_eq_getElem?_getD,List.getElem?_append_right (Nat.le_refl _)];simp
theorem RowsFit.snoc {cs:List Cm} {ks:List Nat} {rs:List Rw} {r:Rw} {i:Nat} (H:RowsFit cs ks rs) (hi:ks.length+rs.length=i) (hc:i<cs.length) (hp:r.ps=(cs.getD i dCm).ps) (ht:r.tree=(cs.getD i dCm).tree) (hf:GoodF r.fk r.fb)
    (hg:1≤r.gen∧r.gen≤i+1) (hup:∀k,k<cs.length→∀x∈(cs.getD k dCm).ps,x<k) (hl:∀x∈r.ps,(ks++rs.map (·.gen)).getD x 0<r.gen):RowsFit cs ks (rs++[r]):=by
  subst hi;have hall:∀x,x<ks.length+rs.length→(ks++(rs++[r]).map (·.gen)).getD x 0=(ks++rs.map (·.gen)).getD x 0:=fun x hx=>by
    rw [List.map_append,←List.append_assoc,xg (by simpa using hx)]
  have key:∀ {p:Rw→Prop} {j:Nat},j<(rs++[r]).length→(j<rs.length→p (rs.getD j dR))→(j=rs.length→p r)→p ((rs++[r]).getD j dR):=fun {p j} hj h1 h2=>by
    by_cases e:j<rs.length
    · rw [xg e];exact h1 e
    · have e2:j=rs.length:=by simp at hj;omega
      subst e2;rw [xK];exact h2 rfl
  refine ⟨by simp;omega,fun j hj=>?_,fun j hj=>?_,fun j hj=>?_,fun j hj=>?_,fun j hj=>?_⟩
  · exact key (p:=fun q=>q.ps=(cs.getD (ks.length+j) dCm).ps) hj (H.ps j) (fun e=>by subst e;exact hp)
  · exact key (p:=fun q=>q.tree=(cs.getD (ks.length+j) dCm).tree) hj (H.tree j) (fun e=>by subst e;exact ht)
  · exact key (p:=fun q=>GoodF q.fk q.fb) hj (H.fil j) (fun _=>hf)
  · exact key (p:=fun q=>1≤q.gen∧q.gen≤ks.length+j+1) hj (H.gen j) (fun e=>by subst e;exact hg)
  · refine key (p:=fun q=>∀x∈q.ps,(ks++(rs++[r]).map (·.gen)).getD x 0<q.gen) hj (fun h x hx=>?_) (fun e x hx=>?_)
    · have hx2:x∈(cs.getD (ks.length+j) dCm).ps:=by rw [←H.ps j h];exact hx
      rw [hall x (by have:=hup _ (by have:=H.len;omega) x hx2;omega)];exact H.lt j h x hx
    · rw [hall x (by have:=hup _ hc x (by rw [←hp];exact hx);exact this)];exact hl x hx
theorem ups_snoc {all:List Nat} {ps:List Nat} {u:Nat} (h:u<ps.length):ints ((ps.take (u+1)).map fun x=>all.getD x 0)=ints ((ps.take u).map fun x=>all.getD x 0)++[N64 (all.getD (ps.getD u 0) 0)]:=by
  rw [wU (d:=0) h];simp [ints]
theorem sp44 (q p:Nat) (ts:List Tr) (cs:List Cm) (S:StoOk ts cs) (hcs:cs.length≤900) (m0 cap:Nat) (a:Option Addr) (ks:List Nat) (hm:ks.length=m0) (hmc:m0≤cs.length) (hk:∀k,k<m0→1≤ks.getD k 0∧ks.getD k 0≤k+1):Spec Tryz.prog 44 #[.iface 65 (ptr q),setV,.slice a m0 cap]
    (fun T=>rdi a m0 cap ks::sto q p ts cs::T) (fun r T L=>∃a2 c2 rs,r=.slice a2 rs.length c2∧RowsFit cs ks rs∧m0+rs.length=cs.length∧L=gdi a2 rs.length c2 rs::pars rs::rdi a m0 cap ks::sto q p ts cs::T):=by
  refine spec_of (n:=92) (args:=[.iface 65 (ptr q),setV,.slice a m0 cap]) Tryz.func44 rfl rfl rfl rfl fun T=>?_;have hlc:=S.lc;have hlt:=S.lt;refine qw (qu ?_);refine qC rfl (wx rfl fun b4=>?_);refine qo (qx (qv (qw (qu (qo (qx (qv ?_)))))));refine qw (qu (qe ?_));refine qC rfl (qH qh (sp73 m0 cap a (ints ks) qd (jo ks)) rfl ?_);rintro _ _ ⟨a19,c19,rfl,rfl⟩;refine qi ?_;refine qx (qv (qw (qw (qu (qe ?_)))));refine qb (qI rfl) ?_;refine qi ?_;refine qx (qv (qJ (w8 (fun w h=>(wC (E:=180) (k:=5)).sat (yQ h)) ?_)));rw [show own (.slice a19 m0 c19) 3 1 (ints ks)=own (.slice a19 m0 c19) 3 1 (ints (ks++([]:List Rw).map (·.gen))) by simp];refine q7 (fun m v L=>∃(i n7:Nat) (a7 a8:Option Addr) (c7 c8:Nat) (acc:List Rw),cs.length-i=m∧(∃v0,v=ups v0 [(0,.iface 65 (ptr q)),(4,.pointer (some ⟨b4,0,none⟩)),(7,.slice a7 n7 c7),(8,.slice a8 i c8),(9,.int .i64 i)])∧(m0+n7=i)∧(acc.length=n7)∧(i≤cs.length)∧(RowsFit cs ks acc)∧L=own (.slice a7 n7 c7) 180 5 (rcells acc)::own (.slice a8 i c8) 3 1 (ints (ks++acc.map (·.gen)))::pars acc::rdi a m0 cap ks::sto q p ts cs::pt b4 (cl setL 69)::T) _ _ ⟨m0,0,none,a19,0,c19,[],rfl,⟨_,At.eq (.cons rfl (.cons rfl (.cons rfl (.cons rfl (.cons rfl .nil)))))⟩,by omega,rfl,hmc,.nil qd,rfl⟩ qh ?_;rintro m _ _ ⟨i,n7,a7,a8,c7,c8,acc,rfl,⟨v0,rfl⟩,hi,hacc,hic,hfit,rfl⟩;refine qw (qw (qu (qe ?_)));refine qe ?_;refine qC rfl (xA qh (sp28s q p ts cs) rfl rfl ?_);rintro _ _ ⟨rfl,rfl⟩;refine wG rfl (wj rfl rfl) (fun h25=>?_) (fun h25=>?_)
  · have hpl:=S.len i qd;have hpu:=S.up i qd;have htr:=S.has i qd;have hte:=S.tree _ htr;refine qx (qv (qN rfl ?_));refine qF (qv (qw (qJ (qw (qu (qe ?_))))));refine qe ?_;refine qC rfl (xA qh (sp288 q p ts cs i qd qd hpl) rfl rfl ?_);rintro _ _ ⟨ac,cc,rfl,rfl⟩;refine qe ?_;refine qb (qP rfl) ?_;refine qb (qP rfl) ?_;refine qC rfl (qZ fun b10=>?_);refine q6 (wc rfl rfl rfl rfl ?_);refine qi ?_;refine qx (qv (qw (qu (qo (qx (qv (qw ?_)))))));refine qu (qo (qx (qv (qw (qw (qu (qb (qE rfl) ?_)))))));refine qb (qA rfl) ?_;refine qb (qI rfl) ?_;refine qb wH ?_;refine qx (qv (qJ (w8 (fun w h=>(wC (E:=3) (k:=1)).sat ((xR (a:=none) (cap:=0) (k:=2)).sat h)) ?_)));refine q7 (fun m v L=>∃(u:Nat) (ao au:Option Addr) (co cu:Nat) (xo:List Ent0) (a8:Option Addr),(cs.getD i dCm).ps.length-u=m∧(∃v0,v=ups v0 [(0,.iface 65 (ptr q)),(4,.pointer (some ⟨b4,0,none⟩)),(7,.slice a7 n7 c7),(8,.slice a8 i c8),(9,.int .i64 i),(10,.pointer (some ⟨b10,0,none⟩)),(12,.slice ao xo.length co),(13,.slice au u cu),(35,.slice ac (cs.getD i dCm).ps.length cc),(36,.int .i64 (cs.getD i dCm).ps.length),(37,.int .i64 u)])∧(u≤(cs.getD i dCm).ps.length)∧(OkT xo)∧(xo.length≤1024)∧L=tdi ao xo.length co xo::own (.slice au u cu) 3 1 (ints (((cs.getD i dCm).ps.take u).map fun x=>(ks++acc.map (·.gen)).getD x 0))::rdi ac (cs.getD i dCm).ps.length cc (cs.getD i dCm).ps::pt b10 (cl [.slice ac (cs.getD i dCm).ps.length cc,.int .i64 (cs.getD i dCm).tree] 62)::own (.slice a7 n7 c7) 180 5 (rcells acc)::own (.slice a8 i c8) 3 1 (ints (ks++acc.map (·.gen)))::pars acc::rdi a m0 cap ks::sto q p ts cs::pt b4 (cl setL 69)::T) _ _ ⟨0,none,none,0,0,[],a8,rfl,⟨_,At.eq (.cons rfl (.cons rfl (.cons rfl (.cons rfl (.cons rfl (.cons rfl (.cons rfl (.cons rfl (.cons rfl (.cons rfl (.cons rfl .nil)))))))))))⟩,by omega,fun k hk=>by simp at hk,by simp,rfl⟩ qh ?_;rintro m _ _ ⟨u,ao,au,co,cu,xo,a8,rfl,⟨v0,rfl⟩,hu,hxo,hxl,rfl⟩;refine qw (qu ?_);refine wG rfl (wj rfl rfl) (fun h38=>?_) (fun h38=>?_)
    · refine wK (a:=ac) (xs:=ints (cs.getD i dCm).ps) qr (by rw [List.length_map];omega) fun b off l E fz ha hl=>?_;subst ha;have hpu2:=hpu _ (w6 (d:=0) (k:=u) qd);have hteu:=S.tree _ (S.has ((cs.getD i dCm).ps.getD u 0) qd);refine qx (qv (qw (qN rfl ?_)));refine qF (qv (qw (qJ (qw (qu (qe ?_))))));refine qb (wz rfl rfl rfl qd) ?_;refine qb (q8 rfl ((hl _ (by rw [List.length_map];omega)).trans (w5 0 qd))) ?_;refine qi ?_;refine qi ?_;refine qx (qv (qw (qw (qu (qe ?_)))));refine wq rfl (wj rfl rfl) qd ?_;refine qe ?_;refine qq (qK qg) ?_;refine qq (qK qg) ?_;refine qq (qI rfl) ?_;refine wR (qG rfl rfl rfl rfl) rfl (w9 rfl rfl) qd ?_;refine qb (qW rfl qg) ?_;refine qx (qv (qB rfl ?_));refine qF (qv (qw (qw (qu (qe ?_)))));refine wG rfl (wA rfl rfl) (fun h52=>?_) (fun h52=>?_)
      · refine qx (qv (qN rfl ?_));refine qu (qe ?_);refine qe ?_;refine qC rfl (qH qh (sp89 q p ts cs S ((cs.getD i dCm).ps.getD u 0) qd) rfl ?_);rintro _ _ ⟨a55,c55,rfl,rfl⟩;refine qi ?_;refine qx (qv (qu (qe ?_)));refine qe ?_;refine qe ?_;refine wl_ownS (xs:=ints (ks++acc.map (·.gen))) (E:=3) qr (by rw [List.length_map,List.length_append,List.length_map];omega) fun b8 sp8 ha8 hs1 hs2=>?_;subst ha8;refine qb (wz (k:=((cs.getD i dCm).ps.getD u 0)) rfl rfl qd qd) ?_;refine qb (q8 rfl (ints_sat (by rw [List.length_append,List.length_map];omega))) ?_;refine wl_ownC (b:=b8) (xs:=ints (ks++acc.map (·.gen))) (sp:=sp8) (E:=3) (m:=i) (cap:=c8) (k:=1) qr hs1 hs2 ?_;refine qC rfl (qS rfl (by first | decide | simp) (.one qg rfl .nil) fun b61=>?_);refine qC rfl (wl qg qg qr rfl (by rfl) (by decide) xG (ones1 rfl) (fun _ _ _ h h'=>by cases h;omega) ?_);rintro _ _ _ a62 c62 ⟨⟩;refine qi ?_;refine qx (qX (qv (qu (qb (wa rfl rfl qd) ?_))));refine qe ?_;refine qx ?_;refine qT _ _ ⟨u+1,a55,_,c55,_,_,_,rfl,⟨_,At.eq (.cons rfl (.cons rfl (.cons rfl (.cons rfl (.cons rfl (.cons rfl (.cons rfl (.cons rfl (.cons rfl (.cons rfl (.cons rfl .nil)))))))))))⟩,by omega,hteu.ok,hteu.len,rfl⟩ qd (by rw [ups_snoc qd];repeat (first | exact .refl | exact .nil | apply Pm.cons | exact .here | apply Sel.there | apply Pm.drop))
      · refine qx (qv (qB rfl ?_));refine qF (qv (qu (qe ?_)));refine qe ?_;refine qe ?_;refine wl_ownS (xs:=ints (ks++acc.map (·.gen))) (E:=3) qr (by rw [List.length_map,List.length_append,List.length_map];omega) fun b8 sp8 ha8 hs1 hs2=>?_;subst ha8;refine qb (wz (k:=((cs.getD i dCm).ps.getD u 0)) rfl rfl qd qd) ?_;refine qb (q8 rfl (ints_sat (by rw [List.length_append,List.length_map];omega))) ?_;refine wl_ownC (b:=b8) (xs:=ints (ks++acc.map (·.gen))) (sp:=sp8) (E:=3) (m:=i) (cap:=c8) (k:=1) qr hs1 hs2 ?_;refine qC rfl (qS rfl (by first | decide | simp) (.one qg rfl .nil) fun b61=>?_);refine qC rfl (wl qg qg qr rfl (by rfl) (by decide) xG (ones1 rfl) (fun _ _ _ h h'=>by cases h;omega) ?_);rintro _ _ _ a62 c62 ⟨⟩;refine qi ?_;refine qx (qX (qv (qu (qb (wa rfl rfl qd) ?_))));refine qe ?_;refine qx ?_;refine qT _ _ ⟨u+1,_,_,_,_,_,_,rfl,⟨_,At.eq (.cons rfl (.cons rfl (.cons rfl (.cons rfl (.cons rfl (.cons rfl (.cons rfl (.cons rfl (.cons rfl (.cons rfl (.cons rfl .nil)))))))))))⟩,by omega,hxo,hxl,rfl⟩ qd (by rw [ups_snoc qd];repeat (first | exact .refl | exact .nil | apply Pm.cons | exact .here | apply Sel.there | apply Pm.drop))
    · obtain rfl:u=(cs.getD i dCm).ps.length:=by omega
      rw [List.take_length];have hall:∀x,x<i→1≤(ks++acc.map (·.gen)).getD x 0∧(ks++acc.map (·.gen)).getD x 0≤x+1:=fun x hx=>by
        by_cases e:x<m0
        · rw [xg qd];exact hk x e
        · rw [List.getD_eq_getElem?_getD,List.getElem?_append_right qd];have h1:=hfit.gen (x-ks.length) qd;have h2:(acc.map (·.gen))[x-ks.length]?.getD 0=(acc.getD (x-ks.length) dR).gen:=by
            have:x-ks.length<acc.length:=by omega
            simp [this]
          rw [h2];omega
      have hups:∀y∈((cs.getD i dCm).ps.map fun x=>(ks++acc.map (·.gen)).getD x 0),1≤y∧y≤1022:=fun y hy=>by
        obtain ⟨x,hx,rfl⟩:=List.mem_map.1 hy;have:=hall x (hpu x hx);have:=hpu x hx;omega
      have hgz:∀z,(z=1∨z-1∈((cs.getD i dCm).ps.map fun x=>(ks++acc.map (·.gen)).getD x 0))→z≤i+1:=fun z hz=>by
        rcases hz with hz | hz
        · omega
        · obtain ⟨x,hx,e⟩:=List.mem_map.1 hz;have:=hall x (hpu x hx);have:=hpu x hx;omega
      refine qx (qv (qw (qB rfl ?_)));refine wk ?_;refine qQ (qQ (ww ?_));refine qv ?_;refine wx_cutE (fun v L=>∃(b16 fk:Nat) (fb:ByteArray),(∃v0,v=ups v0 [(0,.iface 65 (ptr q)),(4,.pointer (some ⟨b4,0,none⟩)),(7,.slice a7 n7 c7),(8,.slice a8 i c8),(9,.int .i64 i),(10,.pointer (some ⟨b10,0,none⟩)),(13,.slice au (cs.getD i dCm).ps.length cu),(16,.pointer (some ⟨b16,0,none⟩))])∧(GoodF fk fb)∧L=pt b16 (cl [.int .i64 fk,.string fb] 175)::own (.slice au (cs.getD i dCm).ps.length cu) 3 1 (ints ((cs.getD i dCm).ps.map fun x=>(ks++acc.map (·.gen)).getD x 0))::rdi ac (cs.getD i dCm).ps.length cc (cs.getD i dCm).ps::pt b10 (cl [.slice ac (cs.getD i dCm).ps.length cc,.int .i64 (cs.getD i dCm).tree] 62)::own (.slice a7 n7 c7) 180 5 (rcells acc)::own (.slice a8 i c8) 3 1 (ints (ks++acc.map (·.gen)))::pars acc::rdi a m0 cap ks::sto q p ts cs::pt b4 (cl setL 69)::T) ?_ ?_
      · refine wg [] [pt b4 (cl setL 69)] mixed qm 12 rfl ?_;refine qk 0 rfl (wm rfl) ?_;refine qk 1 rfl (qK qg) ?_;refine qk 2 rfl (qK qg) ?_;refine qk 3 rfl (qK qg) ?_;refine qO [4,9] qj rfl ⟨?_,?_,trivial⟩
        · refine we rfl qz rfl (qH qh (sp89 q p ts cs S i qd) rfl ?_);rintro _ _ ⟨a69,c69,rfl,rfl⟩;refine ⟨.inr qm,?_⟩;refine qO [5,9] qj rfl ⟨?_,?_,trivial⟩
          · refine we rfl qz rfl (qH qh (sp90 _ _ _ _ _ _ xo (ts.getD (cs.getD i dCm).tree dTr).es rfl rfl qd hte.len hxo hte.ok) rfl ?_);rintro _ _ ⟨fk,fb,rfl,hf,rfl⟩;refine ⟨.inr qm,?_⟩;refine qk 6 rfl (qK qg) ?_;refine qk 7 rfl (qP rfl) ?_;refine qk 8 rfl (qP rfl) ?_;refine qO [9] qj rfl ⟨?_,trivial⟩;refine we rfl qz rfl (qZ fun b16=>?_);refine ⟨.inr qm,?_⟩;refine qO [10] qj rfl ⟨?_,trivial⟩;refine wn rfl qz (wc rfl rfl rfl rfl ?_);refine ⟨.inr qm,?_⟩;refine qk 11 rfl (xh qg) ?_;refine qY qj ?_;refine yx _ ⟨b16,fk,fb,⟨_,At.eq (.cons rfl (.cons rfl (.cons rfl (.cons rfl (.cons rfl (.cons rfl (.cons rfl (.cons rfl .nil))))))))⟩,hf,rfl⟩ qh
          · refine we rfl qz rfl (qZ fun b16=>?_);refine ⟨.inr qm,?_⟩;refine qO [5] qj rfl ⟨?_,trivial⟩;refine we rfl qz rfl (qH qh (sp90 _ _ _ _ _ _ xo (ts.getD (cs.getD i dCm).tree dTr).es rfl rfl qd hte.len hxo hte.ok) rfl ?_);rintro _ _ ⟨fk,fb,rfl,hf,rfl⟩;refine ⟨.inr qm,?_⟩;refine qk 6 rfl (qK qg) ?_;refine qk 7 rfl (qP rfl) ?_;refine qk 8 rfl (qP rfl) ?_;refine qO [10] qj rfl ⟨?_,trivial⟩;refine wn rfl qz (wc rfl rfl rfl rfl ?_);refine ⟨.inr qm,?_⟩;refine qk 11 rfl (xh qg) ?_;refine qY qj ?_;refine yx _ ⟨b16,fk,fb,⟨_,At.eq (.cons rfl (.cons rfl (.cons rfl (.cons rfl (.cons rfl (.cons rfl (.cons rfl (.cons rfl .nil))))))))⟩,hf,rfl⟩ qh
        · refine we rfl qz rfl (qZ fun b16=>?_);refine ⟨.inr qm,?_⟩;refine qO [4] qj rfl ⟨?_,trivial⟩;refine we rfl qz rfl (qH qh (sp89 q p ts cs S i qd) rfl ?_);rintro _ _ ⟨a69,c69,rfl,rfl⟩;refine ⟨.inr qm,?_⟩;refine qO [5] qj rfl ⟨?_,trivial⟩;refine we rfl qz rfl (qH qh (sp90 _ _ _ _ _ _ xo (ts.getD (cs.getD i dCm).tree dTr).es rfl rfl qd hte.len hxo hte.ok) rfl ?_);rintro _ _ ⟨fk,fb,rfl,hf,rfl⟩;refine ⟨.inr qm,?_⟩;refine qk 6 rfl (qK qg) ?_;refine qk 7 rfl (qP rfl) ?_;refine qk 8 rfl (qP rfl) ?_;refine qO [10] qj rfl ⟨?_,trivial⟩;refine wn rfl qz (wc rfl rfl rfl rfl ?_);refine ⟨.inr qm,?_⟩;refine qk 11 rfl (xh qg) ?_;refine qY qj ?_;refine yx _ ⟨b16,fk,fb,⟨_,At.eq (.cons rfl (.cons rfl (.cons rfl (.cons rfl (.cons rfl (.cons rfl (.cons rfl (.cons rfl .nil))))))))⟩,hf,rfl⟩ qh
      · rintro _ _ ⟨b16,fk,fb,⟨v0,rfl⟩,hf,rfl⟩;refine qw (zT (s:=.slice au (cs.getD i dCm).ps.length cu) (E:=3) qr ?_);refine qu (qe ?_);refine qe ?_;refine qC rfl (qH qh (sp91 (cs.getD i dCm).ps.length cu au ((cs.getD i dCm).ps.map fun x=>(ks++acc.map (·.gen)).getD x 0) (by simp) qd hups) rfl ?_);rintro _ _ ⟨z,rfl,hz1,hz2,hz3,hz4,rfl⟩;refine qC rfl (qS rfl (by first | decide | simp) (.one qg rfl .nil) fun b76=>?_);refine qC rfl (wl qg qg qr rfl (by rfl) (by decide) xG (ones1 rfl) (fun _ _ _ h h'=>by cases h;omega) ?_);rintro _ _ _ a77 c77 ⟨⟩;rw [show ints (ks++acc.map (·.gen))++[N64 z]=ints ((ks++acc.map (·.gen))++[z]) by simp [ints]];refine qi ?_;refine qx (qv (xY (xs:=ints ((ks++acc.map (·.gen))++[z])) (E:=3) qr (by simp only [List.length_map,List.length_append,List.length_cons];omega) fun b8 sp8 ha8 hs1 hs2=>?_));subst ha8;refine wg [] [pt b10 (cl [.slice ac (cs.getD i dCm).ps.length cc,.int .i64 (cs.getD i dCm).tree] 62),pt b16 (cl [.int .i64 fk,.string fb] 175),pt b8 (cl (ints ((ks++acc.map (·.gen))++[z])++sp8) 3)] mixed qm 14 rfl ?_;refine qk 0 rfl (qK qg) ?_;refine qk 1 rfl (qE rfl) ?_;refine qk 2 rfl (qA rfl) ?_;refine qk 3 rfl (qE rfl) ?_;refine qk 4 rfl (qA rfl) ?_;refine qk 5 rfl (qK qg) ?_;refine qk 6 rfl (qK qg) ?_;refine qk 7 rfl (wz (k:=i) rfl rfl qd qd) ?_;refine qk 8 rfl (q8 rfl ((ints_sat (by simp;omega)).trans (by rw [show i=(ks++acc.map (·.gen)).length by simp;omega,xK]))) ?_;refine qk 9 rfl (wm rfl) ?_;refine qk 10 rfl (wy (.one qg rfl (.one qg rfl (.one qg rfl (.agg rfl rfl .nil))))) ?_;refine qO [11] qj rfl ⟨?_,trivial⟩;refine we rfl qz rfl (qS rfl (by first | decide | simp) (.agg rfl rfl .nil) fun b89=>?_);simp only [List.append_nil,List.cons_append,List.nil_append];refine ⟨.inr qm,?_⟩;refine qO [12] qj rfl ⟨?_,trivial⟩;refine we rfl qz rfl (wl qg qg qr rfl (by rfl) (by decide) (xc (k:=5) (ys:=(rl ⟨ac,cc,(cs.getD i dCm).ps,(cs.getD i dCm).tree,z,fk,fb⟩)) rfl) (onesK rfl) (fun _ _ _ h h'=>by cases h;omega) ?_);rintro _ _ _ a90 c90 ⟨⟩;refine ⟨.inr qm,?_⟩;refine qk 13 rfl (xh qg) ?_;refine qY qj ?_;refine qX (qv ?_);have hgz2:=hgz z hz4;refine w8 (fun w h=>kf (r:=⟨ac,cc,(cs.getD i dCm).ps,(cs.getD i dCm).tree,z,fk,fb⟩) (acc:=acc) (Pm.sat qh w h)) ?_;refine wx_ownC (b:=b8) (xs:=ints ((ks++acc.map (·.gen))++[z])) (sp:=sp8) (E:=3) (m:=i+1) (cap:=c77) (k:=1) qr hs1 hs2 ?_;refine qu (qe ?_);refine qb (wa rfl rfl qd) ?_;refine qi ?_;refine qx ?_;refine qT _ _ ⟨i+1,n7+1,_,_,_,_,acc++[⟨ac,cc,(cs.getD i dCm).ps,(cs.getD i dCm).tree,z,fk,fb⟩],rfl,⟨_,At.eq (.cons rfl (.cons rfl (.cons rfl (.cons rfl (.cons rfl .nil)))))⟩,by omega,by simp;omega,by omega,hfit.snoc qd qd rfl rfl hf ⟨hz1,hgz2⟩ S.up (fun x hx=>hz3 _ (List.mem_map.2 ⟨x,hx,rfl⟩)),rfl⟩ qd (by rw [jb,show rcells [⟨ac,cc,(cs.getD i dCm).ps,(cs.getD i dCm).tree,z,fk,fb⟩]=rl ⟨ac,cc,(cs.getD i dCm).ps,(cs.getD i dCm).tree,z,fk,fb⟩ from rfl,List.map_append,←List.append_assoc];repeat (first | exact .refl | exact .nil | apply Pm.cons | exact .here | apply Sel.there | apply Pm.drop))
  · obtain rfl:i=cs.length:=by omega
    refine qx (qv (qB rfl ?_));refine wk ?_;refine qQ (qQ (ww ?_));refine qv (qw (qu (qe ?_)));refine qi ?_;refine qx (qv (qL ?_));refine qM rfl rfl (qD qg) _ ⟨a7,c7,acc,by rw [hacc],hfit,by omega,by rw [hacc]⟩ (fun w h=>wX (Pm.sat qh w h))
end
section
open Go
set_option maxRecDepth 4000
def putD:List Fd→ByteArray→Nat→List UInt8→List Fd
  | [],s,q,b=>[(s,q,b)]
  | d::D,s,q,b=>if s=d.1 then (s,q,b)::D else d::putD D s q b
theorem dm_putD:∀(D:List Fd) (s:ByteArray) (q:Nat) (b:List UInt8),dm (putD D s q b)=putL (dm D) s (ptr q)
  | [],s,q,b=>rfl
  | d::D,s,q,b=>by
    simp only [putD,dm,List.map_cons,putL]
    split
    · rfl
    · have:=dm_putD D s q b;simp only [dm] at this;rw [List.map_cons,this]
abbrev filD (d:Fd):HProp:=fil d.2.1 d.2.2
theorem ent_putD:∀(D:List Fd) (s:ByteArray) (q:Nat) (b:List UInt8) (L:List HProp),Ent (fil q b::(D.map filD++L)) ((putD D s q b).map filD++L)
  | [],s,q,b,L=>.refl
  | d::D,s,q,b,L=>by
    simp only [putD]
    split
    · exact Ent.swap.trans Ent.drop
    · exact Ent.swap.trans (ent_putD D s q b L).cons
theorem sat_putD {D:List Fd} {s:ByteArray} {q:Nat} {b:List UInt8} {L:List HProp} {w:World} (h:Sat (fil q b::fls D::L) w):Sat (fls (putD D s q b)::L) w :=
  wi.sat ((ent_putD D s q b L).sat ((wF.cons).sat h))
theorem sat_fls_snoc {D:List Fd} {s:ByteArray} {q:Nat} {b:List UInt8} {L:List HProp} {w:World} (h:Sat (fil q b::fls D::L) w):Sat (fls (D++[(s,q,b)])::L) w :=
  xP (f:=filD) (x:=(s,q,b)) h
theorem dm_snoc (D:List Fd) (s:ByteArray) (q:Nat) (b:List UInt8):dm (D++[(s,q,b)])=dm D++[(s,ptr q)]:=by simp [dm]
theorem sat_create {D:List Fd} {s:ByteArray} {q bm:Nat} {L:List HProp} {w:World} (h:Sat (fil q []::fls D::mpo bm (dm D++[(s,ptr q)])::L) w):Sat (fls (D++[(s,q,[])])::mpo bm (dm (D++[(s,q,[])]))::L) w:=by
  rw [dm_snoc];exact sat_fls_snoc h
theorem look_snoc {D:List Fd} {s:ByteArray} {q:Nat} {b:List UInt8} (h:lookL (dm D) s=none):lookL (dm (D++[(s,q,b)])) s=some (ptr q)∧delL (dm (D++[(s,q,b)])) s=dm D:=by
  rw [dm_snoc]
  generalize dm D=m at h
  induction m with
  | nil=>simp [lookL,delL]
  | cons e m ih =>
    simp only [lookL] at h
    by_cases hk:s=e.1
    · rw [if_pos hk] at h;cases h
    · rw [if_neg hk] at h;have:=ih h;simp only [List.cons_append,lookL,delL,if_neg hk];exact ⟨this.1,by rw [this.2]⟩
theorem sat_rename {D:List Fd} {s c:ByteArray} {q bm:Nat} {b:List UInt8} {L:List HProp} {w:World} (hs:lookL (dm D) s=none)
    (h:Sat (fls (D++[(s,q,b)])::mpo bm (putL (delL (dm (D++[(s,q,b)])) s) c (ptr q))::L) w):Sat (fls (putD D c q b)::mpo bm (dm (putD D c q b))::L) w:=by
  rw [(look_snoc hs).2,←dm_putD D c q b] at h;have h1:=zr (D1:=D) (D2:=[]) (d:=(s,q,b)) rfl h;rw [List.append_nil] at h1;exact sat_putD h1
section
variable {P:Program} {f:FuncId} {args:Array Value} {x:Value}
theorem spec_boxEx {A:List HProp} {B:Nat→List HProp} (h:Spec P f args (fun T=>A++T) (fun r T L=>∃q,r=x∧L=B q++T)):Spec P f args (fun T=>box A::T) (fun r T L=>r=x∧L=(ex fun q=>box (B q))::T) :=
  h.mono (fun _ _ hw=>wF.sat hw) fun r T L ⟨q,h1,h2⟩=>⟨_,⟨h1,rfl⟩,fun w hw=>by subst h2;exact (ye (f:=fun q=>box (B q)) q).sat (wi.sat hw)⟩
theorem spec_exBox {A B:Nat→List HProp} (h:∀q,Spec P f args (fun T=>A q++T) (fun r T L=>r=x∧L=B q++T)):Spec P f args (fun T=>(ex fun q=>box (A q))::T) (fun r T L=>r=x∧L=(ex fun q=>box (B q))::T) :=
  ⟨(h 0).1,fun T w hw=>by
    obtain ⟨q,hq⟩:=yb hw;exact ((h q).2 T w (wF.sat hq)).mono fun e w' ⟨r,L',he,⟨h1,h2⟩,hs⟩=>⟨r,_,he,⟨h1,rfl⟩,by subst h2;exact (ye (f:=fun q=>box (B q)) q).sat (wi.sat hs)⟩⟩
end
def R4 (A:List HProp) (p bm t:Nat) (D:List Fd) (tmp name:ByteArray) (b:List UInt8):Nat→HProp
  | 0=>box (A++[fsh p bm t,mpo bm (dm D),fls D])
  | 1=>ex fun q=>box (A++[fsh p bm (t+2),mpo bm (dm (D++[(tmp,q,[])])),fls (D++[(tmp,q,[])])])
  | 4=>ex fun q=>box (A++[fsh p bm (t+2+1),mpo bm (dm (putD D name q b)),fls (putD D name q b)])
  | _=>ex fun q=>box (A++[fsh p bm (t+2),mpo bm (dm (D++[(tmp,q,b)])),fls (D++[(tmp,q,b)])])
theorem used_snoc (D:List Fd) (s:ByteArray) (q:Nat) (b:List UInt8):used (D++[(s,q,b)])=used D+b.length:=by simp [used]
theorem nodup_snoc {D:List Fd} {s:ByteArray} {q:Nat} {b:List UInt8} (hn:(D.map (·.1)).Nodup) (h:lookL (dm D) s=none):((D++[(s,q,b)]).map (·.1)).Nodup:=by
  have h1:s∉D.map (·.1):=fun hm=>by
    obtain ⟨d,hd,rfl⟩:=List.mem_map.1 hm;rw [vf hn d hd] at h;cases h
  rw [List.map_append,List.nodup_append];exact ⟨hn,by simp,fun a ha b hb=>by simp at hb;subst hb;intro e;subst e;exact h1 ha⟩
theorem sp149 (x p bm t b4 b5 b6 b7:Nat) (v1 v2:Value) (D:List Fd) (tmp name text:ByteArray) (hn:(D.map (·.1)).Nodup) (hlen:D.length≤58) (hu:used D+text.size≤16777216) (ht:t≤900000) (hx:lookL (dm D) tmp=none) (htm:NameOk tmp) (hnm:NameOk name) (hne:tmp≠name) (h1:1≤text.size):Spec Tryz.prog 149 #[ptr b4,ptr b5]
    (fun T=>pt b4 (cl [ptr x] 66)::pt b5 (cl [.string tmp] 9)::pt b6 (cl [.string text] 9)::pt b7 (cl [.string name] 9)::pt x (cl [ptr p,v1,v2] 104)::fsh p bm (t)::mpo bm (dm (D))::fls (D)::T) (fun r T L=>∃q,r=.int .i64 0∧L=pt b4 (cl [ptr x] 66)::pt b5 (cl [.string tmp] 9)::pt b6 (cl [.string text] 9)::pt b7 (cl [.string name] 9)::pt x (cl [ptr p,v1,v2] 104)::fsh p bm (t+2)::mpo bm (dm (D++[(tmp,q,[])]))::fls (D++[(tmp,q,[])])::T):=by
  refine spec_of (n:=9) (args:=[ptr b4,ptr b5]) Tryz.func149 rfl rfl rfl rfl fun T=>?_;refine qw (qu (qo (qx (qv (qw (wg [] [pt b4 (cl [ptr x] 66),pt b5 (cl [.string tmp] 9),pt b6 (cl [.string text] 9),pt b7 (cl [.string name] 9),pt x (cl [ptr p,v1,v2] 104)] mixed qm 7 rfl ?_))))));refine qk 0 rfl (qA rfl) ?_;refine qk 1 rfl (qy rfl) ?_;refine qk 2 rfl (qE rfl) ?_;refine qk 3 rfl (qA rfl) ?_;refine qk 4 rfl (qA rfl) ?_;refine qO [5] qj rfl ⟨?_,trivial⟩;refine we rfl qz rfl (qH qh (sp126 p bm t qd (dm D) (by simp;omega) tmp htm hx) rfl ?_);rintro _ _ ⟨q,rfl,rfl⟩;refine ⟨.inr qm,?_⟩;refine qk 6 rfl (xh qg) ?_;refine qY qj ?_;refine qv (qL ?_);refine qM rfl rfl (qD qg) _ ⟨q,rfl,rfl⟩ (fun w h=>?_);have h2:=Pm.sat (L':=fil q []::fls D::mpo bm (dm D++[(tmp,ptr q)])::_) (by repeat (first | with_reducible exact .refl | with_reducible exact .nil | with_reducible apply Pm.cons | with_reducible exact .here | with_reducible apply Sel.there | with_reducible apply Pm.drop)) w h;exact Pm.sat (by repeat (first | with_reducible exact .refl | with_reducible exact .nil | with_reducible apply Pm.cons | with_reducible exact .here | with_reducible apply Sel.there | with_reducible apply Pm.drop)) w (sat_create h2)
theorem sp150 (x p bm t b4 b5 b6 b7:Nat) (v1 v2:Value) (D:List Fd) (tmp name text:ByteArray) (hn:(D.map (·.1)).Nodup) (hlen:D.length≤58) (hu:used D+text.size≤16777216) (ht:t≤900000) (hx:lookL (dm D) tmp=none) (htm:NameOk tmp) (hnm:NameOk name) (hne:tmp≠name) (h1:1≤text.size) (q:Nat):Spec Tryz.prog 150 #[ptr b4,ptr b5,ptr b6]
    (fun T=>pt b4 (cl [ptr x] 66)::pt b5 (cl [.string tmp] 9)::pt b6 (cl [.string text] 9)::pt b7 (cl [.string name] 9)::pt x (cl [ptr p,v1,v2] 104)::fsh p bm (t+2)::mpo bm (dm (D++[(tmp,q,[])]))::fls (D++[(tmp,q,[])])::T) (fun r T L=>r=.int .i64 0∧L=pt b4 (cl [ptr x] 66)::pt b5 (cl [.string tmp] 9)::pt b6 (cl [.string text] 9)::pt b7 (cl [.string name] 9)::pt x (cl [ptr p,v1,v2] 104)::fsh p bm (t+2)::mpo bm (dm (D++[(tmp,q,text.data.toList)]))::fls (D++[(tmp,q,text.data.toList)])::T):=by
  refine spec_of (n:=11) (args:=[ptr b4,ptr b5,ptr b6]) Tryz.func150 rfl rfl rfl rfl fun T=>?_;refine qw (qu (qo (qx (qv (qw (wg [] [pt b4 (cl [ptr x] 66),pt b5 (cl [.string tmp] 9),pt b6 (cl [.string text] 9),pt b7 (cl [.string name] 9),pt x (cl [ptr p,v1,v2] 104)] mixed qm 8 rfl ?_))))));refine qk 0 rfl (qA rfl) ?_;refine qk 1 rfl (qy rfl) ?_;refine qk 2 rfl (qE rfl) ?_;refine qk 3 rfl (qA rfl) ?_;refine qk 4 rfl (qA rfl) ?_;refine qk 5 rfl (qA rfl) ?_;refine qO [6] qj rfl ⟨?_,trivial⟩;refine we rfl qz rfl (qH qh (sp136 p bm (t+2) (D++[(tmp,q,[])]) D [] (tmp,q,[]) text rfl (nodup_snoc hn hx) h1 (by rw [used_snoc];simpa using hu) (by simp)) rfl ?_);rintro _ _ ⟨rfl,rfl⟩;refine ⟨.inr qm,?_⟩;refine qk 7 rfl (xh qg) ?_;refine qY qj ?_;refine qv (qL ?_);refine qM rfl rfl (qD qg) _ ⟨rfl,rfl⟩ (fun w h=>by rw [dm_snoc] at h;rw [dm_snoc];exact Pm.sat qh w h)
theorem sp151 (x p bm t b4 b5 b6 b7:Nat) (v1 v2:Value) (D:List Fd) (tmp name text:ByteArray) (hn:(D.map (·.1)).Nodup) (hlen:D.length≤58) (hu:used D+text.size≤16777216) (ht:t≤900000) (hx:lookL (dm D) tmp=none) (htm:NameOk tmp) (hnm:NameOk name) (hne:tmp≠name) (h1:1≤text.size) (q:Nat):Spec Tryz.prog 151 #[ptr b4,ptr b5]
    (fun T=>pt b4 (cl [ptr x] 66)::pt b5 (cl [.string tmp] 9)::pt b6 (cl [.string text] 9)::pt b7 (cl [.string name] 9)::pt x (cl [ptr p,v1,v2] 104)::fsh p bm (t+2)::mpo bm (dm (D++[(tmp,q,text.data.toList)]))::fls (D++[(tmp,q,text.data.toList)])::T) (fun r T L=>r=.int .i64 0∧L=pt b4 (cl [ptr x] 66)::pt b5 (cl [.string tmp] 9)::pt b6 (cl [.string text] 9)::pt b7 (cl [.string name] 9)::pt x (cl [ptr p,v1,v2] 104)::fsh p bm (t+2)::mpo bm (dm (D++[(tmp,q,text.data.toList)]))::fls (D++[(tmp,q,text.data.toList)])::T):=by
  refine spec_of (n:=9) (args:=[ptr b4,ptr b5]) Tryz.func151 rfl rfl rfl rfl fun T=>?_;refine qw (qu (qo (qx (qv (qw (wg [] [pt b4 (cl [ptr x] 66),pt b5 (cl [.string tmp] 9),pt b6 (cl [.string text] 9),pt b7 (cl [.string name] 9),pt x (cl [ptr p,v1,v2] 104)] mixed qm 7 rfl ?_))))));refine qk 0 rfl (qA rfl) ?_;refine qk 1 rfl (qy rfl) ?_;refine qk 2 rfl (qE rfl) ?_;refine qk 3 rfl (qA rfl) ?_;refine qk 4 rfl (qA rfl) ?_;refine qO [5] qj rfl ⟨?_,trivial⟩;refine we rfl qz rfl (qH qh (sp138 p bm (t+2) (D++[(tmp,q,text.data.toList)]) D [] (tmp,q,text.data.toList) rfl (nodup_snoc hn hx)) rfl ?_);rintro _ _ ⟨rfl,rfl⟩;refine ⟨.inr qm,?_⟩;refine qk 6 rfl (xh qg) ?_;refine qY qj ?_;refine qv (qL ?_);refine qM rfl rfl (qD qg) _ ⟨rfl,rfl⟩ qm
theorem sp152 (x p bm t b4 b5 b6 b7:Nat) (v1 v2:Value) (D:List Fd) (tmp name text:ByteArray) (hn:(D.map (·.1)).Nodup) (hlen:D.length≤58) (hu:used D+text.size≤16777216) (ht:t≤900000) (hx:lookL (dm D) tmp=none) (htm:NameOk tmp) (hnm:NameOk name) (hne:tmp≠name) (h1:1≤text.size) (q:Nat):Spec Tryz.prog 152 #[ptr b4,ptr b5,ptr b7]
    (fun T=>pt b4 (cl [ptr x] 66)::pt b5 (cl [.string tmp] 9)::pt b6 (cl [.string text] 9)::pt b7 (cl [.string name] 9)::pt x (cl [ptr p,v1,v2] 104)::fsh p bm (t+2)::mpo bm (dm (D++[(tmp,q,text.data.toList)]))::fls (D++[(tmp,q,text.data.toList)])::T) (fun r T L=>r=.int .i64 0∧L=pt b4 (cl [ptr x] 66)::pt b5 (cl [.string tmp] 9)::pt b6 (cl [.string text] 9)::pt b7 (cl [.string name] 9)::pt x (cl [ptr p,v1,v2] 104)::fsh p bm (t+2+1)::mpo bm (dm (putD D name q text.data.toList))::fls (putD D name q text.data.toList)::T):=by
  refine spec_of (n:=11) (args:=[ptr b4,ptr b5,ptr b7]) Tryz.func152 rfl rfl rfl rfl fun T=>?_;refine qw (qu (qo (qx (qv (qw (wg [] [pt b4 (cl [ptr x] 66),pt b5 (cl [.string tmp] 9),pt b6 (cl [.string text] 9),pt b7 (cl [.string name] 9),pt x (cl [ptr p,v1,v2] 104)] mixed qm 8 rfl ?_))))));refine qk 0 rfl (qA rfl) ?_;refine qk 1 rfl (qy rfl) ?_;refine qk 2 rfl (qE rfl) ?_;refine qk 3 rfl (qA rfl) ?_;refine qk 4 rfl (qA rfl) ?_;refine qk 5 rfl (qA rfl) ?_;refine qO [6] qj rfl ⟨?_,trivial⟩;refine we rfl qz rfl (qH qh (sp153 p bm (t+2) q qd (dm (D++[(tmp,q,text.data.toList)])) tmp name hne hnm (look_snoc hx).1) rfl ?_);rintro _ _ ⟨rfl,rfl⟩;refine ⟨.inr qm,?_⟩;refine qk 7 rfl (xh qg) ?_;refine qY qj ?_;refine qv (qL ?_);refine qM rfl rfl (qD qg) _ ⟨rfl,rfl⟩ (fun w h=>?_);have h2:=Pm.sat (L':=fls (D++[(tmp,q,text.data.toList)])::mpo bm (putL (delL (dm (D++[(tmp,q,text.data.toList)])) tmp) name (ptr q))::_) (by repeat (first | with_reducible exact .refl | with_reducible exact .nil | with_reducible apply Pm.cons | with_reducible exact .here | with_reducible apply Sel.there | with_reducible apply Pm.drop)) w h;exact Pm.sat (by repeat (first | with_reducible exact .refl | with_reducible exact .nil | with_reducible apply Pm.cons | with_reducible exact .here | with_reducible apply Sel.there | with_reducible apply Pm.drop)) w (sat_rename hx h2)
theorem sp80 (x p bm t:Nat) (v1 v2:Value) (D:List Fd) (tmp name text:ByteArray) (hn:(D.map (·.1)).Nodup) (hlen:D.length≤58) (hu:used D+text.size≤16777216) (ht:t≤900000) (hx:lookL (dm D) tmp=none) (htm:NameOk tmp) (hnm:NameOk name) (hne:tmp≠name) (h1:1≤text.size):Spec Tryz.prog 80 #[ptr x,.string tmp,.string text,.string name]
    (fun T=>pt x (cl [ptr p,v1,v2] 104)::fsh p bm t::mpo bm (dm D)::fls D::T) (fun r T L=>∃q,r=.int .i64 0∧L=pt x (cl [ptr p,v1,v2] 104)::fsh p bm (t+2+1)::mpo bm (dm (putD D name q text.data.toList))::fls (putD D name q text.data.toList)::T):=by
  refine spec_of (n:=28) (args:=[ptr x,.string tmp,.string text,.string name]) Tryz.func80 rfl rfl rfl rfl fun T=>?_;refine qw (qu ?_);refine qC rfl (xI qg rfl fun b4=>?_);refine qC rfl (xI qg rfl fun b5=>?_);refine qC rfl (xI qg rfl fun b6=>?_);refine qC rfl (xI qg rfl fun b7=>?_);refine qo (qx (qv (qw (qw (qu (qb (wv .nil (.cons qg (.cons qg .nil))) ?_))))));refine qb (wv .nil (.cons qg (.cons qg (.cons qg .nil)))) ?_;refine qb (wv .nil (.cons qg (.cons qg .nil))) ?_;refine qb (wv .nil (.cons qg (.cons qg (.cons qg .nil)))) ?_;refine qC rfl (qS rfl (by first | decide | simp) (.one qg rfl (.one qg rfl (.one qg rfl (.one qg rfl .nil)))) fun b16=>?_);refine wE (fun w h=>xa (m:=4) (cap:=4) (k:=1) (xs:=[(149,[ptr b4,ptr b5]),(150,[ptr b4,ptr b5,ptr b6]),(151,[ptr b4,ptr b5]),(152,[ptr b4,ptr b5,ptr b7])].map fv) (rest:=[]) h rfl (by decide)) ?_;refine wE (fun w h=>wi (L:=[pt b4 (cl [ptr x] 66),pt b5 (cl [.string tmp] 9),pt b6 (cl [.string text] 9),pt b7 (cl [.string name] 9),pt x (cl [ptr p,v1,v2] 104)]++[fsh p bm t,mpo bm (dm D),fls D]).sat (Pm.sat qh w h)) ?_;refine qb (qI rfl) ?_;refine qb wH ?_;refine qx (qv (qJ ?_));have hf:∀k,k<4→Spec Tryz.prog (([(149,[ptr b4,ptr b5]),(150,[ptr b4,ptr b5,ptr b6]),(151,[ptr b4,ptr b5]),(152,[ptr b4,ptr b5,ptr b7])]:List Fv).getD k dF).1 (([(149,[ptr b4,ptr b5]),(150,[ptr b4,ptr b5,ptr b6]),(151,[ptr b4,ptr b5]),(152,[ptr b4,ptr b5,ptr b7])]:List Fv).getD k dF).2.toArray (fun T=>R4 [pt b4 (cl [ptr x] 66),pt b5 (cl [.string tmp] 9),pt b6 (cl [.string text] 9),pt b7 (cl [.string name] 9),pt x (cl [ptr p,v1,v2] 104)] p bm t D tmp name text.data.toList k::T) (fun r T L=>r=.int .i64 0∧L=R4 [pt b4 (cl [ptr x] 66),pt b5 (cl [.string tmp] 9),pt b6 (cl [.string text] 9),pt b7 (cl [.string name] 9),pt x (cl [ptr p,v1,v2] 104)] p bm t D tmp name text.data.toList (k+1)::T):=fun k hk=>by
    match k,hk with
    | 0,_=>exact spec_boxEx (sp149 x p bm t b4 b5 b6 b7 v1 v2 D tmp name text hn hlen hu ht hx htm hnm hne h1)
    | 1,_=>exact spec_exBox fun q=>sp150 x p bm t b4 b5 b6 b7 v1 v2 D tmp name text hn hlen hu ht hx htm hnm hne h1 q
    | 2,_=>exact spec_exBox fun q=>sp151 x p bm t b4 b5 b6 b7 v1 v2 D tmp name text hn hlen hu ht hx htm hnm hne h1 q
    | 3,_=>exact spec_exBox fun q=>sp152 x p bm t b4 b5 b6 b7 v1 v2 D tmp name text hn hlen hu ht hx htm hnm hne h1 q
  refine q7 (fun m v L=>∃(k:Nat),4-k=m∧(∃v0,v=ups v0 [(16,.slice (some ⟨b16,0,none⟩) 4 4),(17,.int .i64 4),(18,.int .i64 k)])∧(k≤4)∧L=R4 [pt b4 (cl [ptr x] 66),pt b5 (cl [.string tmp] 9),pt b6 (cl [.string text] 9),pt b7 (cl [.string name] 9),pt x (cl [ptr p,v1,v2] 104)] p bm t D tmp name text.data.toList k::rds (.slice (some ⟨b16,0,none⟩) 4 4) 1 (([(149,[ptr b4,ptr b5]),(150,[ptr b4,ptr b5,ptr b6]),(151,[ptr b4,ptr b5]),(152,[ptr b4,ptr b5,ptr b7])]:List Fv).map fv)::T) _ _ ⟨0,rfl,⟨_,At.eq (.cons rfl (.cons rfl (.cons rfl .nil)))⟩,by omega,rfl⟩ qh ?_;rintro m _ _ ⟨k,rfl,⟨v0,rfl⟩,hk,rfl⟩;refine qw (qu ?_);refine wG rfl (wj rfl rfl) (fun h19=>?_) (fun h19=>?_)
  · refine wK (a:=some ⟨b16,0,none⟩) (xs:=([(149,[ptr b4,ptr b5]),(150,[ptr b4,ptr b5,ptr b6]),(151,[ptr b4,ptr b5]),(152,[ptr b4,ptr b5,ptr b7])]:List Fv).map fv) qr (by simp) fun b off l E fz ha hl=>?_;cases ha;refine qx (qv (qw (qN rfl ?_)));refine qF (qv (qw (qJ (qw (qu (qb (wz rfl rfl rfl qd) ?_))))));refine qb (q8 rfl ((hl _ (by simp;omega)).trans (w5 dF (by show k<4;omega)))) ?_;refine qi ?_;refine qx (qv (qw (qu (qe ?_))));refine qC rfl (jD qh (hf k qd) rfl rfl ?_);rintro _ _ ⟨rfl,rfl⟩;refine qi ?_;refine qx (qv (qw (qu (qe ?_))));refine wq rfl (wB rfl rfl) (by simp) ?_;refine qx (qv (qB rfl ?_));refine qF (qX (qv (qu (qb (wa rfl rfl qd) ?_))));refine qe ?_;refine qx ?_;refine qT _ _ ⟨k+1,rfl,⟨_,At.eq (.cons rfl (.cons rfl (.cons rfl .nil)))⟩,by omega,rfl⟩ qd qh
  · obtain rfl:k=4:=by omega
    refine wE (L':=_) (fun w h=>h) ?_;refine wl_ex (fun q=>?_);refine wE (fun w h=>wF.sat h) ?_;simp only [List.cons_append,List.nil_append];refine qx (qv (qw (qB rfl ?_)));refine wk ?_;refine qQ (qQ (ww ?_));refine qv (qw (qu (qo (qx (qv (qL ?_))))));refine qM rfl rfl (qD qg) _ ⟨q,rfl,rfl⟩ qm
end
section
open Go
set_option maxRecDepth 4000
abbrev chainN:ByteArray:=⟨#[99,104,97,105,110]⟩
abbrev graphT:ByteArray:=⟨#[103,114,97,112,104,46,116,109,112]⟩
abbrev chainT:ByteArray:=⟨#[99,104,97,105,110,46,116,109,112]⟩
theorem gname_at (n i:Nat) (h:i<6):(gname n).data.toList.getD i 0=graphP.data.toList.getD i 0:=by
  rw [y9,xg (by exact h)]
theorem jQ {n:Nat} {s:ByteArray} (i:Nat) (hi:i<6) (h:s.data.toList.getD i 0≠graphP.data.toList.getD i 0):gname n≠s:=fun e=>h (by rw [←e];exact gname_at n i hi)
theorem vj (n:Nat):gname n≠graphT:=jQ 5 (by decide) (by decide)
theorem gname_chainT (n:Nat):gname n≠chainT:=jQ 0 (by decide) (by decide)
theorem jz (n:Nat):gname n≠chainN:=jQ 0 (by decide) (by decide)
theorem jy (n:Nat):gname n≠logN:=jQ 0 (by decide) (by decide)
theorem gname_nil (n:Nat):gname n≠⟨#[]⟩:=jQ 0 (by decide) (by decide)
theorem gname_ok {n:Nat} (h:n<1000):NameOk (gname n) where
  size:=by have:=dec_len n;rw [kw];omega
  chars b hb:=by
    rw [y9,List.mem_append] at hb;rcases hb with hb | hb
    · revert b;decide
    · have:=digs_dec h b hb;omega
theorem graphT_ok:NameOk graphT:=⟨by decide,by decide⟩
theorem chainT_ok:NameOk chainT:=⟨by decide,by decide⟩
theorem chainN_ok:NameOk chainN:=⟨by decide,by decide⟩
theorem logN_ok:NameOk logN:=⟨by decide,by decide⟩
theorem logN_alien:Alien logN:=⟨by decide,by decide,by decide⟩
theorem chainN_alien:Alien chainN:=⟨by decide,by decide,by decide⟩
theorem jm {D:List Fd} {s:ByteArray} (h:∀d∈D,d.1≠s):lookL (dm D) s=none:=by
  induction D with
  | nil=>rfl
  | cons d D ih =>
    simp only [dm,List.map_cons,lookL];rw [if_neg (fun e=>h d List.mem_cons_self e.symm)];exact ih fun d hd=>h d (List.mem_cons_of_mem _ hd)
theorem putD_new {D:List Fd} {s:ByteArray} {q:Nat} {b:List UInt8} (h:∀d∈D,d.1≠s):putD D s q b=D++[(s,q,b)]:=by
  induction D with
  | nil=>rfl
  | cons d D ih =>
    simp only [putD];rw [if_neg (fun e=>h d List.mem_cons_self e.symm),ih fun d hd=>h d (List.mem_cons_of_mem _ hd)];rfl
theorem putD_old:∀ {D:List Fd} {s:ByteArray} (q:Nat) (b:List UInt8),s∈D.map (·.1)→(putD D s q b).map (·.1)=D.map (·.1)
  | d::D,s,q,b,h=>by
    simp only [putD]
    by_cases e:s=d.1
    · rw [if_pos e];simp [e]
    · rw [if_neg e,List.map_cons,List.map_cons,putD_old q b (by rw [List.map_cons,List.mem_cons] at h;exact h.resolve_left e)]
theorem zP {D:List Fd} {s:ByteArray} {q:Nat} {b:List UInt8} (h:(D.map (·.1)).Nodup):((putD D s q b).map (·.1)).Nodup:=by
  by_cases hs:s∈D.map (·.1)
  · rw [putD_old q b hs];exact h
  · rw [putD_new (fun d hd e=>hs (List.mem_map.2 ⟨d,hd,e⟩)),List.map_append];exact List.nodup_append.2 ⟨h,by simp,fun a ha b hb=>by simp at hb;subst hb;intro e;subst e;exact hs ha⟩
theorem jM:∀ {D:List Fd} {s:ByteArray} {q:Nat} {b:List UInt8},(D.map (·.1)).Nodup→∀d,d∈putD D s q b↔d=(s,q,b)∨(d∈D∧d.1≠s)
  | [],s,q,b,_,d=>by simp [putD]
  | e::D,s,q,b,hn,d=>by
    rw [List.map_cons,List.nodup_cons] at hn;simp only [putD]
    by_cases h:s=e.1
    · rw [if_pos h,List.mem_cons];constructor
      · rintro (h1 | h1)
        · exact .inl h1
        · exact .inr ⟨List.mem_cons_of_mem _ h1,fun h2=>hn.1 (by rw [←h,←h2];exact List.mem_map.2 ⟨d,h1,rfl⟩)⟩
      · rintro (h1 | ⟨h1,h2⟩)
        · exact .inl h1
        · rcases List.mem_cons.1 h1 with rfl | h1
          · exact absurd h.symm h2
          · exact .inr h1
    · rw [if_neg h,List.mem_cons,jM hn.2 d,List.mem_cons];constructor
      · rintro (rfl | h1 | ⟨h1,h2⟩)
        · exact .inr ⟨.inl rfl,fun h2=>h h2.symm⟩
        · exact .inl h1
        · exact .inr ⟨.inr h1,h2⟩
      · rintro (h1 | ⟨h1 | h1,h2⟩)
        · exact .inr (.inl h1)
        · exact .inl h1
        · exact .inr (.inr ⟨h1,h2⟩)
def delD:List Fd→ByteArray→List Fd
  | [],_=>[]
  | d::D,s=>if s=d.1 then D else d::delD D s
theorem dm_delD:∀(D:List Fd) (s:ByteArray),dm (delD D s)=delL (dm D) s
  | [],s=>rfl
  | d::D,s=>by
    simp only [delD,dm,List.map_cons,delL]
    split
    · rfl
    · have:=dm_delD D s;simp only [dm] at this;rw [List.map_cons,this]
theorem delD_filter:∀ {D:List Fd} {s:ByteArray},(D.map (·.1)).Nodup→delD D s=D.filter fun d=>decide (d.1≠s)
  | [],s,_=>rfl
  | d::D,s,hn=>by
    rw [List.map_cons,List.nodup_cons] at hn;simp only [delD,List.filter_cons]
    by_cases h:s=d.1
    · rw [if_pos h];have h1:decide (d.1≠s)=false:=by simp [h]
      rw [h1]
      symm
      simp only [Bool.false_eq_true,if_false];refine List.filter_eq_self.2 fun e he=>?_;have:e.1≠s:=fun h2=>hn.1 (by rw [←h,←h2];exact List.mem_map.2 ⟨e,he,rfl⟩);simp [this]
    · have h1:decide (d.1≠s)=true:=by simp;exact fun e=>h e.symm
      rw [if_neg h,h1,delD_filter hn.2];rfl
theorem ent_delD:∀(D:List Fd) (s:ByteArray) (L:List HProp),Ent (D.map filD++L) ((delD D s).map filD++L)
  | [],s,L=>.refl
  | d::D,s,L=>by
    simp only [delD]
    split
    · exact .drop
    · exact (ent_delD D s L).cons
theorem sat_delD {D:List Fd} {s:ByteArray} {L:List HProp} {w:World} (h:Sat (fls D::L) w):Sat (fls (delD D s)::L) w:=wi.sat ((ent_delD D s L).sat (wF.sat h))
theorem vc {α:Type} [DecidableEq α]:∀ {l m:List α},l.Nodup→(∀x∈l,x∈m)→l.length≤m.length
  | [],_,_,_=>Nat.zero_le _
  | a::l,m,hn,h=>by
    rw [List.nodup_cons] at hn;have ha:=h a List.mem_cons_self;have h1:=vc (m:=m.erase a) hn.2 fun x hx=>(List.mem_erase_of_ne (fun e=>hn.1 (by rw [←e];exact hx))).2 (h x (List.mem_cons_of_mem _ hx));rw [List.length_erase_of_mem ha] at h1;have:0<m.length:=List.length_pos_of_mem ha;simp only [List.length_cons];omega
theorem used_le {D:List Fd} {B:Nat} (h:∀d∈D,d.2.2.length≤B):used D≤B*D.length:=by
  induction D with
  | nil=>simp [used]
  | cons d D ih =>
    have h1:=ih fun d hd=>h d (List.mem_cons_of_mem _ hd);have h2:=h d List.mem_cons_self;simp only [used,List.map_cons,List.sum_cons,List.length_cons,Nat.mul_succ] at h1 ⊢;omega
theorem graphB_le {base:Nat} {rs:List Rw} (H:GoodG base rs):1≤(graphB base rs).length∧(graphB base rs).length≤100000:=by
  have h1:=zG H rs.length (Nat.le_refl _);have h2:=zS H rs.length (Nat.le_refl _);have h3:=H.len;rw [List.take_length] at h1 h2;have h4:tots (gcks base rs)=16+(15*rs.length+((edgesB rs).length+(4*rs.length+(bitsB rs).length))):=by
    simp only [tots,gcks,List.map_cons,List.map_nil,List.sum_cons,List.sum_nil,jp,jx,yS,y0];omega
  have h5:(gcks base rs).length=5:=rfl;rw [graphB,kh,h4,h5];omega
structure DOk (D2:List Fd) (ls:List Lk) (gs:List Ly):Prop where
  nd:(logN::D2.map (·.1)).Nodup
  name:∀d∈D2,d.1=chainN∨∃l∈ls,d.1=gname l.1
  size:∀d∈D2,d.2.2.length≤100000
  nil:ls=[]→D2=[]
  chain:ls≠[]→∃q,(chainN,q,chainB ls)∈D2
  file:∀k,k<ls.length→∃q,(gname (ls.getD k dL).1,q,graphB (gs.getD k dLy).base (gs.getD k dLy).rs)∈D2
theorem DOk.few {D2:List Fd} {ls:List Lk} {gs:List Ly} (H:DOk D2 ls gs):D2.length≤ls.length+1:=by
  have hn:=H.nd;rw [List.nodup_cons] at hn;have:=vc (m:=chainN::ls.map fun l=>gname l.1) hn.2 fun x hx=>by
    obtain ⟨d,hd,rfl⟩:=List.mem_map.1 hx;rcases H.name d hd with h | ⟨l,hl,h⟩
    · rw [h];exact List.mem_cons_self
    · rw [h];exact List.mem_cons_of_mem _ (List.mem_map.2 ⟨l,hl,rfl⟩)
  simpa using this
structure XOk (D2:List Fd) (ls:List Lk) (gs:List Ly):Prop where
  lays:LaysOk ls gs
  links:GoodL ls
  small:∀l∈ls,l.1<900
  good:∀k,k<gs.length→GoodG (gs.getD k dLy).base (gs.getD k dLy).rs
  sum:∀k,k<gs.length→(ls.getD k dL).2.2=crc (graphB (gs.getD k dLy).base (gs.getD k dLy).rs)
  disk:DOk D2 ls gs
def keepB (links:List Lk) (s:ByteArray):Bool:=decide (s=logN) || decide (s=chainN) || links.any fun l=>decide (gname l.1=s)
def memB (ss:List ByteArray) (s:ByteArray):Bool:=ss.any fun t=>decide (t=s)
theorem zQ {ss:List ByteArray} {s:ByteArray}:memB ss s=true↔s∈ss:=by
  simp [memB]
def left (links:List Lk) (ss:List ByteArray) (D:List Fd) (i:Nat):List Fd:=D.filter fun d=>keepB links d.1 || !memB (ss.take i) d.1
theorem left_zero (links:List Lk) (ss:List ByteArray) (D:List Fd):left links ss D 0=D:=by
  unfold left;exact List.filter_eq_self.2 fun d _=>by simp [memB]
theorem jf {ss:List ByteArray} {i:Nat} (hi:i<ss.length) (s:ByteArray):s∈ss.take (i+1)↔s∈ss.take i∨s=ss.getD i ⟨#[]⟩:=by
  rw [wU (d:=⟨#[]⟩) hi,List.mem_append,List.mem_singleton]
theorem left_keep {links:List Lk} {ss:List ByteArray} {D:List Fd} {i:Nat} (hi:i<ss.length) (hk:keepB links (ss.getD i ⟨#[]⟩)=true):left links ss D (i+1)=left links ss D i:=by
  unfold left;refine List.filter_congr fun d _=>?_
  by_cases h:d.1=ss.getD i ⟨#[]⟩
  · rw [h,hk];simp
  · have:memB (ss.take (i+1)) d.1=memB (ss.take i) d.1:=by rw [Bool.eq_iff_iff,zQ,zQ,jf hi];simp only [h,or_false]
    rw [this]
theorem left_drop {links:List Lk} {ss:List ByteArray} {D:List Fd} {i:Nat} (hn:(D.map (·.1)).Nodup) (hi:i<ss.length) (hk:keepB links (ss.getD i ⟨#[]⟩)=false):left links ss D (i+1)=delD (left links ss D i) (ss.getD i ⟨#[]⟩):=by
  have hs:((left links ss D i).map (·.1)).Nodup:=hn.sublist (List.Sublist.map _ List.filter_sublist);rw [delD_filter hs];unfold left;rw [List.filter_filter];refine List.filter_congr fun d _=>?_
  by_cases h:d.1=ss.getD i ⟨#[]⟩
  · have h1:memB (ss.take (i+1)) d.1=true:=by rw [zQ,jf hi];exact .inr h
    rw [h1];have h2:decide (d.1≠ss.getD i ⟨#[]⟩)=false:=by simp only [h,ne_eq,not_true_eq_false,decide_false]
    rw [h2,h,hk];rfl
  · have h1:memB (ss.take (i+1)) d.1=memB (ss.take i) d.1:=by rw [Bool.eq_iff_iff,zQ,zQ,jf hi];simp only [h,or_false]
    have h2:decide (d.1≠ss.getD i ⟨#[]⟩)=true:=by simp only [ne_eq,h,not_false_eq_true,decide_true]
    rw [h1,h2];rfl
theorem left_all {links:List Lk} {ss:List ByteArray} {D:List Fd} {n:Nat} (hn:ss.length=n) (hp:ss.Perm (D.map (·.1))):left links ss D n=D.filter fun d=>keepB links d.1:=by
  unfold left;refine List.filter_congr fun d hd=>?_;have:memB (ss.take n) d.1=true:=by rw [zQ,←hn,List.take_length];exact hp.mem_iff.2 (List.mem_map.2 ⟨d,hd,rfl⟩)
  simp [this]
section
variable {P:Program} {v:Env} {L:List HProp} {x:Operand} {ty T:TypeId}
theorem k5 {p:Prop} [Decidable p] (hx:evalE v x=.bool (decide p)):Qt P (.unOp .not T x) ty v L (.bool (decide (¬p))):=by
  have h:=qt_not (P:=P) (T:=T) (ty:=ty) (L:=L) hx
  rwa [←decide_not] at h
end
theorem sp86c (et:TypeId) (ep:Value) (s:ByteArray) (h:(∃k,k<1000∧s=gname k)∨Alien s):Spec Tryz.prog 86 #[.string s]
    (fun T=>pw10::errG et ep::T) (fun r T L=>∃(k:Nat) (g:Bool),r=.tuple #[.int .i64 k,.bool (decide (g=true))]∧(g=true→s=gname k∧k<1000)∧(g=false→Alien s)∧L=pw10::errG et ep::T):=by
  rcases h with ⟨k,hk,rfl⟩ | h
  · have h1:=sp86y k hk;exact ⟨h1.1,fun T w hw=>(h1.2 (errG et ep::T) w hw).mono fun e w' ⟨r,L,he,⟨hr,hL⟩,hs⟩=>⟨r,L,he,⟨k,true,hr,fun _=>⟨rfl,hk⟩,fun h=>(by cases h),hL⟩,hs⟩⟩
  · have h1:=sp86n et ep s h;exact ⟨h1.1,fun T w hw=>(h1.2 (pw10::T) w ((Pm.cons (.there .here) .refl).sat w hw)).mono fun e w' ⟨r,L,he,⟨hr,hL⟩,hs⟩ =>
      ⟨r,pw10::errG et ep::T,he,⟨0,false,hr,fun h=>(by cases h),fun _=>h,rfl⟩,by subst hL;exact (Pm.cons (.there .here) .refl).sat w' hs⟩⟩
end
end Go.Proofs.YtdibpoheeffioaaGreatDoor
