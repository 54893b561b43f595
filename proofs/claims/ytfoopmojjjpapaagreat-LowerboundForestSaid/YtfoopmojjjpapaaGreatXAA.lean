set_option linter.all false
set_option maxHeartbeats 0
theorem CZ{p:Prop}(h:p:=by omega):p:=h
theorem Fl{p:Prop}(h:p:=by simp):p:=h
theorem Fs{p:Prop}(h:p:=by decide):p:=h
theorem Ji{p:Prop}(h:p:=by dsimp only;omega):p:=h
theorem Jo{p:Prop}(h:p:=by simp;omega):p:=h
theorem OI{p:Prop}(h:p:=by rfl):p:=h
theorem OY{a b:Prop}(A:a)(B:b):a/\b:=⟨A,B⟩
theorem OZ{a b c:Prop}(A:a)(B:b)(C:c):a/\b/\c:=⟨A,B,C⟩
theorem O0{a b c d:Prop}(A:a)(B:b)(C:c)(D:d):a/\b/\c/\d:=⟨A,B,C,D⟩
theorem aac{a b c d e:Prop}(A:a)(B:b)(C:c)(D:d)(E:e):a/\b/\c/\d/\e:=⟨A,B,C,D,E⟩
theorem aaf{a b c d e f:Prop}(A:a)(B:b)(C:c)(D:d)(E:e)(F:f):a/\b/\c/\d/\e/\f:=⟨A,B,C,D,E,F⟩
theorem aa'{a b c d e f g:Prop}(A:a)(B:b)(C:c)(D:d)(E:e)(F:f)(G:g):a/\b/\c/\d/\e/\f/\g:=⟨A,B,C,D,E,F,G⟩
theorem aba{a b c d e f g h:Prop}(A:a)(B:b)(C:c)(D:d)(E:e)(F:f)(G:g)(H:h):a/\b/\c/\d/\e/\f/\g/\h:=⟨A,B,C,D,E,F,G,H⟩
